/- Part 3 of the means of the proof: a verified abstract evaluator, the prepared functions, and contracts of functions. It states nothing of the claim by itself. -/
import Derived.Test.YtaclbcdfaokmjaaDoorB2
import Derived.KernelRfl
import Derived.Test.YtaclbcdfaokmjaaDoorProg
set_option maxRecDepth 4000
set_option linter.unusedSimpArgs false
set_option linter.unusedVariables false
namespace Go.Proofs
open Go Go.Abs
set_option maxRecDepth 100000
abbrev oo (t : Nat) (op : AOp) : AOper := ⟨some t,op,none⟩
abbrev om (t x : Nat) : AOper := ⟨some t,.mov (.s x),none⟩
abbrev oL (t n x : Nat) : AOper := ⟨some t,.load true n (.s x),none⟩
abbrev ol (t n x : Nat) : AOper := ⟨some t,.load false n (.s x),none⟩
abbrev oA (t n x : Nat) : AOper := ⟨some t,.fieldAddr n (.s x),none⟩
abbrev oe (t n x : Nat) : AOper := ⟨some t,.extract n (.s x),none⟩
abbrev oT (t g : Nat) (op : AOp) : AOper := ⟨some t,op,some (g,true)⟩
abbrev oF (t g : Nat) (op : AOp) : AOper := ⟨some t,op,some (g,false)⟩
def tf4 : TFn := ⟨43,[.tmp 6],.seq (.region false [oo 6 (.mov (.c (.bool false)))]) [0,1,2,900000] (.seq (.region false [om 9 0,om 10 2,oo 11 (.bin .and false (.s 9) (.s 10)),om 12 1,om 13 2,oo 14 (.bin .and false (.s 12) (.s 13)),om 7 11,om 8 14]) [0,1,7,8,900000] (.seq (.region false [om 15 0,
 om 16 1,oo 17 (.call 18 [(.s 15),(.s 16)]),om 18 0,om 19 1,oo 20 (.call 19 [(.s 18),(.s 19)]),oo 21 (.bin .eql false (.s 17) (.s 20)),om 22 21,oT 23 22 (.mov (.s 7)),oT 24 22 (.mov (.s 8)),oT 25 22 (.call 18 [(.s 23),(.s 24)]),oT 26 22 (.mov (.s 7)),oT 27 22 (.mov (.s 8)),
 oT 28 22 (.call 19 [(.s 26),(.s 27)]),oT 29 22 (.bin .eql false (.s 25) (.s 28)),oo 30 (.pick (.s 22) (.s 29) (.c (.bool false))),om 31 30,oT 32 31 (.mov (.s 7)),oT 33 31 (.mov (.s 1)),oT 34 31 (.call 18 [(.s 32),(.s 33)]),oT 35 31 (.mov (.s 7)),oT 36 31 (.mov (.s 1)),
 oT 37 31 (.call 19 [(.s 35),(.s 36)]),oT 38 31 (.bin .eql false (.s 34) (.s 37)),oo 39 (.pick (.s 31) (.s 38) (.c (.bool false))),om 40 39,oT 41 40 (.call 17 [(.s 900000)]),oo 42 (.pick (.s 40) (.s 41) (.c (.bool false))),om 6 42]) [6] (.ret)))⟩
def tf13 : TFn := ⟨18,[.tmp 4],.seq (.region false [oo 2 (.box 25 (.s 0)),oo 4 (.mov (.c (.int .i64 0)))]) [1,2] (.seq (.seq (.region false [oL 5 1 2,om 6 1,oo 7 (.call 39 [(.s 5),(.s 6)]),oo 8 (.un .not (.s 7))]) [1,2,8] (.cond (.s 8) (.seq (.region false [oo 4 (.mov (.c (.int .i64 0)))]) [4] (
 .ret)) (.skip))) [1,2] (.seq (.region false [oA 9 0 2,ol 10 1 9,om 11 1,oo 12 (.indexAddr 3 (.s 10) (.s 11)),oA 13 2 12,ol 14 1 13,oo 15 (.len (.s 14)),oo 16 (.call 40 [(.s 15)]),oo 17 (.bin .sub false (.s 16) (.c (.int .i64 1))),om 4 17]) [4] (.ret)))⟩
def tf15 : TFn := ⟨33,[.tmp 4],.seq (.region false [oo 2 (.box 25 (.s 0)),oo 3 (.box 32 (.s 1)),oo 4 (.mov (.c (.int .i64 0)))]) [2,3,4,900000] (.seq (.region false [oo 5 (.alloc 3 [(.int .i64 0)]),⟨none,.store 1 (.s 5) (.c (.int .i64 0)),none⟩]) [2,3,4,5,900000] (.seq (.seq (
 .region false [oL 7 1 2,oA 8 0 3,ol 9 1 8,oo 10 (.call 13 [(.s 7),(.s 9)]),oo 11 (.bin .andNot false (.s 10) (.c (.int .i64 1))),oo 12 (.call 21 [(.s 11)])]) [2,3,4,5,12,900000] (.block 0 (.rangeF (.s 12) 13 6 (.block 1 (.seq (.region true [oA 14 1 3,oL 15 2 14,oA 16 0 2,ol 17 1 16,oA 18 0 3,
 ol 19 1 18,oo 20 (.indexAddr 3 (.s 17) (.s 19)),oA 21 2 20,ol 22 1 21,om 23 6,oo 24 (.indexAddr 8 (.s 22) (.s 23)),oA 25 0 24,oL 26 5 25,oo 27 (.call 42 [(.s 15),(.s 26),(.s 900000)])]) [5,6,27] (.cond (.s 27) (.region true [ol 28 1 5,om 29 6,oo 30 (.call 40 [(.s 29)]),
 oo 31 (.bin .or false (.s 28) (.s 30)),⟨none,.store 1 (.s 5) (.s 31),none⟩]) (.skip))))))) [5] (.seq (.region false [ol 32 1 5,om 4 32]) [4] (.ret))))⟩
def tf17 : TFn := ⟨35,[.tmp 0],.seq (.region false [oo 0 (.mov (.c (.bool false)))]) [900000] (.seq (.region false [oo 2 (.call 43 []),oo 1 (.alloc 25 [(.fsl [])]),⟨none,.store 1 (.s 1) (.s 2),none⟩]) [1,900000] (.seq (.region true [oL 3 1 1,oo 4 (.call 13 [(.s 3),(.c (.int .i64 1))]),
 oo 5 (.bin .eql false (.s 4) (.c (.int .i64 7))),om 6 5,oT 7 6 (.load true 1 (.s 1)),oT 8 6 (.fieldAddr 0 (.s 1)),oT 9 6 (.load false 1 (.s 8)),oT 10 6 (.indexAddr 3 (.s 9) (.c (.int .i64 1))),oT 11 6 (.fieldAddr 2 (.s 10)),oT 12 6 (.load false 1 (.s 11)),
 oT 13 6 (.indexAddr 8 (.s 12) (.c (.int .i64 1))),oT 14 6 (.fieldAddr 0 (.s 13)),oT 15 6 (.load true 5 (.s 14)),oT 16 6 (.call 36 [(.s 15)]),oT 17 6 (.build [(.int .i64 0),(.fsl []),(.fsl [])] [(0,1,(.c (.int .i64 1))),(1,2,(.s 16))]),oT 18 6 (.call 15 [(.s 7),(.s 17),(.s 900000)]),
 oT 19 6 (.bin .eql false (.s 18) (.c (.int .i64 4))),oo 20 (.pick (.s 6) (.s 19) (.c (.bool false))),om 21 20,oT 22 21 (.load true 1 (.s 1)),oT 23 21 (.buildSlice 1 3 [(.c (.int .i64 0)),(.c (.int .i64 (-1)))]),oT 24 21 (.call 26 [(.s 22),(.s 23),(.c (.int .i64 1))]),
 oT 25 21 (.bin .eql false (.s 24) (.c (.int .i64 1))),oo 26 (.pick (.s 21) (.s 25) (.c (.bool false))),om 27 26,oT 28 27 (.call 18 [(.c (.int .i64 6)),(.c (.int .i64 7))]),oT 29 27 (.bin .eql false (.s 28) (.c (.int .i64 2))),oo 30 (.pick (.s 27) (.s 29) (.c (.bool false))),om 31 30,
 oT 32 31 (.call 18 [(.c (.int .i64 1)),(.c (.int .i64 6))]),oT 33 31 (.bin .eql false (.s 32) (.c (.int .i64 0))),oo 34 (.pick (.s 31) (.s 33) (.c (.bool false))),om 0 34]) [0] (.ret)))⟩
def tf18 : TFn := ⟨15,[.tmp 4],.seq (.region false [oo 4 (.mov (.c (.int .i64 0)))]) [0,1] (.seq (.block 0 (.seq (.region false [om 6 0,om 7 1,oo 8 (.bin .andNot false (.s 6) (.s 7)),oo 9 (.bin .eql false (.s 8) (.c (.int .i64 0))),om 5 9]) [0,1,5] (.cond (.s 5) (.seq (
 .region false [oo 4 (.mov (.c (.int .i64 2)))]) [4] (.ret)) (.seq (.region false [om 11 0,om 12 1,oo 13 (.bin .and false (.s 11) (.s 12)),oo 14 (.bin .eql false (.s 13) (.c (.int .i64 0))),om 10 14]) [10] (.cond (.s 10) (.seq (.region false [oo 4 (.mov (.c (.int .i64 0)))]) [4] (.ret)) (
 .skip)))))) [] (.seq (.region false [oo 4 (.mov (.c (.int .i64 1)))]) [4] (.ret)))⟩
def tf19 : TFn := ⟨16,[.tmp 4],.seq (.region false [oo 4 (.mov (.c (.int .i64 0)))]) [0,1] (.seq (.block 0 (.seq (.region false [om 6 0,om 7 1,oo 8 (.bin .and false (.s 6) (.s 7)),om 9 0,oo 10 (.bin .eql false (.s 8) (.s 9)),om 5 10]) [0,1,5] (.cond (.s 5) (.seq (
 .region false [oo 4 (.mov (.c (.int .i64 2)))]) [4] (.ret)) (.seq (.region false [om 12 0,om 13 1,oo 14 (.bin .and false (.s 12) (.s 13)),oo 15 (.bin .eql false (.s 14) (.c (.int .i64 0))),om 11 15]) [11] (.cond (.s 11) (.seq (.region false [oo 4 (.mov (.c (.int .i64 0)))]) [4] (.ret)) (
 .skip)))))) [] (.seq (.region false [oo 4 (.mov (.c (.int .i64 1)))]) [4] (.ret)))⟩
def tf21 : TFn := ⟨4,[.tmp 2],.seq (.region false [oo 1 (.box 3 (.s 0)),oo 2 (.mov (.c (.val .nilFunc)))]) [1] (.seq (.region false [oo 3 (.mkfn 44 [(.s 1)]),om 2 3]) [2] (.ret))⟩
def tf26 : TFn := ⟨43,[.tmp 6],.seq (.region false [oo 3 (.box 25 (.s 0)),oo 6 (.mov (.c (.int .i64 0)))]) [1,2,3] (.seq (.seq (.region true [oL 7 1 3,om 8 2,oo 9 (.call 39 [(.s 7),(.s 8)]),oo 10 (.un .not (.s 9)),om 11 10,oF 12 11 (.mov (.s 2)),oF 13 11 (.mov (.s 1)),oF 14 11 (.len (.s 13)),
 oF 15 11 (.bin .geq false (.s 12) (.s 14)),oo 16 (.pick (.s 11) (.c (.bool true)) (.s 15)),om 17 16,oF 18 17 (.mov (.s 1)),oF 19 17 (.mov (.s 2)),oF 20 17 (.indexAddr 1 (.s 18) (.s 19)),oF 21 17 (.load false 1 (.s 20)),oF 22 17 (.bin .lss false (.s 21) (.c (.int .i64 (-1)))),
 oo 23 (.pick (.s 17) (.c (.bool true)) (.s 22)),om 24 23,oF 25 24 (.mov (.s 1)),oF 26 24 (.mov (.s 2)),oF 27 24 (.indexAddr 1 (.s 25) (.s 26)),oF 28 24 (.load false 1 (.s 27)),oF 29 24 (.fieldAddr 0 (.s 3)),oF 30 24 (.load false 1 (.s 29)),oF 31 24 (.mov (.s 2)),
 oF 32 24 (.indexAddr 3 (.s 30) (.s 31)),oF 33 24 (.fieldAddr 2 (.s 32)),oF 34 24 (.load false 1 (.s 33)),oF 35 24 (.len (.s 34)),oF 36 24 (.bin .geq false (.s 28) (.s 35)),oo 37 (.pick (.s 24) (.c (.bool true)) (.s 36))]) [1,2,37] (.cond (.s 37) (.seq (
 .region false [oo 6 (.mov (.c (.int .i64 0)))]) [6] (.ret)) (.skip))) [1,2] (.seq (.region false [om 38 1,om 39 2,oo 40 (.indexAddr 1 (.s 38) (.s 39)),ol 41 1 40,oo 42 (.call 40 [(.s 41)]),om 6 42]) [6] (.ret)))⟩
def tf36 : TFn := ⟨24,[.cell 2 true 2],.seq (.region false [oo 1 (.box 49 (.s 0)),oo 2 (.alloc 30 [(.fsl []),(.fsl [])])]) [1,2] (.seq (.seq (.region false [oL 3 5 1,oo 4 (.call 46 [(.s 3)]),oo 5 (.un .not (.s 4))]) [1,2,5] (.cond (.s 5) (.seq (.region false [oo 6 (.call 48 []),
 ⟨none,.store 2 (.s 2) (.s 6),none⟩]) [2] (.ret)) (.skip))) [1,2] (.seq (.seq (.region false [oA 7 3 1,ol 8 1 7,oo 9 (.bin .neq false (.s 8) (.c (.str [])))]) [1,2,9] (.cond (.s 9) (.seq (.region true [oL 10 5 1,oo 11 (.call 53 [(.s 10)]),oL 12 5 1,oo 13 (.call 54 [(.s 12)]),
 oo 14 (.build [(.int .i64 0),(.int .i64 0),(.int .i64 0),(.int .i64 0),(.str []),(.str []),(.bool false),(.int .i64 0),(.int .i64 0),(.int .i64 0),(.int .i64 0),(.str []),(.str []),(.bool false)] [(0,7,(.s 11)),(7,7,(.s 13))]),oo 15 (.buildSlice 14 93 [(.s 14)]),
 oo 16 (.build [(.fsl []),(.fsl [])] [(1,1,(.s 15))]),⟨none,.store 2 (.s 2) (.s 16),none⟩]) [2] (.ret)) (.skip))) [1,2] (.seq (.region true [oL 17 5 1,oo 18 (.call 55 [(.s 17)]),oL 19 5 1,oo 20 (.call 56 [(.s 19)]),
 oo 21 (.build [(.int .i64 0),(.int .i64 0),(.int .i64 0),(.int .i64 0),(.str []),(.str []),(.bool false),(.int .i64 0),(.int .i64 0),(.int .i64 0),(.int .i64 0),(.str []),(.str []),(.bool false)] [(0,7,(.s 18)),(7,7,(.s 20))]),oo 22 (.buildSlice 14 93 [(.s 21)]),
 oo 23 (.build [(.fsl []),(.fsl [])] [(0,1,(.s 22))]),⟨none,.store 2 (.s 2) (.s 23),none⟩]) [2] (.ret))))⟩
def tf39 : TFn := ⟨14,[.tmp 4],.seq (.region false [oo 2 (.box 25 (.s 0)),oo 4 (.mov (.c (.bool false)))]) [1,2] (.seq (.region false [om 5 1,oo 6 (.bin .geq false (.s 5) (.c (.int .i64 0))),om 7 6,oT 8 7 (.mov (.s 1)),oT 9 7 (.fieldAddr 0 (.s 2)),oT 10 7 (.load false 1 (.s 9)),
 oT 11 7 (.len (.s 10)),oT 12 7 (.bin .lss false (.s 8) (.s 11)),oo 13 (.pick (.s 7) (.s 12) (.c (.bool false))),om 4 13]) [4] (.ret))⟩
def tf40 : TFn := ⟨6,[.tmp 2],.seq (.region false [oo 2 (.mov (.c (.int .i64 0)))]) [0] (.seq (.region false [om 3 0,oo 4 (.bin .add false (.s 3) (.c (.int .i64 1))),oo 5 (.bin .shl false (.c (.int .i64 1)) (.s 4)),om 2 5]) [2] (.ret))⟩
def tf42 : TFn := ⟨24,[.tmp 4],.seq (.region false [oo 2 (.box 30 (.s 0)),oo 3 (.box 49 (.s 1)),oo 4 (.mov (.c (.bool false)))]) [2,3,900000] (.seq (.seq (.region false [oL 5 2 2,oo 6 (.call 59 [(.s 5),(.s 900000)]),oo 7 (.un .not (.s 6)),om 8 7,oF 9 8 (.load true 5 (.s 3)),
 oF 10 8 (.call 60 [(.s 9)]),oF 11 8 (.un .not (.s 10)),oo 12 (.pick (.s 8) (.c (.bool true)) (.s 11))]) [2,3,12] (.cond (.s 12) (.seq (.region false [oo 4 (.mov (.c (.bool false)))]) [4] (.ret)) (.skip))) [2,3] (.seq (.seq (.region false [oA 13 3 3,ol 14 1 13,
 oo 15 (.bin .eql false (.s 14) (.c (.str [])))]) [2,3,15] (.cond (.s 15) (.seq (.region false [oA 16 0 2,ol 17 1 16,oL 18 5 3,oo 19 (.call 61 [(.s 17),(.s 18)]),om 4 19]) [4] (.ret)) (.skip))) [2,3] (.seq (.region false [oA 20 1 2,ol 21 1 20,oL 22 5 3,oo 23 (.call 61 [(.s 21),(.s 22)]),
 om 4 23]) [4] (.ret))))⟩
def tf43 : TFn := ⟨18,[.cell 0 true 1],.seq (.region false [oo 0 (.alloc 25 [(.fsl [])])]) [0] (.seq (.region false [oo 2 (.call 52 []),om 1 2]) [0,1] (.seq (
 .region true [oo 3 (.build [(.int .i64 0),(.int .i64 0),(.int .i64 0),(.str []),(.str []),(.int .i64 0),(.fsl []),(.fsl [])] [(5,1,(.c (.int .i64 (-1))))]),oo 4 (.buildSlice 8 53 [(.s 3)]),oo 5 (.build [(.str []),(.str []),(.fsl [])] [(2,1,(.s 4))]),om 6 1,
 oo 7 (.indexAddr 5 (.s 6) (.c (.int .i64 0))),oL 8 5 7,oo 9 (.build [(.int .i64 0),(.int .i64 0),(.int .i64 0),(.str []),(.str []),(.int .i64 0),(.fsl []),(.fsl [])] [(0,5,(.s 8))]),om 10 1,oo 11 (.indexAddr 5 (.s 10) (.c (.int .i64 1))),oL 12 5 11,
 oo 13 (.build [(.int .i64 0),(.int .i64 0),(.int .i64 0),(.str []),(.str []),(.int .i64 0),(.fsl []),(.fsl [])] [(0,5,(.s 12))]),oo 14 (.buildSlice 8 53 [(.s 9),(.s 13)]),oo 15 (.build [(.str []),(.str []),(.fsl [])] [(0,1,(.c (.str [97,110,116]))),(2,1,(.s 14))]),
 oo 16 (.buildSlice 3 56 [(.s 5),(.s 15)]),oo 17 (.build [(.fsl [])] [(0,1,(.s 16))]),⟨none,.store 1 (.s 0) (.s 17),none⟩]) [0] (.ret)))⟩
def tf44 : TFn := ⟨19,[],.seq (.region false [oo 3 (.mov (.c (.int .i64 (-1))))]) [0,1,3] (.block 0 (.loop (.seq (.seq (.region false [om 4 3,oo 5 (.bin .lss false (.s 4) (.c (.int .i64 16)))]) [0,1,3,5] (.cond (.s 5) (.skip) (.exit 0))) [0,1,3] (.seq (.block 1 (.seq (.region true [ol 8 1 1,om 9 3,
 oo 10 (.call 40 [(.s 9)]),oo 11 (.bin .and false (.s 8) (.s 10)),oo 12 (.bin .neq false (.s 11) (.c (.int .i64 0))),om 13 12,oT 14 13 (.mov (.s 0)),oT 15 13 (.mov (.s 3)),oT 16 13 (.callV (.s 14) [(.s 15)]),oT 17 13 (.un .not (.s 16)),oo 18 (.pick (.s 13) (.s 17) (.c (.bool false)))]) [0,1,3,18] (
 .cond (.s 18) (.ret) (.skip)))) [0,1,3] (.region false [om 6 3,oo 7 (.bin .add false (.s 6) (.c (.int .i64 1))),om 3 7])))))⟩
def tf46 : TFn := ⟨26,[.tmp 2],.seq (.region false [oo 1 (.box 49 (.s 0)),oo 2 (.mov (.c (.bool false)))]) [1] (.seq (.region false [oA 3 0 1,ol 4 1 3,oo 5 (.call 64 [(.s 4)]),om 6 5,oT 7 6 (.fieldAddr 1 (.s 1)),oT 8 6 (.load false 1 (.s 7)),oT 9 6 (.call 64 [(.s 8)]),
 oo 10 (.pick (.s 6) (.s 9) (.c (.bool false))),om 11 10,oT 12 11 (.fieldAddr 2 (.s 1)),oT 13 11 (.load false 1 (.s 12)),oT 14 11 (.call 64 [(.s 13)]),oo 15 (.pick (.s 11) (.s 14) (.c (.bool false))),om 16 15,oT 17 16 (.fieldAddr 3 (.s 1)),oT 18 16 (.load false 1 (.s 17)),
 oT 19 16 (.call 65 [(.s 18),(.c (.bool true))]),oo 20 (.pick (.s 16) (.s 19) (.c (.bool false))),om 21 20,oT 22 21 (.fieldAddr 4 (.s 1)),oT 23 21 (.load false 1 (.s 22)),oT 24 21 (.call 65 [(.s 23),(.c (.bool false))]),oo 25 (.pick (.s 21) (.s 24) (.c (.bool false))),om 2 25]) [2] (.ret))⟩
def tf48 : TFn := ⟨2,[.cell 0 true 2],.seq (.region false [oo 0 (.alloc 30 [(.fsl []),(.fsl [])])]) [0] (.seq (.region false [oo 1 (.build [(.fsl []),(.fsl [])] []),⟨none,.store 2 (.s 0) (.s 1),none⟩]) [0] (.ret))⟩
def tf52 : TFn := ⟨6,[.tmp 0],.seq (.region false [oo 0 (.mov (.c (.fsl [])))]) [] (.seq (.region false [oo 1 (.build [(.int .i64 0),(.int .i64 0),(.int .i64 0),(.str []),(.str [])] [(0,1,(.c (.int .i64 1)))]),
 oo 2 (.build [(.int .i64 0),(.int .i64 0),(.int .i64 0),(.str []),(.str [])] [(0,1,(.c (.int .i64 1))),(1,1,(.c (.int .i64 2)))]),oo 3 (.build [(.int .i64 0),(.int .i64 0),(.int .i64 0),(.str []),(.str [])] [(0,1,(.c (.int .i64 2))),(3,1,(.c (.str [97,46,49])))]),
 oo 4 (.build [(.int .i64 0),(.int .i64 0),(.int .i64 0),(.str []),(.str [])] [(0,1,(.c (.int .i64 2)))]),oo 5 (.buildSlice 5 49 [(.s 1),(.s 2),(.s 3),(.s 4)]),om 0 5]) [0] (.ret))⟩
def tf53 : TFn := ⟨6,[.cell 2 true 7],.seq (.region false [oo 1 (.box 49 (.s 0)),oo 2 (.alloc 90 [(.int .i64 0),(.int .i64 0),(.int .i64 0),(.int .i64 0),(.str []),(.str []),(.bool false)])]) [1,2] (.seq (.region false [oL 3 5 1,oo 4 (.call 71 [(.s 3)]),
 oo 5 (.build [(.int .i64 0),(.int .i64 0),(.int .i64 0),(.int .i64 0),(.str []),(.str []),(.bool false)] [(1,5,(.s 4))]),⟨none,.store 7 (.s 2) (.s 5),none⟩]) [2] (.ret))⟩
def tf54 : TFn := ⟨6,[.cell 2 true 7],.seq (.region false [oo 1 (.box 49 (.s 0)),oo 2 (.alloc 90 [(.int .i64 0),(.int .i64 0),(.int .i64 0),(.int .i64 0),(.str []),(.str []),(.bool false)])]) [1,2] (.seq (.region false [oL 3 5 1,oo 4 (.call 71 [(.s 3)]),
 oo 5 (.build [(.int .i64 0),(.int .i64 0),(.int .i64 0),(.int .i64 0),(.str []),(.str []),(.bool false)] [(1,5,(.s 4)),(6,1,(.c (.bool true)))]),⟨none,.store 7 (.s 2) (.s 5),none⟩]) [2] (.ret))⟩
def tf55 : TFn := ⟨14,[.cell 2 true 7],.seq (.region false [oo 1 (.box 49 (.s 0)),oo 2 (.alloc 90 [(.int .i64 0),(.int .i64 0),(.int .i64 0),(.int .i64 0),(.str []),(.str []),(.bool false)])]) [1,2] (.seq (.seq (.region false [oL 3 5 1,oo 4 (.call 72 [(.s 3)])]) [1,2,4] (.cond (.s 4) (.seq (
 .region false [oo 5 (.call 73 []),⟨none,.store 7 (.s 2) (.s 5),none⟩]) [2] (.ret)) (.skip))) [1,2] (.seq (.region false [oA 6 0 1,ol 7 1 6,oA 8 1 1,ol 9 1 8,oA 10 2 1,ol 11 1 10,
 oo 12 (.build [(.int .i64 0),(.int .i64 0),(.int .i64 0),(.str []),(.str [])] [(0,1,(.s 7)),(1,1,(.s 9)),(2,1,(.s 11))]),oo 13 (.call 53 [(.s 12)]),⟨none,.store 7 (.s 2) (.s 13),none⟩]) [2] (.ret)))⟩
def tf56 : TFn := ⟨21,[.cell 2 true 7],.seq (.region false [oo 1 (.box 49 (.s 0)),oo 2 (.alloc 90 [(.int .i64 0),(.int .i64 0),(.int .i64 0),(.int .i64 0),(.str []),(.str []),(.bool false)])]) [1,2] (.seq (.region false [oA 6 0 1,ol 7 1 6,oA 8 1 1,ol 9 1 8,oA 10 2 1,ol 11 1 10,
 oo 12 (.build [(.int .i64 0),(.int .i64 0),(.int .i64 0),(.str []),(.str [])] [(0,1,(.s 7)),(1,1,(.s 9)),(2,1,(.s 11))]),oo 13 (.call 74 [(.s 12)]),om 5 13,oe 14 0 5,oe 15 1 5,oo 3 (.alloc 49 [(.int .i64 0),(.int .i64 0),(.int .i64 0),(.str []),(.str [])]),⟨none,.store 5 (.s 3) (.s 14),none⟩,
 om 4 15]) [2,3,4] (.seq (.seq (.region false [om 16 4,oo 17 (.un .not (.s 16))]) [2,3,17] (.cond (.s 17) (.seq (.region false [oo 18 (.call 75 []),⟨none,.store 7 (.s 2) (.s 18),none⟩]) [2] (.ret)) (.skip))) [2,3] (.seq (.region false [oL 19 5 3,oo 20 (.call 53 [(.s 19)]),
 ⟨none,.store 7 (.s 2) (.s 20),none⟩]) [2] (.ret))))⟩
def tf59 : TFn := ⟨31,[.tmp 2],.seq (.region false [oo 1 (.box 30 (.s 0)),oo 2 (.mov (.c (.bool false)))]) [1,900000] (.seq (.seq (.region false [oA 5 0 1,ol 6 1 5,oo 7 (.len (.s 6)),oo 8 (.mov (.c (.int .i64 0)))]) [1,6,7,8,900000] (.block 0 (.loop (.seq (
 .region false [oo 9 (.bin .lss false (.s 8) (.s 7))]) [1,6,7,8,9,900000] (.seq (.cond (.s 9) (.skip) (.exit 0)) [1,6,7,8,900000] (.seq (.block 1 (.seq (.region false [oo 10 (.indexAddr 14 (.s 6) (.s 8)),oL 11 14 10,
 oo 4 (.alloc 93 [(.int .i64 0),(.int .i64 0),(.int .i64 0),(.int .i64 0),(.str []),(.str []),(.bool false),(.int .i64 0),(.int .i64 0),(.int .i64 0),(.int .i64 0),(.str []),(.str []),(.bool false)]),⟨none,.store 14 (.s 4) (.s 11),none⟩]) [1,4,6,7,8,900000] (.seq (.region false [oA 12 0 4,
 oL 13 7 12,oo 14 (.call 77 [(.s 13),(.s 900000)]),oo 15 (.un .not (.s 14)),om 16 15,oF 17 16 (.fieldAddr 7 (.s 4)),oF 18 16 (.load true 7 (.s 17)),oF 19 16 (.call 77 [(.s 18),(.s 900000)]),oF 20 16 (.un .not (.s 19)),oo 21 (.pick (.s 16) (.c (.bool true)) (.s 20))]) [1,6,7,8,21,900000] (
 .cond (.s 21) (.seq (.region false [oo 2 (.mov (.c (.bool false)))]) [2] (.ret)) (.skip))))) [1,6,7,8,900000] (.region false [oo 22 (.bin .add false (.s 8) (.c (.int .i64 1))),om 8 22]))))))) [1] (.seq (.region false [oA 23 0 1,ol 24 1 23,oo 25 (.call 78 [(.s 24)]),om 26 25,
 oT 27 26 (.fieldAddr 1 (.s 1)),oT 28 26 (.load false 1 (.s 27)),oT 29 26 (.call 78 [(.s 28)]),oo 30 (.pick (.s 26) (.s 29) (.c (.bool false))),om 2 30]) [2] (.ret)))⟩
def tf60 : TFn := ⟨36,[.tmp 2],.seq (.region false [oo 1 (.box 49 (.s 0)),oo 2 (.mov (.c (.bool false)))]) [1] (.seq (.region false [oA 3 0 1,ol 4 1 3,oo 5 (.call 79 [(.s 4)]),om 6 5,oT 7 6 (.fieldAddr 1 (.s 1)),oT 8 6 (.load false 1 (.s 7)),oT 9 6 (.call 79 [(.s 8)]),
 oo 10 (.pick (.s 6) (.s 9) (.c (.bool false))),om 11 10,oT 12 11 (.fieldAddr 2 (.s 1)),oT 13 11 (.load false 1 (.s 12)),oT 14 11 (.call 79 [(.s 13)]),oo 15 (.pick (.s 11) (.s 14) (.c (.bool false))),om 16 15,oT 17 16 (.fieldAddr 3 (.s 1)),oT 18 16 (.load false 1 (.s 17)),
 oT 19 16 (.bin .eql false (.s 18) (.c (.str []))),oT 20 16 (.mov (.s 19)),oF 21 20 (.fieldAddr 3 (.s 1)),oF 22 20 (.load false 1 (.s 21)),oF 23 20 (.call 80 [(.s 22)]),oT 24 16 (.pick (.s 20) (.c (.bool true)) (.s 23)),oo 25 (.pick (.s 16) (.s 24) (.c (.bool false))),om 26 25,
 oT 27 26 (.fieldAddr 4 (.s 1)),oT 28 26 (.load false 1 (.s 27)),oT 29 26 (.bin .eql false (.s 28) (.c (.str []))),oT 30 26 (.mov (.s 29)),oF 31 30 (.fieldAddr 4 (.s 1)),oF 32 30 (.load false 1 (.s 31)),oF 33 30 (.call 81 [(.s 32)]),oT 34 26 (.pick (.s 30) (.c (.bool true)) (.s 33)),
 oo 35 (.pick (.s 26) (.s 34) (.c (.bool false))),om 2 35]) [2] (.ret))⟩
def tf61 : TFn := ⟨20,[.tmp 4],.seq (.region false [oo 3 (.box 49 (.s 1)),oo 4 (.mov (.c (.bool false)))]) [0,3] (.seq (.seq (.region false [om 7 0,oo 8 (.call 78 [(.s 7)]),oo 9 (.un .not (.s 8))]) [0,3,9] (.cond (.s 9) (.seq (.region false [oo 4 (.mov (.c (.bool false)))]) [4] (.ret)) (
 .skip))) [0,3] (.seq (.seq (.region false [om 10 0,oo 11 (.len (.s 10)),oo 12 (.mov (.c (.int .i64 0)))]) [3,10,11,12] (.block 0 (.loop (.seq (.region false [oo 13 (.bin .lss false (.s 12) (.s 11))]) [3,10,11,12,13] (.seq (.cond (.s 13) (.skip) (.exit 0)) [3,10,11,12] (.seq (.block 1 (.seq (
 .region false [oo 14 (.indexAddr 14 (.s 10) (.s 12)),oL 15 14 14,oo 6 (.alloc 93 [(.int .i64 0),(.int .i64 0),(.int .i64 0),(.int .i64 0),(.str []),(.str []),(.bool false),(.int .i64 0),(.int .i64 0),(.int .i64 0),(.int .i64 0),(.str []),(.str []),(.bool false)]),
 ⟨none,.store 14 (.s 6) (.s 15),none⟩]) [3,6,10,11,12] (.seq (.region false [oL 16 14 6,oL 17 5 3,oo 18 (.call 82 [(.s 16),(.s 17)])]) [3,10,11,12,18] (.cond (.s 18) (.seq (.region false [oo 4 (.mov (.c (.bool true)))]) [4] (.ret)) (.skip))))) [3,10,11,12] (
 .region false [oo 19 (.bin .add false (.s 12) (.c (.int .i64 1))),om 12 19]))))))) [] (.seq (.region false [oo 4 (.mov (.c (.bool false)))]) [4] (.ret))))⟩
def tf64 : TFn := ⟨9,[.tmp 2],.seq (.region false [oo 2 (.mov (.c (.bool false)))]) [0] (.seq (.region false [om 3 0,oo 4 (.bin .geq false (.s 3) (.c (.int .i64 0))),om 5 4,oT 6 5 (.mov (.s 0)),oT 7 5 (.bin .leq false (.s 6) (.c (.int .i64 9999))),oo 8 (.pick (.s 5) (.s 7) (.c (.bool false))),
 om 2 8]) [2] (.ret))⟩
def tf65 : TFn := ⟨48,[.tmp 4],.seq (.region false [oo 4 (.mov (.c (.bool false)))]) [0,1] (.seq (.seq (.region false [om 9 0,oo 10 (.bin .eql false (.s 9) (.c (.str [])))]) [0,1,10] (.cond (.s 10) (.seq (.region false [oo 4 (.mov (.c (.bool true)))]) [4] (.ret)) (.skip))) [0,1] (.seq (
 .region false [om 11 0,oo 12 (.call 85 [(.s 11),(.c (.int .u8 46))]),om 5 12]) [1,5] (.seq (.seq (.region false [om 13 5,oo 14 (.len (.s 13)),oo 15 (.bin .gtr false (.s 14) (.c (.int .i64 4)))]) [1,5,15] (.cond (.s 15) (.seq (.region false [oo 4 (.mov (.c (.bool false)))]) [4] (.ret)) (
 .skip))) [1,5] (.seq (.seq (.region false [oo 6 (.mov (.c (.int .i64 0)))]) [1,5,6] (.block 0 (.loop (.seq (.seq (.region false [om 16 6,om 17 5,oo 18 (.len (.s 17)),oo 19 (.bin .lss false (.s 16) (.s 18))]) [1,5,6,19] (.cond (.s 19) (.skip) (.exit 0))) [1,5,6] (.seq (.block 1 (.seq (.seq (
 .region false [om 22 5,om 23 6,oo 24 (.indexAddr 1 (.s 22) (.s 23)),ol 25 1 24,oo 26 (.call 86 [(.s 25)]),oo 27 (.un .not (.s 26))]) [1,5,6,27] (.cond (.s 27) (.seq (.region false [oo 4 (.mov (.c (.bool false)))]) [4] (.ret)) (.skip))) [1,5,6] (.seq (.region false [om 29 5,om 30 6,
 oo 31 (.indexAddr 1 (.s 29) (.s 30)),ol 32 1 31,oo 33 (.call 87 [(.s 32)]),om 28 33,oe 34 0 28,oe 35 1 28,om 7 34,om 8 35]) [1,5,6,8] (.seq (.region false [om 36 1,om 37 36,oT 38 37 (.mov (.s 5)),oT 39 37 (.mov (.s 6)),oT 40 37 (.indexAddr 1 (.s 38) (.s 39)),oT 41 37 (.load false 1 (.s 40)),
 oT 42 37 (.call 88 [(.s 41)]),oo 43 (.pick (.s 37) (.s 42) (.c (.bool false))),om 44 43,oT 45 44 (.mov (.s 8)),oT 46 44 (.un .not (.s 45)),oo 47 (.pick (.s 44) (.s 46) (.c (.bool false)))]) [1,5,6,47] (.cond (.s 47) (.seq (.region false [oo 4 (.mov (.c (.bool false)))]) [4] (.ret)) (
 .skip)))))) [1,5,6] (.region false [om 20 6,oo 21 (.bin .add false (.s 20) (.c (.int .i64 1))),om 6 21])))))) [] (.seq (.region false [oo 4 (.mov (.c (.bool true)))]) [4] (.ret))))))⟩
def tf71 : TFn := ⟨5,[.cell 2 true 5],.seq (.region false [oo 1 (.box 49 (.s 0)),oo 2 (.alloc 49 [(.int .i64 0),(.int .i64 0),(.int .i64 0),(.str []),(.str [])])]) [1,2] (.seq (.region false [oA 3 4 1,⟨none,.store 1 (.s 3) (.c (.str [])),none⟩]) [1,2] (.seq (.region false [oL 4 5 1,
 ⟨none,.store 5 (.s 2) (.s 4),none⟩]) [2] (.ret)))⟩
def tf72 : TFn := ⟨16,[.tmp 2],.seq (.region false [oo 1 (.box 49 (.s 0)),oo 2 (.mov (.c (.bool false)))]) [1] (.seq (.region false [oA 3 0 1,ol 4 1 3,oo 5 (.bin .eql false (.s 4) (.c (.int .i64 0))),om 6 5,oT 7 6 (.fieldAddr 1 (.s 1)),oT 8 6 (.load false 1 (.s 7)),
 oT 9 6 (.bin .eql false (.s 8) (.c (.int .i64 0))),oo 10 (.pick (.s 6) (.s 9) (.c (.bool false))),om 11 10,oT 12 11 (.fieldAddr 2 (.s 1)),oT 13 11 (.load false 1 (.s 12)),oT 14 11 (.bin .eql false (.s 13) (.c (.int .i64 0))),oo 15 (.pick (.s 11) (.s 14) (.c (.bool false))),om 2 15]) [2] (.ret))⟩
def tf73 : TFn := ⟨2,[.cell 0 true 7],.seq (.region false [oo 0 (.alloc 90 [(.int .i64 0),(.int .i64 0),(.int .i64 0),(.int .i64 0),(.str []),(.str []),(.bool false)])]) [0] (.seq (
 .region false [oo 1 (.build [(.int .i64 0),(.int .i64 0),(.int .i64 0),(.int .i64 0),(.str []),(.str []),(.bool false)] [(0,1,(.c (.int .i64 (-1))))]),⟨none,.store 7 (.s 0) (.s 1),none⟩]) [0] (.ret))⟩
def tf74 : TFn := ⟨34,[.cell 2 true 5,.tmp 3],.seq (.region false [oo 1 (.box 49 (.s 0)),oo 2 (.alloc 49 [(.int .i64 0),(.int .i64 0),(.int .i64 0),(.str []),(.str [])]),oo 3 (.mov (.c (.bool false)))]) [1,2] (.seq (.seq (.region false [oL 7 5 1,oo 8 (.call 46 [(.s 7)]),
 oo 9 (.un .not (.s 8))]) [1,2,9] (.cond (.s 9) (.seq (.region false [oo 10 (.build [(.int .i64 0),(.int .i64 0),(.int .i64 0),(.str []),(.str [])] []),⟨none,.store 5 (.s 2) (.s 10),none⟩,oo 3 (.mov (.c (.bool false)))]) [2,3] (.ret)) (.skip))) [1,2] (.seq (.seq (.region false [oA 11 3 1,
 ol 12 1 11,oo 13 (.bin .neq false (.s 12) (.c (.str [])))]) [1,2,13] (.cond (.s 13) (.seq (.region false [oA 14 0 1,ol 15 1 14,oA 16 1 1,ol 17 1 16,oA 18 2 1,ol 19 1 18,oo 20 (.build [(.int .i64 0),(.int .i64 0),(.int .i64 0),(.str []),(.str [])] [(0,1,(.s 15)),(1,1,(.s 17)),(2,1,(.s 19))]),
 ⟨none,.store 5 (.s 2) (.s 20),none⟩,oo 3 (.mov (.c (.bool true)))]) [2,3] (.ret)) (.skip))) [1,2] (.seq (.seq (.region false [oo 4 (.mov (.c (.int .i64 2)))]) [1,2,4] (.block 0 (.loop (.seq (.seq (.region false [om 21 4,oo 22 (.bin .geq false (.s 21) (.c (.int .i64 0)))]) [1,2,4,22] (
 .cond (.s 22) (.skip) (.exit 0))) [1,2,4] (.seq (.block 1 (.seq (.region false [oL 26 5 1,om 27 4,oo 28 (.call 91 [(.s 26),(.s 27)]),om 25 28,oe 29 0 25,oe 30 1 25,oo 5 (.alloc 49 [(.int .i64 0),(.int .i64 0),(.int .i64 0),(.str []),(.str [])]),⟨none,.store 5 (.s 5) (.s 29),none⟩,
 om 6 30]) [1,2,4,5,6] (.seq (.region false [om 31 6]) [1,2,4,5,31] (.cond (.s 31) (.seq (.region false [oL 32 5 5,⟨none,.store 5 (.s 2) (.s 32),none⟩,oo 3 (.mov (.c (.bool true)))]) [2,3] (.ret)) (.skip))))) [1,2,4] (.region false [om 23 4,oo 24 (.bin .sub false (.s 23) (.c (.int .i64 1))),
 om 4 24])))))) [2] (.seq (.region false [oo 33 (.build [(.int .i64 0),(.int .i64 0),(.int .i64 0),(.str []),(.str [])] []),⟨none,.store 5 (.s 2) (.s 33),none⟩,oo 3 (.mov (.c (.bool false)))]) [2,3] (.ret)))))⟩
def tf75 : TFn := ⟨2,[.cell 0 true 7],.seq (.region false [oo 0 (.alloc 90 [(.int .i64 0),(.int .i64 0),(.int .i64 0),(.int .i64 0),(.str []),(.str []),(.bool false)])]) [0] (.seq (
 .region false [oo 1 (.build [(.int .i64 0),(.int .i64 0),(.int .i64 0),(.int .i64 0),(.str []),(.str []),(.bool false)] [(0,1,(.c (.int .i64 1)))]),⟨none,.store 7 (.s 0) (.s 1),none⟩]) [0] (.ret))⟩
def tf77 : TFn := ⟨23,[.tmp 2],.seq (.region false [oo 1 (.box 90 (.s 0)),oo 2 (.mov (.c (.bool false)))]) [1,900000] (.seq (.region false [oA 3 0 1,ol 4 1 3,oo 5 (.bin .neq false (.s 4) (.c (.int .i64 0))),om 6 5,oF 7 6 (.fieldAddr 6 (.s 1)),oF 8 6 (.load false 1 (.s 7)),oF 9 6 (.un .not (.s 8)),
 oF 10 6 (.mov (.s 9)),oT 11 10 (.fieldAddr 1 (.s 1)),oT 12 10 (.fieldAddr 3 (.s 11)),oT 13 10 (.load false 1 (.s 12)),oT 14 10 (.bin .eql false (.s 13) (.c (.str []))),oF 15 6 (.pick (.s 10) (.s 14) (.c (.bool false))),oF 16 6 (.mov (.s 15)),oT 17 16 (.fieldAddr 1 (.s 1)),
 oT 18 16 (.load true 5 (.s 17)),oT 19 16 (.load true 5 (.s 900000)),oT 20 16 (.eqs true [0,0,0,2,2] (.s 18) (.s 19)),oF 21 6 (.pick (.s 16) (.s 20) (.c (.bool false))),oo 22 (.pick (.s 6) (.c (.bool true)) (.s 21)),om 2 22]) [2] (.ret))⟩
def tf78 : TFn := ⟨32,[.tmp 2],.seq (.region false [oo 2 (.mov (.c (.bool false)))]) [0] (.seq (.seq (.region false [om 5 0,oo 6 (.len (.s 5)),oo 7 (.mov (.c (.int .i64 0)))]) [0,5,6,7] (.block 0 (.loop (.seq (.region false [oo 8 (.bin .lss false (.s 7) (.s 6))]) [0,5,6,7,8] (.seq (.cond (.s 8) (
 .skip) (.exit 0)) [0,5,6,7] (.seq (.block 1 (.seq (.region false [om 9 7,oo 10 (.indexAddr 14 (.s 5) (.s 7)),oL 11 14 10,
 oo 4 (.alloc 93 [(.int .i64 0),(.int .i64 0),(.int .i64 0),(.int .i64 0),(.str []),(.str []),(.bool false),(.int .i64 0),(.int .i64 0),(.int .i64 0),(.int .i64 0),(.str []),(.str []),(.bool false)]),om 3 9,⟨none,.store 14 (.s 4) (.s 11),none⟩]) [0,3,4,5,6,7] (.seq (.region true [oL 12 14 4,
 oo 13 (.call 93 [(.s 12)]),oo 14 (.un .not (.s 13)),om 15 14,oF 16 15 (.mov (.s 3)),oF 17 15 (.bin .gtr false (.s 16) (.c (.int .i64 0))),oF 18 15 (.mov (.s 17)),oT 19 18 (.mov (.s 0)),oT 20 18 (.mov (.s 3)),oT 21 18 (.bin .sub false (.s 20) (.c (.int .i64 1))),
 oT 22 18 (.indexAddr 14 (.s 19) (.s 21)),oT 23 18 (.fieldAddr 7 (.s 22)),oT 24 18 (.load true 7 (.s 23)),oT 25 18 (.fieldAddr 0 (.s 4)),oT 26 18 (.load true 7 (.s 25)),oT 27 18 (.call 94 [(.s 24),(.s 26)]),oT 28 18 (.bin .geq false (.s 27) (.c (.int .i64 0))),
 oF 29 15 (.pick (.s 18) (.s 28) (.c (.bool false))),oo 30 (.pick (.s 15) (.c (.bool true)) (.s 29))]) [0,5,6,7,30] (.cond (.s 30) (.seq (.region false [oo 2 (.mov (.c (.bool false)))]) [2] (.ret)) (.skip))))) [0,5,6,7] (.region false [oo 31 (.bin .add false (.s 7) (.c (.int .i64 1))),
 om 7 31]))))))) [] (.seq (.region false [oo 2 (.mov (.c (.bool true)))]) [2] (.ret)))⟩
def tf79 : TFn := ⟨9,[.tmp 2],.seq (.region false [oo 2 (.mov (.c (.bool false)))]) [0] (.seq (.region false [om 3 0,oo 4 (.bin .geq false (.s 3) (.c (.int .i64 0))),om 5 4,oT 6 5 (.mov (.s 0)),oT 7 5 (.bin .leq false (.s 6) (.c (.int .i64 9999))),oo 8 (.pick (.s 5) (.s 7) (.c (.bool false))),
 om 2 8]) [2] (.ret))⟩
def tf80 : TFn := ⟨29,[.tmp 2],.seq (.region false [oo 2 (.mov (.c (.bool false)))]) [0] (.seq (.seq (.region false [om 7 0,oo 8 (.call 81 [(.s 7)]),oo 9 (.un .not (.s 8))]) [0,9] (.cond (.s 9) (.seq (.region false [oo 2 (.mov (.c (.bool false)))]) [2] (.ret)) (.skip))) [0] (.seq (.seq (
 .region false [om 10 0,oo 11 (.call 95 [(.s 10),(.c (.int .u8 46))]),oo 12 (.len (.s 11)),oo 13 (.mov (.c (.int .i64 0)))]) [11,12,13] (.block 0 (.loop (.seq (.region false [oo 14 (.bin .lss false (.s 13) (.s 12))]) [11,12,13,14] (.seq (.cond (.s 14) (.skip) (.exit 0)) [11,12,13] (.seq (.block 1 (
 .seq (.region false [oo 15 (.indexAddr 1 (.s 11) (.s 13)),ol 16 1 15,om 4 16]) [4,11,12,13] (.seq (.region false [om 18 4,oo 19 (.call 96 [(.s 18)]),om 17 19,oe 20 0 17,oe 21 1 17,om 5 20,om 6 21]) [4,6,11,12,13] (.seq (.region false [om 22 4,oo 23 (.call 97 [(.s 22)]),om 24 23,
 oT 25 24 (.mov (.s 6)),oT 26 24 (.un .not (.s 25)),oo 27 (.pick (.s 24) (.s 26) (.c (.bool false)))]) [11,12,13,27] (.cond (.s 27) (.seq (.region false [oo 2 (.mov (.c (.bool false)))]) [2] (.ret)) (.skip)))))) [11,12,13] (.region false [oo 28 (.bin .add false (.s 13) (.c (.int .i64 1))),
 om 13 28]))))))) [] (.seq (.region false [oo 2 (.mov (.c (.bool true)))]) [2] (.ret))))⟩
def tf81 : TFn := ⟨52,[.tmp 2],.seq (.region false [oo 2 (.mov (.c (.bool false)))]) [0] (.scope (.seq (.region false [om 9 0,oo 10 (.call 95 [(.s 9),(.c (.int .u8 46))]),om 3 10]) [3] (.seq (.region false [om 11 3,oo 12 (.len (.s 11)),oo 13 (.bin .leq false (.s 12) (.c (.int .i64 4))),
 om 4 13]) [3,4] (.seq (.skip) [3,4] (.seq (.seq (.region false [om 14 3,oo 15 (.len (.s 14)),oo 16 (.mov (.c (.int .i64 0)))]) [4,14,15,16] (.block 0 (.loop (.seq (.region false [oo 17 (.bin .lss false (.s 16) (.s 15))]) [4,14,15,16,17] (.seq (.cond (.s 17) (.skip) (.exit 0)) [4,14,15,16] (.seq (
 .block 1 (.seq (.region false [oo 18 (.indexAddr 1 (.s 14) (.s 16)),ol 19 1 18,om 6 19]) [4,6,14,15,16] (.seq (.seq (.region false [om 20 6,oo 21 (.bin .eql false (.s 20) (.c (.str []))),om 22 21,oF 23 22 (.mov (.s 6)),oF 24 22 (.lenStr (.s 23)),
 oF 25 22 (.bin .gtr false (.s 24) (.c (.int .i64 8))),oo 26 (.pick (.s 22) (.c (.bool true)) (.s 25))]) [4,6,14,15,16,26] (.cond (.s 26) (.seq (.region false [oo 4 (.mov (.c (.bool false)))]) [4] (.exit 0)) (.skip))) [4,6,14,15,16] (.seq (.region false [om 27 6,
 oo 28 (.range (.s 27))]) [4,14,15,16,28] (.block 2 (.loop (.seq (.region false [oo 29 (.next (.s 28)),oe 30 0 29]) [4,14,15,16,28,29,30] (.seq (.cond (.s 30) (.skip) (.exit 2)) [4,14,15,16,28,29] (.block 3 (.seq (.region false [oe 31 2 29,om 8 31]) [4,8,14,15,16,28] (.seq (.region false [om 32 8,
 oo 33 (.bin .lss false (.s 32) (.c (.int .i32 97))),om 34 33,oF 35 34 (.mov (.s 8)),oF 36 34 (.bin .gtr false (.s 35) (.c (.int .i32 122))),oo 37 (.pick (.s 34) (.c (.bool true)) (.s 36)),om 38 37,oT 39 38 (.mov (.s 8)),oT 40 38 (.bin .lss false (.s 39) (.c (.int .i32 48))),
 oT 41 38 (.mov (.s 40)),oF 42 41 (.mov (.s 8)),oF 43 41 (.bin .gtr false (.s 42) (.c (.int .i32 57))),oT 44 38 (.pick (.s 41) (.c (.bool true)) (.s 43)),oo 45 (.pick (.s 38) (.s 44) (.c (.bool false))),om 46 45,oT 47 46 (.mov (.s 8)),oT 48 46 (.bin .neq false (.s 47) (.c (.int .i32 45))),
 oo 49 (.pick (.s 46) (.s 48) (.c (.bool false)))]) [4,14,15,16,28,49] (.cond (.s 49) (.seq (.region false [oo 4 (.mov (.c (.bool false)))]) [4] (.exit 0)) (.skip))))))))))))) [4,14,15,16] (.region false [oo 50 (.bin .add false (.s 16) (.c (.int .i64 1))),om 16 50]))))))) [4] (.seq (
 .region false [om 51 4,om 2 51]) [2] (.ret)))))))⟩
def tf82 : TFn := ⟨24,[.tmp 4],.seq (.region false [oo 2 (.box 93 (.s 0)),oo 3 (.box 49 (.s 1)),oo 4 (.mov (.c (.bool false)))]) [2,3] (.seq (.region false [oL 5 14 2,oo 6 (.call 93 [(.s 5)]),om 7 6,oT 8 7 (.load true 5 (.s 3)),oT 9 7 (.call 60 [(.s 8)]),
 oo 10 (.pick (.s 7) (.s 9) (.c (.bool false))),om 11 10,oT 12 11 (.fieldAddr 0 (.s 2)),oT 13 11 (.load true 7 (.s 12)),oT 14 11 (.load true 5 (.s 3)),oT 15 11 (.call 98 [(.s 13),(.s 14)]),oo 16 (.pick (.s 11) (.s 15) (.c (.bool false))),om 17 16,oT 18 17 (.fieldAddr 7 (.s 2)),
 oT 19 17 (.load true 7 (.s 18)),oT 20 17 (.load true 5 (.s 3)),oT 21 17 (.call 98 [(.s 19),(.s 20)]),oT 22 17 (.un .not (.s 21)),oo 23 (.pick (.s 17) (.s 22) (.c (.bool false))),om 4 23]) [4] (.ret))⟩
def tf85 : TFn := ⟨34,[.tmp 4],.seq (.region false [oo 4 (.mov (.c (.fsl [])))]) [0,1] (.seq (.region false [oo 5 (.mov (.c (.fsl [])))]) [0,1,5] (.seq (.region false [oo 6 (.mov (.c (.int .i64 0)))]) [0,1,5,6] (.seq (.seq (.region false [oo 7 (.mov (.c (.int .i64 0)))]) [0,1,5,6,7] (.block 0 (
 .loop (.seq (.seq (.region false [om 8 7,om 9 0,oo 10 (.lenStr (.s 9)),oo 11 (.bin .lss false (.s 8) (.s 10))]) [0,1,5,6,7,11] (.cond (.s 11) (.skip) (.exit 0))) [0,1,5,6,7] (.seq (.block 1 (.seq (.region false [om 14 0,om 15 7,oo 16 (.indexStr (.s 14) (.s 15)),om 17 1,
 oo 18 (.bin .eql false (.s 16) (.s 17))]) [0,1,5,6,7,18] (.cond (.s 18) (.seq (.region false [om 19 5,om 20 0,om 21 6,om 22 7,oo 23 (.sliceStr (.s 20) (some (.s 21)) (some (.s 22))),oo 24 (.buildSlice 1 9 [(.s 23)]),oo 25 (.append 1 9 16 (.s 19) (.s 24)),om 5 25]) [0,1,5,7] (
 .region false [om 26 7,oo 27 (.bin .add false (.s 26) (.c (.int .i64 1))),om 6 27])) (.skip)))) [0,1,5,6,7] (.region false [om 12 7,oo 13 (.bin .add false (.s 12) (.c (.int .i64 1))),om 7 13])))))) [0,5,6] (.seq (.region false [om 28 5,om 29 0,om 30 6,oo 31 (.sliceStr (.s 29) (some (.s 30)) none),
 oo 32 (.buildSlice 1 9 [(.s 31)]),oo 33 (.append 1 9 16 (.s 28) (.s 32)),om 4 33]) [4] (.ret)))))⟩
def tf86 : TFn := ⟨40,[.tmp 2],.seq (.region false [oo 2 (.mov (.c (.bool false)))]) [0] (.seq (.seq (.region false [om 5 0,oo 6 (.lenStr (.s 5)),oo 7 (.bin .lss false (.s 6) (.c (.int .i64 1))),om 8 7,oF 9 8 (.mov (.s 0)),oF 10 8 (.lenStr (.s 9)),
 oF 11 8 (.bin .gtr false (.s 10) (.c (.int .i64 8))),oo 12 (.pick (.s 8) (.c (.bool true)) (.s 11))]) [0,12] (.cond (.s 12) (.seq (.region false [oo 2 (.mov (.c (.bool false)))]) [2] (.ret)) (.skip))) [0] (.seq (.seq (.region false [oo 3 (.mov (.c (.int .i64 0)))]) [0,3] (.block 0 (.loop (.seq (
 .seq (.region false [om 13 3,om 14 0,oo 15 (.lenStr (.s 14)),oo 16 (.bin .lss false (.s 13) (.s 15))]) [0,3,16] (.cond (.s 16) (.skip) (.exit 0))) [0,3] (.seq (.block 1 (.seq (.region false [om 19 0,om 20 3,oo 21 (.indexStr (.s 19) (.s 20)),om 4 21]) [0,3,4] (.seq (.region false [om 22 4,
 oo 23 (.bin .lss false (.s 22) (.c (.int .u8 97))),om 24 23,oF 25 24 (.mov (.s 4)),oF 26 24 (.bin .gtr false (.s 25) (.c (.int .u8 122))),oo 27 (.pick (.s 24) (.c (.bool true)) (.s 26)),om 28 27,oT 29 28 (.mov (.s 4)),oT 30 28 (.bin .lss false (.s 29) (.c (.int .u8 48))),oT 31 28 (.mov (.s 30)),
 oF 32 31 (.mov (.s 4)),oF 33 31 (.bin .gtr false (.s 32) (.c (.int .u8 57))),oT 34 28 (.pick (.s 31) (.c (.bool true)) (.s 33)),oo 35 (.pick (.s 28) (.s 34) (.c (.bool false))),om 36 35,oT 37 36 (.mov (.s 4)),oT 38 36 (.bin .neq false (.s 37) (.c (.int .u8 45))),
 oo 39 (.pick (.s 36) (.s 38) (.c (.bool false)))]) [0,3,39] (.cond (.s 39) (.seq (.region false [oo 2 (.mov (.c (.bool false)))]) [2] (.ret)) (.skip))))) [0,3] (.region false [om 17 3,oo 18 (.bin .add false (.s 17) (.c (.int .i64 1))),om 3 18])))))) [] (.seq (
 .region false [oo 2 (.mov (.c (.bool true)))]) [2] (.ret))))⟩
def tf87 : TFn := ⟨46,[.tmp 2,.tmp 3],.seq (.region false [oo 2 (.mov (.c (.int .i64 0))),oo 3 (.mov (.c (.bool false)))]) [0] (.seq (.seq (.region false [om 6 0,oo 7 (.lenStr (.s 6)),oo 8 (.bin .lss false (.s 7) (.c (.int .i64 1))),om 9 8,oF 10 9 (.mov (.s 0)),oF 11 9 (.lenStr (.s 10)),
 oF 12 9 (.bin .gtr false (.s 11) (.c (.int .i64 9))),oo 13 (.pick (.s 9) (.c (.bool true)) (.s 12)),om 14 13,oF 15 14 (.mov (.s 0)),oF 16 14 (.lenStr (.s 15)),oF 17 14 (.bin .gtr false (.s 16) (.c (.int .i64 1))),oF 18 14 (.mov (.s 17)),oT 19 18 (.mov (.s 0)),
 oT 20 18 (.indexStr (.s 19) (.c (.int .i64 0))),oT 21 18 (.bin .eql false (.s 20) (.c (.int .u8 48))),oF 22 14 (.pick (.s 18) (.s 21) (.c (.bool false))),oo 23 (.pick (.s 14) (.c (.bool true)) (.s 22))]) [0,23] (.cond (.s 23) (.seq (.region false [oo 2 (.mov (.c (.int .i64 0))),
 oo 3 (.mov (.c (.bool false)))]) [2,3] (.ret)) (.skip))) [0] (.seq (.region false [oo 4 (.mov (.c (.int .i64 0)))]) [0,4] (.seq (.seq (.region false [oo 5 (.mov (.c (.int .i64 0)))]) [0,4,5] (.block 0 (.loop (.seq (.seq (.region false [om 24 5,om 25 0,oo 26 (.lenStr (.s 25)),
 oo 27 (.bin .lss false (.s 24) (.s 26))]) [0,4,5,27] (.cond (.s 27) (.skip) (.exit 0))) [0,4,5] (.seq (.block 1 (.seq (.seq (.region false [om 30 0,om 31 5,oo 32 (.indexStr (.s 30) (.s 31)),oo 33 (.call 102 [(.s 32)]),oo 34 (.un .not (.s 33))]) [0,4,5,34] (.cond (.s 34) (.seq (
 .region false [oo 2 (.mov (.c (.int .i64 0))),oo 3 (.mov (.c (.bool false)))]) [2,3] (.ret)) (.skip))) [0,4,5] (.region false [om 35 4,oo 36 (.bin .mul false (.s 35) (.c (.int .i64 10))),om 37 0,om 38 5,oo 39 (.indexStr (.s 37) (.s 38)),oo 40 (.bin .sub false (.s 39) (.c (.int .u8 48))),
 oo 41 (.conv .i64 (.s 40)),oo 42 (.bin .add false (.s 36) (.s 41)),om 4 42]))) [0,4,5] (.region false [om 28 5,oo 29 (.bin .add false (.s 28) (.c (.int .i64 1))),om 5 29])))))) [4] (.seq (.seq (.region false [om 43 4,oo 44 (.bin .gtr false (.s 43) (.c (.int .i64 9999)))]) [4,44] (.cond (.s 44) (
 .seq (.region false [oo 2 (.mov (.c (.int .i64 0))),oo 3 (.mov (.c (.bool false)))]) [2,3] (.ret)) (.skip))) [4] (.seq (.region false [om 45 4,om 2 45,oo 3 (.mov (.c (.bool true)))]) [2,3] (.ret))))))⟩
def tf88 : TFn := ⟨23,[.tmp 2],.seq (.region false [oo 2 (.mov (.c (.bool false)))]) [0] (.seq (.seq (.region false [oo 3 (.mov (.c (.int .i64 0)))]) [0,3] (.block 0 (.loop (.seq (.seq (.region false [om 4 3,om 5 0,oo 6 (.lenStr (.s 5)),oo 7 (.bin .lss false (.s 4) (.s 6))]) [0,3,7] (.cond (.s 7) (
 .skip) (.exit 0))) [0,3] (.seq (.block 1 (.seq (.region false [om 10 0,om 11 3,oo 12 (.indexStr (.s 10) (.s 11)),oo 13 (.bin .lss false (.s 12) (.c (.int .u8 48))),om 14 13,oF 15 14 (.mov (.s 0)),oF 16 14 (.mov (.s 3)),oF 17 14 (.indexStr (.s 15) (.s 16)),
 oF 18 14 (.bin .gtr false (.s 17) (.c (.int .u8 57))),oo 19 (.pick (.s 14) (.c (.bool true)) (.s 18))]) [0,3,19] (.cond (.s 19) (.seq (.region false [oo 2 (.mov (.c (.bool false)))]) [2] (.ret)) (.skip)))) [0,3] (.region false [om 8 3,oo 9 (.bin .add false (.s 8) (.c (.int .i64 1))),
 om 3 9])))))) [0] (.seq (.region false [om 20 0,oo 21 (.lenStr (.s 20)),oo 22 (.bin .gtr false (.s 21) (.c (.int .i64 0))),om 2 22]) [2] (.ret)))⟩
def tf91 : TFn := ⟨47,[.cell 4 true 5,.tmp 5],.seq (.region false [oo 2 (.box 49 (.s 0)),oo 4 (.alloc 49 [(.int .i64 0),(.int .i64 0),(.int .i64 0),(.str []),(.str [])]),oo 5 (.mov (.c (.bool false)))]) [1,2,4] (.seq (.seq (.region false [oL 7 5 2,oo 8 (.call 46 [(.s 7)]),oo 9 (.un .not (.s 8)),
 om 10 9,oF 11 10 (.mov (.s 1)),oF 12 10 (.bin .lss false (.s 11) (.c (.int .i64 0))),oo 13 (.pick (.s 10) (.c (.bool true)) (.s 12)),om 14 13,oF 15 14 (.mov (.s 1)),oF 16 14 (.bin .gtr false (.s 15) (.c (.int .i64 2))),oo 17 (.pick (.s 14) (.c (.bool true)) (.s 16))]) [1,2,4,17] (.cond (.s 17) (
 .seq (.region false [oo 18 (.build [(.int .i64 0),(.int .i64 0),(.int .i64 0),(.str []),(.str [])] []),⟨none,.store 5 (.s 4) (.s 18),none⟩,oo 5 (.mov (.c (.bool false)))]) [4,5] (.ret)) (.skip))) [1,2,4] (.seq (
 .region false [oo 6 (.alloc 49 [(.int .i64 0),(.int .i64 0),(.int .i64 0),(.str []),(.str [])])]) [1,2,4,6] (.seq (.seq (.region false [om 19 1]) [2,4,6,19] (.block 0 (.seq (.region false [oo 29 (.bin .eql false (.s 19) (.c (.int .i64 0))),om 28 29]) [2,4,6,19,28] (.cond (.s 28) (
 .region false [oA 30 0 2,ol 31 1 30,oo 32 (.bin .add false (.s 31) (.c (.int .i64 1))),oo 33 (.build [(.int .i64 0),(.int .i64 0),(.int .i64 0),(.str []),(.str [])] [(0,1,(.s 32))]),⟨none,.store 5 (.s 6) (.s 33),none⟩]) (.seq (.region false [oo 35 (.bin .eql false (.s 19) (.c (.int .i64 1))),
 om 34 35]) [2,4,6,34] (.cond (.s 34) (.region false [oA 36 0 2,ol 37 1 36,oA 38 1 2,ol 39 1 38,oo 40 (.bin .add false (.s 39) (.c (.int .i64 1))),oo 41 (.build [(.int .i64 0),(.int .i64 0),(.int .i64 0),(.str []),(.str [])] [(0,1,(.s 37)),(1,1,(.s 40))]),⟨none,.store 5 (.s 6) (.s 41),none⟩]) (
 .region false [oA 20 0 2,ol 21 1 20,oA 22 1 2,ol 23 1 22,oA 24 2 2,ol 25 1 24,oo 26 (.bin .add false (.s 25) (.c (.int .i64 1))),oo 27 (.build [(.int .i64 0),(.int .i64 0),(.int .i64 0),(.str []),(.str [])] [(0,1,(.s 21)),(1,1,(.s 23)),(2,1,(.s 26))]),
 ⟨none,.store 5 (.s 6) (.s 27),none⟩]))))))) [4,6] (.seq (.seq (.region false [oL 42 5 6,oo 43 (.call 46 [(.s 42)]),oo 44 (.un .not (.s 43))]) [4,6,44] (.cond (.s 44) (.seq (.region false [oo 45 (.build [(.int .i64 0),(.int .i64 0),(.int .i64 0),(.str []),(.str [])] []),
 ⟨none,.store 5 (.s 4) (.s 45),none⟩,oo 5 (.mov (.c (.bool false)))]) [4,5] (.ret)) (.skip))) [4,6] (.seq (.region false [oL 46 5 6,⟨none,.store 5 (.s 4) (.s 46),none⟩,oo 5 (.mov (.c (.bool true)))]) [4,5] (.ret))))))⟩
def tf93 : TFn := ⟨19,[.tmp 2],.seq (.region false [oo 1 (.box 93 (.s 0)),oo 2 (.mov (.c (.bool false)))]) [1] (.seq (.region false [oA 3 0 1,oL 4 7 3,oo 5 (.call 103 [(.s 4)]),om 6 5,oT 7 6 (.fieldAddr 7 (.s 1)),oT 8 6 (.load true 7 (.s 7)),oT 9 6 (.call 103 [(.s 8)]),
 oo 10 (.pick (.s 6) (.s 9) (.c (.bool false))),om 11 10,oT 12 11 (.fieldAddr 0 (.s 1)),oT 13 11 (.load true 7 (.s 12)),oT 14 11 (.fieldAddr 7 (.s 1)),oT 15 11 (.load true 7 (.s 14)),oT 16 11 (.call 94 [(.s 13),(.s 15)]),oT 17 11 (.bin .lss false (.s 16) (.c (.int .i64 0))),
 oo 18 (.pick (.s 11) (.s 17) (.c (.bool false))),om 2 18]) [2] (.ret))⟩
def tf94 : TFn := ⟨42,[.tmp 4],.seq (.region false [oo 2 (.box 90 (.s 0)),oo 3 (.box 90 (.s 1)),oo 4 (.mov (.c (.int .i64 0)))]) [2,3] (.seq (.seq (.region false [oL 6 7 2,oo 7 (.call 103 [(.s 6)]),oo 8 (.un .not (.s 7)),om 9 8,oF 10 9 (.load true 7 (.s 3)),oF 11 9 (.call 103 [(.s 10)]),
 oF 12 9 (.un .not (.s 11)),oo 13 (.pick (.s 9) (.c (.bool true)) (.s 12))]) [2,3,13] (.cond (.s 13) (.seq (.region false [oo 4 (.mov (.c (.int .i64 0)))]) [4] (.ret)) (.seq (.region false [oA 14 0 2,ol 15 1 14,oo 16 (.bin .neq false (.s 15) (.c (.int .i64 0))),om 17 16,
 oF 18 17 (.fieldAddr 0 (.s 3)),oF 19 17 (.load false 1 (.s 18)),oF 20 17 (.bin .neq false (.s 19) (.c (.int .i64 0))),oo 21 (.pick (.s 17) (.c (.bool true)) (.s 20))]) [2,3,21] (.cond (.s 21) (.seq (.region false [oA 22 0 2,ol 23 1 22,oA 24 0 3,ol 25 1 24,oo 26 (.call 104 [(.s 23),(.s 25)]),
 om 4 26]) [4] (.ret)) (.seq (.region false [oA 27 1 2,oL 28 5 27,oA 29 1 3,oL 30 5 29,oo 31 (.call 105 [(.s 28),(.s 30)]),om 5 31]) [2,3,5] (.seq (.region false [om 32 5,oo 33 (.bin .neq false (.s 32) (.c (.int .i64 0)))]) [2,3,5,33] (.cond (.s 33) (.seq (.region false [om 34 5,om 4 34]) [4] (
 .ret)) (.seq (.region false [oA 35 6 2,ol 36 1 35,oA 37 6 3,ol 38 1 37,oo 39 (.bin .eql true (.s 36) (.s 38))]) [3,39] (.cond (.s 39) (.seq (.region false [oo 4 (.mov (.c (.int .i64 0)))]) [4] (.ret)) (.seq (.region false [oA 40 6 3,ol 41 1 40]) [41] (.cond (.s 41) (.seq (
 .region false [oo 4 (.mov (.c (.int .i64 (-1))))]) [4] (.ret)) (.skip)))))))))))) [] (.seq (.region false [oo 4 (.mov (.c (.int .i64 1)))]) [4] (.ret)))⟩
def tf95 : TFn := ⟨34,[.tmp 4],.seq (.region false [oo 4 (.mov (.c (.fsl [])))]) [0,1] (.seq (.region false [oo 5 (.mov (.c (.fsl [])))]) [0,1,5] (.seq (.region false [oo 6 (.mov (.c (.int .i64 0)))]) [0,1,5,6] (.seq (.seq (.region false [om 8 0,oo 9 (.lenStr (.s 8)),
 oo 10 (.mov (.c (.int .i64 0)))]) [0,1,5,6,9,10] (.block 0 (.loop (.seq (.region false [oo 11 (.bin .lss false (.s 10) (.s 9))]) [0,1,5,6,9,10,11] (.seq (.cond (.s 11) (.skip) (.exit 0)) [0,1,5,6,9,10] (.seq (.block 1 (.seq (.region false [om 12 10,om 7 12]) [0,1,5,6,7,9,10] (.seq (
 .region false [om 13 0,om 14 7,oo 15 (.indexStr (.s 13) (.s 14)),om 16 1,oo 17 (.bin .eql false (.s 15) (.s 16))]) [0,1,5,6,7,9,10,17] (.cond (.s 17) (.seq (.region false [om 18 5,om 19 0,om 20 6,om 21 7,oo 22 (.sliceStr (.s 19) (some (.s 20)) (some (.s 21))),oo 23 (.buildSlice 1 9 [(.s 22)]),
 oo 24 (.append 1 9 16 (.s 18) (.s 23)),om 5 24]) [0,1,5,7,9,10] (.region false [om 25 7,oo 26 (.bin .add false (.s 25) (.c (.int .i64 1))),om 6 26])) (.skip))))) [0,1,5,6,9,10] (.region false [oo 27 (.bin .add false (.s 10) (.c (.int .i64 1))),om 10 27]))))))) [0,5,6] (.seq (
 .region false [om 28 5,om 29 0,om 30 6,oo 31 (.sliceStr (.s 29) (some (.s 30)) none),oo 32 (.buildSlice 1 9 [(.s 31)]),oo 33 (.append 1 9 16 (.s 28) (.s 32)),om 4 33]) [4] (.ret)))))⟩
def tf96 : TFn := ⟨45,[.tmp 2,.tmp 3],.seq (.region false [oo 2 (.mov (.c (.int .i64 0))),oo 3 (.mov (.c (.bool false)))]) [0] (.seq (.seq (.region false [om 7 0,oo 8 (.bin .eql false (.s 7) (.c (.str []))),om 9 8,oF 10 9 (.mov (.s 0)),oF 11 9 (.lenStr (.s 10)),
 oF 12 9 (.bin .gtr false (.s 11) (.c (.int .i64 4))),oo 13 (.pick (.s 9) (.c (.bool true)) (.s 12)),om 14 13,oF 15 14 (.mov (.s 0)),oF 16 14 (.indexStr (.s 15) (.c (.int .i64 0))),oF 17 14 (.bin .eql false (.s 16) (.c (.int .u8 48))),oF 18 14 (.mov (.s 17)),oT 19 18 (.mov (.s 0)),
 oT 20 18 (.lenStr (.s 19)),oT 21 18 (.bin .gtr false (.s 20) (.c (.int .i64 1))),oF 22 14 (.pick (.s 18) (.s 21) (.c (.bool false))),oo 23 (.pick (.s 14) (.c (.bool true)) (.s 22))]) [0,23] (.cond (.s 23) (.seq (.region false [oo 2 (.mov (.c (.int .i64 0))),oo 3 (.mov (.c (.bool false)))]) [2,3] (
 .ret)) (.skip))) [0] (.seq (.region false [oo 4 (.mov (.c (.int .i64 0)))]) [0,4] (.seq (.seq (.region false [om 24 0,oo 25 (.range (.s 24))]) [4,25] (.block 0 (.loop (.seq (.region false [oo 26 (.next (.s 25)),oe 27 0 26]) [4,25,26,27] (.seq (.cond (.s 27) (.skip) (.exit 0)) [4,25,26] (.block 1 (
 .seq (.region false [oe 28 2 26,om 6 28]) [4,6,25] (.block 2 (.seq (.region false [om 30 6,oo 31 (.bin .geq false (.s 30) (.c (.int .i32 48))),om 32 31,oT 33 32 (.mov (.s 6)),oT 34 32 (.bin .leq false (.s 33) (.c (.int .i32 57))),oo 35 (.pick (.s 32) (.s 34) (.c (.bool false))),
 om 29 35]) [4,6,25,29] (.cond (.s 29) (.region false [om 36 4,oo 37 (.bin .mul false (.c (.int .i64 10)) (.s 36)),om 38 6,oo 39 (.bin .sub false (.s 38) (.c (.int .i32 48))),oo 40 (.conv .i64 (.s 39)),oo 41 (.bin .add false (.s 37) (.s 40)),om 4 41]) (.seq (
 .region false [oo 2 (.mov (.c (.int .i64 0))),oo 3 (.mov (.c (.bool false)))]) [2,3] (.ret)))))))))))) [4] (.seq (.region false [om 42 4,om 43 4,oo 44 (.bin .leq false (.s 43) (.c (.int .i64 9999))),om 2 42,om 3 44]) [2,3] (.ret)))))⟩
def tf97 : TFn := ⟨22,[.tmp 2],.seq (.region false [oo 2 (.mov (.c (.bool false)))]) [0] (.seq (.seq (.region false [om 4 0,oo 5 (.lenStr (.s 4)),oo 6 (.mov (.c (.int .i64 0)))]) [0,5,6] (.block 0 (.loop (.seq (.region false [oo 7 (.bin .lss false (.s 6) (.s 5))]) [0,5,6,7] (.seq (.cond (.s 7) (
 .skip) (.exit 0)) [0,5,6] (.seq (.block 1 (.seq (.region false [om 8 6,om 3 8]) [0,3,5,6] (.seq (.region false [om 9 0,om 10 3,oo 11 (.indexStr (.s 9) (.s 10)),oo 12 (.bin .lss false (.s 11) (.c (.int .u8 48))),om 13 12,oF 14 13 (.mov (.s 0)),oF 15 13 (.mov (.s 3)),
 oF 16 13 (.indexStr (.s 14) (.s 15)),oF 17 13 (.bin .gtr false (.s 16) (.c (.int .u8 57))),oo 18 (.pick (.s 13) (.c (.bool true)) (.s 17))]) [0,5,6,18] (.cond (.s 18) (.seq (.region false [oo 2 (.mov (.c (.bool false)))]) [2] (.ret)) (.skip))))) [0,5,6] (
 .region false [oo 19 (.bin .add false (.s 6) (.c (.int .i64 1))),om 6 19]))))))) [0] (.seq (.region false [om 20 0,oo 21 (.bin .neq false (.s 20) (.c (.str []))),om 2 21]) [2] (.ret)))⟩
def tf98 : TFn := ⟨35,[.tmp 4],.seq (.region false [oo 2 (.box 90 (.s 0)),oo 3 (.box 49 (.s 1)),oo 4 (.mov (.c (.bool false)))]) [2,3] (.seq (.seq (.region false [oL 6 7 2,oo 7 (.call 103 [(.s 6)]),oo 8 (.un .not (.s 7)),om 9 8,oF 10 9 (.load true 5 (.s 3)),oF 11 9 (.call 60 [(.s 10)]),
 oF 12 9 (.un .not (.s 11)),oo 13 (.pick (.s 9) (.c (.bool true)) (.s 12))]) [2,3,13] (.cond (.s 13) (.seq (.region false [oo 4 (.mov (.c (.bool false)))]) [4] (.ret)) (.seq (.region false [oA 14 0 2,ol 15 1 14,oo 16 (.bin .neq false (.s 15) (.c (.int .i64 0)))]) [2,3,16] (.cond (.s 16) (.seq (
 .region false [oA 17 0 2,ol 18 1 17,oo 19 (.bin .lss false (.s 18) (.c (.int .i64 0))),om 4 19]) [4] (.ret)) (.skip))))) [2,3] (.seq (.region false [oA 20 1 2,oL 21 5 20,oL 22 5 3,oo 23 (.call 105 [(.s 21),(.s 22)]),om 5 23]) [2,5] (.seq (.region false [om 24 5,
 oo 25 (.bin .lss false (.s 24) (.c (.int .i64 0))),om 26 25,oF 27 26 (.mov (.s 5)),oF 28 26 (.bin .eql false (.s 27) (.c (.int .i64 0))),oF 29 26 (.mov (.s 28)),oT 30 29 (.fieldAddr 6 (.s 2)),oT 31 29 (.load false 1 (.s 30)),oT 32 29 (.un .not (.s 31)),
 oF 33 26 (.pick (.s 29) (.s 32) (.c (.bool false))),oo 34 (.pick (.s 26) (.c (.bool true)) (.s 33)),om 4 34]) [4] (.ret))))⟩
def tf102 : TFn := ⟨9,[.tmp 2],.seq (.region false [oo 2 (.mov (.c (.bool false)))]) [0] (.seq (.region false [om 3 0,oo 4 (.bin .geq false (.s 3) (.c (.int .u8 48))),om 5 4,oT 6 5 (.mov (.s 0)),oT 7 5 (.bin .leq false (.s 6) (.c (.int .u8 57))),oo 8 (.pick (.s 5) (.s 7) (.c (.bool false))),
 om 2 8]) [2] (.ret))⟩
def tf103 : TFn := ⟨32,[.tmp 2],.seq (.region false [oo 1 (.box 90 (.s 0)),oo 2 (.mov (.c (.bool false)))]) [1] (.seq (.seq (.region false [oA 3 0 1,ol 4 1 3,oo 5 (.bin .eql false (.s 4) (.c (.int .i64 (-1)))),om 6 5,oF 7 6 (.fieldAddr 0 (.s 1)),oF 8 6 (.load false 1 (.s 7)),
 oF 9 6 (.bin .eql false (.s 8) (.c (.int .i64 1))),oo 10 (.pick (.s 6) (.c (.bool true)) (.s 9))]) [1,10] (.cond (.s 10) (.seq (.region false [oA 11 1 1,oL 12 5 11,oo 13 (.build [(.int .i64 0),(.int .i64 0),(.int .i64 0),(.str []),(.str [])] []),oo 14 (.eqs false [0,0,0,2,2] (.s 12) (.s 13)),
 om 15 14,oT 16 15 (.fieldAddr 6 (.s 1)),oT 17 15 (.load false 1 (.s 16)),oT 18 15 (.un .not (.s 17)),oo 19 (.pick (.s 15) (.s 18) (.c (.bool false))),om 2 19]) [2] (.ret)) (.seq (.region false [oA 20 0 1,ol 21 1 20,oo 22 (.bin .neq false (.s 21) (.c (.int .i64 0)))]) [1,22] (.cond (.s 22) (.seq (
 .region false [oo 2 (.mov (.c (.bool false)))]) [2] (.ret)) (.skip))))) [1] (.seq (.region false [oA 23 1 1,oL 24 5 23,oo 25 (.call 60 [(.s 24)]),om 26 25,oT 27 26 (.fieldAddr 1 (.s 1)),oT 28 26 (.fieldAddr 4 (.s 27)),oT 29 26 (.load false 1 (.s 28)),
 oT 30 26 (.bin .eql false (.s 29) (.c (.str []))),oo 31 (.pick (.s 26) (.s 30) (.c (.bool false))),om 2 31]) [2] (.ret)))⟩
def tf104 : TFn := ⟨20,[.tmp 4],.seq (.region false [oo 4 (.mov (.c (.int .i64 0)))]) [0,1] (.seq (.region false [om 7 0,oo 8 (.call 107 [(.s 7)]),om 5 8]) [0,1,5] (.seq (.region false [om 9 1,oo 10 (.call 107 [(.s 9)]),om 6 10]) [0,1,5,6] (.seq (.seq (.region false [om 11 5]) [0,1,6,11] (
 .cond (.s 11) (.seq (.seq (.region false [om 12 6]) [12] (.cond (.s 12) (.seq (.region false [oo 4 (.mov (.c (.int .i64 0)))]) [4] (.ret)) (.skip))) [] (.seq (.region false [oo 4 (.mov (.c (.int .i64 (-1))))]) [4] (.ret))) (.skip))) [0,1,6] (.seq (.seq (.region false [om 13 6]) [0,1,13] (
 .cond (.s 13) (.seq (.region false [oo 4 (.mov (.c (.int .i64 1)))]) [4] (.ret)) (.skip))) [0,1] (.seq (.seq (.region false [om 14 0,om 15 1,oo 16 (.bin .lss false (.s 14) (.s 15))]) [0,1,16] (.cond (.s 16) (.seq (.region false [oo 4 (.mov (.c (.int .i64 (-1))))]) [4] (.ret)) (.skip))) [0,1] (
 .seq (.seq (.region false [om 17 0,om 18 1,oo 19 (.bin .gtr false (.s 17) (.s 18))]) [19] (.cond (.s 19) (.seq (.region false [oo 4 (.mov (.c (.int .i64 1)))]) [4] (.ret)) (.skip))) [] (.seq (.region false [oo 4 (.mov (.c (.int .i64 0)))]) [4] (.ret))))))))⟩
def tf105 : TFn := ⟨86,[.tmp 4],.seq (.region false [oo 2 (.box 49 (.s 0)),oo 3 (.box 49 (.s 1)),oo 4 (.mov (.c (.int .i64 0)))]) [2,3] (.seq (.seq (.region true [oL 10 5 2,oo 11 (.call 60 [(.s 10)]),oo 12 (.un .not (.s 11)),om 13 12,oF 14 13 (.load true 5 (.s 3)),oF 15 13 (.call 60 [(.s 14)]),
 oF 16 13 (.un .not (.s 15)),oo 17 (.pick (.s 13) (.c (.bool true)) (.s 16)),om 18 17,oF 19 18 (.load true 5 (.s 2)),oF 20 18 (.call 108 [(.s 19)]),oF 21 18 (.load true 5 (.s 3)),oF 22 18 (.call 108 [(.s 21)]),oF 23 18 (.eqs false [0,0,0,2,2] (.s 20) (.s 22)),
 oo 24 (.pick (.s 18) (.c (.bool true)) (.s 23))]) [2,3,24] (.cond (.s 24) (.seq (.region false [oo 4 (.mov (.c (.int .i64 0)))]) [4] (.ret)) (.skip))) [2,3] (.seq (.seq (.region true [oA 25 0 2,ol 26 1 25,oA 27 0 3,ol 28 1 27,oo 29 (.call 104 [(.s 26),(.s 28)]),oA 30 1 2,ol 31 1 30,oA 32 1 3,
 ol 33 1 32,oo 34 (.call 104 [(.s 31),(.s 33)]),oA 35 2 2,ol 36 1 35,oA 37 2 3,ol 38 1 37,oo 39 (.call 104 [(.s 36),(.s 38)]),oo 40 (.buildSlice 1 3 [(.s 29),(.s 34),(.s 39)]),oo 41 (.call 109 [(.s 40)]),om 5 41]) [2,3,5] (.seq (.region false [om 42 5,
 oo 43 (.bin .neq false (.s 42) (.c (.int .i64 0)))]) [2,3,5,43] (.cond (.s 43) (.seq (.region false [om 44 5,om 4 44]) [4] (.ret)) (.skip)))) [2,3] (.seq (.seq (.region false [oA 45 3 2,ol 46 1 45,oo 47 (.bin .eql false (.s 46) (.c (.str [])))]) [2,3,47] (.cond (.s 47) (.seq (
 .region false [oo 4 (.mov (.c (.int .i64 1)))]) [4] (.ret)) (.skip))) [2,3] (.seq (.seq (.region false [oA 48 3 3,ol 49 1 48,oo 50 (.bin .eql false (.s 49) (.c (.str [])))]) [2,3,50] (.cond (.s 50) (.seq (.region false [oo 4 (.mov (.c (.int .i64 (-1))))]) [4] (.ret)) (.skip))) [2,3] (.seq (
 .region true [oA 51 3 2,ol 52 1 51,oo 53 (.call 95 [(.s 52),(.c (.int .u8 46))]),oA 54 3 3,ol 55 1 54,oo 56 (.call 95 [(.s 55),(.c (.int .u8 46))]),om 6 53,om 7 56]) [6,7] (.seq (.seq (.region false [oo 8 (.mov (.c (.int .i64 0)))]) [6,7,8] (.block 0 (.loop (.seq (.seq (.region false [om 57 8,
 om 58 6,oo 59 (.len (.s 58)),oo 60 (.bin .lss false (.s 57) (.s 59)),om 61 60,oT 62 61 (.mov (.s 8)),oT 63 61 (.mov (.s 7)),oT 64 61 (.len (.s 63)),oT 65 61 (.bin .lss false (.s 62) (.s 64)),oo 66 (.pick (.s 61) (.s 65) (.c (.bool false)))]) [6,7,8,66] (.cond (.s 66) (.skip) (.exit 0))) [6,7,8] (
 .seq (.block 1 (.seq (.region true [om 69 6,om 70 8,oo 71 (.indexAddr 1 (.s 69) (.s 70)),ol 72 1 71,om 73 7,om 74 8,oo 75 (.indexAddr 1 (.s 73) (.s 74)),ol 76 1 75,oo 77 (.call 110 [(.s 72),(.s 76)]),om 9 77]) [6,7,8,9] (.seq (.region false [om 78 9,
 oo 79 (.bin .neq false (.s 78) (.c (.int .i64 0)))]) [6,7,8,9,79] (.cond (.s 79) (.seq (.region false [om 80 9,om 4 80]) [4] (.ret)) (.skip))))) [6,7,8] (.region false [om 67 8,oo 68 (.bin .add false (.s 67) (.c (.int .i64 1))),om 8 68])))))) [6,7] (.seq (.region false [om 81 6,
 oo 82 (.len (.s 81)),om 83 7,oo 84 (.len (.s 83)),oo 85 (.call 104 [(.s 82),(.s 84)]),om 4 85]) [4] (.ret))))))))⟩
def tf107 : TFn := ⟨6,[.tmp 2],.seq (.region false [oo 2 (.mov (.c (.bool false)))]) [0] (.seq (.region false [om 3 0,om 4 0,oo 5 (.bin .neq false (.s 3) (.s 4)),om 2 5]) [2] (.ret))⟩
def tf108 : TFn := ⟨5,[.cell 2 true 5],.seq (.region false [oo 1 (.box 49 (.s 0)),oo 2 (.alloc 49 [(.int .i64 0),(.int .i64 0),(.int .i64 0),(.str []),(.str [])])]) [1,2] (.seq (.region false [oA 3 4 1,⟨none,.store 1 (.s 3) (.c (.str [])),none⟩]) [1,2] (.seq (.region false [oL 4 5 1,
 ⟨none,.store 5 (.s 2) (.s 4),none⟩]) [2] (.ret)))⟩
def tf109 : TFn := ⟨18,[.tmp 2],.seq (.region false [oo 2 (.mov (.c (.int .i64 0)))]) [0] (.seq (.region false [oo 3 (.mov (.c (.int .i64 0)))]) [0,3] (.seq (.seq (.region false [om 6 0,oo 7 (.len (.s 6)),oo 8 (.mov (.c (.int .i64 0)))]) [3,6,7,8] (.block 0 (.loop (.seq (
 .region false [oo 9 (.bin .lss false (.s 8) (.s 7))]) [3,6,7,8,9] (.seq (.cond (.s 9) (.skip) (.exit 0)) [3,6,7,8] (.seq (.block 1 (.seq (.region false [oo 10 (.indexAddr 1 (.s 6) (.s 8)),ol 11 1 10,om 5 11]) [3,5,6,7,8] (.seq (.region false [om 12 5,om 13 3,
 oo 14 (.bin .neq false (.s 12) (.s 13))]) [3,5,6,7,8,14] (.cond (.s 14) (.seq (.region false [om 15 5,om 2 15]) [2] (.ret)) (.skip))))) [3,6,7,8] (.region false [oo 16 (.bin .add false (.s 8) (.c (.int .i64 1))),om 8 16]))))))) [3] (.seq (.region false [om 17 3,om 2 17]) [2] (.ret))))⟩
def tf110 : TFn := ⟨39,[.tmp 4],.seq (.region false [oo 4 (.mov (.c (.int .i64 0)))]) [0,1] (.seq (.region false [om 11 0,oo 12 (.call 97 [(.s 11)]),om 13 1,oo 14 (.call 97 [(.s 13)]),om 5 12,om 6 14]) [0,1,5,6] (.seq (.seq (.region false [om 15 5,om 16 15,oT 17 16 (.mov (.s 6)),
 oo 18 (.pick (.s 16) (.s 17) (.c (.bool false)))]) [0,1,5,6,18] (.cond (.s 18) (.seq (.region false [om 20 0,oo 21 (.call 96 [(.s 20)]),om 19 21,oe 22 0 19,oe 23 1 19,om 7 22,om 8 23]) [1,7] (.seq (.region false [om 25 1,oo 26 (.call 96 [(.s 25)]),om 24 26,oe 27 0 24,oe 28 1 24,om 9 27,
 om 10 28]) [7,9] (.seq (.region false [om 29 7,om 30 9,oo 31 (.call 104 [(.s 29),(.s 30)]),om 4 31]) [4] (.ret)))) (.skip))) [0,1,5,6] (.seq (.seq (.region false [om 32 5,om 33 6,oo 34 (.bin .neq true (.s 32) (.s 33))]) [0,1,5,34] (.cond (.s 34) (.seq (.seq (.region false [om 35 5]) [35] (
 .cond (.s 35) (.seq (.region false [oo 4 (.mov (.c (.int .i64 (-1))))]) [4] (.ret)) (.skip))) [] (.seq (.region false [oo 4 (.mov (.c (.int .i64 1)))]) [4] (.ret))) (.skip))) [0,1] (.seq (.region false [om 36 0,om 37 1,oo 38 (.call 112 [(.s 36),(.s 37)]),om 4 38]) [4] (.ret)))))⟩
def tf112 : TFn := ⟨20,[.tmp 4],.seq (.region false [oo 4 (.mov (.c (.int .i64 0)))]) [0,1] (.seq (.region false [om 7 0,oo 8 (.call 114 [(.s 7)]),om 5 8]) [0,1,5] (.seq (.region false [om 9 1,oo 10 (.call 114 [(.s 9)]),om 6 10]) [0,1,5,6] (.seq (.seq (.region false [om 11 5]) [0,1,6,11] (
 .cond (.s 11) (.seq (.seq (.region false [om 12 6]) [12] (.cond (.s 12) (.seq (.region false [oo 4 (.mov (.c (.int .i64 0)))]) [4] (.ret)) (.skip))) [] (.seq (.region false [oo 4 (.mov (.c (.int .i64 (-1))))]) [4] (.ret))) (.skip))) [0,1,6] (.seq (.seq (.region false [om 13 6]) [0,1,13] (
 .cond (.s 13) (.seq (.region false [oo 4 (.mov (.c (.int .i64 1)))]) [4] (.ret)) (.skip))) [0,1] (.seq (.seq (.region false [om 14 0,om 15 1,oo 16 (.bin .lss false (.s 14) (.s 15))]) [0,1,16] (.cond (.s 16) (.seq (.region false [oo 4 (.mov (.c (.int .i64 (-1))))]) [4] (.ret)) (.skip))) [0,1] (
 .seq (.seq (.region false [om 17 0,om 18 1,oo 19 (.bin .gtr false (.s 17) (.s 18))]) [19] (.cond (.s 19) (.seq (.region false [oo 4 (.mov (.c (.int .i64 1)))]) [4] (.ret)) (.skip))) [] (.seq (.region false [oo 4 (.mov (.c (.int .i64 0)))]) [4] (.ret))))))))⟩
def tf114 : TFn := ⟨6,[.tmp 2],.seq (.region false [oo 2 (.mov (.c (.bool false)))]) [0] (.seq (.region false [om 3 0,om 4 0,oo 5 (.bin .neq false (.s 3) (.s 4)),om 2 5]) [2] (.ret))⟩
theorem tp4 : QL Tryd.prog Tryd.f4 = some tf4.erase := by kernel_rfl
theorem QlK : QL Tryd.prog Tryd.f13 = some tf13.erase := by kernel_rfl
theorem QlL : QL Tryd.prog Tryd.f15 = some tf15.erase := by kernel_rfl
theorem QlM : QL Tryd.prog Tryd.f17 = some tf17.erase := by kernel_rfl
theorem QlN : QL Tryd.prog Tryd.f18 = some tf18.erase := by kernel_rfl
theorem QlO : QL Tryd.prog Tryd.f19 = some tf19.erase := by kernel_rfl
theorem QlP : QL Tryd.prog Tryd.f21 = some tf21.erase := by kernel_rfl
theorem QlQ : QL Tryd.prog Tryd.f26 = some tf26.erase := by kernel_rfl
theorem QlR : QL Tryd.prog Tryd.f36 = some tf36.erase := by kernel_rfl
theorem QlS : QL Tryd.prog Tryd.f39 = some tf39.erase := by kernel_rfl
theorem QlT : QL Tryd.prog Tryd.f40 = some tf40.erase := by kernel_rfl
theorem QlU : QL Tryd.prog Tryd.f42 = some tf42.erase := by kernel_rfl
theorem QlV : QL Tryd.prog Tryd.f43 = some tf43.erase := by kernel_rfl
theorem QlW : QL Tryd.prog Tryd.f44 = some tf44.erase := by kernel_rfl
theorem QlX : QL Tryd.prog Tryd.f46 = some tf46.erase := by kernel_rfl
theorem QlY : QL Tryd.prog Tryd.f48 = some tf48.erase := by kernel_rfl
theorem QlZ : QL Tryd.prog Tryd.f52 = some tf52.erase := by kernel_rfl
theorem Ql0 : QL Tryd.prog Tryd.f53 = some tf53.erase := by kernel_rfl
theorem Ql1 : QL Tryd.prog Tryd.f54 = some tf54.erase := by kernel_rfl
theorem Ql2 : QL Tryd.prog Tryd.f55 = some tf55.erase := by kernel_rfl
theorem Ql3 : QL Tryd.prog Tryd.f56 = some tf56.erase := by kernel_rfl
theorem Ql4 : QL Tryd.prog Tryd.f59 = some tf59.erase := by kernel_rfl
theorem Ql5 : QL Tryd.prog Tryd.f60 = some tf60.erase := by kernel_rfl
theorem Ql6 : QL Tryd.prog Tryd.f61 = some tf61.erase := by kernel_rfl
theorem Ql7 : QL Tryd.prog Tryd.f64 = some tf64.erase := by kernel_rfl
theorem Ql8 : QL Tryd.prog Tryd.f65 = some tf65.erase := by kernel_rfl
theorem Ql9 : QL Tryd.prog Tryd.f71 = some tf71.erase := by kernel_rfl
theorem Qma : QL Tryd.prog Tryd.f72 = some tf72.erase := by kernel_rfl
theorem Qmb : QL Tryd.prog Tryd.f73 = some tf73.erase := by kernel_rfl
theorem Qmc : QL Tryd.prog Tryd.f74 = some tf74.erase := by kernel_rfl
theorem Qmd : QL Tryd.prog Tryd.f75 = some tf75.erase := by kernel_rfl
theorem Qme : QL Tryd.prog Tryd.f77 = some tf77.erase := by kernel_rfl
theorem Qmf : QL Tryd.prog Tryd.f78 = some tf78.erase := by kernel_rfl
theorem Qmg : QL Tryd.prog Tryd.f79 = some tf79.erase := by kernel_rfl
theorem Qmh : QL Tryd.prog Tryd.f80 = some tf80.erase := by kernel_rfl
theorem Qmi : QL Tryd.prog Tryd.f81 = some tf81.erase := by kernel_rfl
theorem Qmj : QL Tryd.prog Tryd.f82 = some tf82.erase := by kernel_rfl
theorem Qmk : QL Tryd.prog Tryd.f85 = some tf85.erase := by kernel_rfl
theorem Qml : QL Tryd.prog Tryd.f86 = some tf86.erase := by kernel_rfl
theorem Qmm : QL Tryd.prog Tryd.f87 = some tf87.erase := by kernel_rfl
theorem Qmn : QL Tryd.prog Tryd.f88 = some tf88.erase := by kernel_rfl
theorem Qmo : QL Tryd.prog Tryd.f91 = some tf91.erase := by kernel_rfl
theorem Qmp : QL Tryd.prog Tryd.f93 = some tf93.erase := by kernel_rfl
theorem Qmq : QL Tryd.prog Tryd.f94 = some tf94.erase := by kernel_rfl
theorem Qmr : QL Tryd.prog Tryd.f95 = some tf95.erase := by kernel_rfl
theorem Qms : QL Tryd.prog Tryd.f96 = some tf96.erase := by kernel_rfl
theorem Qmt : QL Tryd.prog Tryd.f97 = some tf97.erase := by kernel_rfl
theorem Qmu : QL Tryd.prog Tryd.f98 = some tf98.erase := by kernel_rfl
theorem Qlj : QL Tryd.prog Tryd.f102 = some tf102.erase := by kernel_rfl
theorem Qlk : QL Tryd.prog Tryd.f103 = some tf103.erase := by kernel_rfl
theorem Qll : QL Tryd.prog Tryd.f104 = some tf104.erase := by kernel_rfl
theorem Qlm : QL Tryd.prog Tryd.f105 = some tf105.erase := by kernel_rfl
theorem Qln : QL Tryd.prog Tryd.f107 = some tf107.erase := by kernel_rfl
theorem Qlo : QL Tryd.prog Tryd.f108 = some tf108.erase := by kernel_rfl
theorem Qlp : QL Tryd.prog Tryd.f109 = some tf109.erase := by kernel_rfl
theorem Qlq : QL Tryd.prog Tryd.f110 = some tf110.erase := by kernel_rfl
theorem Qlr : QL Tryd.prog Tryd.f112 = some tf112.erase := by kernel_rfl
theorem Qls : QL Tryd.prog Tryd.f114 = some tf114.erase := by kernel_rfl
theorem Z9 : Tryd.prog.follows .mixedOrders = true := by kernel_rfl
end Go.Proofs
namespace M3
open Go Go.Abs
def QcS (n : Int) : Bool := decide (0 <= n) && decide (n <= 9999)
def Zj (m n : Int) : Int := if m < n then -1 else if n < m then 1 else 0
def ZB (c : UInt8) : Bool := decide (48 <= c.toNat) && decide (c.toNat <= 57)
def ZZ (s : List UInt8) : Bool := s.all ZB && !decide (s = [])
theorem Qag {s : List UInt8} {i : Nat} (h : i < s.length) (hd : ZB s[i] = false) : ZZ s = false := by
 have : s.all ZB = false := by
  rw [Bool.eq_false_iff]
  intro ha
  rw [List.all_eq_true] at ha
  rw [ha _ (List.getElem_mem h)] at hd
  cases hd
 rw [ZZ, this]; rfl
theorem Qcy {s : List UInt8} {i : Nat} (hi : s.length <= i) (h : (s.take i).all ZB = true) : ZZ s = !decide (s = []) := by
 rw [List.take_of_length_le hi] at h
 rw [ZZ, h]; rfl
def Qia (l : List Int) : D := .sl (l.map fun x => [.int .i64 x])
end M3
namespace M3
open Go Go.Abs
def Y9 (c : Int) : List UInt8 -> List UInt8 -> List (List UInt8)
 | [], cur => [cur]
 | x :: xs, cur => if (x.toNat : Int) = c then cur :: Y9 c xs [] else Y9 c xs (cur ++ [x])
def QM (s : List UInt8) (c : Int) : List (List UInt8) := Y9 c s []
def Ya (l : List (List UInt8)) : List (List D) := l.map fun x => [.str x]
def SplitI (s : List UInt8) (c : Int) (i k : Nat) (acc : List (List UInt8)) : Prop :=
 i <= s.length /\ k <= i /\ acc.length <= i /\ QM s c = acc ++ Y9 c (s.drop i) ((s.take i).drop k)
theorem SplitI.zero {s : List UInt8} {c : Int} : SplitI s c 0 0 [] := ⟨Nat.zero_le _, Nat.le_refl _, Nat.le_refl _, by simp [QM]⟩
theorem SplitI.hit {s : List UInt8} {c : Int} {i k : Nat} {acc : List (List UInt8)} (h : SplitI s c i k acc) (hi : i < s.length) (he : ((s[i]).toNat : Int) = c) : SplitI s c (i + 1) (i + 1) (acc ++ [(s.take i).drop k]) := by
 obtain ⟨h1, h2, h3, h4⟩ := h
 refine ⟨hi, Nat.le_refl _, by simp; omega, ?_⟩
 rw [List.drop_eq_getElem_cons hi] at h4
 simp only [Y9, he, if_true] at h4
 rw [h4, List.append_assoc]
 simp
theorem SplitI.miss {s : List UInt8} {c : Int} {i k : Nat} {acc : List (List UInt8)} (h : SplitI s c i k acc) (hi : i < s.length) (he : ¬ ((s[i]).toNat : Int) = c) : SplitI s c (i + 1) k acc := by
 obtain ⟨h1, h2, h3, h4⟩ := h
 refine ⟨hi, by omega, by omega, ?_⟩
 rw [List.drop_eq_getElem_cons hi] at h4
 simp only [Y9, he, if_false] at h4
 rw [h4, List.take_succ_eq_append_getElem hi, List.drop_append_of_le_length (by simp; omega)]
theorem SplitI.done {s : List UInt8} {c : Int} {i k : Nat} {acc : List (List UInt8)} (h : SplitI s c i k acc) (hi : s.length <= i) : QM s c = acc ++ [s.drop k] := by
 obtain ⟨h1, h2, h3, h4⟩ := h
 rw [h4, List.drop_eq_nil_of_le hi, List.take_of_length_le hi]
 rfl
end M3
namespace M3
open Go Go.Abs
def Qbt (a b : List UInt8) : Int := if Op.bytesLess a b = true then -1 else if a = b then 0 else 1
def Yp (c : Int) : Bool := decide (48 <= c) && decide (c <= 57)
def Zb (c : UInt8) : Bool := (decide (97 <= c.toNat) && decide (c.toNat <= 122)) || (decide (48 <= c.toNat) && decide (c.toNat <= 57)) || decide (c.toNat = 45)
def XK (s : List UInt8) : Bool := decide (1 <= s.length) && decide (s.length <= 8) && s.all Zb
def val (s : List UInt8) : Nat := s.foldl (fun n c => 10 * n + (c.toNat - 48)) 0
def Zu (s : List UInt8) : Int × Bool :=
 if s.length < 1 \/ 9 < s.length \/ (1 < s.length /\ s.head? = some 48) \/ s.all ZB = false \/ 9999 < val s then (0, false) else ((val s : Int), true)
def Qe5 (a b : List UInt8) : Int :=
 if ZZ a = true /\ ZZ b = true then Zj (Zu a).1 (Zu b).1
 else if ZZ a = true then -1 else if ZZ b = true then 1 else Qbt a b
def Qgy : List (List UInt8) -> List (List UInt8) -> Int
 | [], [] => 0
 | [], _ :: _ => -1
 | _ :: _, [] => 1
 | a :: l, b :: m => if Qe5 a b ≠ 0 then Qe5 a b else Qgy l m
def Qgx (a b : List UInt8) : Int := if a = b then 0 else if a = [] then 1 else if b = [] then -1 else Qgy (QM a 46) (QM b 46)
def Qar (pre : Bool) (t : List UInt8) : Bool := XK t && !(pre && ZZ t && !(Zu t).2)
def Y8 (s : List UInt8) (pre : Bool) : Bool := decide (s = []) || (decide ((QM s 46).length <= 4) && (QM s 46).all (Qar pre))
def Xz (a b c : Int) (p q : List UInt8) : Bool := QcS a && QcS b && QcS c && Y8 p true && Y8 q false
def QbI (a b c : Int) (p q : List UInt8) (a' b' c' : Int) (p' q' : List UInt8) : Int :=
 if Xz a b c p q = false \/ Xz a' b' c' p' q' = false then 0
 else if Zj a a' ≠ 0 then Zj a a' else if Zj b b' ≠ 0 then Zj b b' else if Zj c c' ≠ 0 then Zj c c' else Qgx p p'
theorem ZK {α : Type} {s : List α} {p : α -> Bool} {i : Nat} (h : i < s.length) (hd : p s[i] = false) : s.all p = false := by
 rw [Bool.eq_false_iff]
 intro ha
 rw [List.all_eq_true] at ha
 rw [ha _ (List.getElem_mem h)] at hd
 cases hd
theorem Yb {α : Type} {s : List α} {p : α -> Bool} {i : Nat} (hi : s.length <= i) (h : (s.take i).all p = true) : s.all p = true := by rwa [List.take_of_length_le hi] at h
theorem QbP {s : List UInt8} {i : Nat} (h : i < s.length) : val (s.take (i + 1)) = 10 * val (s.take i) + (s[i].toNat - 48) := by
 rw [List.take_succ_eq_append_getElem h]; simp only [val, List.foldl_append, List.foldl_cons, List.foldl_nil]
theorem QhQ : ∀ {s : List UInt8}, s.all ZB = true -> val s < 10 ^ s.length := by
 intro s
 rw [<- List.reverse_reverse s]
 generalize s.reverse = r
 induction r with
 | nil => intro _; decide
 | cons c r ih =>
  intro h
  rw [List.reverse_cons, List.all_append, Bool.and_eq_true] at h
  have h1 := ih h.1
  have h2 : ZB c = true := by simpa using h.2
  simp only [ZB, Bool.and_eq_true, decide_eq_true_eq] at h2
  rw [List.reverse_cons]
  simp only [val, List.foldl_append, List.foldl_cons, List.foldl_nil, List.length_append, List.length_cons, List.length_nil] at h1 ⊢
  rw [Nat.pow_succ]
  omega
theorem Qht {l m : List (List UInt8)} {i : Nat} (h1 : i < l.length) (h2 : i < m.length) (h : Qe5 l[i] m[i] = 0) : Qgy (l.drop i) (m.drop i) = Qgy (l.drop (i + 1)) (m.drop (i + 1)) := by
 rw [List.drop_eq_getElem_cons h1, List.drop_eq_getElem_cons h2]
 simp [Qgy, h]
theorem YB {l m : List (List UInt8)} {i : Nat} (h1 : i < l.length) (h2 : i < m.length) (h : Qe5 l[i] m[i] ≠ 0) : Qgy (l.drop i) (m.drop i) = Qe5 l[i] m[i] := by
 rw [List.drop_eq_getElem_cons h1, List.drop_eq_getElem_cons h2]
 simp [Qgy, h]
theorem YA {l m : List (List UInt8)} {i : Nat} (hl : i <= l.length) (hm : i <= m.length) (h : l.length <= i \/ m.length <= i) : Qgy (l.drop i) (m.drop i) = Zj l.length m.length := by
 rcases Nat.lt_or_ge i l.length with h1 | h1 <;> rcases Nat.lt_or_ge i m.length with h2 | h2
 ·omega
 ·rw [List.drop_eq_getElem_cons h1, List.drop_eq_nil_of_le h2]
  simp only [Qgy, Zj]
  rw [if_neg (by omega), if_pos (by omega)]
 ·rw [List.drop_eq_getElem_cons h2, List.drop_eq_nil_of_le h1]
  simp only [Qgy, Zj]
  rw [if_pos (by omega)]
 ·rw [List.drop_eq_nil_of_le h1, List.drop_eq_nil_of_le h2]
  simp only [Qgy, Zj]
  rw [if_neg (by omega), if_neg (by omega)]
end M3
namespace M3
end M3
namespace M3
theorem Qko {s : List UInt8} (h : 0 < s.length) (e : ((s[0]).toNat : Int) = 48) : s.head? = some 48 := by
 cases s with
 | nil => simp at h
 | cons x r =>
  simp only [List.getElem_cons_zero] at e
  have : x = 48 := UInt8.toNat_inj.1 (by simpa using (by omega : x.toNat = 48))
  simp [this]
theorem QdI {s : List UInt8} (h : 0 < s.length) (e : ¬ ((s[0]).toNat : Int) = 48) : s.head? ≠ some 48 := by
 cases s with
 | nil => simp at h
 | cons x r =>
  simp only [List.getElem_cons_zero] at e
  intro hh
  simp at hh
  subst hh
  exact e rfl
theorem Qcx {s : List UInt8} {i : Nat} (h : ¬ (s.length < 1 \/ 9 < s.length \/ (1 < s.length /\ s.head? = some 48))) (hi : s.length <= i) (ha : (s.take i).all ZB = true) (hv : val (s.take i) <= 9999) : Zu s = ((val (s.take i) : Int), true) := by
 have h1 := Yb hi ha
 rw [List.take_of_length_le hi] at hv ⊢
 rw [Zu, if_neg]
 rintro (q | q | q | q | q)
 ·exact h (.inl q)
 ·exact h (.inr (.inl q))
 ·exact h (.inr (.inr q))
 ·rw [h1] at q; cases q
 ·omega
theorem Qbi {s : List UInt8} {i : Nat} (hi : s.length <= i) (hv : 9999 < val (s.take i)) : Zu s = (0, false) := by
 rw [List.take_of_length_le hi] at hv
 rw [Zu, if_pos (.inr (.inr (.inr (.inr hv))))]
theorem Z7 {s : List UInt8} {i : Nat} (h : i < s.length) (hd : ZB s[i] = false) : Zu s = (0, false) := by
 rw [Zu, if_pos (.inr (.inr (.inr (.inl (ZK h hd)))))]
theorem Qbj {s : List UInt8} (h : s.length < 1 \/ 9 < s.length) : Zu s = (0, false) := by
 rw [Zu, if_pos (by rcases h with h | h; exact .inl h; exact .inr (.inl h))]
theorem ZH {s : List UInt8} (h : 1 < s.length) (e : ((s[0]).toNat : Int) = 48) : Zu s = (0, false) := by
 rw [Zu, if_pos (.inr (.inr (.inl ⟨h, Qko (by omega) e⟩)))]
end M3
namespace M3
open Go Go.Abs
theorem Qj (l : List (List UInt8)) : (Ya l).length = l.length := by simp [Ya]
theorem Xv {l : List (List UInt8)} {i : Nat} (h : i < l.length) : (Ya l)[((i : Nat) : Int).toNat]? = some [.str l[i]] := by simp [Ya, h]
theorem XC {c : Int} : ∀ (s cur : List UInt8), (Y9 c s cur).length <= s.length + 1 /\ ∀ x ∈ Y9 c s cur, x.length <= s.length + cur.length
 | [], cur => by simp [Y9]
 | x :: xs, cur => by
  simp only [Y9]
  split
  ·obtain ⟨h1, h2⟩ := XC (c := c) xs []
   refine ⟨by simp; omega, fun y hy => ?_⟩
   rcases List.mem_cons.1 hy with rfl | hy
   ·simp <;> omega
   ·have := h2 y hy; simp at this ⊢; omega
  ·obtain ⟨h1, h2⟩ := XC (c := c) xs (cur ++ [x])
   refine ⟨by simp; omega, fun y hy => ?_⟩
   have := h2 y hy; simp at this ⊢; omega
theorem QcI {s : List UInt8} {c : Int} : (QM s c).length <= s.length + 1 := (XC s []).1
theorem XD {s : List UInt8} {c : Int} {i : Nat} (h : i < (QM s c).length) (hl : s.length <= 1000000) : ((QM s c)[i]).length <= 1000000 := by
 have := (XC (c := c) s []).2 _ (List.getElem_mem h)
 simp only [List.length_nil, Nat.add_zero] at this
 exact Nat.le_trans this hl
end M3
namespace M3
open Go Go.Abs
theorem Qa4 {s : List UInt8} {pre : Bool} {i : Nat} (hs : s ≠ []) (h : i < (QM s 46).length) (hd : Qar pre (QM s 46)[i] = false) : Y8 s pre = false := by
 rw [Y8, ZK h hd]; simp [hs]
theorem X0 {s : List UInt8} {pre : Bool} {i : Nat} (h4 : (QM s 46).length <= 4) (hi : (QM s 46).length <= i) (h : ((QM s 46).take i).all (Qar pre) = true) : Y8 s pre = true := by
 rw [Y8, Yb hi h]; simp [h4]
def ZD : List Int -> Int
 | [] => 0
 | x :: r => if x ≠ 0 then x else ZD r
theorem Qcc {l : List Int} {i : Nat} (h : i < l.length) (e : ¬ l[i] = 0) : ZD (l.drop i) = l[i] := by
 rw [List.drop_eq_getElem_cons h]; simp [ZD, e]
theorem QeB {l : List Int} {i : Nat} (h : i < l.length) (e : l[i] = 0) : ZD (l.drop i) = ZD (l.drop (i + 1)) := by
 rw [List.drop_eq_getElem_cons h]; simp [ZD, e]
end M3
namespace M3
open Go Go.Abs
structure Cu where
 e : Int
 a : Int
 b : Int
 c : Int
 p : List UInt8
 q : List UInt8
 f : Bool
def Yz (e a b c : Int) (p q : List UInt8) (f : Bool) : Bool :=
 if e = 0 then Xz a b c p q && decide (q = [])
 else (decide (e = -1) || decide (e = 1)) && (decide (a = 0) && (decide (b = 0) && (decide (c = 0) && (decide (p = []) && (decide (q = []) && true))))) && !f
def Y7 (e a b c : Int) (p q : List UInt8) (f : Bool) (e' a' b' c' : Int) (p' q' : List UInt8) (f' : Bool) : Int :=
 if Yz e a b c p q f = false \/ Yz e' a' b' c' p' q' f' = false then 0
 else if e ≠ e' \/ e ≠ 0 then Zj e e'
 else if QbI a b c p q a' b' c' p' q' ≠ 0 then QbI a b c p q a' b' c' p' q'
 else if f = f' then 0 else if f' = true then -1 else 1
def YO (e a b c : Int) (p q : List UInt8) (f : Bool) (a' b' c' : Int) (p' q' : List UInt8) : Bool :=
 if Yz e a b c p q f = false \/ Xz a' b' c' p' q' = false then false
 else if e ≠ 0 then decide (e < 0)
 else decide (QbI a b c p q a' b' c' p' q' < 0) || (decide (QbI a b c p q a' b' c' p' q' = 0) && !f)
end M3
namespace M3
def QcW (e a b c : Int) (p q : List UInt8) (f : Bool) (e' a' b' c' : Int) (p' q' : List UInt8) (f' : Bool) : Bool :=
 Yz e a b c p q f && Yz e' a' b' c' p' q' f' && decide (Y7 e a b c p q f e' a' b' c' p' q' f' < 0)
def Qaw (e a b c : Int) (p q : List UInt8) (f : Bool) (e' a' b' c' : Int) (p' q' : List UInt8) (f' : Bool) (x y z : Int) (r s : List UInt8) : Bool :=
 QcW e a b c p q f e' a' b' c' p' q' f' && Xz x y z r s && YO e a b c p q f x y z r s && !YO e' a' b' c' p' q' f' x y z r s
end M3
namespace M3
open Go Go.Abs
theorem Y0 {s : List UInt8} (h : s = [] \/ 4 < s.length) : Zu s = (0, false) := by
 rcases h with rfl | h
 ·rfl
 ·unfold Zu
  split
  ·rfl
  ·rename_i hn
   exfalso
   apply hn
   by_cases h1 : s.head? = some 48
   ·exact .inr (.inr (.inl ⟨by omega, h1⟩))
   ·cases hd : s.all ZB with
    | false => exact .inr (.inr (.inr (.inl rfl)))
    | true =>
     refine .inr (.inr (.inr (.inr ?_)))
     cases s with
     | nil => simp at h
     | cons x r =>
      simp only [List.all_cons, Bool.and_eq_true, ZB, decide_eq_true_eq] at hd
      simp only [List.head?_cons, Option.some.injEq] at h1
      have hx : 1 <= x.toNat - 48 := by
       have : x.toNat ≠ 48 := fun e => h1 (UInt8.toNat_inj.1 (by simpa using e))
       omega
      have key : ∀ (r : List UInt8) (n : Nat), n * 10 ^ r.length <= r.foldl (fun n c => 10 * n + (c.toNat - 48)) n := by
       intro r
       induction r with
       | nil => intro n; simp
       | cons c r ih =>
        intro n
        simp only [List.foldl_cons, List.length_cons]
        refine Nat.le_trans ?_ (ih _)
        rw [Nat.pow_succ, <- Nat.mul_assoc, Nat.mul_right_comm]
        exact Nat.mul_le_mul_right _ (by omega)
      have h2 := key r (10 * 0 + (x.toNat - 48))
      have h3 : 10 ^ 4 <= 10 ^ r.length := Nat.pow_le_pow_right (by omega) (by simp at h; omega)
      have h4 : 10 ^ r.length <= (10 * 0 + (x.toNat - 48)) * 10 ^ r.length := Nat.le_mul_of_pos_left _ (by omega)
      show 9999 < (x :: r).foldl (fun n c => 10 * n + (c.toNat - 48)) 0
      simp only [List.foldl_cons]
      omega
theorem X3 {s : List UInt8} {i : Nat} (h : ¬ (s = [] \/ 4 < s.length \/ (1 < s.length /\ s.head? = some 48))) (hi : s.length <= i) (ha : (s.take i).all ZB = true) : Zu s = ((val (s.take i) : Int), true) := by
 have h1 := Yb hi ha
 have hv := QhQ h1
 have h4 : s.length <= 4 := Nat.le_of_not_lt fun q => h (.inr (.inl q))
 have hp : 10 ^ s.length <= 10 ^ 4 := Nat.pow_le_pow_right (by omega) h4
 refine Qcx ?_ hi ha ?_
 ·rintro (q | q | q)
  ·exact h (.inl (List.eq_nil_of_length_eq_zero (by omega)))
  ·omega
  ·exact h (.inr (.inr q))
 ·rw [List.take_of_length_le hi]; omega
end M3
namespace M3
open Go Go.Abs
def Qax (s : List UInt8) : Bool := decide ((QM s 46).length <= 4) && (QM s 46).all XK
theorem QjD {t : List UInt8} (h0 : ¬ t = []) (h8 : t.length <= 8) (h : t.all Zb = true) : XK t = true := by
 have : 1 <= t.length := List.length_pos_iff.2 h0
 simp [XK, h, h8, this]
theorem Z6 {t : List UInt8} (h : t = [] \/ 8 < t.length) : XK t = false := by
 rcases h with rfl | h
 ·rfl
 ·simp [XK]; omega
theorem Z5 {t : List UInt8} (h : t.all Zb = false) : XK t = false := by simp [XK, h]
theorem Zc {s : List UInt8} {i : Nat} (h : i < (QM s 46).length) (hd : XK (QM s 46)[i] = false) : Qax s = false := by
 rw [Qax, ZK h hd, Bool.and_false]
theorem ZO {s : List UInt8} {i : Nat} (hi : (QM s 46).length <= i) (h : ((QM s 46).take i).all XK = true) : Qax s = decide ((QM s 46).length <= 4) := by
 rw [Qax, Yb hi h, Bool.and_true]
theorem ZN (s : List UInt8) : Y8 s false = (decide (s = []) || Qax s) := by
 have : Qar false = XK := by funext t; simp [Qar]
 rw [Y8, Qax, this]
end M3
namespace M3
open Go Go.Abs
def QbA (t : List UInt8) : Bool := !(ZZ t && !(Zu t).2)
def QcV (s : List UInt8) : Bool := Qax s && (QM s 46).all QbA
theorem Qfn {s : List UInt8} {i : Nat} (h : i < (QM s 46).length) (hd : QbA (QM s 46)[i] = false) : QcV s = false := by
 rw [QcV, ZK h hd, Bool.and_false]
theorem QdW {s : List UInt8} {i : Nat} (h1 : Qax s = true) (hi : (QM s 46).length <= i) (h : ((QM s 46).take i).all QbA = true) : QcV s = true := by
 rw [QcV, Yb hi h, h1]; rfl
theorem Z2 (s : List UInt8) : Y8 s true = (decide (s = []) || QcV s) := by
 have : Qar true = fun t => XK t && QbA t := by funext t; simp [Qar, QbA]
 rw [Y8, QcV, Qax, this, Bool.and_assoc]
 congr 2
 induction (QM s 46) with
 | nil => rfl
 | cons x xs ih => simp only [List.all_cons, ih]; cases XK x <;> cases QbA x <;> simp
theorem Qdg {a b : Int} : Zj a b = 0 ↔ a = b := by unfold Zj; (repeat' split) <;> omega
theorem QaV {a b c : Int} {p q : List UInt8} {a' b' c' : Int} {p' q' : List UInt8} (h1 : Xz a b c p q = true) (h2 : Xz a' b' c' p' q' = true)
  (h : (decide (a = a') && (decide (b = b') && (decide (c = c') && (decide (p = p') && (decide (([] : List UInt8) = []) && true))))) = true) : QbI a b c p q a' b' c' p' q' = 0 := by
 simp only [Bool.and_eq_true, decide_eq_true_eq, and_true] at h
 obtain ⟨rfl, rfl, rfl, rfl⟩ := h
 have e : ∀ x, Zj x x = 0 := fun x => Qdg.2 rfl
 simp [QbI, h1, h2, e, Qgx]
theorem Xq {a b c : Int} {p q : List UInt8} {a' b' c' : Int} {p' q' : List UInt8} (h1 : Xz a b c p q = true) (h2 : Xz a' b' c' p' q' = true)
  (h : ¬ ZD [Zj a a', Zj b b', Zj c c'] = 0) : ZD [Zj a a', Zj b b', Zj c c'] = QbI a b c p q a' b' c' p' q' := by
 simp only [ZD, QbI, h1, h2] at h ⊢
 simp only [Bool.true_eq_false, or_self, if_false]
 repeat' split
 all_goals first | rfl | (exfalso; simp_all)
theorem Qb8 {a b c : Int} {p q : List UInt8} {a' b' c' : Int} {p' q' : List UInt8} (h1 : Xz a b c p q = true) (h2 : Xz a' b' c' p' q' = true) (h : ZD [Zj a a', Zj b b', Zj c c'] = 0) :
  QbI a b c p q a' b' c' p' q' = Qgx p p' := by
 simp only [ZD] at h
 simp only [QbI, h1, h2, Bool.true_eq_false, or_self, if_false]
 repeat' split
 all_goals first | rfl | (exfalso; simp_all)
theorem QiT {a b c : Int} {p : List UInt8} {a' b' c' : Int} {p' : List UInt8} (h : (decide (a = a') && (decide (b = b') && (decide (c = c') && (decide (p = p') && (decide (([] : List UInt8) = []) && true))))) = false)
  (h0 : ZD [Zj a a', Zj b b', Zj c c'] = 0) : p ≠ p' := by
 rintro rfl
 have e : Zj a a' = 0 /\ Zj b b' = 0 /\ Zj c c' = 0 := by
  simp only [ZD] at h0
  revert h0
  repeat' split
  all_goals simp_all
 simp only [Qdg] at e
 simp [e] at h
theorem Yv {a b c : Int} {p q : List UInt8} {a' b' c' : Int} {p' q' : List UInt8} (h1 : Xz a b c p q = true) (h2 : Xz a' b' c' p' q' = true)
  (h : (decide (a = a') && (decide (b = b') && (decide (c = c') && (decide (p = p') && (decide (([] : List UInt8) = []) && true))))) = false)
  (h0 : ZD [Zj a a', Zj b b', Zj c c'] = 0) (hp : p = []) : QbI a b c p q a' b' c' p' q' = 1 := by
 rw [Qb8 h1 h2 h0, Qgx, if_neg (QiT h h0), if_pos hp]
theorem Yw {a b c : Int} {p q : List UInt8} {a' b' c' : Int} {p' q' : List UInt8} (h1 : Xz a b c p q = true) (h2 : Xz a' b' c' p' q' = true)
  (h0 : ZD [Zj a a', Zj b b', Zj c c'] = 0) (hp : ¬ p = []) (hp' : p' = []) : QbI a b c p q a' b' c' p' q' = -1 := by
 have : p ≠ p' := fun e => hp (e.trans hp')
 rw [Qb8 h1 h2 h0, Qgx, if_neg this, if_neg hp, if_pos hp']
theorem Qjp {a b c : Int} {p q : List UInt8} {a' b' c' : Int} {p' q' : List UInt8} (h1 : Xz a b c p q = true) (h2 : Xz a' b' c' p' q' = true)
  (h : (decide (a = a') && (decide (b = b') && (decide (c = c') && (decide (p = p') && (decide (([] : List UInt8) = []) && true))))) = false)
  (h0 : ZD [Zj a a', Zj b b', Zj c c'] = 0) (hp : ¬ p = []) (hp' : ¬ p' = []) : QbI a b c p q a' b' c' p' q' = Qgy ((QM p 46).drop 0) ((QM p' 46).drop 0) := by
 rw [Qb8 h1 h2 h0, Qgx, if_neg (QiT h h0), if_neg hp, if_neg hp']; rfl
end M3
namespace M3
open Go Go.Abs
theorem YV {e a b c : Int} {p q : List UInt8} {f : Bool} {e' a' b' c' : Int} {p' q' : List UInt8} {f' : Bool} (h1 : Yz e a b c p q f = true) (h2 : Yz e' a' b' c' p' q' f' = true) (h : ¬ e = 0 \/ ¬ e' = 0) :
  Y7 e a b c p q f e' a' b' c' p' q' f' = Zj e e' := by
 rw [Y7, h1, h2, if_neg (by simp), if_pos]
 by_cases h0 : e = 0
 ·exact .inl (by omega)
 ·exact .inr h0
end M3
namespace Go.Proofs
open Go Go.Abs M3
set_option linter.unusedVariables false
set_option linter.unusedSimpArgs false
theorem Y5 {n : Int} : Ok Tryd.prog 79 [.int .i64 n] (.bool (QcS n)) := by
 refine Ok.ofT Z9 Tryd.func79 Qmg (Nat.le_of_ble_eq_true Z) ?_
 show TW _ _ tf79.body _ _
 refine Qe fun K hK => Qd Z (hK _ _ (Qa (kp1 Z) ?_))
 refine Qe fun K hK => Qd Z (QhX Z Z (Qd Z ?_))
 refine Qs (g := 5) Z (fun h1 => ?_) (fun h1 => ?_)
 ·try rw [h1]
  try simp only [qB] at h1
  refine Qg Z (Qd Z (Qg Z (Qjb Z Z (Qh Z Z (Qd Z (hK _ _ (Qa (kp1 Z) ?_)))))))
  refine Qr (Qi Z ?_)
  (repeat clear hK K); simp_all [QcS] <;> omega
 ·try rw [h1]
  try simp only [qB] at h1
  refine Qp Z (Qp Z (Qh Z Z (Qd Z (hK _ _ (Qa (kp1 Z) ?_)))))
  refine Qr (Qi Z ?_)
  (repeat clear hK K); simp_all [QcS] <;> omega
theorem Z4 {n : Int} : Ok Tryd.prog 64 [.int .i64 n] (.bool (QcS n)) := by
 refine Ok.ofT Z9 Tryd.func64 Ql7 (Nat.le_of_ble_eq_true Z) ?_
 show TW _ _ tf64.body _ _
 refine Qe fun K hK => Qd Z (hK _ _ (Qa (kp1 Z) ?_))
 refine Qe fun K hK => Qd Z (QhX Z Z (Qd Z ?_))
 refine Qs (g := 5) Z (fun h1 => ?_) (fun h1 => ?_)
 ·try rw [h1]
  try simp only [qB] at h1
  refine Qg Z (Qd Z (Qg Z (Qjb Z Z (Qh Z Z (Qd Z (hK _ _ (Qa (kp1 Z) ?_)))))))
  refine Qr (Qi Z ?_)
  (repeat clear hK K); simp_all [QcS] <;> omega
 ·try rw [h1]
  try simp only [qB] at h1
  refine Qp Z (Qp Z (Qh Z Z (Qd Z (hK _ _ (Qa (kp1 Z) ?_)))))
  refine Qr (Qi Z ?_)
  (repeat clear hK K); simp_all [QcS] <;> omega
theorem XO {n : Int} : Ok Tryd.prog 107 [.int .i64 n] (.bool false) := by
 refine Ok.ofT Z9 Tryd.func107 Qln (Nat.le_of_ble_eq_true Z) ?_
 show TW _ _ tf107.body _ _
 refine Qe fun K hK => Qd Z (hK _ _ (Qa (kp1 Z) ?_))
 refine Qe fun K hK => Qd Z (Qd Z (YH Z Z (Qd Z (hK _ _ (Qa (kp1 Z) ?_)))))
 refine Qr (Qi Z ?_)
 (repeat clear hK K); simp_all
theorem Q7 {m n : Int} : Ok Tryd.prog 104 [.int .i64 m, .int .i64 n] (.int .i64 (Zj m n)) := by
 refine Ok.ofT Z9 Tryd.func104 Qll (Nat.le_of_ble_eq_true Z) ?_
 show TW _ _ tf104.body _ _
 refine Qe fun K hK => Qd Z (hK _ _ (Qa (kp2 Z Z) ?_))
 refine Qe fun K hK => Qd Z (QA (XO) Z Z (.inr Z) (Qd Z (hK _ _ (Qa (kp3 Z Z Z) ?_))))
 refine Qe fun K hK => Qd Z (QA (XO) Z Z (.inr Z) (Qd Z (hK _ _ (Qa (kp4 Z Z Z Z) ?_))))
 refine QJ ?_ -- 0
 refine Qe fun K hK => Qd Z (hK _ _ (Qa (kp4 Z Z Z Z) ?_))
 refine Qy Z (fun h1 => ?_) (fun h1 => ?_)
 ·try rw [h1]
  try simp only [qB] at h1
  refine QJ ?_ -- 1
  refine Qe fun K hK => Qd Z (hK _ _ (Qa (kp1 Z) ?_))
  refine Qy Z (fun h2 => ?_) (fun h2 => ?_)
  ·try rw [h2]
   try simp only [qB] at h2
   refine Qe fun K hK => Qd Z (hK _ _ (Qa (kp1 Z) ?_))
   refine Qr (Qk (Qk (Qx Z ?_)))
   (repeat clear hK K); simp_all [Zj] <;> omega
  ·try rw [h2]
   try simp only [qB] at h2
   refine Qu (Qf (QK) (Qe fun K hK => Qd Z (hK _ _ (Qa (kp1 Z) ?_))))
   refine Qr (Qk (Qx Z ?_))
   (repeat clear hK K); simp_all [Zj] <;> omega
 ·try rw [h1]
  try simp only [qB] at h1
  refine Qu (Qf (kp3 Z Z Z) ?_)
  refine QJ ?_ -- 2
  refine Qe fun K hK => Qd Z (hK _ _ (Qa (kp3 Z Z Z) ?_))
  refine Qy Z (fun h3 => ?_) (fun h3 => ?_)
  ·try rw [h3]
   try simp only [qB] at h3
   refine Qe fun K hK => Qd Z (hK _ _ (Qa (kp1 Z) ?_))
   refine Qr (Qk (Qx Z ?_))
   (repeat clear hK K); simp_all [Zj] <;> omega
  ·try rw [h3]
   try simp only [qB] at h3
   refine Qu (Qf (kp2 Z Z) ?_)
   refine QJ ?_ -- 3
   refine Qe fun K hK => Qd Z (Qd Z (XJ Z Z (hK _ _ (Qa (kp3 Z Z Z) ?_))))
   refine Qy Z (fun h4 => ?_) (fun h4 => ?_)
   ·try rw [h4]
    try simp only [qB] at h4
    refine Qe fun K hK => Qd Z (hK _ _ (Qa (kp1 Z) ?_))
    refine Qr (Qk (Qx Z ?_))
    (repeat clear hK K); simp_all [Zj] <;> omega
   ·try rw [h4]
    try simp only [qB] at h4
    refine Qu (Qf (kp2 Z Z) ?_)
    refine QJ ?_ -- 4
    refine Qe fun K hK => Qd Z (Qd Z (QbW Z Z (hK _ _ (Qa (kp1 Z) ?_))))
    refine Qy Z (fun h5 => ?_) (fun h5 => ?_)
    ·try rw [h5]
     try simp only [qB] at h5
     refine Qe fun K hK => Qd Z (hK _ _ (Qa (kp1 Z) ?_))
     refine Qr (Qk (Qx Z ?_))
     (repeat clear hK K); simp_all [Zj] <;> omega
    ·try rw [h5]
     try simp only [qB] at h5
     refine Qu (Qf (QK) (Qe fun K hK => Qd Z (hK _ _ (Qa (kp1 Z) ?_))))
     refine Qr (Qx Z ?_)
     (repeat clear hK K); simp_all [Zj] <;> omega
theorem Yd {s : List UInt8} (hl : s.length <= 1000000) : Ok Tryd.prog 97 [.str s] (.bool (ZZ s)) := by
 refine Ok.ofT Z9 Tryd.func97 Qmt (Nat.le_of_ble_eq_true Z) ?_
 show TW _ _ tf97.body _ _
 refine Qe fun K hK => Qd Z (hK _ _ (Qa (kp1 Z) ?_))
 refine QJ ?_ -- 0
 refine Qe fun K hK => Qd Z (ZC Z (Qd Z (hK _ _ (Qa (kp3 Z Z Z) ?_))))
 refine QP ?_
 refine Yn (ι := Nat) (fun i => ⟨[(0, .str s), (5, .int .i64 s.length), (6, .int .i64 i)], []⟩) (fun i => i <= s.length /\ (s.take i).all ZB = true) (fun i => s.length - i) 0 ?_ ?_ ?_
 ·exact Q5 (kp3 rfl rfl rfl)
 ·exact ⟨Nat.zero_le _, rfl⟩
 intro i hI
 try dsimp only
 refine Qe fun K hK => XJ Z Z (hK _ _ (Qa (kp4 Z Z Z Z) ?_))
 refine QJ ?_ -- 1
 refine Qy Z (fun h1 => ?_) (fun h1 => ?_)
 ·try rw [h1]
  try simp only [qB] at h1
  refine Qu (Qf (kp3 Z Z Z) ?_)
  refine QJ ?_ -- 2
  refine QP (Qe fun K hK => Qd Z (Qd Z (hK _ _ (Qa (kp4 Z Z Z Z) ?_))))
  refine Qe fun K hK => Qd Z (Qd Z (Zw Z Z (by omega) (XX (by omega)) (XJ Z Z (Qd Z ?_))))
  refine Qs (g := 13) Z (fun h2 => ?_) (fun h2 => ?_)
  ·try rw [h2]
   try simp only [qB] at h2
   refine Qp Z (Qp Z (Qp Z (Qp Z (Qh Z Z (hK _ _ (Qa (kp4 Z Z Z Z) ?_))))))
   refine Zd Z (Qe fun K hK => Qd Z (hK _ _ (Qa (kp1 Z) ?_)))
   refine Qr (Qt (Qk (QY (Qt (Qk (Qi Z ?_))))))
   exact (Qag (i := i) (by omega) (by simp [ZB]; omega)).symm
  ·try rw [h2]
   try simp only [qB] at h2
   refine Qg Z (Qd Z (Qg Z (Qd Z (Qg Z (Zw Z Z (by omega) (XX (by omega)) (Qg Z (QbW Z Z (Qh Z Z (hK _ _ (Qa (kp4 Z Z Z Z) ?_))))))))))
   refine Qy Z (fun h3 => ?_) (fun h3 => ?_)
   ·try rw [h3]
    try simp only [qB] at h3
    refine Qe fun K hK => Qd Z (hK _ _ (Qa (kp1 Z) ?_))
    refine Qr (Qt (Qk (QY (Qt (Qk (Qi Z ?_))))))
    exact (Qag (i := i) (by omega) (by simp [ZB]; omega)).symm
   ·try rw [h3]
    try simp only [qB] at h3
    refine Qu (Qm (Qf (kp3 Z Z Z) (Ze fun K hK => ZJ Z Z (by first | exact QD (by omega) (by omega) | exact QI (by omega) (by omega) | exact QT (by omega) (by omega) | rfl) (Qd Z (hK _ ?_)))))
    refine Qq (i + 1) ?_ ?_ ?_
    ·exact Q5 (kp3 rfl rfl rfl)
    ·exact ⟨by omega, QS (by omega) hI.2 (by simp [ZB]; omega)⟩
    ·first | omega | (simp only; omega) | (dsimp only; omega)
 ·try rw [h1]
  try simp only [qB] at h1
  refine Zv (QO (QC (QQ (Qf (kp1 Z) (Qe fun K hK => Qd Z (Qh2 Z Z (Qd Z (hK _ _ (Qa (kp1 Z) ?_)))))))))
  refine Qr (Qi Z ?_)
  exact (Qcy (i := i) (by omega) hI.2).symm
theorem Qak {s : List UInt8} {c : Int} (hl : s.length <= 1000000) : Ok Tryd.prog 85 [.str s, .int .u8 c] (.sl (Ya (QM s c))) := by
 refine Ok.ofT Z9 Tryd.func85 Qmk (Nat.le_of_ble_eq_true Z) ?_
 show TW _ _ tf85.body _ _
 refine Qe fun K hK => Qd Z (hK _ _ (Qa (kp2 Z Z) ?_))
 refine Qe fun K hK => Qd Z (hK _ _ (Qa (kp3 Z Z Z) ?_))
 refine Qe fun K hK => Qd Z (hK _ _ (Qa (kp4 Z Z Z Z) ?_))
 refine QJ ?_ -- 0
 refine Qe fun K hK => Qd Z (hK _ _ (Qa (kp5 Z Z Z Z Z) ?_))
 refine QP ?_
 refine Yn (ι := Nat × Nat × List (List UInt8)) (fun ⟨i, k, acc⟩ => ⟨[(0, .str s), (1, .int .u8 c), (5, .osl 25 acc.length), (6, .int .i64 k), (7, .int .i64 i)], [(25, ⟨Ya acc, 1, 9, true⟩)]⟩) (fun ⟨i, k, acc⟩ => SplitI s c i k acc) (fun ⟨i, k, acc⟩ => s.length - i) (0, 0, []) ?_ ?_ ?_
 ·exact le_trans (QeK 5 25 1 9 rfl rfl) (Zk (l := [0, 1, 5, 6, 7]) (lH := [25]) (kp5 rfl rfl rfl rfl rfl) (Qv rfl Qw) rfl rfl rfl)
 ·exact SplitI.zero
 intro ⟨i, k, acc⟩ hI
 have hI1 := hI.1
 have hI2 := hI.2.1
 have hI3 := hI.2.2.1
 try dsimp only
 refine QJ ?_ -- 1
 refine Qe fun K hK => Qd Z (Qd Z (ZC Z (XJ Z Z (hK _ _ (Qa (kp6 Z Z Z Z Z Z) ?_)))))
 refine Qy Z (fun h1 => ?_) (fun h1 => ?_)
 ·try rw [h1]
  try simp only [qB] at h1
  refine Qu (Qf (kp5 Z Z Z Z Z) ?_)
  refine QJ ?_ -- 2
  refine QP (Qe fun K hK => Qd Z (Qd Z (Zw Z Z (by omega) (XX (by omega)) (Qd Z (Ys Z Z (hK _ _ (Qa (kp6 Z Z Z Z Z Z) ?_)))))))
  refine Qy Z (fun h2 => ?_) (fun h2 => ?_)
  ·try rw [h2]
   try simp only [qB] at h2
   refine Qe fun K hK => Qd Z (Qd Z (Qd Z (Qd Z (X8 Z Z Z (by omega) (by omega) (by omega) Z (Zf Z Z (QfA Z Z (fun _ h => Qgf Z Z Z h) Z (by simp [Ya]) Z Z Z (by simp; omega) (by simp; omega) (Qd Z (hK _ _ (Qa (kp4 Z Z Z Z) ?_)))))))))
   refine Ze fun K hK => Qd Z (ZJ Z Z (by first | exact QD (by omega) (by omega) | exact QI (by omega) (by omega) | exact QT (by omega) (by omega) | rfl) (Qd Z (hK _ ?_)))
   refine Qm (Qf (kp5 Z Z Z Z Z) (Ze fun K hK => Qd Z (ZJ Z Z (by first | exact QD (by omega) (by omega) | exact QI (by omega) (by omega) | exact QT (by omega) (by omega) | rfl) (Qd Z (hK _ ?_)))))
   refine Qq (i + 1, i + 1, acc ++ [(s.take i).drop k]) ?_ ?_ ?_
   ·exact Zk (l := [0, 1, 5, 6, 7]) (lH := [25]) (kp5 rfl rfl rfl rfl rfl) (Qv rfl Qw) (by simp [Ya, D.scrub]) (by simp [Ya, Box.scrub]) rfl
   ·exact hI.hit (by omega) (by assumption)
   ·show s.length - (i + 1) < s.length - i; omega
  ·try rw [h2]
   try simp only [qB] at h2
   refine Qu (Qm (Qf (kp5 Z Z Z Z Z) (Ze fun K hK => Qd Z (ZJ Z Z (by first | exact QD (by omega) (by omega) | exact QI (by omega) (by omega) | exact QT (by omega) (by omega) | rfl) (Qd Z (hK _ ?_))))))
   refine Qq (i + 1, k, acc) ?_ ?_ ?_
   ·exact Zk (l := [0, 1, 5, 6, 7]) (lH := [25]) (kp5 rfl rfl rfl rfl rfl) (Qv rfl Qw) (by simp [Ya, D.scrub]) (by simp [Ya, Box.scrub]) rfl
   ·exact hI.miss (by omega) (by assumption)
   ·show s.length - (i + 1) < s.length - i; omega
 ·try rw [h1]
  try simp only [qB] at h1
  refine Zv (QO (QC (QQ (Qf (kp3 Z Z Z) (Qe fun K hK => Qd Z (Qd Z (Qd Z (X8 Z Z Z (by omega) (by omega) (by omega) Z (Zf Z Z (QfA Z Z (fun _ h => Qgf Z Z Z h) Z (by simp [Ya]) Z Z Z (by simp; omega) (by simp; omega) ?_))))))))))
  refine Qd Z (hK _ _ (Qa (kp1 Z) ?_))
  refine Qr (Qa6 Z ?_)
  rw [hI.done (by omega)]; simp [XN, D.fz, D.fzS, Qc0, lk, D.can, D.canS, Ya]
theorem Yu {s : List UInt8} {c : Int} (hl : s.length <= 1000000) : Ok Tryd.prog 95 [.str s, .int .u8 c] (.sl (Ya (QM s c))) := by
 refine Ok.ofT Z9 Tryd.func95 Qmr (Nat.le_of_ble_eq_true Z) ?_
 show TW _ _ tf95.body _ _
 refine Qe fun K hK => Qd Z (hK _ _ (Qa (kp2 Z Z) ?_))
 refine Qe fun K hK => Qd Z (hK _ _ (Qa (kp3 Z Z Z) ?_))
 refine Qe fun K hK => Qd Z (hK _ _ (Qa (kp4 Z Z Z Z) ?_))
 refine QJ ?_ -- 0
 refine Qe fun K hK => Qd Z (ZC Z (Qd Z (hK _ _ (Qa (kp6 Z Z Z Z Z Z) ?_))))
 refine QP ?_
 refine Yn (ι := Nat × Nat × List (List UInt8)) (fun ⟨i, k, acc⟩ => ⟨[(0, .str s), (1, .int .u8 c), (5, .osl 24 acc.length), (6, .int .i64 k), (9, .int .i64 s.length), (10, .int .i64 i)], [(24, ⟨Ya acc, 1, 9, true⟩)]⟩) (fun ⟨i, k, acc⟩ => SplitI s c i k acc) (fun ⟨i, k, acc⟩ => s.length - i) (0, 0, []) ?_ ?_ ?_
 ·exact le_trans (QeK 5 24 1 9 rfl rfl) (Zk (l := [0, 1, 5, 6, 9, 10]) (lH := [24]) (kp6 rfl rfl rfl rfl rfl rfl) (Qv rfl Qw) rfl rfl rfl)
 ·exact SplitI.zero
 intro ⟨i, k, acc⟩ hI
 have hI1 := hI.1
 have hI2 := hI.2.1
 have hI3 := hI.2.2.1
 try dsimp only
 refine Qe fun K hK => XJ Z Z (hK _ _ (Qa (kp7 Z Z Z Z Z Z Z) ?_))
 refine QJ ?_ -- 1
 refine Qy Z (fun h1 => ?_) (fun h1 => ?_)
 ·try rw [h1]
  try simp only [qB] at h1
  refine Qu (Qf (kp6 Z Z Z Z Z Z) ?_)
  refine QJ ?_ -- 2
  refine QP (Qe fun K hK => Qd Z (Qd Z (hK _ _ (Qa (kp7 Z Z Z Z Z Z Z) ?_))))
  refine Qe fun K hK => Qd Z (Qd Z (Zw Z Z (by omega) (XX (by omega)) (Qd Z (Ys Z Z (hK _ _ (Qa (kp8 Z Z Z Z Z Z Z Z) ?_))))))
  refine Qy Z (fun h2 => ?_) (fun h2 => ?_)
  ·try rw [h2]
   try simp only [qB] at h2
   refine Qe fun K hK => Qd Z (Qd Z (Qd Z (Qd Z (X8 Z Z Z (by omega) (by omega) (by omega) Z (Zf Z Z (QfA Z Z (fun _ h => Qgf Z Z Z h) Z (by simp [Ya]) Z Z Z (by simp; omega) (by simp; omega) (Qd Z (hK _ _ (Qa (kp6 Z Z Z Z Z Z) ?_)))))))))
   refine Ze fun K hK => Qd Z (ZJ Z Z (by first | exact QD (by omega) (by omega) | exact QI (by omega) (by omega) | exact QT (by omega) (by omega) | rfl) (Qd Z (hK _ ?_)))
   refine Qm (Qf (kp6 Z Z Z Z Z Z) (Ze fun K hK => ZJ Z Z (by first | exact QD (by omega) (by omega) | exact QI (by omega) (by omega) | exact QT (by omega) (by omega) | rfl) (Qd Z (hK _ ?_))))
   refine Qq (i + 1, i + 1, acc ++ [(s.take i).drop k]) ?_ ?_ ?_
   ·exact Zk (l := [0, 1, 5, 6, 9, 10]) (lH := [24]) (kp6 rfl rfl rfl rfl rfl rfl) (Qv rfl Qw) (by simp [Ya, D.scrub]) (by simp [Ya, Box.scrub]) rfl
   ·exact hI.hit (by omega) (by assumption)
   ·show s.length - (i + 1) < s.length - i; omega
  ·try rw [h2]
   try simp only [qB] at h2
   refine Qu (Qm (Qf (kp6 Z Z Z Z Z Z) (Ze fun K hK => ZJ Z Z (by first | exact QD (by omega) (by omega) | exact QI (by omega) (by omega) | exact QT (by omega) (by omega) | rfl) (Qd Z (hK _ ?_)))))
   refine Qq (i + 1, k, acc) ?_ ?_ ?_
   ·exact Zk (l := [0, 1, 5, 6, 9, 10]) (lH := [24]) (kp6 rfl rfl rfl rfl rfl rfl) (Qv rfl Qw) (by simp [Ya, D.scrub]) (by simp [Ya, Box.scrub]) rfl
   ·exact hI.miss (by omega) (by assumption)
   ·show s.length - (i + 1) < s.length - i; omega
 ·try rw [h1]
  try simp only [qB] at h1
  refine Zv (QO (QC (QQ (Qf (kp3 Z Z Z) (Qe fun K hK => Qd Z (Qd Z (Qd Z (X8 Z Z Z (by omega) (by omega) (by omega) Z (Zf Z Z (QfA Z Z (fun _ h => Qgf Z Z Z h) Z (by simp [Ya]) Z Z Z (by simp; omega) (by simp; omega) ?_))))))))))
  refine Qd Z (hK _ _ (Qa (kp1 Z) ?_))
  refine Qr (Qa6 Z ?_)
  rw [hI.done (by omega)]; simp [XN, D.fz, D.fzS, Qc0, lk, D.can, D.canS, Ya]
end Go.Proofs
namespace Go.Proofs
open Go Go.Abs M3
set_option linter.unusedVariables false
set_option linter.unusedSimpArgs false
theorem YU {s : List UInt8} : Ok Tryd.prog 114 [.str s] (.bool false) := by
 refine Ok.ofT Z9 Tryd.func114 Qls (Nat.le_of_ble_eq_true Z) ?_
 show TW _ _ tf114.body _ _
 refine Qe fun K hK => Qd Z (hK _ _ (Qa (kp1 Z) ?_))
 refine Qe fun K hK => Qd Z (Qd Z (Qh2 Z Z (Qd Z (hK _ _ (Qa (kp1 Z) ?_)))))
 refine Qr (Qi Z ?_)
 simp
theorem Yr {a b : List UInt8} : Ok Tryd.prog 112 [.str a, .str b] (.int .i64 (Qbt a b)) := by
 refine Ok.ofT Z9 Tryd.func112 Qlr (Nat.le_of_ble_eq_true Z) ?_
 show TW _ _ tf112.body _ _
 refine Qe fun K hK => Qd Z (hK _ _ (Qa (kp2 Z Z) ?_))
 refine Qe fun K hK => Qd Z (QA (YU) Z Z (.inr Z) (Qd Z (hK _ _ (Qa (kp3 Z Z Z) ?_))))
 refine Qe fun K hK => Qd Z (QA (YU) Z Z (.inr Z) (Qd Z (hK _ _ (Qa (kp4 Z Z Z Z) ?_))))
 refine QJ ?_ -- 0
 refine Qe fun K hK => Qd Z (hK _ _ (Qa (kp4 Z Z Z Z) ?_))
 refine Qy Z (fun h1 => ?_) (fun h1 => ?_)
 ·try rw [h1]
  try simp only [qB] at h1
  refine QJ ?_ -- 1
  refine Qe fun K hK => Qd Z (hK _ _ (Qa (kp1 Z) ?_))
  refine Qy Z (fun h2 => ?_) (fun h2 => ?_)
  ·try rw [h2]
   try simp only [qB] at h2
   refine Qe fun K hK => Qd Z (hK _ _ (Qa (kp1 Z) ?_))
   refine Qr (Qk (Qk (Qx Z ?_)))
   (repeat clear hK K); simp_all [Qbt]
  ·try rw [h2]
   try simp only [qB] at h2
   refine Qu (Qf (QK) (Qe fun K hK => Qd Z (hK _ _ (Qa (kp1 Z) ?_))))
   refine Qr (Qk (Qx Z ?_))
   (repeat clear hK K); simp_all [Qbt]
 ·try rw [h1]
  try simp only [qB] at h1
  refine Qu (Qf (kp3 Z Z Z) ?_)
  refine QJ ?_ -- 2
  refine Qe fun K hK => Qd Z (hK _ _ (Qa (kp3 Z Z Z) ?_))
  refine Qy Z (fun h3 => ?_) (fun h3 => ?_)
  ·try rw [h3]
   try simp only [qB] at h3
   refine Qe fun K hK => Qd Z (hK _ _ (Qa (kp1 Z) ?_))
   refine Qr (Qk (Qx Z ?_))
   (repeat clear hK K); simp_all [Qbt]
  ·try rw [h3]
   try simp only [qB] at h3
   refine Qu (Qf (kp2 Z Z) ?_)
   refine QJ ?_ -- 3
   refine Qe fun K hK => Qd Z (Qd Z (Qk1 Z Z (hK _ _ (Qa (kp3 Z Z Z) ?_))))
   refine Qy Z (fun h4 => ?_) (fun h4 => ?_)
   ·try rw [h4]
    try simp only [qB] at h4
    refine Qe fun K hK => Qd Z (hK _ _ (Qa (kp1 Z) ?_))
    refine Qr (Qk (Qx Z ?_))
    (repeat clear hK K); simp_all [Qbt]
   ·try rw [h4]
    try simp only [qB] at h4
    refine Qu (Qf (kp2 Z Z) ?_)
    refine QJ ?_ -- 4
    refine Qe fun K hK => Qd Z (Qd Z (Qk0 Z Z (hK _ _ (Qa (kp1 Z) ?_))))
    refine Qy Z (fun h5 => ?_) (fun h5 => ?_)
    ·try rw [h5]
     try simp only [qB] at h5
     refine Qe fun K hK => Qd Z (hK _ _ (Qa (kp1 Z) ?_))
     refine Qr (Qk (Qx Z ?_))
     (repeat clear hK K); simp_all [Qbt]
    ·try rw [h5]
     try simp only [qB] at h5
     refine Qu (Qf (QK) (Qe fun K hK => Qd Z (hK _ _ (Qa (kp1 Z) ?_))))
     refine Qr (Qx Z ?_)
     (repeat clear hK K); simp_all [Qbt]
theorem Qal {c : Int} : Ok Tryd.prog 102 [.int .u8 c] (.bool (Yp c)) := by
 refine Ok.ofT Z9 Tryd.func102 Qlj (Nat.le_of_ble_eq_true Z) ?_
 show TW _ _ tf102.body _ _
 refine Qe fun K hK => Qd Z (hK _ _ (Qa (kp1 Z) ?_))
 refine Qe fun K hK => Qd Z (QhX Z Z (Qd Z ?_))
 refine Qs (g := 5) Z (fun h1 => ?_) (fun h1 => ?_)
 ·try rw [h1]
  try simp only [qB] at h1
  refine Qg Z (Qd Z (Qg Z (Qjb Z Z (Qh Z Z (Qd Z (hK _ _ (Qa (kp1 Z) ?_)))))))
  refine Qr (Qi Z ?_)
  (repeat clear hK K); simp_all [Yp] <;> omega
 ·try rw [h1]
  try simp only [qB] at h1
  refine Qp Z (Qp Z (Qh Z Z (Qd Z (hK _ _ (Qa (kp1 Z) ?_)))))
  refine Qr (Qi Z ?_)
  (repeat clear hK K); simp_all [Yp] <;> omega
theorem XH {s : List UInt8} (hl : s.length <= 1000000) : Ok Tryd.prog 88 [.str s] (.bool (ZZ s)) := by
 refine Ok.ofT Z9 Tryd.func88 Qmn (Nat.le_of_ble_eq_true Z) ?_
 show TW _ _ tf88.body _ _
 refine Qe fun K hK => Qd Z (hK _ _ (Qa (kp1 Z) ?_))
 refine QJ ?_ -- 0
 refine Qe fun K hK => Qd Z (hK _ _ (Qa (kp2 Z Z) ?_))
 refine QP ?_
 refine Yn (ι := Nat) (fun i => ⟨[(0, .str s), (3, .int .i64 i)], []⟩) (fun i => i <= s.length /\ (s.take i).all ZB = true) (fun i => s.length - i) 0 ?_ ?_ ?_
 ·exact Q5 (kp2 rfl rfl)
 ·exact ⟨Nat.zero_le _, rfl⟩
 intro i hI
 try dsimp only
 refine QJ ?_ -- 1
 refine Qe fun K hK => Qd Z (Qd Z (ZC Z (XJ Z Z (hK _ _ (Qa (kp3 Z Z Z) ?_)))))
 refine Qy Z (fun h1 => ?_) (fun h1 => ?_)
 ·try rw [h1]
  try simp only [qB] at h1
  refine Qu (Qf (kp2 Z Z) ?_)
  refine QJ ?_ -- 2
  refine QP (Qe fun K hK => Qd Z (Qd Z (Zw Z Z (by omega) (XX (by omega)) (XJ Z Z (Qd Z ?_)))))
  refine Qs (g := 14) Z (fun h2 => ?_) (fun h2 => ?_)
  ·try rw [h2]
   try simp only [qB] at h2
   refine Qp Z (Qp Z (Qp Z (Qp Z (Qh Z Z (hK _ _ (Qa (kp3 Z Z Z) ?_))))))
   refine Zd Z (Qe fun K hK => Qd Z (hK _ _ (Qa (kp1 Z) ?_)))
   refine Qr (Qt (Qk (QY (Qt (Qk (Qi Z ?_))))))
   exact (Qag (i := i) (by omega) (by simp [ZB]; omega)).symm
  ·try rw [h2]
   try simp only [qB] at h2
   refine Qg Z (Qd Z (Qg Z (Qd Z (Qg Z (Zw Z Z (by omega) (XX (by omega)) (Qg Z (QbW Z Z (Qh Z Z (hK _ _ (Qa (kp3 Z Z Z) ?_))))))))))
   refine Qy Z (fun h3 => ?_) (fun h3 => ?_)
   ·try rw [h3]
    try simp only [qB] at h3
    refine Qe fun K hK => Qd Z (hK _ _ (Qa (kp1 Z) ?_))
    refine Qr (Qt (Qk (QY (Qt (Qk (Qi Z ?_))))))
    exact (Qag (i := i) (by omega) (by simp [ZB]; omega)).symm
   ·try rw [h3]
    try simp only [qB] at h3
    refine Qu (Qm (Qf (kp2 Z Z) (Ze fun K hK => Qd Z (ZJ Z Z (by first | exact QD (by omega) (by omega) | exact QI (by omega) (by omega) | exact QT (by omega) (by omega) | rfl) (Qd Z (hK _ ?_))))))
    refine Qq (i + 1) ?_ ?_ ?_
    ·exact Q5 (kp2 rfl rfl)
    ·exact ⟨by omega, QS (by omega) hI.2 (by simp [ZB]; omega)⟩
    ·first | omega | (simp only; omega) | (dsimp only; omega)
 ·try rw [h1]
  try simp only [qB] at h1
  refine Zv (QO (QC (QQ (Qf (kp1 Z) (Qe fun K hK => Qd Z (ZC Z (QbW Z Z (Qd Z (hK _ _ (Qa (kp1 Z) ?_))))))))))
  refine Qr (Qi Z ?_)
  rw [Qcy (i := i) (by omega) hI.2]; cases s <;> simp
theorem QaQ {s : List UInt8} (hl : s.length <= 1000000) : Ok Tryd.prog 86 [.str s] (.bool (XK s)) := by
 refine Ok.ofT Z9 Tryd.func86 Qml (Nat.le_of_ble_eq_true Z) ?_
 show TW _ _ tf86.body _ _
 refine Qe fun K hK => Qd Z (hK _ _ (Qa (kp1 Z) ?_))
 refine QJ ?_ -- 0
 refine Qe fun K hK => Qd Z (ZC Z (XJ Z Z (Qd Z ?_)))
 refine Qs (g := 8) Z (fun h1 => ?_) (fun h1 => ?_)
 ·try rw [h1]
  try simp only [qB] at h1
  refine Qp Z (Qp Z (Qp Z (Qh Z Z (hK _ _ (Qa (kp2 Z Z) ?_)))))
  refine Zd Z (Qe fun K hK => Qd Z (hK _ _ (Qa (kp1 Z) ?_)))
  refine Qr (Qk (Qi Z ?_))
  first | (have hz := Yb (p := Zb) (s := s) (i := i) (by omega) hI.2; simp [XK, hz]; omega) | (have hz := ZK (p := Zb) (s := s) (i := i) (by omega) (by simp [Zb]; omega); simp [XK, hz]; done) | (simp [XK]; omega)
 ·try rw [h1]
  try simp only [qB] at h1
  refine Qg Z (Qd Z (Qg Z (ZC Z (Qg Z (QbW Z Z (Qh Z Z (hK _ _ (Qa (kp2 Z Z) ?_))))))))
  refine Qy Z (fun h2 => ?_) (fun h2 => ?_)
  ·try rw [h2]
   try simp only [qB] at h2
   refine Qe fun K hK => Qd Z (hK _ _ (Qa (kp1 Z) ?_))
   refine Qr (Qk (Qi Z ?_))
   first | (have hz := Yb (p := Zb) (s := s) (i := i) (by omega) hI.2; simp [XK, hz]; omega) | (have hz := ZK (p := Zb) (s := s) (i := i) (by omega) (by simp [Zb]; omega); simp [XK, hz]; done) | (simp [XK]; omega)
  ·try rw [h2]
   try simp only [qB] at h2
   refine Qu (Qf (kp1 Z) ?_)
   refine QJ ?_ -- 1
   refine Qe fun K hK => Qd Z (hK _ _ (Qa (kp2 Z Z) ?_))
   refine QP ?_
   refine Yn (ι := Nat) (fun i => ⟨[(0, .str s), (3, .int .i64 i)], []⟩) (fun i => i <= s.length /\ (s.take i).all Zb = true) (fun i => s.length - i) 0 ?_ ?_ ?_
   ·exact Q5 (kp2 rfl rfl)
   ·exact ⟨Nat.zero_le _, rfl⟩
   intro i hI
   try dsimp only
   refine QJ ?_ -- 2
   refine Qe fun K hK => Qd Z (Qd Z (ZC Z (XJ Z Z (hK _ _ (Qa (kp3 Z Z Z) ?_)))))
   refine Qy Z (fun h3 => ?_) (fun h3 => ?_)
   ·try rw [h3]
    try simp only [qB] at h3
    refine Qu (Qf (kp2 Z Z) ?_)
    refine QJ ?_ -- 3
    refine QP (Qe fun K hK => Qd Z (Qd Z (Zw Z Z (by omega) (XX (by omega)) (Qd Z (hK _ _ (Qa (kp3 Z Z Z) ?_))))))
    refine Qe fun K hK => Qd Z (XJ Z Z (Qd Z ?_))
    refine Qs (g := 24) Z (fun h4 => ?_) (fun h4 => ?_)
    ·try rw [h4]
     try simp only [qB] at h4
     refine Qp Z (Qp Z (Qh Z Z (Qd Z (Qg Z (Qd Z (Qg Z (XJ Z Z (Qg Z (Qd Z ?_)))))))))
     refine Qs (g := 31) Z (fun h5 => ?_) (fun h5 => ?_)
     ·try rw [h5]
      try simp only [qB] at h5
      refine Qp Z (Qp Z (Qg Z (Qh Z Z (Qh Z Z (Qd Z (Qg Z (Qd Z (Qg Z (YH Z Z (Qh Z Z (hK _ _ (Qa (kp3 Z Z Z) ?_))))))))))))
      refine Qy Z (fun h6 => ?_) (fun h6 => ?_)
      ·try rw [h6]
       try simp only [qB] at h6
       refine Qe fun K hK => Qd Z (hK _ _ (Qa (kp1 Z) ?_))
       refine Qr (Qt (Qk (QY (Qt (Qk (Qi Z ?_))))))
       first | (have hz := Yb (p := Zb) (s := s) (i := i) (by omega) hI.2; simp [XK, hz]; omega) | (have hz := ZK (p := Zb) (s := s) (i := i) (by omega) (by simp [Zb]; omega); simp [XK, hz]; done) | (simp [XK]; omega)
      ·try rw [h6]
       try simp only [qB] at h6
       refine Qu (Qm (Qf (kp2 Z Z) (Ze fun K hK => Qd Z (ZJ Z Z (by first | exact QD (by omega) (by omega) | exact QI (by omega) (by omega) | exact QT (by omega) (by omega) | rfl) (Qd Z (hK _ ?_))))))
       refine Qq (i + 1) ?_ ?_ ?_
       ·exact Q5 (kp2 rfl rfl)
       ·exact ⟨by omega, QS (by omega) hI.2 (by simp [Zb]; omega)⟩
       ·first | omega | (simp only; omega) | (dsimp only; omega)
     ·try rw [h5]
      try simp only [qB] at h5
      refine Qg Z (Qd Z (Qg Z (QbW Z Z (Qg Z (Qh Z Z (Qh Z Z (Qd Z ?_)))))))
      refine Qs (g := 36) Z (fun h7 => ?_) (fun h7 => ?_)
      ·try rw [h7]
       try simp only [qB] at h7
       refine Qg Z (Qd Z (Qg Z (YH Z Z (Qh Z Z (hK _ _ (Qa (kp3 Z Z Z) ?_))))))
       refine Qy Z (fun h8 => ?_) (fun h8 => ?_)
       ·try rw [h8]
        try simp only [qB] at h8
        refine Qe fun K hK => Qd Z (hK _ _ (Qa (kp1 Z) ?_))
        refine Qr (Qt (Qk (QY (Qt (Qk (Qi Z ?_))))))
        first | (have hz := Yb (p := Zb) (s := s) (i := i) (by omega) hI.2; simp [XK, hz]; omega) | (have hz := ZK (p := Zb) (s := s) (i := i) (by omega) (by simp [Zb]; omega); simp [XK, hz]; done) | (simp [XK]; omega)
       ·try rw [h8]
        try simp only [qB] at h8
        refine Qu (Qm (Qf (kp2 Z Z) (Ze fun K hK => Qd Z (ZJ Z Z (by first | exact QD (by omega) (by omega) | exact QI (by omega) (by omega) | exact QT (by omega) (by omega) | rfl) (Qd Z (hK _ ?_))))))
        refine Qq (i + 1) ?_ ?_ ?_
        ·exact Q5 (kp2 rfl rfl)
        ·exact ⟨by omega, QS (by omega) hI.2 (by simp [Zb]; omega)⟩
        ·first | omega | (simp only; omega) | (dsimp only; omega)
      ·try rw [h7]
       try simp only [qB] at h7
       refine Qp Z (Qp Z (Qh Z Z (hK _ _ (Qa (kp3 Z Z Z) ?_))))
       refine Zr Z (Qu (Qm (Qf (kp2 Z Z) (Ze fun K hK => Qd Z (ZJ Z Z (by first | exact QD (by omega) (by omega) | exact QI (by omega) (by omega) | exact QT (by omega) (by omega) | rfl) (Qd Z (hK _ ?_)))))))
       refine Qq (i + 1) ?_ ?_ ?_
       ·exact Q5 (kp2 rfl rfl)
       ·exact ⟨by omega, QS (by omega) hI.2 (by simp [Zb]; omega)⟩
       ·first | omega | (simp only; omega) | (dsimp only; omega)
    ·try rw [h4]
     try simp only [qB] at h4
     refine Qg Z (Qd Z (Qg Z (QbW Z Z (Qh Z Z (Qd Z ?_)))))
     refine Qs (g := 28) Z (fun h9 => ?_) (fun h9 => ?_)
     ·try rw [h9]
      try simp only [qB] at h9
      refine Qg Z (Qd Z (Qg Z (XJ Z Z (Qg Z (Qd Z ?_)))))
      refine Qs (g := 31) Z (fun h10 => ?_) (fun h10 => ?_)
      ·try rw [h10]
       try simp only [qB] at h10
       refine Qp Z (Qp Z (Qg Z (Qh Z Z (Qh Z Z (Qd Z (Qg Z (Qd Z (Qg Z (YH Z Z (Qh Z Z (hK _ _ (Qa (kp3 Z Z Z) ?_))))))))))))
       refine Qy Z (fun h11 => ?_) (fun h11 => ?_)
       ·try rw [h11]
        try simp only [qB] at h11
        refine Qe fun K hK => Qd Z (hK _ _ (Qa (kp1 Z) ?_))
        refine Qr (Qt (Qk (QY (Qt (Qk (Qi Z ?_))))))
        first | (have hz := Yb (p := Zb) (s := s) (i := i) (by omega) hI.2; simp [XK, hz]; omega) | (have hz := ZK (p := Zb) (s := s) (i := i) (by omega) (by simp [Zb]; omega); simp [XK, hz]; done) | (simp [XK]; omega)
       ·try rw [h11]
        try simp only [qB] at h11
        refine Qu (Qm (Qf (kp2 Z Z) (Ze fun K hK => Qd Z (ZJ Z Z (by first | exact QD (by omega) (by omega) | exact QI (by omega) (by omega) | exact QT (by omega) (by omega) | rfl) (Qd Z (hK _ ?_))))))
        refine Qq (i + 1) ?_ ?_ ?_
        ·exact Q5 (kp2 rfl rfl)
        ·exact ⟨by omega, QS (by omega) hI.2 (by simp [Zb]; omega)⟩
        ·first | omega | (simp only; omega) | (dsimp only; omega)
      ·try rw [h10]
       try simp only [qB] at h10
       refine Qg Z (Qd Z (Qg Z (QbW Z Z (Qg Z (Qh Z Z (Qh Z Z (Qd Z ?_)))))))
       refine Qs (g := 36) Z (fun h12 => ?_) (fun h12 => ?_)
       ·try rw [h12]
        try simp only [qB] at h12
        refine Qg Z (Qd Z (Qg Z (YH Z Z (Qh Z Z (hK _ _ (Qa (kp3 Z Z Z) ?_))))))
        refine Qy Z (fun h13 => ?_) (fun h13 => ?_)
        ·try rw [h13]
         try simp only [qB] at h13
         refine Qe fun K hK => Qd Z (hK _ _ (Qa (kp1 Z) ?_))
         refine Qr (Qt (Qk (QY (Qt (Qk (Qi Z ?_))))))
         first | (have hz := Yb (p := Zb) (s := s) (i := i) (by omega) hI.2; simp [XK, hz]; omega) | (have hz := ZK (p := Zb) (s := s) (i := i) (by omega) (by simp [Zb]; omega); simp [XK, hz]; done) | (simp [XK]; omega)
        ·try rw [h13]
         try simp only [qB] at h13
         refine Qu (Qm (Qf (kp2 Z Z) (Ze fun K hK => Qd Z (ZJ Z Z (by first | exact QD (by omega) (by omega) | exact QI (by omega) (by omega) | exact QT (by omega) (by omega) | rfl) (Qd Z (hK _ ?_))))))
         refine Qq (i + 1) ?_ ?_ ?_
         ·exact Q5 (kp2 rfl rfl)
         ·exact ⟨by omega, QS (by omega) hI.2 (by simp [Zb]; omega)⟩
         ·first | omega | (simp only; omega) | (dsimp only; omega)
       ·try rw [h12]
        try simp only [qB] at h12
        refine Qp Z (Qp Z (Qh Z Z (hK _ _ (Qa (kp3 Z Z Z) ?_))))
        refine Zr Z (Qu (Qm (Qf (kp2 Z Z) (Ze fun K hK => Qd Z (ZJ Z Z (by first | exact QD (by omega) (by omega) | exact QI (by omega) (by omega) | exact QT (by omega) (by omega) | rfl) (Qd Z (hK _ ?_)))))))
        refine Qq (i + 1) ?_ ?_ ?_
        ·exact Q5 (kp2 rfl rfl)
        ·exact ⟨by omega, QS (by omega) hI.2 (by simp [Zb]; omega)⟩
        ·first | omega | (simp only; omega) | (dsimp only; omega)
     ·try rw [h9]
      try simp only [qB] at h9
      refine Qp Z (Qp Z (Qp Z (QE Z (QE Z (Qp Z (Qh Z Z (Qd Z (Qp Z (Qp Z (Qh Z Z (hK _ _ (Qa (kp3 Z Z Z) ?_))))))))))))
      refine Zr Z (Qu (Qm (Qf (kp2 Z Z) (Ze fun K hK => Qd Z (ZJ Z Z (by first | exact QD (by omega) (by omega) | exact QI (by omega) (by omega) | exact QT (by omega) (by omega) | rfl) (Qd Z (hK _ ?_)))))))
      refine Qq (i + 1) ?_ ?_ ?_
      ·exact Q5 (kp2 rfl rfl)
      ·exact ⟨by omega, QS (by omega) hI.2 (by simp [Zb]; omega)⟩
      ·first | omega | (simp only; omega) | (dsimp only; omega)
   ·try rw [h3]
    try simp only [qB] at h3
    refine Zv (QO (QC (QQ (Qf (QK) (Qe fun K hK => Qd Z (hK _ _ (Qa (kp1 Z) ?_)))))))
    refine Qr (Qi Z ?_)
    first | (have hz := Yb (p := Zb) (s := s) (i := i) (by omega) hI.2; simp [XK, hz]; omega) | (have hz := ZK (p := Zb) (s := s) (i := i) (by omega) (by simp [Zb]; omega); simp [XK, hz]; done) | (simp [XK]; omega)
theorem Qas {a b c : Int} {p q : List UInt8} : Ok Tryd.prog 108 [.agg [.int .i64 a, .int .i64 b, .int .i64 c, .str p, .str q]] (.agg [.int .i64 a, .int .i64 b, .int .i64 c, .str p, .str []]) := by
 refine Ok.ofT Z9 Tryd.func108 Qlo (Nat.le_of_ble_eq_true Z) ?_
 show TW _ _ tf108.body _ _
 refine Qe fun K hK => ZU Z Z Z (Zt Z (hK _ _ (Qa (kp2 Z Z) ?_)))
 refine Qe fun K hK => Ql Z Z (QX Z Z Z Z Z Z Z Z (hK _ _ (Qa (kp2 Z Z) ?_)))
 refine Qe fun K hK => QH (cs := [_, _, _, _, _]) Z Z Z Z (QX Z Z Z Z Z Z Z Z (hK _ _ (Qa (kp1 Z) ?_)))
 refine Qr (Zo (cs := [_, _, _, _, _]) Z Z Z Z ?_)
 exact rfl
theorem XS {s : List UInt8} (hl : s.length <= 1000000) : Ok Tryd.prog 87 [.str s] (.tup [.int .i64 (Zu s).1, .bool (Zu s).2]) := by
 refine Ok.ofT Z9 Tryd.func87 Qmm (Nat.le_of_ble_eq_true Z) ?_
 show TW _ _ tf87.body _ _
 refine Qe fun K hK => Qd Z (Qd Z (hK _ _ (Qa (kp1 Z) ?_)))
 refine QiP (ι := Unit) (fun _u => ⟨[(0, .str s)], []⟩) (fun _u => ¬ (s.length < 1 \/ 9 < s.length \/ (1 < s.length /\ s.head? = some 48))) ?_ ?_
 ·skip
  refine Qe fun K hK => Qd Z (ZC Z (XJ Z Z (Qd Z ?_)))
  refine Qs (g := 9) Z (fun h1 => ?_) (fun h1 => ?_)
  ·try rw [h1]
   try simp only [qB, Yp, Bool.and_eq_true, Bool.and_eq_false_iff] at h1
   refine Qp Z (Qp Z (Qp Z (Qh Z Z (Qd Z (Qp Z (Qp Z (Qp Z (Qp Z (QE Z (QE Z (QE Z ?_)))))))))))
   refine Qp Z (Qh Z Z (hK _ _ (Qa (kp2 Z Z) ?_)))
   refine Zd Z (Qe fun K hK => Qd Z (Qd Z (hK _ _ (Qa (kp2 Z Z) ?_))))
   refine Qr (Qac (Zs Z Z ?_))
   first | (rw [Qbj (s := s) (by omega)]; exact ⟨rfl, rfl⟩) | (rw [ZH (s := s) (by omega) (by assumption)]; exact ⟨rfl, rfl⟩) | (rw [Z7 (s := s) (i := i) (by omega) (by simp [ZB]; omega)]; exact ⟨rfl, rfl⟩) | (rw [Qbi (s := s) (i := i) (by omega) (by omega)]; exact ⟨rfl, rfl⟩) | (rw [Qcx (s := s) (i := i) hJ (by omega) hI.2.1 (by omega)]; exact ⟨rfl, rfl⟩)
  ·try rw [h1]
   try simp only [qB, Yp, Bool.and_eq_true, Bool.and_eq_false_iff] at h1
   refine Qg Z (Qd Z (Qg Z (ZC Z (Qg Z (QbW Z Z (Qh Z Z (Qd Z ?_)))))))
   refine Qs (g := 14) Z (fun h2 => ?_) (fun h2 => ?_)
   ·try rw [h2]
    try simp only [qB, Yp, Bool.and_eq_true, Bool.and_eq_false_iff] at h2
    refine Qp Z (Qp Z (Qp Z (Qp Z (QE Z (QE Z (QE Z (Qp Z (Qh Z Z (hK _ _ (Qa (kp2 Z Z) ?_))))))))))
    refine Zd Z (Qe fun K hK => Qd Z (Qd Z (hK _ _ (Qa (kp2 Z Z) ?_))))
    refine Qr (Qac (Zs Z Z ?_))
    first | (rw [Qbj (s := s) (by omega)]; exact ⟨rfl, rfl⟩) | (rw [ZH (s := s) (by omega) (by assumption)]; exact ⟨rfl, rfl⟩) | (rw [Z7 (s := s) (i := i) (by omega) (by simp [ZB]; omega)]; exact ⟨rfl, rfl⟩) | (rw [Qbi (s := s) (i := i) (by omega) (by omega)]; exact ⟨rfl, rfl⟩) | (rw [Qcx (s := s) (i := i) hJ (by omega) hI.2.1 (by omega)]; exact ⟨rfl, rfl⟩)
   ·try rw [h2]
    try simp only [qB, Yp, Bool.and_eq_true, Bool.and_eq_false_iff] at h2
    refine Qg Z (Qd Z (Qg Z (ZC Z (Qg Z (QbW Z Z (Qg Z (Qd Z ?_)))))))
    refine Qs (g := 18) Z (fun h3 => ?_) (fun h3 => ?_)
    ·try rw [h3]
     try simp only [qB, Yp, Bool.and_eq_true, Bool.and_eq_false_iff] at h3
     refine Qg Z (Qd Z (Qg Z (Zw Z Z (by omega) (XX (i := 0) (by omega)) (Qg Z (Ys Z Z (Qg Z (Qh Z Z (Qh Z Z (hK _ _ (Qa (kp2 Z Z) ?_))))))))))
     refine Qy Z (fun h4 => ?_) (fun h4 => ?_)
     ·try rw [h4]
      try simp only [qB, Yp, Bool.and_eq_true, Bool.and_eq_false_iff] at h4
      refine Qe fun K hK => Qd Z (Qd Z (hK _ _ (Qa (kp2 Z Z) ?_)))
      refine Qr (Qac (Zs Z Z ?_))
      first | (rw [Qbj (s := s) (by omega)]; exact ⟨rfl, rfl⟩) | (rw [ZH (s := s) (by omega) (by assumption)]; exact ⟨rfl, rfl⟩) | (rw [Z7 (s := s) (i := i) (by omega) (by simp [ZB]; omega)]; exact ⟨rfl, rfl⟩) | (rw [Qbi (s := s) (i := i) (by omega) (by omega)]; exact ⟨rfl, rfl⟩) | (rw [Qcx (s := s) (i := i) hJ (by omega) hI.2.1 (by omega)]; exact ⟨rfl, rfl⟩)
     ·try rw [h4]
      try simp only [qB, Yp, Bool.and_eq_true, Bool.and_eq_false_iff] at h4
      refine Qu ?_
      refine Xx () ?_ ?_
      ·exact Q5 (kp1 rfl)
      ·rintro (q | q | q) <;> first | omega | exact QdI (s := s) (by omega) (by assumption) q.2
    ·try rw [h3]
     try simp only [qB, Yp, Bool.and_eq_true, Bool.and_eq_false_iff] at h3
     refine Qp Z (Qp Z (Qp Z (Qg Z (Qh Z Z (Qh Z Z (hK _ _ (Qa (kp2 Z Z) ?_)))))))
     refine Zr Z (Qu ?_)
     refine Xx () ?_ ?_
     ·exact Q5 (kp1 rfl)
     ·rintro (q | q | q) <;> first | omega | exact QdI (s := s) (by omega) (by assumption) q.2
 intro _u hJ
 try dsimp only
 refine Qe fun K hK => Qd Z (hK _ _ (Qa (kp2 Z Z) ?_))
 refine QJ ?_ -- 1
 refine Qe fun K hK => Qd Z (hK _ _ (Qa (kp3 Z Z Z) ?_))
 refine QP ?_
 refine Yn (ι := Nat) (fun i => ⟨[(0, .str s), (4, .int .i64 (val (s.take i))), (5, .int .i64 i)], []⟩) (fun i => i <= s.length /\ (s.take i).all ZB = true /\ s.length <= 9) (fun i => s.length - i) 0 ?_ ?_ ?_
 ·first | exact Q5 (kp3 rfl rfl rfl) | exact Zk (l := [0, 4, 5]) (kp3 rfl rfl rfl) Qw (by rw [QbP (by omega)]; simp; omega) rfl rfl
 ·exact ⟨Nat.zero_le _, rfl, by omega⟩
 intro i hI
 have hv := QhQ (s := s.take i) hI.2.1
 have hp : 10 ^ (s.take i).length <= 10 ^ 9 := Nat.pow_le_pow_right (by omega) (by simp; omega)
 try dsimp only
 refine QJ ?_ -- 2
 refine Qe fun K hK => Qd Z (Qd Z (ZC Z (XJ Z Z (hK _ _ (Qa (kp4 Z Z Z Z) ?_)))))
 refine Qy Z (fun h5 => ?_) (fun h5 => ?_)
 ·try rw [h5]
  try simp only [qB, Yp, Bool.and_eq_true, Bool.and_eq_false_iff] at h5
  refine Qu (Qf (kp3 Z Z Z) ?_)
  refine QJ ?_ -- 3
  refine QP ?_
  refine QJ ?_ -- 4
  refine Qe fun K hK => Qd Z (Qd Z (Zw Z Z (by omega) (XX (by omega)) (QA (Qal) Z Z (.inr Z) (ZV Z (hK _ _ (Qa (kp4 Z Z Z Z) ?_))))))
  refine Qy Z (fun h6 => ?_) (fun h6 => ?_)
  ·try rw [h6]
   try simp only [qB, Yp, Bool.and_eq_true, Bool.and_eq_false_iff] at h6
   refine Qe fun K hK => Qd Z (Qd Z (hK _ _ (Qa (kp2 Z Z) ?_)))
   refine Qr (Qk (Qt (Qk (QY (Qt (Qk (Zs Z Z ?_)))))))
   first | (rw [Qbj (s := s) (by omega)]; exact ⟨rfl, rfl⟩) | (rw [ZH (s := s) (by omega) (by assumption)]; exact ⟨rfl, rfl⟩) | (rw [Z7 (s := s) (i := i) (by omega) (by simp [ZB]; omega)]; exact ⟨rfl, rfl⟩) | (rw [Qbi (s := s) (i := i) (by omega) (by omega)]; exact ⟨rfl, rfl⟩) | (rw [Qcx (s := s) (i := i) hJ (by omega) hI.2.1 (by omega)]; exact ⟨rfl, rfl⟩)
  ·try rw [h6]
   try simp only [qB, Yp, Bool.and_eq_true, Bool.and_eq_false_iff] at h6
   refine Qu (Qf (kp3 Z Z Z) (Ze fun K hK => Qd Z (Qjc Z Z (by first | exact QD (by omega) (by omega) | exact QI (by omega) (by omega) | exact QT (by omega) (by omega) | rfl) (Qd Z (Qd Z (Zw Z Z (by omega) (XX (by omega)) (Qgm Z Z (by first | exact QD (by omega) (by omega) | exact QI (by omega) (by omega) | exact QT (by omega) (by omega) | rfl) (QgM Z (by first | exact QD (by omega) (by omega) | exact QI (by omega) (by omega) | exact QT (by omega) (by omega) | rfl) (ZJ Z Z (by first | exact QD (by omega) (by omega) | exact QI (by omega) (by omega) | exact QT (by omega) (by omega) | rfl) (Qd Z ?_))))))))))
   refine hK _ ?_
   refine Qm (Qf (kp3 Z Z Z) (Ze fun K hK => Qd Z (ZJ Z Z (by first | exact QD (by omega) (by omega) | exact QI (by omega) (by omega) | exact QT (by omega) (by omega) | rfl) (Qd Z (hK _ ?_)))))
   refine Qq (i + 1) ?_ ?_ ?_
   ·first | exact Q5 (kp3 rfl rfl rfl) | exact Zk (l := [0, 4, 5]) (kp3 rfl rfl rfl) Qw (by rw [QbP (by omega)]; simp; omega) rfl rfl
   ·exact ⟨by omega, QS (by omega) hI.2.1 (by simp [ZB]; omega), hI.2.2⟩
   ·first | omega | (simp only; omega) | (dsimp only; omega)
 ·try rw [h5]
  try simp only [qB, Yp, Bool.and_eq_true, Bool.and_eq_false_iff] at h5
  refine Zv (QO (QC (QQ (Qf (kp1 Z) ?_))))
  refine QJ ?_ -- 5
  refine Qe fun K hK => Qd Z (QbW Z Z (hK _ _ (Qa (kp2 Z Z) ?_)))
  refine Qy Z (fun h7 => ?_) (fun h7 => ?_)
  ·try rw [h7]
   try simp only [qB, Yp, Bool.and_eq_true, Bool.and_eq_false_iff] at h7
   refine Qe fun K hK => Qd Z (Qd Z (hK _ _ (Qa (kp2 Z Z) ?_)))
   refine Qr (Qk (Zs Z Z ?_))
   first | (rw [Qbj (s := s) (by omega)]; exact ⟨rfl, rfl⟩) | (rw [ZH (s := s) (by omega) (by assumption)]; exact ⟨rfl, rfl⟩) | (rw [Z7 (s := s) (i := i) (by omega) (by simp [ZB]; omega)]; exact ⟨rfl, rfl⟩) | (rw [Qbi (s := s) (i := i) (by omega) (by omega)]; exact ⟨rfl, rfl⟩) | (rw [Qcx (s := s) (i := i) hJ (by omega) hI.2.1 (by omega)]; exact ⟨rfl, rfl⟩)
  ·try rw [h7]
   try simp only [qB, Yp, Bool.and_eq_true, Bool.and_eq_false_iff] at h7
   refine Qu (Qf (kp1 Z) (Qe fun K hK => Qd Z (Qd Z (Qd Z (hK _ _ (Qa (kp2 Z Z) ?_))))))
   refine Qr (Zs Z Z ?_)
   first | (rw [Qbj (s := s) (by omega)]; exact ⟨rfl, rfl⟩) | (rw [ZH (s := s) (by omega) (by assumption)]; exact ⟨rfl, rfl⟩) | (rw [Z7 (s := s) (i := i) (by omega) (by simp [ZB]; omega)]; exact ⟨rfl, rfl⟩) | (rw [Qbi (s := s) (i := i) (by omega) (by omega)]; exact ⟨rfl, rfl⟩) | (rw [Qcx (s := s) (i := i) hJ (by omega) hI.2.1 (by omega)]; exact ⟨rfl, rfl⟩)
end Go.Proofs
namespace Go.Proofs
open Go Go.Abs M3
set_option linter.unusedVariables false
set_option linter.unusedSimpArgs false
theorem YJ {s : List UInt8} {pre : Bool} (hl : s.length <= 1000000) : Ok Tryd.prog 65 [.str s, .bool pre] (.bool (Y8 s pre)) := by
 refine Ok.ofT Z9 Tryd.func65 Ql8 (Nat.le_of_ble_eq_true Z) ?_
 show TW _ _ tf65.body _ _
 refine Qe fun K hK => Qd Z (hK _ _ (Qa (kp2 Z Z) ?_))
 refine QJ ?_ -- 0
 refine Qe fun K hK => Qd Z (QbV Z Z (hK _ _ (Qa (kp3 Z Z Z) ?_)))
 refine Qy Z (fun h1 => ?_) (fun h1 => ?_)
 ·try rw [h1]
  try simp only [qB, Qj] at h1
  refine Qe fun K hK => Qd Z (hK _ _ (Qa (kp1 Z) ?_))
  refine Qr (Qk (Qi Z ?_))
  (repeat clear hK K); first | (simp_all [Y8]; done) | (simp [Y8, h1]; omega) | exact (Qa4 (i := i) (by assumption) (by omega) (by simp [Qar, h1])).symm | exact (X0 (i := i) (by omega) (by omega) hI.2).symm
 ·try rw [h1]
  try simp only [qB, Qj] at h1
  refine Qu (Qf (kp2 Z Z) (Qe fun K hK => Qd Z (QA (Qak (by omega)) Z Z (.inl Z) (Qd Z (hK _ _ (Qa (kp2 Z Z) ?_))))))
  refine QJ ?_ -- 1
  refine Qe fun K hK => Qd Z (YG Z Z (QbW Z Z (hK _ _ (Qa (kp3 Z Z Z) ?_))))
  refine Qy Z (fun h2 => ?_) (fun h2 => ?_)
  ·try rw [h2]
   try simp only [qB, Qj] at h2
   refine Qe fun K hK => Qd Z (hK _ _ (Qa (kp1 Z) ?_))
   refine Qr (Qk (Qi Z ?_))
   (repeat clear hK K); first | (simp_all [Y8]; done) | (simp [Y8, h1, h2]; omega) | exact (Qa4 (i := i) (by assumption) (by omega) (by simp [Qar, h1, h2])).symm | exact (X0 (i := i) (by omega) (by omega) hI.2).symm
  ·try rw [h2]
   try simp only [qB, Qj] at h2
   refine Qu (Qf (kp2 Z Z) ?_)
   refine QJ ?_ -- 2
   refine Qe fun K hK => Qd Z (hK _ _ (Qa (kp3 Z Z Z) ?_))
   refine QP ?_
   refine Yn (ι := Nat) (fun i => ⟨[(1, .bool pre), (5, .sl (Ya (QM s 46))), (6, .int .i64 i)], []⟩) (fun i => i <= (QM s 46).length /\ ((QM s 46).take i).all (Qar pre) = true) (fun i => (QM s 46).length - i) 0 ?_ ?_ ?_
   ·first | exact Q5 (kp3 rfl rfl rfl) | exact Zk (l := [1, 5, 6]) (kp3 rfl rfl rfl) Qw (by simp [h1, h2]) rfl rfl
   ·exact ⟨Nat.zero_le _, rfl⟩
   intro i hI
   try dsimp only
   refine QJ ?_ -- 3
   refine Qe fun K hK => Qd Z (Qd Z (YG Z Z (XJ Z Z (hK _ _ (Qa (kp4 Z Z Z Z) ?_)))))
   refine Qy Z (fun h3 => ?_) (fun h3 => ?_)
   ·try rw [h3]
    try simp only [qB, Qj] at h3
    refine Qu (Qf (kp3 Z Z Z) ?_)
    refine QJ ?_ -- 4
    refine QP ?_
    refine QJ ?_ -- 5
    refine Qe fun K hK => Qd Z (Qd Z (Zn Z Z Z (by omega) (Xv (by omega)) Z (QG Z Z Z (QA (QaQ (XD (by omega) hl)) Z Z (.inr Z) (ZV Z (hK _ _ (Qa (kp4 Z Z Z Z) ?_)))))))
    refine Qy Z (fun h4 => ?_) (fun h4 => ?_)
    ·try rw [h4]
     try simp only [qB, Qj] at h4
     refine Qe fun K hK => Qd Z (hK _ _ (Qa (kp1 Z) ?_))
     refine Qr (Qk (Qt (Qk (QY (Qt (Qk (Qi Z ?_)))))))
     (repeat clear hK K); first | (simp_all [Y8]; done) | (simp [Y8, h1, h2, h3, h4]; omega) | exact (Qa4 (i := i) (by assumption) (by omega) (by simp [Qar, h1, h2, h3, h4])).symm | exact (X0 (i := i) (by omega) (by omega) hI.2).symm
    ·try rw [h4]
     try simp only [qB, Qj] at h4
     refine Qu (Qf (kp3 Z Z Z) (Qe fun K hK => Qd Z (Qd Z (Zn Z Z Z (by omega) (Xv (by omega)) Z (QG Z Z Z (QA (XS (XD (by omega) hl)) Z Z (.inr Z) (Qd Z (Q2 Z Z (Q2 Z Z (Qd Z ?_))))))))))
     refine Qd Z (hK _ _ (Qa (kp4 Z Z Z Z) ?_))
     refine Qe fun K hK => Qd Z (Qd Z ?_)
     refine Qs (g := 37) Z (fun h5 => ?_) (fun h5 => ?_)
     ·try rw [h5]
      try simp only [qB, Qj] at h5
      refine Qg Z (Qd Z (Qg Z (Qd Z (Qg Z (Zn Z Z Z (by omega) (Xv (by omega)) Z (Qg Z (QG Z Z Z (Qg Z (QA (XH (XD (by omega) hl)) Z Z (.inr Z) (Qh Z Z (Qd Z ?_)))))))))))
      refine Qs (g := 44) Z (fun h6 => ?_) (fun h6 => ?_)
      ·try rw [h6]
       try simp only [qB, Qj] at h6
       refine Qg Z (Qd Z (Qg Z (ZV Z (Qh Z Z (hK _ _ (Qa (kp4 Z Z Z Z) ?_))))))
       refine Qy Z (fun h7 => ?_) (fun h7 => ?_)
       ·try rw [h7]
        try simp only [qB, Qj] at h7
        refine Qe fun K hK => Qd Z (hK _ _ (Qa (kp1 Z) ?_))
        refine Qr (Qt (Qk (QY (Qt (Qk (Qi Z ?_))))))
        (repeat clear hK K); first | (simp_all [Y8]; done) | (simp [Y8, h1, h2, h3, h4, h5, h6, h7]; omega) | exact (Qa4 (i := i) (by assumption) (by omega) (by simp [Qar, h1, h2, h3, h4, h5, h6, h7])).symm | exact (X0 (i := i) (by omega) (by omega) hI.2).symm
       ·try rw [h7]
        try simp only [qB, Qj] at h7
        refine Qu (Qm (Qf (kp3 Z Z Z) (Ze fun K hK => Qd Z (ZJ Z Z (by first | exact QD (by omega) (by omega) | exact QI (by omega) (by omega) | exact QT (by omega) (by omega) | rfl) (Qd Z (hK _ ?_))))))
        refine Qq (i + 1) ?_ ?_ ?_
        ·first | exact Q5 (kp3 rfl rfl rfl) | exact Zk (l := [1, 5, 6]) (kp3 rfl rfl rfl) Qw (by simp [h1, h2, h3, h4, h5, h6, h7]) rfl rfl
        ·exact ⟨by omega, QS (by omega) hI.2 (by simp [Qar, h1, h2, h3, h4, h5, h6, h7])⟩
        ·first | omega | (simp only; omega) | (dsimp only; omega)
      ·try rw [h6]
       try simp only [qB, Qj] at h6
       refine Qp Z (Qp Z (Qh Z Z (hK _ _ (Qa (kp4 Z Z Z Z) ?_))))
       refine Zr Z (Qu (Qm (Qf (kp3 Z Z Z) (Ze fun K hK => Qd Z (ZJ Z Z (by first | exact QD (by omega) (by omega) | exact QI (by omega) (by omega) | exact QT (by omega) (by omega) | rfl) (Qd Z (hK _ ?_)))))))
       refine Qq (i + 1) ?_ ?_ ?_
       ·first | exact Q5 (kp3 rfl rfl rfl) | exact Zk (l := [1, 5, 6]) (kp3 rfl rfl rfl) Qw (by simp [h1, h2, h3, h4, h5, h6]) rfl rfl
       ·exact ⟨by omega, QS (by omega) hI.2 (by simp [Qar, h1, h2, h3, h4, h5, h6])⟩
       ·first | omega | (simp only; omega) | (dsimp only; omega)
     ·try rw [h5]
      try simp only [qB, Qj] at h5
      refine Qp Z (Qp Z (Qp Z (Qp Z (Qp Z (Qh Z Z (Qd Z (Qp Z (Qp Z (Qh Z Z (hK _ _ (Qa (kp4 Z Z Z Z) ?_)))))))))))
      refine Zr Z (Qu (Qm (Qf (kp3 Z Z Z) (Ze fun K hK => Qd Z (ZJ Z Z (by first | exact QD (by omega) (by omega) | exact QI (by omega) (by omega) | exact QT (by omega) (by omega) | rfl) (Qd Z (hK _ ?_)))))))
      refine Qq (i + 1) ?_ ?_ ?_
      ·first | exact Q5 (kp3 rfl rfl rfl) | exact Zk (l := [1, 5, 6]) (kp3 rfl rfl rfl) Qw (by simp [h1, h2, h3, h4, h5]) rfl rfl
      ·exact ⟨by omega, QS (by omega) hI.2 (by simp [Qar, h1, h2, h3, h4, h5])⟩
      ·first | omega | (simp only; omega) | (dsimp only; omega)
   ·try rw [h3]
    try simp only [qB, Qj] at h3
    refine Zv (QO (QC (QQ (Qf (QK) (Qe fun K hK => Qd Z (hK _ _ (Qa (kp1 Z) ?_)))))))
    refine Qr (Qi Z ?_)
    (repeat clear hK K); first | (simp_all [Y8]; done) | (simp [Y8, h1, h2, h3]; omega) | exact (Qa4 (i := i) (by assumption) (by omega) (by simp [Qar, h1, h2, h3])).symm | exact (X0 (i := i) (by omega) (by omega) hI.2).symm
theorem Zi {a b c : Int} {p q : List UInt8} (hp : p.length <= 1000000) (hq : q.length <= 1000000) : Ok Tryd.prog 46 [.agg [.int .i64 a, .int .i64 b, .int .i64 c, .str p, .str q]] (.bool (Xz a b c p q)) := by
 refine Ok.ofT Z9 Tryd.func46 QlX (Nat.le_of_ble_eq_true Z) ?_
 show TW _ _ tf46.body _ _
 refine Qe fun K hK => ZU Z Z Z (Qd Z (hK _ _ (Qa (kp1 Z) ?_)))
 refine Qe fun K hK => Ql Z Z (QG Z Z Z (QA (Z4) Z Z (.inr Z) (Qd Z ?_)))
 refine Qs (g := 6) Z (fun h1 => ?_) (fun h1 => ?_)
 ·try rw [h1]
  try simp only [qB] at h1
  refine Qg Z (Ql Z Z (Qg Z (QG Z Z Z (Qg Z (QA (Z4) Z Z (.inr Z) (Qh Z Z (Qd Z ?_)))))))
  refine Qs (g := 11) Z (fun h2 => ?_) (fun h2 => ?_)
  ·try rw [h2]
   try simp only [qB] at h2
   refine Qg Z (Ql Z Z (Qg Z (QG Z Z Z (Qg Z (QA (Z4) Z Z (.inr Z) (Qh Z Z (Qd Z ?_)))))))
   refine Qs (g := 16) Z (fun h3 => ?_) (fun h3 => ?_)
   ·try rw [h3]
    try simp only [qB] at h3
    refine Qg Z (Ql Z Z (Qg Z (QG Z Z Z (Qg Z (QA (YJ (by omega)) Z Z (.inr Z) (Qh Z Z (Qd Z ?_)))))))
    refine Qs (g := 21) Z (fun h4 => ?_) (fun h4 => ?_)
    ·try rw [h4]
     try simp only [qB] at h4
     refine Qg Z (Ql Z Z (Qg Z (QG Z Z Z (Qg Z (QA (YJ (by omega)) Z Z (.inr Z) (Qh Z Z (Qd Z (hK _ _ (Qa (kp1 Z) ?_)))))))))
     refine Qr (Qi Z ?_)
     simp [Xz, h1, h2, h3, h4]
    ·try rw [h4]
     try simp only [qB] at h4
     refine Qp Z (Qp Z (Qp Z (Qh Z Z (Qd Z (hK _ _ (Qa (kp1 Z) ?_))))))
     refine Qr (Qi Z ?_)
     simp [Xz, h1, h2, h3, h4]
   ·try rw [h3]
    try simp only [qB] at h3
    refine Qp Z (Qp Z (Qp Z (Qh Z Z (Qd Z (Qp Z (Qp Z (Qp Z (Qh Z Z (Qd Z (hK _ _ (Qa (kp1 Z) ?_)))))))))))
    refine Qr (Qi Z ?_)
    simp [Xz, h1, h2, h3]
  ·try rw [h2]
   try simp only [qB] at h2
   refine Qp Z (Qp Z (Qp Z (Qh Z Z (Qd Z (Qp Z (Qp Z (Qp Z (Qh Z Z (Qd Z (Qp Z (Qp Z ?_)))))))))))
   refine Qp Z (Qh Z Z (Qd Z (hK _ _ (Qa (kp1 Z) ?_))))
   refine Qr (Qi Z ?_)
   simp [Xz, h1, h2]
 ·try rw [h1]
  try simp only [qB] at h1
  refine Qp Z (Qp Z (Qp Z (Qh Z Z (Qd Z (Qp Z (Qp Z (Qp Z (Qh Z Z (Qd Z (Qp Z (Qp Z ?_)))))))))))
  refine Qp Z (Qh Z Z (Qd Z (Qp Z (Qp Z (Qp Z (Qh Z Z (Qd Z (hK _ _ (Qa (kp1 Z) ?_)))))))))
  refine Qr (Qi Z ?_)
  simp [Xz, h1]
theorem Qeq {l : List Int} (hl : l.length <= 1000000) : Ok Tryd.prog 109 [Qia l] (.int .i64 (ZD l)) := by
 refine Ok.ofT Z9 Tryd.func109 Qlp (Nat.le_of_ble_eq_true Z) ?_
 show TW _ _ tf109.body _ _
 refine Qe fun K hK => Qd Z (hK _ _ (Qa (kp1 Z) ?_))
 refine Qe fun K hK => Qd Z (hK _ _ (Qa (kp2 Z Z) ?_))
 refine QJ ?_ -- 0
 refine Qe fun K hK => Qd Z (YG Z Z (Qd Z (hK _ _ (Qa (kp4 Z Z Z Z) ?_))))
 refine QP ?_
 refine Yn (ι := Nat) (fun i => ⟨[(3, .int .i64 0), (6, Qia l), (7, .int .i64 l.length), (8, .int .i64 i)], []⟩) (fun i => i <= l.length /\ ZD l = ZD (l.drop i)) (fun i => l.length - i) 0 ?_ ?_ ?_
 ·exact Zk (l := [3, 6, 7, 8]) (kp4 rfl rfl rfl rfl) Qw (by simp [Qia]) rfl rfl
 ·exact ⟨Nat.zero_le _, rfl⟩
 intro i hI
 try dsimp only
 refine Qe fun K hK => XJ Z Z (hK _ _ (Qa (kp5 Z Z Z Z Z) ?_))
 refine QJ ?_ -- 1
 refine Qy Z (fun h1 => ?_) (fun h1 => ?_)
 ·try rw [h1]
  try simp only [qB] at h1
  refine Qu (Qf (kp4 Z Z Z Z) ?_)
  refine QJ ?_ -- 2
  refine QP (Qe fun K hK => Zn Z Z Z (by omega) (QdK (by omega)) Z (QG Z Z Z (Qd Z (hK _ _ (Qa (kp5 Z Z Z Z Z) ?_)))))
  refine Qe fun K hK => Qd Z (Qd Z (YH Z Z (hK _ _ (Qa (kp6 Z Z Z Z Z Z) ?_))))
  refine Qy Z (fun h2 => ?_) (fun h2 => ?_)
  ·try rw [h2]
   try simp only [qB] at h2
   refine Qe fun K hK => Qd Z (Qd Z (hK _ _ (Qa (kp1 Z) ?_)))
   refine Qr (Qt (Qk (QY (Qt (Qk (Qx Z ?_))))))
   first | (rw [hI.2, Qcc (by omega) (by assumption)]) | (rw [hI.2, List.drop_eq_nil_of_le (by omega)]; rfl)
  ·try rw [h2]
   try simp only [qB] at h2
   refine Qu (Qm (Qf (kp4 Z Z Z Z) (Ze fun K hK => ZJ Z Z (by first | exact QD (by omega) (by omega) | exact QI (by omega) (by omega) | exact QT (by omega) (by omega) | rfl) (Qd Z (hK _ ?_)))))
   refine Qq (i + 1) ?_ ?_ ?_
   ·exact Q5 (kp4 rfl rfl rfl rfl)
   ·exact ⟨by omega, by rw [hI.2, QeB (by omega) (by assumption)]⟩
   ·first | omega | (simp only; omega) | (dsimp only; omega)
 ·try rw [h1]
  try simp only [qB] at h1
  refine Zv (QO (QC (QQ (Qf (kp1 Z) (Qe fun K hK => Qd Z (Qd Z (hK _ _ (Qa (kp1 Z) ?_))))))))
  refine Qr (Qx Z ?_)
  first | (rw [hI.2, Qcc (by omega) (by assumption)]) | (rw [hI.2, List.drop_eq_nil_of_le (by omega)]; rfl)
end Go.Proofs
namespace Go.Proofs
open Go Go.Abs M3
set_option linter.unusedVariables false
set_option linter.unusedSimpArgs false
end Go.Proofs
namespace Go.Proofs
open Go Go.Abs M3
set_option linter.unusedVariables false
set_option linter.unusedSimpArgs false
theorem Y4 {s : List UInt8} (hl : s.length <= 1000000) : Ok Tryd.prog 96 [.str s] (.tup [.int .i64 (Zu s).1, .bool (Zu s).2]) := by
 refine Ok.ofT Z9 Tryd.func96 Qms (Nat.le_of_ble_eq_true Z) ?_
 show TW _ _ tf96.body _ _
 refine Qe fun K hK => Qd Z (Qd Z (hK _ _ (Qa (kp1 Z) ?_)))
 refine QiP (ι := Unit) (fun _u => ⟨[(0, .str s)], []⟩) (fun _u => ¬ (s = [] \/ 4 < s.length \/ (1 < s.length /\ s.head? = some 48))) ?_ ?_
 ·skip
  refine Qe fun K hK => Qd Z (QbV Z Z (Qd Z ?_))
  refine Qs (g := 9) Z (fun h1 => ?_) (fun h1 => ?_)
  ·try rw [h1]
   try simp only [qB, Bool.and_eq_true, Bool.and_eq_false_iff, decide_eq_true_eq] at h1
   refine Qp Z (Qp Z (Qp Z (Qh Z Z (Qd Z (Qp Z (Qp Z (Qp Z (Qp Z (QE Z (QE Z (QE Z ?_)))))))))))
   refine Qp Z (Qh Z Z (hK _ _ (Qa (kp2 Z Z) ?_)))
   refine Zd Z (Qe fun K hK => Qd Z (Qd Z (hK _ _ (Qa (kp2 Z Z) ?_))))
   refine Qr (Qac (Zs Z Z ?_))
   first | (rw [Y0 (s := s) (by first | (left; assumption) | (right; omega))]; exact ⟨rfl, rfl⟩) | (rw [ZH (s := s) (by omega) (by assumption)]; exact ⟨rfl, rfl⟩) | (rw [Z7 (s := s) (i := i) (by omega) (by simp [ZB]; omega)]; exact ⟨rfl, rfl⟩) | (rw [X3 (s := s) (i := i) hJ (by omega) hI.2.1]; exact ⟨rfl, by simp [XN, D.fz, D.fzS, D.can, D.canS]; omega⟩)
  ·try rw [h1]
   try simp only [qB, Bool.and_eq_true, Bool.and_eq_false_iff, decide_eq_true_eq] at h1
   refine Qg Z (Qd Z (Qg Z (ZC Z (Qg Z (QbW Z Z (Qh Z Z (Qd Z ?_)))))))
   refine Qs (g := 14) Z (fun h2 => ?_) (fun h2 => ?_)
   ·try rw [h2]
    try simp only [qB, Bool.and_eq_true, Bool.and_eq_false_iff, decide_eq_true_eq] at h2
    refine Qp Z (Qp Z (Qp Z (Qp Z (QE Z (QE Z (QE Z (Qp Z (Qh Z Z (hK _ _ (Qa (kp2 Z Z) ?_))))))))))
    refine Zd Z (Qe fun K hK => Qd Z (Qd Z (hK _ _ (Qa (kp2 Z Z) ?_))))
    refine Qr (Qac (Zs Z Z ?_))
    first | (rw [Y0 (s := s) (by first | (left; assumption) | (right; omega))]; exact ⟨rfl, rfl⟩) | (rw [ZH (s := s) (by omega) (by assumption)]; exact ⟨rfl, rfl⟩) | (rw [Z7 (s := s) (i := i) (by omega) (by simp [ZB]; omega)]; exact ⟨rfl, rfl⟩) | (rw [X3 (s := s) (i := i) hJ (by omega) hI.2.1]; exact ⟨rfl, by simp [XN, D.fz, D.fzS, D.can, D.canS]; omega⟩)
   ·try rw [h2]
    try simp only [qB, Bool.and_eq_true, Bool.and_eq_false_iff, decide_eq_true_eq] at h2
    refine Qg Z (Qd Z (Qg Z (Zw Z Z (by omega) (XX (i := 0) (List.length_pos_iff.2 (by assumption))) (Qg Z (Ys Z Z (Qg Z (Qd Z ?_)))))))
    refine Qs (g := 18) Z (fun h3 => ?_) (fun h3 => ?_)
    ·try rw [h3]
     try simp only [qB, Bool.and_eq_true, Bool.and_eq_false_iff, decide_eq_true_eq] at h3
     refine Qg Z (Qd Z (Qg Z (ZC Z (Qg Z (QbW Z Z (Qg Z (Qh Z Z (Qh Z Z (hK _ _ (Qa (kp2 Z Z) ?_))))))))))
     refine Qy Z (fun h4 => ?_) (fun h4 => ?_)
     ·try rw [h4]
      try simp only [qB, Bool.and_eq_true, Bool.and_eq_false_iff, decide_eq_true_eq] at h4
      refine Qe fun K hK => Qd Z (Qd Z (hK _ _ (Qa (kp2 Z Z) ?_)))
      refine Qr (Qac (Zs Z Z ?_))
      first | (rw [Y0 (s := s) (by first | (left; assumption) | (right; omega))]; exact ⟨rfl, rfl⟩) | (rw [ZH (s := s) (by omega) (by assumption)]; exact ⟨rfl, rfl⟩) | (rw [Z7 (s := s) (i := i) (by omega) (by simp [ZB]; omega)]; exact ⟨rfl, rfl⟩) | (rw [X3 (s := s) (i := i) hJ (by omega) hI.2.1]; exact ⟨rfl, by simp [XN, D.fz, D.fzS, D.can, D.canS]; omega⟩)
     ·try rw [h4]
      try simp only [qB, Bool.and_eq_true, Bool.and_eq_false_iff, decide_eq_true_eq] at h4
      refine Qu ?_
      refine Xx () ?_ ?_
      ·exact Q5 (kp1 rfl)
      ·rintro (q | q | q) <;> first | (simp_all; done) | omega | exact QdI (s := s) (by omega) (by assumption) q.2
    ·try rw [h3]
     try simp only [qB, Bool.and_eq_true, Bool.and_eq_false_iff, decide_eq_true_eq] at h3
     refine Qp Z (Qp Z (Qp Z (Qg Z (Qh Z Z (Qh Z Z (hK _ _ (Qa (kp2 Z Z) ?_)))))))
     refine Zr Z (Qu ?_)
     refine Xx () ?_ ?_
     ·exact Q5 (kp1 rfl)
     ·rintro (q | q | q) <;> first | (simp_all; done) | omega | exact QdI (s := s) (by omega) (by assumption) q.2
 intro _u hJ
 try dsimp only
 refine Qe fun K hK => Qd Z (hK _ _ (Qa (kp2 Z Z) ?_))
 refine QJ ?_ -- 1
 refine Qe fun K hK => Qd Z (QgO Z Z (hK _ _ (Qa (kp2 Z Z) ?_)))
 refine QP ?_
 refine Yn (ι := Nat) (fun i => ⟨[(4, .int .i64 (val (s.take i))), (25, .ref 25 0 0)], [(25, ⟨[], 0, QV s i, false⟩)]⟩) (fun i => i <= s.length /\ (s.take i).all ZB = true /\ s.length <= 4 /\ 0 < s.length) (fun i => s.length - i) 0 ?_ ?_ ?_
 ·exact Zk (l := [4, 25]) (lH := [25]) (kp2 rfl rfl) (Qv rfl Qw) (by simp [val]) rfl rfl
 ·exact ⟨Nat.zero_le _, rfl, Nat.le_of_not_lt fun h => hJ (.inr (.inl h)), List.length_pos_iff.2 fun h => hJ (.inl h)⟩
 intro i hI
 have hv := QhQ (s := s.take i) hI.2.1
 have hp : 10 ^ (s.take i).length <= 10 ^ 4 := Nat.pow_le_pow_right (by omega) (by simp; omega)
 have hI1 := hI.1
 have hI3 := hI.2.2.1
 try dsimp only
 refine Qe fun K hK => ?_
 rcases Nat.lt_or_ge (i) (s).length with h5 | h5
 ·rcases Nat.lt_or_ge (((s)[i]).toNat) 128 with h6 | h6
  ·refine QfB Z Z h5 (Qew h5 h6) (Q2 Z Z (hK _ _ (Qa (kp4 Z Z Z Z) ?_)))
   refine QJ ?_ -- 2
   refine Zd Z (Qu (Qf (kp3 Z Z Z) (QP (Qe fun K hK => Q2 Z Z (Qd Z (hK _ _ (Qa (kp3 Z Z Z) ?_)))))))
   refine QP (Qe fun K hK => Qd Z (QhX Z Z (Qd Z ?_)))
   refine Qs (g := 32) Z (fun h7 => ?_) (fun h7 => ?_)
   ·try rw [h7]
    try simp only [qB, Bool.and_eq_true, Bool.and_eq_false_iff, decide_eq_true_eq] at h7
    refine Qg Z (Qd Z (Qg Z (Qjb Z Z (Qh Z Z (Qd Z (hK _ _ (Qa (kp4 Z Z Z Z) ?_)))))))
    refine Qy Z (fun h8 => ?_) (fun h8 => ?_)
    ·try rw [h8]
     try simp only [qB, Bool.and_eq_true, Bool.and_eq_false_iff, decide_eq_true_eq] at h8
     refine Ze fun K hK => Qd Z (Qjc Z Z (by first | exact QD (by omega) (by omega) | exact QI (by omega) (by omega) | exact QT (by omega) (by omega) | rfl) (Qd Z (Qgm Z Z (by first | exact QD (by omega) (by omega) | exact QI (by omega) (by omega) | exact QT (by omega) (by omega) | rfl) (QgM Z (by first | exact QD (by omega) (by omega) | exact QI (by omega) (by omega) | exact QT (by omega) (by omega) | rfl) (ZJ Z Z (by first | exact QD (by omega) (by omega) | exact QI (by omega) (by omega) | exact QT (by omega) (by omega) | rfl) (Qd Z (hK _ ?_)))))))
     refine Qm (Qm ?_)
     refine Qq (i + 1) ?_ ?_ ?_
     ·first | exact Zk (l := [4, 25]) (lH := [25]) (kp2 rfl rfl) (Qv rfl Qw) rfl rfl rfl | exact Zk (l := [4, 25]) (lH := [25]) (kp2 rfl rfl) (Qv rfl Qw) (by rw [QbP (by omega)]; simp; omega) rfl rfl | (exfalso; omega)
     ·first | exact ⟨by omega, QS (by omega) hI.2.1 (by simp [ZB]; omega), hI.2.2⟩ | (exfalso; omega)
     ·first | omega | (simp only; omega) | (dsimp only; omega)
    ·try rw [h8]
     try simp only [qB, Bool.and_eq_true, Bool.and_eq_false_iff, decide_eq_true_eq] at h8
     refine Qe fun K hK => Qd Z (Qd Z (hK _ _ (Qa (kp2 Z Z) ?_)))
     refine Qr (Qt (Qt (QY (Qt (Qk (Zs Z Z ?_))))))
     first | (rw [Y0 (s := s) (by first | (left; assumption) | (right; omega))]; exact ⟨rfl, rfl⟩) | (rw [ZH (s := s) (by omega) (by assumption)]; exact ⟨rfl, rfl⟩) | (rw [Z7 (s := s) (i := i) (by omega) (by simp [ZB]; omega)]; exact ⟨rfl, rfl⟩) | (rw [X3 (s := s) (i := i) hJ (by omega) hI.2.1]; exact ⟨rfl, by simp [XN, D.fz, D.fzS, D.can, D.canS]; omega⟩)
   ·try rw [h7]
    try simp only [qB, Bool.and_eq_true, Bool.and_eq_false_iff, decide_eq_true_eq] at h7
    refine Qp Z (Qp Z (Qh Z Z (Qd Z (hK _ _ (Qa (kp4 Z Z Z Z) ?_)))))
    refine Zr Z (Qe fun K hK => Qd Z (Qd Z (hK _ _ (Qa (kp2 Z Z) ?_))))
    refine Qr (Qt (Qt (QY (Qt (Qk (Zs Z Z ?_))))))
    first | (rw [Y0 (s := s) (by first | (left; assumption) | (right; omega))]; exact ⟨rfl, rfl⟩) | (rw [ZH (s := s) (by omega) (by assumption)]; exact ⟨rfl, rfl⟩) | (rw [Z7 (s := s) (i := i) (by omega) (by simp [ZB]; omega)]; exact ⟨rfl, rfl⟩) | (rw [X3 (s := s) (i := i) hJ (by omega) hI.2.1]; exact ⟨rfl, by simp [XN, D.fz, D.fzS, D.can, D.canS]; omega⟩)
  ·obtain ⟨cwh6, nwh6, hch6, hdh6⟩ := QfG h5 h6
   refine QfB Z Z h5 hdh6 (Q2 Z Z (hK _ _ (Qa (kp4 Z Z Z Z) ?_)))
   refine QJ ?_ -- 2
   refine Zd Z (Qu (Qf (kp3 Z Z Z) (QP (Qe fun K hK => Q2 Z Z (Qd Z (hK _ _ (Qa (kp3 Z Z Z) ?_)))))))
   refine QP (Qe fun K hK => Qd Z (QhX Z Z (Qd Z ?_)))
   refine Qs (g := 32) Z (fun h9 => ?_) (fun h9 => ?_)
   ·try rw [h9]
    try simp only [qB, Bool.and_eq_true, Bool.and_eq_false_iff, decide_eq_true_eq] at h9
    refine Qg Z (Qd Z (Qg Z (Qjb Z Z (Qh Z Z (Qd Z (hK _ _ (Qa (kp4 Z Z Z Z) ?_)))))))
    refine Qy Z (fun h10 => ?_) (fun h10 => ?_)
    ·try rw [h10]
     try simp only [qB, Bool.and_eq_true, Bool.and_eq_false_iff, decide_eq_true_eq] at h10
     refine Ze fun K hK => Qd Z (Qjc Z Z (by first | exact QD (by omega) (by omega) | exact QI (by omega) (by omega) | exact QT (by omega) (by omega) | rfl) (Qd Z (Qgm Z Z (by first | exact QD (by omega) (by omega) | exact QI (by omega) (by omega) | exact QT (by omega) (by omega) | rfl) (QgM Z (by first | exact QD (by omega) (by omega) | exact QI (by omega) (by omega) | exact QT (by omega) (by omega) | rfl) (ZJ Z Z (by first | exact QD (by omega) (by omega) | exact QI (by omega) (by omega) | exact QT (by omega) (by omega) | rfl) (Qd Z (hK _ ?_)))))))
     refine Qm (Qm ?_)
     refine Qq (i + 1) ?_ ?_ ?_
     ·first | exact Zk (l := [4, 25]) (lH := [25]) (kp2 rfl rfl) (Qv rfl Qw) rfl rfl rfl | exact Zk (l := [4, 25]) (lH := [25]) (kp2 rfl rfl) (Qv rfl Qw) (by rw [QbP (by omega)]; simp; omega) rfl rfl | (exfalso; omega)
     ·first | exact ⟨by omega, QS (by omega) hI.2.1 (by simp [ZB]; omega), hI.2.2⟩ | (exfalso; omega)
     ·first | omega | (simp only; omega) | (dsimp only; omega)
    ·try rw [h10]
     try simp only [qB, Bool.and_eq_true, Bool.and_eq_false_iff, decide_eq_true_eq] at h10
     refine Qe fun K hK => Qd Z (Qd Z (hK _ _ (Qa (kp2 Z Z) ?_)))
     refine Qr (Qt (Qt (QY (Qt (Qk (Zs Z Z ?_))))))
     first | (rw [Y0 (s := s) (by first | (left; assumption) | (right; omega))]; exact ⟨rfl, rfl⟩) | (rw [ZH (s := s) (by omega) (by assumption)]; exact ⟨rfl, rfl⟩) | (rw [Z7 (s := s) (i := i) (by omega) (by simp [ZB]; omega)]; exact ⟨rfl, rfl⟩) | (rw [X3 (s := s) (i := i) hJ (by omega) hI.2.1]; exact ⟨rfl, by simp [XN, D.fz, D.fzS, D.can, D.canS]; omega⟩)
   ·try rw [h9]
    try simp only [qB, Bool.and_eq_true, Bool.and_eq_false_iff, decide_eq_true_eq] at h9
    refine Qp Z (Qp Z (Qh Z Z (Qd Z (hK _ _ (Qa (kp4 Z Z Z Z) ?_)))))
    refine Zr Z (Qe fun K hK => Qd Z (Qd Z (hK _ _ (Qa (kp2 Z Z) ?_))))
    refine Qr (Qt (Qt (QY (Qt (Qk (Zs Z Z ?_))))))
    first | (rw [Y0 (s := s) (by first | (left; assumption) | (right; omega))]; exact ⟨rfl, rfl⟩) | (rw [ZH (s := s) (by omega) (by assumption)]; exact ⟨rfl, rfl⟩) | (rw [Z7 (s := s) (i := i) (by omega) (by simp [ZB]; omega)]; exact ⟨rfl, rfl⟩) | (rw [X3 (s := s) (i := i) hJ (by omega) hI.2.1]; exact ⟨rfl, by simp [XN, D.fz, D.fzS, D.can, D.canS]; omega⟩)
 ·refine Qej Z Z (by omega) (Q2 Z Z (hK _ _ (Qa (kp4 Z Z Z Z) ?_)))
  refine QJ ?_ -- 2
  refine Zr Z (Zv (QO (QC (QQ (Qf (kp1 Z) (Qe fun K hK => Qd Z (Qd Z (Qjb Z Z (Qd Z (Qd Z ?_))))))))))
  refine hK _ _ (Qa (kp2 Z Z) ?_)
  refine Qr (Zs Z Z ?_)
  first | (rw [Y0 (s := s) (by first | (left; assumption) | (right; omega))]; exact ⟨rfl, rfl⟩) | (rw [ZH (s := s) (by omega) (by assumption)]; exact ⟨rfl, rfl⟩) | (rw [Z7 (s := s) (i := i) (by omega) (by simp [ZB]; omega)]; exact ⟨rfl, rfl⟩) | (rw [X3 (s := s) (i := i) hJ (by omega) hI.2.1]; exact ⟨rfl, by simp [XN, D.fz, D.fzS, D.can, D.canS]; omega⟩)
theorem Y6 {s : List UInt8} (hl : s.length <= 1000000) : Ok Tryd.prog 81 [.str s] (.bool (Qax s)) := by
 refine Ok.ofT Z9 Tryd.func81 Qmi (Nat.le_of_ble_eq_true Z) ?_
 show TW _ _ tf81.body _ _
 refine Qe fun K hK => Qd Z (hK _ _ (Qa (kp1 Z) ?_))
 refine Qje (Qe fun K hK => Qd Z (QA (Yu (by omega)) Z Z (.inl Z) (Qd Z (hK _ _ (Qa (kp1 Z) ?_)))))
 refine Qe fun K hK => Qd Z (YG Z Z (Qjb Z Z (Qd Z (hK _ _ (Qa (kp2 Z Z) ?_)))))
 refine QJ ?_ -- 0
 refine Qu (Qf (kp2 Z Z) ?_)
 refine QJ ?_ -- 1
 refine Qe fun K hK => Qd Z (YG Z Z (Qd Z (hK _ _ (Qa (kp4 Z Z Z Z) ?_))))
 refine QP ?_
 refine Yn (ι := Nat) (fun i => ⟨[(4, .bool (decide ((QM s 46).length <= 4))), (14, .sl (Ya (QM s 46))), (15, .int .i64 (QM s 46).length), (16, .int .i64 i)], []⟩) (fun i => i <= (QM s 46).length /\ ((QM s 46).take i).all XK = true) (fun i => (QM s 46).length - i) 0 ?_ ?_ ?_
 ·exact Zk (l := [4, 14, 15, 16]) (kp4 rfl rfl rfl rfl) Qw (by simp [Qj]; omega) rfl rfl
 ·exact ⟨Nat.zero_le _, rfl⟩
 intro i hI
 have sl := QcI (s := s) (c := 46)
 try dsimp only
 refine Qe fun K hK => XJ Z Z (hK _ _ (Qa (kp5 Z Z Z Z Z) ?_))
 refine QJ ?_ -- 2
 refine Qy Z (fun h1 => ?_) (fun h1 => ?_)
 ·try rw [h1]
  try simp only [qB, Qj] at h1
  refine Qu (Qf (kp4 Z Z Z Z) ?_)
  refine QJ ?_ -- 3
  refine QP (Qe fun K hK => Zn Z Z Z (by omega) (Xv (by omega)) Z (QG Z Z Z (Qd Z (hK _ _ (Qa (kp5 Z Z Z Z Z) ?_)))))
  refine QJ ?_ -- 4
  refine Qe fun K hK => Qd Z (QbV Z Z (Qd Z ?_))
  refine Qs (g := 22) Z (fun h2 => ?_) (fun h2 => ?_)
  ·try rw [h2]
   try simp only [qB, Qj] at h2
   refine Qp Z (Qp Z (Qp Z (Qh Z Z (hK _ _ (Qa (kp6 Z Z Z Z Z Z) ?_)))))
   refine Zd Z (Qe fun K hK => Qd Z (hK _ _ (Qa (kp1 Z) ?_)))
   refine Zv (QO (QN (by decide) (QO (QC (QQ (Qf (kp1 Z) (Qe fun K hK => Qd Z (Qd Z (hK _ _ (Qa (kp1 Z) ?_))))))))))
   refine Qr (Qi Z ?_)
   first | exact (Zc (i := i) (by omega) (Z6 (by first | (left; assumption) | (right; omega)))).symm | exact (Zc (i := i) (by omega) (Z5 (ZK (i := j) (by omega) (by simp [Zb]; omega)))).symm | exact (ZO (by omega) hI.2).symm
  ·try rw [h2]
   try simp only [qB, Qj] at h2
   refine Qg Z (Qd Z (Qg Z (ZC Z (Qg Z (QbW Z Z (Qh Z Z (hK _ _ (Qa (kp6 Z Z Z Z Z Z) ?_))))))))
   refine Qy Z (fun h3 => ?_) (fun h3 => ?_)
   ·try rw [h3]
    try simp only [qB, Qj] at h3
    refine Qe fun K hK => Qd Z (hK _ _ (Qa (kp1 Z) ?_))
    refine Zv (QO (QN (by decide) (QO (QC (QQ (Qf (kp1 Z) (Qe fun K hK => Qd Z (Qd Z (hK _ _ (Qa (kp1 Z) ?_))))))))))
    refine Qr (Qi Z ?_)
    first | exact (Zc (i := i) (by omega) (Z6 (by first | (left; assumption) | (right; omega)))).symm | exact (Zc (i := i) (by omega) (Z5 (ZK (i := j) (by omega) (by simp [Zb]; omega)))).symm | exact (ZO (by omega) hI.2).symm
   ·try rw [h3]
    try simp only [qB, Qj] at h3
    refine Qu (Qf (kp5 Z Z Z Z Z) (Qe fun K hK => Qd Z (QgO Z Z (hK _ _ (Qa (kp5 Z Z Z Z Z) ?_)))))
    refine QP ?_
    have hlt : i < (QM s 46).length := by omega
    refine Yn (ι := Nat) (fun j => ⟨[(4, .bool (decide ((QM s 46).length <= 4))), (14, .sl (Ya (QM s 46))), (15, .int .i64 (QM s 46).length), (16, .int .i64 i), (28, .ref 28 0 0)], [(28, ⟨[], 0, QV ((QM s 46)[i]'hlt) j, false⟩)]⟩) (fun j => j <= ((QM s 46)[i]'hlt).length /\ (((QM s 46)[i]'hlt).take j).all Zb = true) (fun j => ((QM s 46)[i]'hlt).length - j) 0 ?_ ?_ ?_
    ·first | exact Zk (l := [4, 14, 15, 16, 28]) (lH := [28]) (kp5 rfl rfl rfl rfl rfl) (Qv rfl Qw) rfl rfl rfl | (exfalso; omega)
    ·exact ⟨Nat.zero_le _, rfl⟩
    intro j hJ
    have hJ1 := hJ.1
    try dsimp only
    refine Qe fun K hK => ?_
    rcases Nat.lt_or_ge (j) (((QM s 46)[i]'hlt)).length with h4 | h4
    ·rcases Nat.lt_or_ge (((((QM s 46)[i]'hlt))[j]).toNat) 128 with h5 | h5
     ·refine QfB Z Z h4 (Qew h4 h5) (Q2 Z Z (hK _ _ (Qa (kp7 Z Z Z Z Z Z Z) ?_)))
      refine QJ ?_ -- 5
      refine Zd Z (Qu (Qf (kp6 Z Z Z Z Z Z) (QP (Qe fun K hK => Q2 Z Z (Qd Z (hK _ _ (Qa (kp6 Z Z Z Z Z Z) ?_)))))))
      refine Qe fun K hK => Qd Z (XJ Z Z (Qd Z ?_))
      refine Qs (g := 34) Z (fun h6 => ?_) (fun h6 => ?_)
      ·try rw [h6]
       try simp only [qB, Qj] at h6
       refine Qp Z (Qp Z (Qh Z Z (Qd Z (Qg Z (Qd Z (Qg Z (XJ Z Z (Qg Z (Qd Z ?_)))))))))
       refine Qs (g := 41) Z (fun h7 => ?_) (fun h7 => ?_)
       ·try rw [h7]
        try simp only [qB, Qj] at h7
        refine Qp Z (Qp Z (Qg Z (Qh Z Z (Qh Z Z (Qd Z (Qg Z (Qd Z (Qg Z (YH Z Z (Qh Z Z (hK _ _ (Qa (kp6 Z Z Z Z Z Z) ?_))))))))))))
        refine Qy Z (fun h8 => ?_) (fun h8 => ?_)
        ·try rw [h8]
         try simp only [qB, Qj] at h8
         refine Qe fun K hK => Qd Z (hK _ _ (Qa (kp1 Z) ?_))
         refine Zv (QN (by decide) (QC (QN (by decide) (QN (by decide) (QO (QC (QQ (Qf (kp1 Z) (Qe fun K hK => Qd Z (Qd Z ?_))))))))))
         refine hK _ _ (Qa (kp1 Z) ?_)
         refine Qr (Qi Z ?_)
         first | exact (Zc (i := i) (by omega) (Z6 (by first | (left; assumption) | (right; omega)))).symm | exact (Zc (i := i) (by omega) (Z5 (ZK (i := j) (by omega) (by simp [Zb]; omega)))).symm | exact (ZO (by omega) hI.2).symm
        ·try rw [h8]
         try simp only [qB, Qj] at h8
         refine Qu (Qm ?_)
         refine Qq (j + 1) ?_ ?_ ?_
         ·first | exact Zk (l := [4, 14, 15, 16, 28]) (lH := [28]) (kp5 rfl rfl rfl rfl rfl) (Qv rfl Qw) rfl rfl rfl | (exfalso; omega)
         ·first | exact ⟨by omega, QS (by omega) hJ.2 (by simp [Zb]; omega)⟩ | (exfalso; omega)
         ·first | omega | (simp only; omega) | (dsimp only; omega)
       ·try rw [h7]
        try simp only [qB, Qj] at h7
        refine Qg Z (Qd Z (Qg Z (QbW Z Z (Qg Z (Qh Z Z (Qh Z Z (Qd Z ?_)))))))
        refine Qs (g := 46) Z (fun h9 => ?_) (fun h9 => ?_)
        ·try rw [h9]
         try simp only [qB, Qj] at h9
         refine Qg Z (Qd Z (Qg Z (YH Z Z (Qh Z Z (hK _ _ (Qa (kp6 Z Z Z Z Z Z) ?_))))))
         refine Qy Z (fun h10 => ?_) (fun h10 => ?_)
         ·try rw [h10]
          try simp only [qB, Qj] at h10
          refine Qe fun K hK => Qd Z (hK _ _ (Qa (kp1 Z) ?_))
          refine Zv (QN (by decide) (QC (QN (by decide) (QN (by decide) (QO (QC (QQ (Qf (kp1 Z) (Qe fun K hK => Qd Z (Qd Z ?_))))))))))
          refine hK _ _ (Qa (kp1 Z) ?_)
          refine Qr (Qi Z ?_)
          first | exact (Zc (i := i) (by omega) (Z6 (by first | (left; assumption) | (right; omega)))).symm | exact (Zc (i := i) (by omega) (Z5 (ZK (i := j) (by omega) (by simp [Zb]; omega)))).symm | exact (ZO (by omega) hI.2).symm
         ·try rw [h10]
          try simp only [qB, Qj] at h10
          refine Qu (Qm ?_)
          refine Qq (j + 1) ?_ ?_ ?_
          ·first | exact Zk (l := [4, 14, 15, 16, 28]) (lH := [28]) (kp5 rfl rfl rfl rfl rfl) (Qv rfl Qw) rfl rfl rfl | (exfalso; omega)
          ·first | exact ⟨by omega, QS (by omega) hJ.2 (by simp [Zb]; omega)⟩ | (exfalso; omega)
          ·first | omega | (simp only; omega) | (dsimp only; omega)
        ·try rw [h9]
         try simp only [qB, Qj] at h9
         refine Qp Z (Qp Z (Qh Z Z (hK _ _ (Qa (kp6 Z Z Z Z Z Z) ?_))))
         refine Zr Z (Qu (Qm ?_))
         refine Qq (j + 1) ?_ ?_ ?_
         ·first | exact Zk (l := [4, 14, 15, 16, 28]) (lH := [28]) (kp5 rfl rfl rfl rfl rfl) (Qv rfl Qw) rfl rfl rfl | (exfalso; omega)
         ·first | exact ⟨by omega, QS (by omega) hJ.2 (by simp [Zb]; omega)⟩ | (exfalso; omega)
         ·first | omega | (simp only; omega) | (dsimp only; omega)
      ·try rw [h6]
       try simp only [qB, Qj] at h6
       refine Qg Z (Qd Z (Qg Z (QbW Z Z (Qh Z Z (Qd Z ?_)))))
       refine Qs (g := 38) Z (fun h11 => ?_) (fun h11 => ?_)
       ·try rw [h11]
        try simp only [qB, Qj] at h11
        refine Qg Z (Qd Z (Qg Z (XJ Z Z (Qg Z (Qd Z ?_)))))
        refine Qs (g := 41) Z (fun h12 => ?_) (fun h12 => ?_)
        ·try rw [h12]
         try simp only [qB, Qj] at h12
         refine Qp Z (Qp Z (Qg Z (Qh Z Z (Qh Z Z (Qd Z (Qg Z (Qd Z (Qg Z (YH Z Z (Qh Z Z (hK _ _ (Qa (kp6 Z Z Z Z Z Z) ?_))))))))))))
         refine Qy Z (fun h13 => ?_) (fun h13 => ?_)
         ·try rw [h13]
          try simp only [qB, Qj] at h13
          refine Qe fun K hK => Qd Z (hK _ _ (Qa (kp1 Z) ?_))
          refine Zv (QN (by decide) (QC (QN (by decide) (QN (by decide) (QO (QC (QQ (Qf (kp1 Z) (Qe fun K hK => Qd Z (Qd Z ?_))))))))))
          refine hK _ _ (Qa (kp1 Z) ?_)
          refine Qr (Qi Z ?_)
          first | exact (Zc (i := i) (by omega) (Z6 (by first | (left; assumption) | (right; omega)))).symm | exact (Zc (i := i) (by omega) (Z5 (ZK (i := j) (by omega) (by simp [Zb]; omega)))).symm | exact (ZO (by omega) hI.2).symm
         ·try rw [h13]
          try simp only [qB, Qj] at h13
          refine Qu (Qm ?_)
          refine Qq (j + 1) ?_ ?_ ?_
          ·first | exact Zk (l := [4, 14, 15, 16, 28]) (lH := [28]) (kp5 rfl rfl rfl rfl rfl) (Qv rfl Qw) rfl rfl rfl | (exfalso; omega)
          ·first | exact ⟨by omega, QS (by omega) hJ.2 (by simp [Zb]; omega)⟩ | (exfalso; omega)
          ·first | omega | (simp only; omega) | (dsimp only; omega)
        ·try rw [h12]
         try simp only [qB, Qj] at h12
         refine Qg Z (Qd Z (Qg Z (QbW Z Z (Qg Z (Qh Z Z (Qh Z Z (Qd Z ?_)))))))
         refine Qs (g := 46) Z (fun h14 => ?_) (fun h14 => ?_)
         ·try rw [h14]
          try simp only [qB, Qj] at h14
          refine Qg Z (Qd Z (Qg Z (YH Z Z (Qh Z Z (hK _ _ (Qa (kp6 Z Z Z Z Z Z) ?_))))))
          refine Qy Z (fun h15 => ?_) (fun h15 => ?_)
          ·try rw [h15]
           try simp only [qB, Qj] at h15
           refine Qe fun K hK => Qd Z (hK _ _ (Qa (kp1 Z) ?_))
           refine Zv (QN (by decide) (QC (QN (by decide) (QN (by decide) (QO (QC (QQ (Qf (kp1 Z) (Qe fun K hK => Qd Z (Qd Z ?_))))))))))
           refine hK _ _ (Qa (kp1 Z) ?_)
           refine Qr (Qi Z ?_)
           first | exact (Zc (i := i) (by omega) (Z6 (by first | (left; assumption) | (right; omega)))).symm | exact (Zc (i := i) (by omega) (Z5 (ZK (i := j) (by omega) (by simp [Zb]; omega)))).symm | exact (ZO (by omega) hI.2).symm
          ·try rw [h15]
           try simp only [qB, Qj] at h15
           refine Qu (Qm ?_)
           refine Qq (j + 1) ?_ ?_ ?_
           ·first | exact Zk (l := [4, 14, 15, 16, 28]) (lH := [28]) (kp5 rfl rfl rfl rfl rfl) (Qv rfl Qw) rfl rfl rfl | (exfalso; omega)
           ·first | exact ⟨by omega, QS (by omega) hJ.2 (by simp [Zb]; omega)⟩ | (exfalso; omega)
           ·first | omega | (simp only; omega) | (dsimp only; omega)
         ·try rw [h14]
          try simp only [qB, Qj] at h14
          refine Qp Z (Qp Z (Qh Z Z (hK _ _ (Qa (kp6 Z Z Z Z Z Z) ?_))))
          refine Zr Z (Qu (Qm ?_))
          refine Qq (j + 1) ?_ ?_ ?_
          ·first | exact Zk (l := [4, 14, 15, 16, 28]) (lH := [28]) (kp5 rfl rfl rfl rfl rfl) (Qv rfl Qw) rfl rfl rfl | (exfalso; omega)
          ·first | exact ⟨by omega, QS (by omega) hJ.2 (by simp [Zb]; omega)⟩ | (exfalso; omega)
          ·first | omega | (simp only; omega) | (dsimp only; omega)
       ·try rw [h11]
        try simp only [qB, Qj] at h11
        refine Qp Z (Qp Z (Qp Z (QE Z (QE Z (Qp Z (Qh Z Z (Qd Z (Qp Z (Qp Z (Qh Z Z (hK _ _ (Qa (kp6 Z Z Z Z Z Z) ?_))))))))))))
        refine Zr Z (Qu (Qm ?_))
        refine Qq (j + 1) ?_ ?_ ?_
        ·first | exact Zk (l := [4, 14, 15, 16, 28]) (lH := [28]) (kp5 rfl rfl rfl rfl rfl) (Qv rfl Qw) rfl rfl rfl | (exfalso; omega)
        ·first | exact ⟨by omega, QS (by omega) hJ.2 (by simp [Zb]; omega)⟩ | (exfalso; omega)
        ·first | omega | (simp only; omega) | (dsimp only; omega)
     ·obtain ⟨cwh5, nwh5, hch5, hdh5⟩ := QfG h4 h5
      refine QfB Z Z h4 hdh5 (Q2 Z Z (hK _ _ (Qa (kp7 Z Z Z Z Z Z Z) ?_)))
      refine QJ ?_ -- 5
      refine Zd Z (Qu (Qf (kp6 Z Z Z Z Z Z) (QP (Qe fun K hK => Q2 Z Z (Qd Z (hK _ _ (Qa (kp6 Z Z Z Z Z Z) ?_)))))))
      refine Qe fun K hK => Qd Z (XJ Z Z (Qd Z ?_))
      refine Qs (g := 34) Z (fun h16 => ?_) (fun h16 => ?_)
      ·try rw [h16]
       try simp only [qB, Qj] at h16
       refine Qp Z (Qp Z (Qh Z Z (Qd Z (Qg Z (Qd Z (Qg Z (XJ Z Z (Qg Z (Qd Z ?_)))))))))
       refine Qs (g := 41) Z (fun h17 => ?_) (fun h17 => ?_)
       ·try rw [h17]
        try simp only [qB, Qj] at h17
        refine Qp Z (Qp Z (Qg Z (Qh Z Z (Qh Z Z (Qd Z (Qg Z (Qd Z (Qg Z (YH Z Z (Qh Z Z (hK _ _ (Qa (kp6 Z Z Z Z Z Z) ?_))))))))))))
        refine Qy Z (fun h18 => ?_) (fun h18 => ?_)
        ·try rw [h18]
         try simp only [qB, Qj] at h18
         refine Qe fun K hK => Qd Z (hK _ _ (Qa (kp1 Z) ?_))
         refine Zv (QN (by decide) (QC (QN (by decide) (QN (by decide) (QO (QC (QQ (Qf (kp1 Z) (Qe fun K hK => Qd Z (Qd Z ?_))))))))))
         refine hK _ _ (Qa (kp1 Z) ?_)
         refine Qr (Qi Z ?_)
         first | exact (Zc (i := i) (by omega) (Z6 (by first | (left; assumption) | (right; omega)))).symm | exact (Zc (i := i) (by omega) (Z5 (ZK (i := j) (by omega) (by simp [Zb]; omega)))).symm | exact (ZO (by omega) hI.2).symm
        ·try rw [h18]
         try simp only [qB, Qj] at h18
         refine Qu (Qm ?_)
         refine Qq (j + 1) ?_ ?_ ?_
         ·first | exact Zk (l := [4, 14, 15, 16, 28]) (lH := [28]) (kp5 rfl rfl rfl rfl rfl) (Qv rfl Qw) rfl rfl rfl | (exfalso; omega)
         ·first | exact ⟨by omega, QS (by omega) hJ.2 (by simp [Zb]; omega)⟩ | (exfalso; omega)
         ·first | omega | (simp only; omega) | (dsimp only; omega)
       ·try rw [h17]
        try simp only [qB, Qj] at h17
        refine Qg Z (Qd Z (Qg Z (QbW Z Z (Qg Z (Qh Z Z (Qh Z Z (Qd Z ?_)))))))
        refine Qs (g := 46) Z (fun h19 => ?_) (fun h19 => ?_)
        ·try rw [h19]
         try simp only [qB, Qj] at h19
         refine Qg Z (Qd Z (Qg Z (YH Z Z (Qh Z Z (hK _ _ (Qa (kp6 Z Z Z Z Z Z) ?_))))))
         refine Qy Z (fun h20 => ?_) (fun h20 => ?_)
         ·try rw [h20]
          try simp only [qB, Qj] at h20
          refine Qe fun K hK => Qd Z (hK _ _ (Qa (kp1 Z) ?_))
          refine Zv (QN (by decide) (QC (QN (by decide) (QN (by decide) (QO (QC (QQ (Qf (kp1 Z) (Qe fun K hK => Qd Z (Qd Z ?_))))))))))
          refine hK _ _ (Qa (kp1 Z) ?_)
          refine Qr (Qi Z ?_)
          first | exact (Zc (i := i) (by omega) (Z6 (by first | (left; assumption) | (right; omega)))).symm | exact (Zc (i := i) (by omega) (Z5 (ZK (i := j) (by omega) (by simp [Zb]; omega)))).symm | exact (ZO (by omega) hI.2).symm
         ·try rw [h20]
          try simp only [qB, Qj] at h20
          refine Qu (Qm ?_)
          refine Qq (j + 1) ?_ ?_ ?_
          ·first | exact Zk (l := [4, 14, 15, 16, 28]) (lH := [28]) (kp5 rfl rfl rfl rfl rfl) (Qv rfl Qw) rfl rfl rfl | (exfalso; omega)
          ·first | exact ⟨by omega, QS (by omega) hJ.2 (by simp [Zb]; omega)⟩ | (exfalso; omega)
          ·first | omega | (simp only; omega) | (dsimp only; omega)
        ·try rw [h19]
         try simp only [qB, Qj] at h19
         refine Qp Z (Qp Z (Qh Z Z (hK _ _ (Qa (kp6 Z Z Z Z Z Z) ?_))))
         refine Zr Z (Qu (Qm ?_))
         refine Qq (j + 1) ?_ ?_ ?_
         ·first | exact Zk (l := [4, 14, 15, 16, 28]) (lH := [28]) (kp5 rfl rfl rfl rfl rfl) (Qv rfl Qw) rfl rfl rfl | (exfalso; omega)
         ·first | exact ⟨by omega, QS (by omega) hJ.2 (by simp [Zb]; omega)⟩ | (exfalso; omega)
         ·first | omega | (simp only; omega) | (dsimp only; omega)
      ·try rw [h16]
       try simp only [qB, Qj] at h16
       refine Qg Z (Qd Z (Qg Z (QbW Z Z (Qh Z Z (Qd Z ?_)))))
       refine Qs (g := 38) Z (fun h21 => ?_) (fun h21 => ?_)
       ·try rw [h21]
        try simp only [qB, Qj] at h21
        refine Qg Z (Qd Z (Qg Z (XJ Z Z (Qg Z (Qd Z ?_)))))
        refine Qs (g := 41) Z (fun h22 => ?_) (fun h22 => ?_)
        ·try rw [h22]
         try simp only [qB, Qj] at h22
         refine Qp Z (Qp Z (Qg Z (Qh Z Z (Qh Z Z (Qd Z (Qg Z (Qd Z (Qg Z (YH Z Z (Qh Z Z (hK _ _ (Qa (kp6 Z Z Z Z Z Z) ?_))))))))))))
         refine Qy Z (fun h23 => ?_) (fun h23 => ?_)
         ·try rw [h23]
          try simp only [qB, Qj] at h23
          refine Qe fun K hK => Qd Z (hK _ _ (Qa (kp1 Z) ?_))
          refine Zv (QN (by decide) (QC (QN (by decide) (QN (by decide) (QO (QC (QQ (Qf (kp1 Z) (Qe fun K hK => Qd Z (Qd Z ?_))))))))))
          refine hK _ _ (Qa (kp1 Z) ?_)
          refine Qr (Qi Z ?_)
          first | exact (Zc (i := i) (by omega) (Z6 (by first | (left; assumption) | (right; omega)))).symm | exact (Zc (i := i) (by omega) (Z5 (ZK (i := j) (by omega) (by simp [Zb]; omega)))).symm | exact (ZO (by omega) hI.2).symm
         ·try rw [h23]
          try simp only [qB, Qj] at h23
          refine Qu (Qm ?_)
          refine Qq (j + 1) ?_ ?_ ?_
          ·first | exact Zk (l := [4, 14, 15, 16, 28]) (lH := [28]) (kp5 rfl rfl rfl rfl rfl) (Qv rfl Qw) rfl rfl rfl | (exfalso; omega)
          ·first | exact ⟨by omega, QS (by omega) hJ.2 (by simp [Zb]; omega)⟩ | (exfalso; omega)
          ·first | omega | (simp only; omega) | (dsimp only; omega)
        ·try rw [h22]
         try simp only [qB, Qj] at h22
         refine Qg Z (Qd Z (Qg Z (QbW Z Z (Qg Z (Qh Z Z (Qh Z Z (Qd Z ?_)))))))
         refine Qs (g := 46) Z (fun h24 => ?_) (fun h24 => ?_)
         ·try rw [h24]
          try simp only [qB, Qj] at h24
          refine Qg Z (Qd Z (Qg Z (YH Z Z (Qh Z Z (hK _ _ (Qa (kp6 Z Z Z Z Z Z) ?_))))))
          refine Qy Z (fun h25 => ?_) (fun h25 => ?_)
          ·try rw [h25]
           try simp only [qB, Qj] at h25
           refine Qe fun K hK => Qd Z (hK _ _ (Qa (kp1 Z) ?_))
           refine Zv (QN (by decide) (QC (QN (by decide) (QN (by decide) (QO (QC (QQ (Qf (kp1 Z) (Qe fun K hK => Qd Z (Qd Z ?_))))))))))
           refine hK _ _ (Qa (kp1 Z) ?_)
           refine Qr (Qi Z ?_)
           first | exact (Zc (i := i) (by omega) (Z6 (by first | (left; assumption) | (right; omega)))).symm | exact (Zc (i := i) (by omega) (Z5 (ZK (i := j) (by omega) (by simp [Zb]; omega)))).symm | exact (ZO (by omega) hI.2).symm
          ·try rw [h25]
           try simp only [qB, Qj] at h25
           refine Qu (Qm ?_)
           refine Qq (j + 1) ?_ ?_ ?_
           ·first | exact Zk (l := [4, 14, 15, 16, 28]) (lH := [28]) (kp5 rfl rfl rfl rfl rfl) (Qv rfl Qw) rfl rfl rfl | (exfalso; omega)
           ·first | exact ⟨by omega, QS (by omega) hJ.2 (by simp [Zb]; omega)⟩ | (exfalso; omega)
           ·first | omega | (simp only; omega) | (dsimp only; omega)
         ·try rw [h24]
          try simp only [qB, Qj] at h24
          refine Qp Z (Qp Z (Qh Z Z (hK _ _ (Qa (kp6 Z Z Z Z Z Z) ?_))))
          refine Zr Z (Qu (Qm ?_))
          refine Qq (j + 1) ?_ ?_ ?_
          ·first | exact Zk (l := [4, 14, 15, 16, 28]) (lH := [28]) (kp5 rfl rfl rfl rfl rfl) (Qv rfl Qw) rfl rfl rfl | (exfalso; omega)
          ·first | exact ⟨by omega, QS (by omega) hJ.2 (by simp [Zb]; omega)⟩ | (exfalso; omega)
          ·first | omega | (simp only; omega) | (dsimp only; omega)
       ·try rw [h21]
        try simp only [qB, Qj] at h21
        refine Qp Z (Qp Z (Qp Z (QE Z (QE Z (Qp Z (Qh Z Z (Qd Z (Qp Z (Qp Z (Qh Z Z (hK _ _ (Qa (kp6 Z Z Z Z Z Z) ?_))))))))))))
        refine Zr Z (Qu (Qm ?_))
        refine Qq (j + 1) ?_ ?_ ?_
        ·first | exact Zk (l := [4, 14, 15, 16, 28]) (lH := [28]) (kp5 rfl rfl rfl rfl rfl) (Qv rfl Qw) rfl rfl rfl | (exfalso; omega)
        ·first | exact ⟨by omega, QS (by omega) hJ.2 (by simp [Zb]; omega)⟩ | (exfalso; omega)
        ·first | omega | (simp only; omega) | (dsimp only; omega)
    ·refine Qej Z Z (by omega) (Q2 Z Z (hK _ _ (Qa (kp7 Z Z Z Z Z Z Z) ?_)))
     refine QJ ?_ -- 5
     refine Zr Z (Zv (QO (QC (QQ (Qm (Qf (kp4 Z Z Z Z) (Ze fun K hK => ZJ Z Z (by first | exact QD (by omega) (by omega) | exact QI (by omega) (by omega) | exact QT (by omega) (by omega) | rfl) (Qd Z (hK _ ?_)))))))))
     refine Qq (i + 1) ?_ ?_ ?_
     ·exact Zk (l := [4, 14, 15, 16]) (kp4 rfl rfl rfl rfl) Qw rfl rfl rfl
     ·exact ⟨by omega, QS (by omega) hI.2 (QjD (by assumption) (by omega) (Yb (by omega) hJ.2))⟩
     ·first | omega | (simp only; omega) | (dsimp only; omega)
 ·try rw [h1]
  try simp only [qB, Qj] at h1
  refine Zv (QO (QC (QQ (Qf (kp1 Z) (Qe fun K hK => Qd Z (Qd Z (hK _ _ (Qa (kp1 Z) ?_))))))))
  refine Qr (Qi Z ?_)
  first | exact (Zc (i := i) (by omega) (Z6 (by first | (left; assumption) | (right; omega)))).symm | exact (Zc (i := i) (by omega) (Z5 (ZK (i := j) (by omega) (by simp [Zb]; omega)))).symm | exact (ZO (by omega) hI.2).symm
end Go.Proofs
namespace Go.Proofs
open Go Go.Abs M3
set_option linter.unusedVariables false
set_option linter.unusedSimpArgs false
theorem Qdv {a b : List UInt8} (ha : a.length <= 1000000) (hb : b.length <= 1000000) : Ok Tryd.prog 110 [.str a, .str b] (.int .i64 (Qe5 a b)) := by
 refine Ok.ofT Z9 Tryd.func110 Qlq (Nat.le_of_ble_eq_true Z) ?_
 show TW _ _ tf110.body _ _
 refine Qe fun K hK => Qd Z (hK _ _ (Qa (kp2 Z Z) ?_))
 refine Qe fun K hK => Qd Z (QA (Yd (by omega)) Z Z (.inr Z) (Qd Z (QA (Yd (by omega)) Z Z (.inr Z) (Qd Z (Qd Z (hK _ _ (Qa (kp4 Z Z Z Z) ?_)))))))
 refine QJ ?_ -- 0
 refine Qe fun K hK => Qd Z (Qd Z ?_)
 refine Qs (g := 16) Z (fun h1 => ?_) (fun h1 => ?_)
 ·try rw [h1]
  try simp only [qB] at h1
  refine Qg Z (Qd Z (Qh Z Z (hK _ _ (Qa (kp5 Z Z Z Z Z) ?_))))
  refine Qy Z (fun h2 => ?_) (fun h2 => ?_)
  ·try rw [h2]
   try simp only [qB] at h2
   refine Qe fun K hK => Qd Z (QA (Y4 (by omega)) Z Z (.inr Z) (Qd Z (Q2 Z Z (Q2 Z Z (Qd Z (Qd Z (hK _ _ (Qa (kp2 Z Z) ?_))))))))
   refine Qe fun K hK => Qd Z (QA (Y4 (by omega)) Z Z (.inr Z) (Qd Z (Q2 Z Z (Q2 Z Z (Qd Z (Qd Z (hK _ _ (Qa (kp2 Z Z) ?_))))))))
   refine Qe fun K hK => Qd Z (Qd Z (QA (Q7) Z Z (.inr Z) (Qd Z (hK _ _ (Qa (kp1 Z) ?_)))))
   refine Qr (Qk (Qx Z ?_))
   (repeat clear hK K); first | (simp [Qe5, h1, h2]; done) | (simp_all [Qe5]; done)
  ·try rw [h2]
   try simp only [qB] at h2
   refine Qu (Qf (kp4 Z Z Z Z) ?_)
   refine QJ ?_ -- 1
   refine Qe fun K hK => Qd Z (Qd Z (Qj8 Z Z (hK _ _ (Qa (kp4 Z Z Z Z) ?_))))
   refine Qy Z (fun h3 => ?_) (fun h3 => ?_)
   ·try rw [h3]
    try simp only [qB] at h3
    refine QJ ?_ -- 2
    refine Qe fun K hK => Qd Z (hK _ _ (Qa (kp1 Z) ?_))
    refine Zd Z (Qe fun K hK => Qd Z (hK _ _ (Qa (kp1 Z) ?_)))
    refine Qr (Qk (Qk (Qx Z ?_)))
    (repeat clear hK K); first | (simp [Qe5, h1, h2, h3]; done) | (simp_all [Qe5]; done)
   ·try rw [h3]
    try simp only [qB] at h3
    refine Qu (Qf (kp2 Z Z) (Qe fun K hK => Qd Z (Qd Z (QA (Yr) Z Z (.inr Z) (Qd Z (hK _ _ (Qa (kp1 Z) ?_)))))))
    refine Qr (Qx Z ?_)
    (repeat clear hK K); first | (simp [Qe5, h1, h2, h3]; done) | (simp_all [Qe5]; done)
 ·try rw [h1]
  try simp only [qB] at h1
  refine Qp Z (Qh Z Z (hK _ _ (Qa (kp5 Z Z Z Z Z) ?_)))
  refine Zr Z (Qu (Qf (kp4 Z Z Z Z) ?_))
  refine QJ ?_ -- 1
  refine Qe fun K hK => Qd Z (Qd Z (Qj8 Z Z (hK _ _ (Qa (kp4 Z Z Z Z) ?_))))
  refine Qy Z (fun h4 => ?_) (fun h4 => ?_)
  ·try rw [h4]
   try simp only [qB] at h4
   refine QJ ?_ -- 2
   refine Qe fun K hK => Qd Z (hK _ _ (Qa (kp1 Z) ?_))
   refine Zr Z (Qu (Qf (QK) (Qe fun K hK => Qd Z (hK _ _ (Qa (kp1 Z) ?_)))))
   refine Qr (Qk (Qx Z ?_))
   (repeat clear hK K); first | (simp [Qe5, h1, h4]; done) | (simp_all [Qe5]; done)
  ·try rw [h4]
   try simp only [qB] at h4
   refine Qu (Qf (kp2 Z Z) (Qe fun K hK => Qd Z (Qd Z (QA (Yr) Z Z (.inr Z) (Qd Z (hK _ _ (Qa (kp1 Z) ?_)))))))
   refine Qr (Qx Z ?_)
   (repeat clear hK K); first | (simp [Qe5, h1, h4]; done) | (simp_all [Qe5]; done)
theorem Qdu {s : List UInt8} (hl : s.length <= 1000000) : Ok Tryd.prog 80 [.str s] (.bool (QcV s)) := by
 refine Ok.ofT Z9 Tryd.func80 Qmh (Nat.le_of_ble_eq_true Z) ?_
 show TW _ _ tf80.body _ _
 refine Qe fun K hK => Qd Z (hK _ _ (Qa (kp1 Z) ?_))
 refine QJ ?_ -- 0
 refine Qe fun K hK => Qd Z (QA (Y6 (by omega)) Z Z (.inr Z) (ZV Z (hK _ _ (Qa (kp2 Z Z) ?_))))
 refine Qy Z (fun h1 => ?_) (fun h1 => ?_)
 ·try rw [h1]
  try simp only [qB, Qj] at h1
  refine Qe fun K hK => Qd Z (hK _ _ (Qa (kp1 Z) ?_))
  refine Qr (Qk (Qi Z ?_))
  first | (simp [QcV, h1]; done) | exact (Qfn (i := i) (by omega) (by simp [QbA, h1])).symm | exact (QdW (i := i) (by assumption) (by omega) hI.2).symm
 ·try rw [h1]
  try simp only [qB, Qj] at h1
  refine Qu (Qf (kp1 Z) ?_)
  refine QJ ?_ -- 1
  refine Qe fun K hK => Qd Z (QA (Yu (by omega)) Z Z (.inl Z) (YG Z Z (Qd Z (hK _ _ (Qa (kp3 Z Z Z) ?_)))))
  refine QP ?_
  refine Yn (ι := Nat) (fun i => ⟨[(11, .sl (Ya (QM s 46))), (12, .int .i64 (QM s 46).length), (13, .int .i64 i)], []⟩) (fun i => i <= (QM s 46).length /\ ((QM s 46).take i).all QbA = true) (fun i => (QM s 46).length - i) 0 ?_ ?_ ?_
  ·exact Zk (l := [11, 12, 13]) (kp3 rfl rfl rfl) Qw (by simp [Qj]) rfl rfl
  ·exact ⟨Nat.zero_le _, rfl⟩
  intro i hI
  have sl := QcI (s := s) (c := 46)
  try dsimp only
  refine Qe fun K hK => XJ Z Z (hK _ _ (Qa (kp4 Z Z Z Z) ?_))
  refine QJ ?_ -- 2
  refine Qy Z (fun h2 => ?_) (fun h2 => ?_)
  ·try rw [h2]
   try simp only [qB, Qj] at h2
   refine Qu (Qf (kp3 Z Z Z) ?_)
   refine QJ ?_ -- 3
   refine QP (Qe fun K hK => Zn Z Z Z (by omega) (Xv (by omega)) Z (QG Z Z Z (Qd Z (hK _ _ (Qa (kp4 Z Z Z Z) ?_)))))
   refine Qe fun K hK => Qd Z (QA (Y4 (XD (by omega) hl)) Z Z (.inr Z) (Qd Z (Q2 Z Z (Q2 Z Z (Qd Z (Qd Z (hK _ _ (Qa (kp5 Z Z Z Z Z) ?_))))))))
   refine Qe fun K hK => Qd Z (QA (Yd (XD (by omega) hl)) Z Z (.inr Z) (Qd Z ?_))
   refine Qs (g := 24) Z (fun h3 => ?_) (fun h3 => ?_)
   ·try rw [h3]
    try simp only [qB, Qj] at h3
    refine Qg Z (Qd Z (Qg Z (ZV Z (Qh Z Z (hK _ _ (Qa (kp4 Z Z Z Z) ?_))))))
    refine Qy Z (fun h4 => ?_) (fun h4 => ?_)
    ·try rw [h4]
     try simp only [qB, Qj] at h4
     refine Qe fun K hK => Qd Z (hK _ _ (Qa (kp1 Z) ?_))
     refine Qr (Qt (Qk (QY (Qt (Qk (Qi Z ?_))))))
     first | (simp [QcV, h1, h2, h3, h4]; done) | exact (Qfn (i := i) (by omega) (by simp [QbA, h1, h2, h3, h4])).symm | exact (QdW (i := i) (by assumption) (by omega) hI.2).symm
    ·try rw [h4]
     try simp only [qB, Qj] at h4
     refine Qu (Qm (Qf (kp3 Z Z Z) (Ze fun K hK => ZJ Z Z (by first | exact QD (by omega) (by omega) | exact QI (by omega) (by omega) | exact QT (by omega) (by omega) | rfl) (Qd Z (hK _ ?_)))))
     refine Qq (i + 1) ?_ ?_ ?_
     ·exact Q5 (kp3 rfl rfl rfl)
     ·exact ⟨by omega, QS (by omega) hI.2 (by simp [QbA, h1, h2, h3, h4])⟩
     ·first | omega | (simp only; omega) | (dsimp only; omega)
   ·try rw [h3]
    try simp only [qB, Qj] at h3
    refine Qp Z (Qp Z (Qh Z Z (hK _ _ (Qa (kp4 Z Z Z Z) ?_))))
    refine Zr Z (Qu (Qm (Qf (kp3 Z Z Z) (Ze fun K hK => ZJ Z Z (by first | exact QD (by omega) (by omega) | exact QI (by omega) (by omega) | exact QT (by omega) (by omega) | rfl) (Qd Z (hK _ ?_))))))
    refine Qq (i + 1) ?_ ?_ ?_
    ·exact Q5 (kp3 rfl rfl rfl)
    ·exact ⟨by omega, QS (by omega) hI.2 (by simp [QbA, h1, h2, h3])⟩
    ·first | omega | (simp only; omega) | (dsimp only; omega)
  ·try rw [h2]
   try simp only [qB, Qj] at h2
   refine Zv (QO (QC (QQ (Qf (QK) (Qe fun K hK => Qd Z (hK _ _ (Qa (kp1 Z) ?_)))))))
   refine Qr (Qi Z ?_)
   first | (simp [QcV, h1, h2]; done) | exact (Qfn (i := i) (by omega) (by simp [QbA, h1, h2])).symm | exact (QdW (i := i) (by assumption) (by omega) hI.2).symm
theorem ZP {a b c : Int} {p q : List UInt8} (hp : p.length <= 1000000) (hq : q.length <= 1000000) : Ok Tryd.prog 60 [.agg [.int .i64 a, .int .i64 b, .int .i64 c, .str p, .str q]] (.bool (Xz a b c p q)) := by
 refine Ok.ofT Z9 Tryd.func60 Ql5 (Nat.le_of_ble_eq_true Z) ?_
 show TW _ _ tf60.body _ _
 refine Qe fun K hK => ZU Z Z Z (Qd Z (hK _ _ (Qa (kp1 Z) ?_)))
 refine Qe fun K hK => Ql Z Z (QG Z Z Z (QA (Y5) Z Z (.inr Z) (Qd Z ?_)))
 refine Qs (g := 6) Z (fun h1 => ?_) (fun h1 => ?_)
 ·try rw [h1]
  try simp only [qB] at h1
  refine Qg Z (Ql Z Z (Qg Z (QG Z Z Z (Qg Z (QA (Y5) Z Z (.inr Z) (Qh Z Z (Qd Z ?_)))))))
  refine Qs (g := 11) Z (fun h2 => ?_) (fun h2 => ?_)
  ·try rw [h2]
   try simp only [qB] at h2
   refine Qg Z (Ql Z Z (Qg Z (QG Z Z Z (Qg Z (QA (Y5) Z Z (.inr Z) (Qh Z Z (Qd Z ?_)))))))
   refine Qs (g := 16) Z (fun h3 => ?_) (fun h3 => ?_)
   ·try rw [h3]
    try simp only [qB] at h3
    refine Qg Z (Ql Z Z (Qg Z (QG Z Z Z (Qg Z (QbV Z Z (Qg Z (Qd Z ?_)))))))
    refine Qs (g := 20) Z (fun h4 => ?_) (fun h4 => ?_)
    ·try rw [h4]
     try simp only [qB] at h4
     refine Qp Z (Qp Z (Qp Z (Qg Z (Qh Z Z (Qh Z Z (Qd Z (Qg Z (Ql Z Z (Qg Z (QG Z Z Z (Qg Z ?_)))))))))))
     refine QbV Z Z (Qg Z (Qd Z ?_))
     refine Qs (g := 30) Z (fun h5 => ?_) (fun h5 => ?_)
     ·try rw [h5]
      try simp only [qB] at h5
      refine Qp Z (Qp Z (Qp Z (Qg Z (Qh Z Z (Qh Z Z (Qd Z (hK _ _ (Qa (kp1 Z) ?_))))))))
      refine Qr (Qi Z ?_)
      simp [Xz, ZN, Z2, h1, h2, h3, h4, h5]
     ·try rw [h5]
      try simp only [qB] at h5
      refine Qg Z (Ql Z Z (Qg Z (QG Z Z Z (Qg Z (QA (Y6 (by omega)) Z Z (.inr Z) (Qg Z (Qh Z Z (Qh Z Z (Qd Z (hK _ _ (Qa (kp1 Z) ?_)))))))))))
      refine Qr (Qi Z ?_)
      simp [Xz, ZN, Z2, h1, h2, h3, h4, h5]
    ·try rw [h4]
     try simp only [qB] at h4
     refine Qg Z (Ql Z Z (Qg Z (QG Z Z Z (Qg Z (QA (Qdu (by omega)) Z Z (.inr Z) (Qg Z (Qh Z Z (Qh Z Z (Qd Z ?_)))))))))
     refine Qs (g := 26) Z (fun h6 => ?_) (fun h6 => ?_)
     ·try rw [h6]
      try simp only [qB] at h6
      refine Qg Z (Ql Z Z (Qg Z (QG Z Z Z (Qg Z (QbV Z Z (Qg Z (Qd Z ?_)))))))
      refine Qs (g := 30) Z (fun h7 => ?_) (fun h7 => ?_)
      ·try rw [h7]
       try simp only [qB] at h7
       refine Qp Z (Qp Z (Qp Z (Qg Z (Qh Z Z (Qh Z Z (Qd Z (hK _ _ (Qa (kp1 Z) ?_))))))))
       refine Qr (Qi Z ?_)
       simp [Xz, ZN, Z2, h1, h2, h3, h4, h6, h7]
      ·try rw [h7]
       try simp only [qB] at h7
       refine Qg Z (Ql Z Z (Qg Z (QG Z Z Z (Qg Z (QA (Y6 (by omega)) Z Z (.inr Z) (Qg Z (Qh Z Z (Qh Z Z (Qd Z (hK _ _ (Qa (kp1 Z) ?_)))))))))))
       refine Qr (Qi Z ?_)
       simp [Xz, ZN, Z2, h1, h2, h3, h4, h6, h7]
     ·try rw [h6]
      try simp only [qB] at h6
      refine Qp Z (Qp Z (Qp Z (Qp Z (QE Z (QE Z (QE Z (Qp Z (Qh Z Z (Qd Z (hK _ _ (Qa (kp1 Z) ?_)))))))))))
      refine Qr (Qi Z ?_)
      simp [Xz, ZN, Z2, h1, h2, h3, h4, h6]
   ·try rw [h3]
    try simp only [qB] at h3
    refine Qp Z (Qp Z (Qp Z (Qp Z (QE Z (QE Z (QE Z (Qp Z (Qh Z Z (Qd Z (Qp Z (Qp Z ?_)))))))))))
    refine Qp Z (Qp Z (QE Z (QE Z (QE Z (Qp Z (Qh Z Z (Qd Z (hK _ _ (Qa (kp1 Z) ?_)))))))))
    refine Qr (Qi Z ?_)
    simp [Xz, ZN, Z2, h1, h2, h3]
  ·try rw [h2]
   try simp only [qB] at h2
   refine Qp Z (Qp Z (Qp Z (Qh Z Z (Qd Z (Qp Z (Qp Z (Qp Z (Qp Z (QE Z (QE Z (QE Z ?_)))))))))))
   refine Qp Z (Qh Z Z (Qd Z (Qp Z (Qp Z (Qp Z (Qp Z (QE Z (QE Z (QE Z (Qp Z (Qh Z Z ?_)))))))))))
   refine Qd Z (hK _ _ (Qa (kp1 Z) ?_))
   refine Qr (Qi Z ?_)
   simp [Xz, ZN, Z2, h1, h2]
 ·try rw [h1]
  try simp only [qB] at h1
  refine Qp Z (Qp Z (Qp Z (Qh Z Z (Qd Z (Qp Z (Qp Z (Qp Z (Qh Z Z (Qd Z (Qp Z (Qp Z ?_)))))))))))
  refine Qp Z (Qp Z (QE Z (QE Z (QE Z (Qp Z (Qh Z Z (Qd Z (Qp Z (Qp Z (Qp Z (Qp Z ?_)))))))))))
  refine QE Z (QE Z (QE Z (Qp Z (Qh Z Z (Qd Z (hK _ _ (Qa (kp1 Z) ?_)))))))
  refine Qr (Qi Z ?_)
  simp [Xz, ZN, Z2, h1]
theorem Xb {a b c : Int} {p q : List UInt8} (hp : p.length <= 1000000) (hq : q.length <= 1000000) {a' b' c' : Int} {p' q' : List UInt8} (hp' : p'.length <= 1000000) (hq' : q'.length <= 1000000) : Ok Tryd.prog 105 [.agg [.int .i64 a, .int .i64 b, .int .i64 c, .str p, .str q], .agg [.int .i64 a', .int .i64 b', .int .i64 c', .str p', .str q']] (.int .i64 (QbI a b c p q a' b' c' p' q')) := by
 refine Ok.ofT Z9 Tryd.func105 Qlm (Nat.le_of_ble_eq_true Z) ?_
 show TW _ _ tf105.body _ _
 refine Qe fun K hK => ZU Z Z Z (ZU Z Z Z (Qd Z (hK _ _ (Qa (kp2 Z Z) ?_))))
 refine QJ ?_ -- 0
 refine Qe fun K hK => Zh (ds0 := [13, 12, 11, 10, 9, 8, 7, 6, 5, 4, 3, 2, 1, 0]) (cs := [_, _, _, _, _]) Z Z Z Z Z Z (Zg (ds0 := [12, 11, 10, 9, 8, 7, 6, 5, 4, 3, 2, 1, 0]) (ZP (by omega) (by omega)) Z Z (.inr Z) Z Z (ZV Z (Qd Z ?_)))
 refine Qs (g := 13) Z (fun h1 => ?_) (fun h1 => ?_)
 ·try rw [h1]
  try simp only [qB, Qj] at h1
  refine Qp Z (Qp Z (Qp Z (Qh Z Z (Qd Z (Qp Z (Qp Z (Qp Z (Qp Z (Qp Z (Qh Z Z (hK _ _ (Qa (kp3 Z Z Z) ?_))))))))))))
  refine Zd Z (Qe fun K hK => Qd Z (hK _ _ (Qa (kp1 Z) ?_)))
  refine Qr (Qk (Qx Z ?_))
  first | (simp [QbI, h1]; done) | (exact (QaV (by assumption) (by assumption) (by assumption)).symm) | (exact Xq (by assumption) (by assumption) (by assumption)) | (exact (Yv (by assumption) (by assumption) (by assumption) (by assumption) (by assumption)).symm) | (exact (Yw (by assumption) (by assumption) (by assumption) (by assumption) (by assumption)).symm) | (rw [hI.2.2, YB (by omega) (by omega) (by assumption)]) | (rw [hI.2.2, YA (by omega) (by omega) (by omega)]; simp [Qj])
 ·try rw [h1]
  try simp only [qB, Qj] at h1
  refine Qg Z (Zh (ds0 := [9, 8, 7, 6, 5, 4, 3, 2, 1, 0]) (cs := [_, _, _, _, _]) Z Z Z Z Z Z (Qg Z (Zg (ds0 := [8, 7, 6, 5, 4, 3, 2, 1, 0]) (ZP (by omega) (by omega)) Z Z (.inr Z) Z Z (Qg Z (ZV Z (Qh Z Z (Qd Z ?_)))))))
  refine Qs (g := 18) Z (fun h2 => ?_) (fun h2 => ?_)
  ·try rw [h2]
   try simp only [qB, Qj] at h2
   refine Qp Z (Qp Z (Qp Z (Qp Z (Qp Z (Qh Z Z (hK _ _ (Qa (kp3 Z Z Z) ?_)))))))
   refine Zd Z (Qe fun K hK => Qd Z (hK _ _ (Qa (kp1 Z) ?_)))
   refine Qr (Qk (Qx Z ?_))
   first | (simp [QbI, h1, h2]; done) | (exact (QaV (by assumption) (by assumption) (by assumption)).symm) | (exact Xq (by assumption) (by assumption) (by assumption)) | (exact (Yv (by assumption) (by assumption) (by assumption) (by assumption) (by assumption)).symm) | (exact (Yw (by assumption) (by assumption) (by assumption) (by assumption) (by assumption)).symm) | (rw [hI.2.2, YB (by omega) (by omega) (by assumption)]) | (rw [hI.2.2, YA (by omega) (by omega) (by omega)]; simp [Qj])
  ·try rw [h2]
   try simp only [qB, Qj] at h2
   refine Qg Z (Zh (ds0 := [4, 1, 0]) (cs := [_, _, _, _, _]) Z Z Z Z Z Z (Qg Z (Zg (ds0 := [1, 0]) (Qas) Z Z (.inl Z) Z Z (Qg Z (Zh (ds0 := [2, 1, 0]) (cs := [_, _, _, _, _]) Z Z Z Z Z Z (Qg Z (Zg (ds0 := [1, 0]) (Qas) Z Z (.inl Z) Z Z (Qg Z (QgN Z Z Z (Qh Z Z (hK _ _ (Qa (kp3 Z Z Z) ?_))))))))))))
   refine Qy Z (fun h3 => ?_) (fun h3 => ?_)
   ·try rw [h3]
    try simp only [qB, Qj] at h3
    refine Qe fun K hK => Qd Z (hK _ _ (Qa (kp1 Z) ?_))
    refine Qr (Qk (Qx Z ?_))
    first | (simp [QbI, h1, h2, h3]; done) | (exact (QaV (by assumption) (by assumption) (by assumption)).symm) | (exact Xq (by assumption) (by assumption) (by assumption)) | (exact (Yv (by assumption) (by assumption) (by assumption) (by assumption) (by assumption)).symm) | (exact (Yw (by assumption) (by assumption) (by assumption) (by assumption) (by assumption)).symm) | (rw [hI.2.2, YB (by omega) (by omega) (by assumption)]) | (rw [hI.2.2, YA (by omega) (by omega) (by omega)]; simp [Qj])
   ·try rw [h3]
    try simp only [qB, Qj] at h3
    refine Qu (Qf (kp2 Z Z) ?_)
    refine QJ ?_ -- 1
    refine Qe fun K hK => Ql Z Z (Zx (ds0 := [13, 2, 1, 0]) Z Z Z Z Z (Ql Z Z (Zx (ds0 := [13, 2, 1, 0]) Z Z Z Z Z (Zg (ds0 := [2, 1, 0]) (Q7) Z Z (.inr Z) Z Z (Ql Z Z (Zx (ds0 := [8, 2, 1, 0]) Z Z Z Z Z (Ql Z Z (Zx (ds0 := [8, 2, 1, 0]) Z Z Z Z Z (Zg (ds0 := [2, 1, 0]) (Q7) Z Z (.inr Z) Z Z (Ql Z Z ?_))))))))))
    refine Zx (ds0 := [3, 2, 1, 0]) Z Z Z Z Z (Ql Z Z (Zx (ds0 := [3, 2, 1, 0]) Z Z Z Z Z (Zg (ds0 := [2, 1, 0]) (Q7) Z Z (.inr Z) Z Z (Zf Z Z (Zg (ds0 := [0]) (Qeq (l := [Zj a a', Zj b b', Zj c c']) (by simp)) Z Z (.inr Z) Z Z (Qd Z (hK _ _ (Qa (kp3 Z Z Z) ?_))))))))
    refine Qe fun K hK => Qd Z (YH Z Z (hK _ _ (Qa (kp4 Z Z Z Z) ?_)))
    refine Qy Z (fun h4 => ?_) (fun h4 => ?_)
    ·try rw [h4]
     try simp only [qB, Qj] at h4
     refine Qe fun K hK => Qd Z (Qd Z (hK _ _ (Qa (kp1 Z) ?_)))
     refine Qr (Qk (Qx Z ?_))
     first | (simp [QbI, h1, h2, h3, h4]; done) | (exact (QaV (by assumption) (by assumption) (by assumption)).symm) | (exact Xq (by assumption) (by assumption) (by assumption)) | (exact (Yv (by assumption) (by assumption) (by assumption) (by assumption) (by assumption)).symm) | (exact (Yw (by assumption) (by assumption) (by assumption) (by assumption) (by assumption)).symm) | (rw [hI.2.2, YB (by omega) (by omega) (by assumption)]) | (rw [hI.2.2, YA (by omega) (by omega) (by omega)]; simp [Qj])
    ·try rw [h4]
     try simp only [qB, Qj] at h4
     refine Qu (Qf (kp2 Z Z) ?_)
     refine QJ ?_ -- 2
     refine Qe fun K hK => Ql Z Z (QG Z Z Z (QbV Z Z (hK _ _ (Qa (kp3 Z Z Z) ?_))))
     refine Qy Z (fun h5 => ?_) (fun h5 => ?_)
     ·try rw [h5]
      try simp only [qB, Qj] at h5
      refine Qe fun K hK => Qd Z (hK _ _ (Qa (kp1 Z) ?_))
      refine Qr (Qk (Qx Z ?_))
      first | (simp [QbI, h1, h2, h3, h4, h5]; done) | (exact (QaV (by assumption) (by assumption) (by assumption)).symm) | (exact Xq (by assumption) (by assumption) (by assumption)) | (exact (Yv (by assumption) (by assumption) (by assumption) (by assumption) (by assumption)).symm) | (exact (Yw (by assumption) (by assumption) (by assumption) (by assumption) (by assumption)).symm) | (rw [hI.2.2, YB (by omega) (by omega) (by assumption)]) | (rw [hI.2.2, YA (by omega) (by omega) (by omega)]; simp [Qj])
     ·try rw [h5]
      try simp only [qB, Qj] at h5
      refine Qu (Qf (kp2 Z Z) ?_)
      refine QJ ?_ -- 3
      refine Qe fun K hK => Ql Z Z (QG Z Z Z (QbV Z Z (hK _ _ (Qa (kp3 Z Z Z) ?_))))
      refine Qy Z (fun h6 => ?_) (fun h6 => ?_)
      ·try rw [h6]
       try simp only [qB, Qj] at h6
       refine Qe fun K hK => Qd Z (hK _ _ (Qa (kp1 Z) ?_))
       refine Qr (Qk (Qx Z ?_))
       first | (simp [QbI, h1, h2, h3, h4, h5, h6]; done) | (exact (QaV (by assumption) (by assumption) (by assumption)).symm) | (exact Xq (by assumption) (by assumption) (by assumption)) | (exact (Yv (by assumption) (by assumption) (by assumption) (by assumption) (by assumption)).symm) | (exact (Yw (by assumption) (by assumption) (by assumption) (by assumption) (by assumption)).symm) | (rw [hI.2.2, YB (by omega) (by omega) (by assumption)]) | (rw [hI.2.2, YA (by omega) (by omega) (by omega)]; simp [Qj])
      ·try rw [h6]
       try simp only [qB, Qj] at h6
       refine Qu (Qf (kp2 Z Z) (Qe fun K hK => Ql Z Z (Zx (ds0 := [5, 1]) Z Z Z Z Z (Zg (ds0 := [1]) (Yu (by omega)) Z Z (.inl Z) Z Z (Ql Z Z (Zx (ds0 := [2, 0]) Z Z Z Z Z (Zg (ds0 := [0]) (Yu (by omega)) Z Z (.inl Z) Z Z (Qd Z (Qd Z (hK _ _ (Qa (kp2 Z Z) ?_)))))))))))
       refine QJ ?_ -- 4
       refine Qe fun K hK => Qd Z (hK _ _ (Qa (kp3 Z Z Z) ?_))
       refine QP ?_
       refine Yn (ι := Nat) (fun i => ⟨[(6, .sl (Ya (QM p 46))), (7, .sl (Ya (QM p' 46))), (8, .int .i64 i)], []⟩) (fun i => i <= (QM p 46).length /\ i <= (QM p' 46).length /\ QbI a b c p q a' b' c' p' q' = Qgy ((QM p 46).drop i) ((QM p' 46).drop i)) (fun i => (QM p 46).length - i) 0 ?_ ?_ ?_
       ·exact Zk (l := [6, 7, 8]) (kp3 rfl rfl rfl) Qw rfl rfl rfl
       ·exact ⟨Nat.zero_le _, Nat.zero_le _, Qjp (by assumption) (by assumption) (by assumption) (by assumption) (by assumption) (by assumption)⟩
       intro i hI
       have sl := QcI (s := p) (c := 46)
       try dsimp only
       refine QJ ?_ -- 5
       refine Qe fun K hK => Qd Z (Qd Z (YG Z Z (XJ Z Z (Qd Z ?_))))
       refine Qs (g := 61) Z (fun h7 => ?_) (fun h7 => ?_)
       ·try rw [h7]
        try simp only [qB, Qj] at h7
        refine Qg Z (Qd Z (Qg Z (Qd Z (Qg Z (YG Z Z (Qg Z (XJ Z Z (Qh Z Z (hK _ _ (Qa (kp4 Z Z Z Z) ?_))))))))))
        refine Qy Z (fun h8 => ?_) (fun h8 => ?_)
        ·try rw [h8]
         try simp only [qB, Qj] at h8
         refine Qu (Qf (kp3 Z Z Z) ?_)
         refine QJ ?_ -- 6
         refine QP (Qe fun K hK => Qd Z (Qd Z (Zn Z Z Z (by omega) (Xv (by omega)) Z (Zx (ds0 := [1, 0]) Z Z Z Z Z (Qd Z (Qd Z (Zn Z Z Z (by omega) (Xv (by omega)) Z (Zx (ds0 := [1, 0]) Z Z Z Z Z (Zg (ds0 := [0]) (Qdv (XD (by omega) hp) (XD (by omega) hp')) Z Z (.inr Z) Z Z (Qd Z ?_))))))))))
         refine hK _ _ (Qa (kp4 Z Z Z Z) ?_)
         refine Qe fun K hK => Qd Z (YH Z Z (hK _ _ (Qa (kp5 Z Z Z Z Z) ?_)))
         refine Qy Z (fun h9 => ?_) (fun h9 => ?_)
         ·try rw [h9]
          try simp only [qB, Qj] at h9
          refine Qe fun K hK => Qd Z (Qd Z (hK _ _ (Qa (kp1 Z) ?_)))
          refine Qr (Qt (Qk (QY (Qt (Qk (Qx Z ?_))))))
          first | (simp [QbI, h1, h2, h3, h4, h5, h6, h7, h8, h9]; done) | (exact (QaV (by assumption) (by assumption) (by assumption)).symm) | (exact Xq (by assumption) (by assumption) (by assumption)) | (exact (Yv (by assumption) (by assumption) (by assumption) (by assumption) (by assumption)).symm) | (exact (Yw (by assumption) (by assumption) (by assumption) (by assumption) (by assumption)).symm) | (rw [hI.2.2, YB (by omega) (by omega) (by assumption)]) | (rw [hI.2.2, YA (by omega) (by omega) (by omega)]; simp [Qj])
         ·try rw [h9]
          try simp only [qB, Qj] at h9
          refine Qu (Qm (Qf (kp3 Z Z Z) (Ze fun K hK => Qd Z (ZJ Z Z (by first | exact QD (by omega) (by omega) | exact QI (by omega) (by omega) | exact QT (by omega) (by omega) | rfl) (Qd Z (hK _ ?_))))))
          refine Qq (i + 1) ?_ ?_ ?_
          ·exact Q5 (kp3 rfl rfl rfl)
          ·exact ⟨by omega, by omega, by rw [hI.2.2, Qht (by omega) (by omega) (by assumption)]⟩
          ·first | omega | (simp only; omega) | (dsimp only; omega)
        ·try rw [h8]
         try simp only [qB, Qj] at h8
         refine Zv (QO (QC (QQ (Qf (kp2 Z Z) (Qe fun K hK => Qd Z (YG Z Z (Qd Z (YG Z Z (QA (Q7) Z Z (.inr Z) (Qd Z ?_))))))))))
         refine hK _ _ (Qa (kp1 Z) ?_)
         refine Qr (Qx Z ?_)
         first | (simp [QbI, h1, h2, h3, h4, h5, h6, h7, h8]; done) | (exact (QaV (by assumption) (by assumption) (by assumption)).symm) | (exact Xq (by assumption) (by assumption) (by assumption)) | (exact (Yv (by assumption) (by assumption) (by assumption) (by assumption) (by assumption)).symm) | (exact (Yw (by assumption) (by assumption) (by assumption) (by assumption) (by assumption)).symm) | (rw [hI.2.2, YB (by omega) (by omega) (by assumption)]) | (rw [hI.2.2, YA (by omega) (by omega) (by omega)]; simp [Qj])
       ·try rw [h7]
        try simp only [qB, Qj] at h7
        refine Qp Z (Qp Z (Qp Z (Qp Z (Qh Z Z (hK _ _ (Qa (kp4 Z Z Z Z) ?_))))))
        refine Zr Z (Zv (QO (QC (QQ (Qf (kp2 Z Z) (Qe fun K hK => Qd Z (YG Z Z (Qd Z (YG Z Z (QA (Q7) Z Z (.inr Z) ?_))))))))))
        refine Qd Z (hK _ _ (Qa (kp1 Z) ?_))
        refine Qr (Qx Z ?_)
        first | (simp [QbI, h1, h2, h3, h4, h5, h6, h7]; done) | (exact (QaV (by assumption) (by assumption) (by assumption)).symm) | (exact Xq (by assumption) (by assumption) (by assumption)) | (exact (Yv (by assumption) (by assumption) (by assumption) (by assumption) (by assumption)).symm) | (exact (Yw (by assumption) (by assumption) (by assumption) (by assumption) (by assumption)).symm) | (rw [hI.2.2, YB (by omega) (by omega) (by assumption)]) | (rw [hI.2.2, YA (by omega) (by omega) (by omega)]; simp [Qj])
theorem XP {e a b c : Int} {p q : List UInt8} {f : Bool} (hp : p.length <= 1000000) (hq : q.length <= 1000000) : Ok Tryd.prog 103 [.agg [.int .i64 e, .int .i64 a, .int .i64 b, .int .i64 c, .str p, .str q, .bool f]] (.bool (Yz e a b c p q f)) := by
 refine Ok.ofT Z9 Tryd.func103 Qlk (Nat.le_of_ble_eq_true Z) ?_
 show TW _ _ tf103.body _ _
 refine Qe fun K hK => ZU Z Z Z (Qd Z (hK _ _ (Qa (kp1 Z) ?_)))
 refine QJ ?_ -- 0
 refine Qe fun K hK => Ql Z Z (QG Z Z Z (Ys Z Z (Qd Z ?_)))
 refine Qs (g := 6) Z (fun h1 => ?_) (fun h1 => ?_)
 ·try rw [h1]
  try simp only [qB] at h1
  refine Qp Z (Qp Z (Qp Z (Qh Z Z (hK _ _ (Qa (kp2 Z Z) ?_)))))
  refine Zd Z (Qe fun K hK => Ql Z Z (QH (cs := [_, _, _, _, _]) Z Z Z Z (QZ Z Z (QgN Z Z Z (Qd Z ?_)))))
  refine Qs (g := 15) Z (fun h2 => ?_) (fun h2 => ?_)
  ·try rw [h2]
   try simp only [qB] at h2
   refine Qg Z (Ql Z Z (Qg Z (QG Z Z Z (Qg Z (ZV Z (Qh Z Z (Qd Z (hK _ _ (Qa (kp1 Z) ?_)))))))))
   refine Qr (Qk (Qi Z ?_))
   (repeat clear hK K); first | (simp_all [Yz]; done) | (simp_all [Yz]; omega)
  ·try rw [h2]
   try simp only [qB] at h2
   refine Qp Z (Qp Z (Qp Z (Qh Z Z (Qd Z (hK _ _ (Qa (kp1 Z) ?_))))))
   refine Qr (Qk (Qi Z ?_))
   (repeat clear hK K); first | (simp_all [Yz]; done) | (simp_all [Yz]; omega)
 ·try rw [h1]
  try simp only [qB] at h1
  refine Qg Z (Ql Z Z (Qg Z (QG Z Z Z (Qg Z (Ys Z Z (Qh Z Z (hK _ _ (Qa (kp2 Z Z) ?_))))))))
  refine Qy Z (fun h3 => ?_) (fun h3 => ?_)
  ·try rw [h3]
   try simp only [qB] at h3
   refine Qe fun K hK => Ql Z Z (QH (cs := [_, _, _, _, _]) Z Z Z Z (QZ Z Z (QgN Z Z Z (Qd Z ?_))))
   refine Qs (g := 15) Z (fun h4 => ?_) (fun h4 => ?_)
   ·try rw [h4]
    try simp only [qB] at h4
    refine Qg Z (Ql Z Z (Qg Z (QG Z Z Z (Qg Z (ZV Z (Qh Z Z (Qd Z (hK _ _ (Qa (kp1 Z) ?_)))))))))
    refine Qr (Qk (Qi Z ?_))
    (repeat clear hK K); first | (simp_all [Yz]; done) | (simp_all [Yz]; omega)
   ·try rw [h4]
    try simp only [qB] at h4
    refine Qp Z (Qp Z (Qp Z (Qh Z Z (Qd Z (hK _ _ (Qa (kp1 Z) ?_))))))
    refine Qr (Qk (Qi Z ?_))
    (repeat clear hK K); first | (simp_all [Yz]; done) | (simp_all [Yz]; omega)
  ·try rw [h3]
   try simp only [qB] at h3
   refine Qe fun K hK => Ql Z Z (QG Z Z Z (YH Z Z (hK _ _ (Qa (kp2 Z Z) ?_))))
   refine Qy Z (fun h5 => ?_) (fun h5 => ?_)
   ·try rw [h5]
    try simp only [qB] at h5
    refine Qe fun K hK => Qd Z (hK _ _ (Qa (kp1 Z) ?_))
    refine Qr (Qk (Qi Z ?_))
    (repeat clear hK K); first | (simp_all [Yz]; done) | (simp_all [Yz]; omega)
   ·try rw [h5]
    try simp only [qB] at h5
    refine Qu (Qf (kp1 Z) (Qe fun K hK => Ql Z Z (QH (cs := [_, _, _, _, _]) Z Z Z Z (QA (ZP (by omega) (by omega)) Z Z (.inr Z) (Qd Z ?_)))))
    refine Qs (g := 26) Z (fun h6 => ?_) (fun h6 => ?_)
    ·try rw [h6]
     try simp only [qB] at h6
     refine Qg Z (Ql Z Z (Qg Z (Ql Z Z (Qg Z (QG Z Z Z (Qg Z (QbV Z Z (Qh Z Z (Qd Z (hK _ _ (Qa (kp1 Z) ?_)))))))))))
     refine Qr (Qi Z ?_)
     (repeat clear hK K); first | (simp_all [Yz]; done) | (simp_all [Yz]; omega)
    ·try rw [h6]
     try simp only [qB] at h6
     refine Qp Z (Qp Z (Qp Z (Qp Z (Qh Z Z (Qd Z (hK _ _ (Qa (kp1 Z) ?_)))))))
     refine Qr (Qi Z ?_)
     (repeat clear hK K); first | (simp_all [Yz]; done) | (simp_all [Yz]; omega)
theorem QaO {e a b c : Int} {p q : List UInt8} {f : Bool} (hp : p.length <= 1000000) (hq : q.length <= 1000000) {e' a' b' c' : Int} {p' q' : List UInt8} {f' : Bool} (hp' : p'.length <= 1000000) (hq' : q'.length <= 1000000) : Ok Tryd.prog 94 [.agg [.int .i64 e, .int .i64 a, .int .i64 b, .int .i64 c, .str p, .str q, .bool f], .agg [.int .i64 e', .int .i64 a', .int .i64 b', .int .i64 c', .str p', .str q', .bool f']] (.int .i64 (Y7 e a b c p q f e' a' b' c' p' q' f')) := by
 refine Ok.ofT Z9 Tryd.func94 Qmq (Nat.le_of_ble_eq_true Z) ?_
 show TW _ _ tf94.body _ _
 refine Qe fun K hK => ZU Z Z Z (ZU Z Z Z (Qd Z (hK _ _ (Qa (kp2 Z Z) ?_))))
 refine QJ ?_ -- 0
 refine Qe fun K hK => QH (cs := [_, _, _, _, _, _, _]) Z Z Z Z (QA (XP (by omega) (by omega)) Z Z (.inr Z) (ZV Z (Qd Z ?_)))
 refine Qs (g := 9) Z (fun h1 => ?_) (fun h1 => ?_)
 ·try rw [h1]
  try simp only [qB] at h1
  refine Qp Z (Qp Z (Qp Z (Qh Z Z (hK _ _ (Qa (kp3 Z Z Z) ?_)))))
  refine Zd Z (Qe fun K hK => Qd Z (hK _ _ (Qa (kp1 Z) ?_)))
  refine Qr (Qk (Qx Z ?_))
  (repeat clear hK K); first | (simp [Y7, h1]; done) | exact (YV (by assumption) (by assumption) (by first | (left; assumption) | (right; assumption))).symm | (simp_all [Y7]; done)
 ·try rw [h1]
  try simp only [qB] at h1
  refine Qg Z (QH (cs := [_, _, _, _, _, _, _]) Z Z Z Z (Qg Z (QA (XP (by omega) (by omega)) Z Z (.inr Z) (Qg Z (ZV Z (Qh Z Z (hK _ _ (Qa (kp3 Z Z Z) ?_))))))))
  refine Qy Z (fun h2 => ?_) (fun h2 => ?_)
  ·try rw [h2]
   try simp only [qB] at h2
   refine Qe fun K hK => Qd Z (hK _ _ (Qa (kp1 Z) ?_))
   refine Qr (Qk (Qx Z ?_))
   (repeat clear hK K); first | (simp [Y7, h1, h2]; done) | exact (YV (by assumption) (by assumption) (by first | (left; assumption) | (right; assumption))).symm | (simp_all [Y7]; done)
  ·try rw [h2]
   try simp only [qB] at h2
   refine Qe fun K hK => Ql Z Z (QG Z Z Z (YH Z Z (Qd Z ?_)))
   refine Qs (g := 17) Z (fun h3 => ?_) (fun h3 => ?_)
   ·try rw [h3]
    try simp only [qB] at h3
    refine Qp Z (Qp Z (Qp Z (Qh Z Z (hK _ _ (Qa (kp3 Z Z Z) ?_)))))
    refine Zd Z (Qe fun K hK => Ql Z Z (QG Z Z Z (Ql Z Z (QG Z Z Z (QA (Q7) Z Z (.inr Z) (Qd Z (hK _ _ (Qa (kp1 Z) ?_))))))))
    refine Qr (Qk (Qx Z ?_))
    (repeat clear hK K); first | (simp [Y7, h1, h2, h3]; done) | exact (YV (by assumption) (by assumption) (by first | (left; assumption) | (right; assumption))).symm | (simp_all [Y7]; done)
   ·try rw [h3]
    try simp only [qB] at h3
    refine Qg Z (Ql Z Z (Qg Z (QG Z Z Z (Qg Z (YH Z Z (Qh Z Z (hK _ _ (Qa (kp3 Z Z Z) ?_))))))))
    refine Qy Z (fun h4 => ?_) (fun h4 => ?_)
    ·try rw [h4]
     try simp only [qB] at h4
     refine Qe fun K hK => Ql Z Z (QG Z Z Z (Ql Z Z (QG Z Z Z (QA (Q7) Z Z (.inr Z) (Qd Z (hK _ _ (Qa (kp1 Z) ?_)))))))
     refine Qr (Qk (Qx Z ?_))
     (repeat clear hK K); first | (simp [Y7, h1, h2, h3, h4]; done) | exact (YV (by assumption) (by assumption) (by first | (left; assumption) | (right; assumption))).symm | (simp_all [Y7]; done)
    ·try rw [h4]
     try simp only [qB] at h4
     refine Qe fun K hK => Ql Z Z (QH (cs := [_, _, _, _, _]) Z Z Z Z (Ql Z Z (QH (cs := [_, _, _, _, _]) Z Z Z Z (QA (Xb (by omega) (by omega) (by omega) (by omega)) Z Z (.inr Z) (Qd Z (hK _ _ (Qa (kp3 Z Z Z) ?_)))))))
     refine Qe fun K hK => Qd Z (YH Z Z (hK _ _ (Qa (kp4 Z Z Z Z) ?_)))
     refine Qy Z (fun h5 => ?_) (fun h5 => ?_)
     ·try rw [h5]
      try simp only [qB] at h5
      refine Qe fun K hK => Qd Z (Qd Z (hK _ _ (Qa (kp1 Z) ?_)))
      refine Qr (Qk (Qx Z ?_))
      (repeat clear hK K); first | (simp [Y7, h1, h2, h3, h4, h5]; done) | exact (YV (by assumption) (by assumption) (by first | (left; assumption) | (right; assumption))).symm | (simp_all [Y7]; done)
     ·try rw [h5]
      try simp only [qB] at h5
      refine Qe fun K hK => Ql Z Z (QG Z Z Z (Ql Z Z (QG Z Z Z (QkZ Z Z (hK _ _ (Qa (kp2 Z Z) ?_))))))
      refine Qy Z (fun h6 => ?_) (fun h6 => ?_)
      ·try rw [h6]
       try simp only [qB] at h6
       refine Qe fun K hK => Qd Z (hK _ _ (Qa (kp1 Z) ?_))
       refine Qr (Qk (Qx Z ?_))
       (repeat clear hK K); first | (simp [Y7, h1, h2, h3, h4, h5, h6]; done) | exact (YV (by assumption) (by assumption) (by first | (left; assumption) | (right; assumption))).symm | (simp_all [Y7]; done)
      ·try rw [h6]
       try simp only [qB] at h6
       refine Qe fun K hK => Ql Z Z (QG Z Z Z (hK _ _ (Qa (kp1 Z) ?_)))
       refine Qy Z (fun h7 => ?_) (fun h7 => ?_)
       ·try rw [h7]
        try simp only [qB] at h7
        refine Qe fun K hK => Qd Z (hK _ _ (Qa (kp1 Z) ?_))
        refine Qr (Qk (Qx Z ?_))
        (repeat clear hK K); first | (simp [Y7, h1, h2, h3, h4, h5, h6, h7]; done) | exact (YV (by assumption) (by assumption) (by first | (left; assumption) | (right; assumption))).symm | (simp_all [Y7]; done)
       ·try rw [h7]
        try simp only [qB] at h7
        refine Qu (Qf (QK) (Qe fun K hK => Qd Z (hK _ _ (Qa (kp1 Z) ?_))))
        refine Qr (Qx Z ?_)
        (repeat clear hK K); first | (simp [Y7, h1, h2, h3, h4, h5, h6, h7]; done) | exact (YV (by assumption) (by assumption) (by first | (left; assumption) | (right; assumption))).symm | (simp_all [Y7]; done)
theorem Qb2 {e a b c : Int} {p q : List UInt8} {f : Bool} (hp : p.length <= 1000000) (hq : q.length <= 1000000) {a' b' c' : Int} {p' q' : List UInt8} (hp' : p'.length <= 1000000) (hq' : q'.length <= 1000000) : Ok Tryd.prog 98 [.agg [.int .i64 e, .int .i64 a, .int .i64 b, .int .i64 c, .str p, .str q, .bool f], .agg [.int .i64 a', .int .i64 b', .int .i64 c', .str p', .str q']] (.bool (YO e a b c p q f a' b' c' p' q')) := by
 refine Ok.ofT Z9 Tryd.func98 Qmu (Nat.le_of_ble_eq_true Z) ?_
 show TW _ _ tf98.body _ _
 refine Qe fun K hK => ZU Z Z Z (ZU Z Z Z (Qd Z (hK _ _ (Qa (kp2 Z Z) ?_))))
 refine QJ ?_ -- 0
 refine Qe fun K hK => QH (cs := [_, _, _, _, _, _, _]) Z Z Z Z (QA (XP (by omega) (by omega)) Z Z (.inr Z) (ZV Z (Qd Z ?_)))
 refine Qs (g := 9) Z (fun h1 => ?_) (fun h1 => ?_)
 ·try rw [h1]
  try simp only [qB] at h1
  refine Qp Z (Qp Z (Qp Z (Qh Z Z (hK _ _ (Qa (kp3 Z Z Z) ?_)))))
  refine Zd Z (Qe fun K hK => Qd Z (hK _ _ (Qa (kp1 Z) ?_)))
  refine Qr (Qk (Qi Z ?_))
  (repeat clear hK K); first | (simp [YO, h1]; done) | (simp_all [YO]; done)
 ·try rw [h1]
  try simp only [qB] at h1
  refine Qg Z (QH (cs := [_, _, _, _, _]) Z Z Z Z (Qg Z (QA (ZP (by omega) (by omega)) Z Z (.inr Z) (Qg Z (ZV Z (Qh Z Z (hK _ _ (Qa (kp3 Z Z Z) ?_))))))))
  refine Qy Z (fun h2 => ?_) (fun h2 => ?_)
  ·try rw [h2]
   try simp only [qB] at h2
   refine Qe fun K hK => Qd Z (hK _ _ (Qa (kp1 Z) ?_))
   refine Qr (Qk (Qi Z ?_))
   (repeat clear hK K); first | (simp [YO, h1, h2]; done) | (simp_all [YO]; done)
  ·try rw [h2]
   try simp only [qB] at h2
   refine Qe fun K hK => Ql Z Z (QG Z Z Z (YH Z Z (hK _ _ (Qa (kp3 Z Z Z) ?_))))
   refine Qy Z (fun h3 => ?_) (fun h3 => ?_)
   ·try rw [h3]
    try simp only [qB] at h3
    refine Qe fun K hK => Ql Z Z (QG Z Z Z (XJ Z Z (Qd Z (hK _ _ (Qa (kp1 Z) ?_)))))
    refine Qr (Qk (Qi Z ?_))
    (repeat clear hK K); first | (simp [YO, h1, h2, h3]; done) | (simp_all [YO]; done)
   ·try rw [h3]
    try simp only [qB] at h3
    refine Qu (Qf (kp2 Z Z) (Qe fun K hK => Ql Z Z (QH (cs := [_, _, _, _, _]) Z Z Z Z (QH (cs := [_, _, _, _, _]) Z Z Z Z (QA (Xb (by omega) (by omega) (by omega) (by omega)) Z Z (.inr Z) (Qd Z (hK _ _ (Qa (kp2 Z Z) ?_))))))))
    refine Qe fun K hK => Qd Z (XJ Z Z (Qd Z ?_))
    refine Qs (g := 26) Z (fun h4 => ?_) (fun h4 => ?_)
    ·try rw [h4]
     try simp only [qB] at h4
     refine Qp Z (Qp Z (Qp Z (QE Z (QE Z (QE Z (Qp Z (Qh Z Z (Qd Z (hK _ _ (Qa (kp1 Z) ?_))))))))))
     refine Qr (Qi Z ?_)
     (repeat clear hK K); first | (simp [YO, h1, h2, h3, h4]; done) | (simp_all [YO]; done)
    ·try rw [h4]
     try simp only [qB] at h4
     refine Qg Z (Qd Z (Qg Z (Ys Z Z (Qg Z (Qd Z ?_)))))
     refine Qs (g := 29) Z (fun h5 => ?_) (fun h5 => ?_)
     ·try rw [h5]
      try simp only [qB] at h5
      refine Qg Z (Ql Z Z (Qg Z (QG Z Z Z (Qg Z (ZV Z (Qg Z (Qh Z Z (Qh Z Z (Qd Z (hK _ _ (Qa (kp1 Z) ?_)))))))))))
      refine Qr (Qi Z ?_)
      (repeat clear hK K); first | (simp [YO, h1, h2, h3, h4, h5]; done) | (simp_all [YO]; done)
     ·try rw [h5]
      try simp only [qB] at h5
      refine Qp Z (Qp Z (Qp Z (Qg Z (Qh Z Z (Qh Z Z (Qd Z (hK _ _ (Qa (kp1 Z) ?_))))))))
      refine Qr (Qi Z ?_)
      (repeat clear hK K); first | (simp [YO, h1, h2, h3, h4, h5]; done) | (simp_all [YO]; done)
theorem QaP {e a b c : Int} {p q : List UInt8} {f : Bool} (hp : p.length <= 1000000) (hq : q.length <= 1000000) {e' a' b' c' : Int} {p' q' : List UInt8} {f' : Bool} (hp' : p'.length <= 1000000) (hq' : q'.length <= 1000000) : Ok Tryd.prog 93 [.agg [.int .i64 e, .int .i64 a, .int .i64 b, .int .i64 c, .str p, .str q, .bool f, .int .i64 e', .int .i64 a', .int .i64 b', .int .i64 c', .str p', .str q', .bool f']] (.bool (QcW e a b c p q f e' a' b' c' p' q' f')) := by
 refine Ok.ofT Z9 Tryd.func93 Qmp (Nat.le_of_ble_eq_true Z) ?_
 show TW _ _ tf93.body _ _
 refine Qe fun K hK => ZU Z Z Z (Qd Z (hK _ _ (Qa (kp1 Z) ?_)))
 refine Qe fun K hK => Ql Z Z (QH (cs := [_, _, _, _, _, _, _]) Z Z Z Z (QA (XP (by omega) (by omega)) Z Z (.inr Z) (Qd Z ?_)))
 refine Qs (g := 6) Z (fun h1 => ?_) (fun h1 => ?_)
 ·try rw [h1]
  try simp only [qB] at h1
  refine Qg Z (Ql Z Z (Qg Z (QH (cs := [_, _, _, _, _, _, _]) Z Z Z Z (Qg Z (QA (XP (by omega) (by omega)) Z Z (.inr Z) (Qh Z Z (Qd Z ?_)))))))
  refine Qs (g := 11) Z (fun h2 => ?_) (fun h2 => ?_)
  ·try rw [h2]
   try simp only [qB] at h2
   refine Qg Z (Ql Z Z (Qg Z (QH (cs := [_, _, _, _, _, _, _]) Z Z Z Z (Qg Z (Ql Z Z (Qg Z (QH (cs := [_, _, _, _, _, _, _]) Z Z Z Z (Qg Z (QA (QaO (by omega) (by omega) (by omega) (by omega)) Z Z (.inr Z) (Qg Z (XJ Z Z ?_)))))))))))
   refine Qh Z Z (Qd Z (hK _ _ (Qa (kp1 Z) ?_)))
   refine Qr (Qi Z ?_)
   (repeat clear hK K); first | (simp [QcW, h1, h2]; done) | (simp_all [QcW]; done)
  ·try rw [h2]
   try simp only [qB] at h2
   refine Qp Z (Qp Z (Qp Z (Qp Z (Qp Z (Qp Z (Qh Z Z (Qd Z (hK _ _ (Qa (kp1 Z) ?_)))))))))
   refine Qr (Qi Z ?_)
   (repeat clear hK K); first | (simp [QcW, h1, h2]; done) | (simp_all [QcW]; done)
 ·try rw [h1]
  try simp only [qB] at h1
  refine Qp Z (Qp Z (Qp Z (Qh Z Z (Qd Z (Qp Z (Qp Z (Qp Z (Qp Z (Qp Z (Qp Z (Qh Z Z ?_)))))))))))
  refine Qd Z (hK _ _ (Qa (kp1 Z) ?_))
  refine Qr (Qi Z ?_)
  (repeat clear hK K); first | (simp [QcW, h1]; done) | (simp_all [QcW]; done)
theorem Qfb {e a b c : Int} {p q : List UInt8} {f : Bool} (hp : p.length <= 1000000) (hq : q.length <= 1000000) {e' a' b' c' : Int} {p' q' : List UInt8} {f' : Bool} (hp' : p'.length <= 1000000) (hq' : q'.length <= 1000000) {x y z : Int} {r s : List UInt8} (hr : r.length <= 1000000) (hs : s.length <= 1000000) : Ok Tryd.prog 82 [.agg [.int .i64 e, .int .i64 a, .int .i64 b, .int .i64 c, .str p, .str q, .bool f, .int .i64 e', .int .i64 a', .int .i64 b', .int .i64 c', .str p', .str q', .bool f'], .agg [.int .i64 x, .int .i64 y, .int .i64 z, .str r, .str s]] (.bool (Qaw e a b c p q f e' a' b' c' p' q' f' x y z r s)) := by
 refine Ok.ofT Z9 Tryd.func82 Qmj (Nat.le_of_ble_eq_true Z) ?_
 show TW _ _ tf82.body _ _
 refine Qe fun K hK => ZU Z Z Z (ZU Z Z Z (Qd Z (hK _ _ (Qa (kp2 Z Z) ?_))))
 refine Qe fun K hK => QH (cs := [_, _, _, _, _, _, _, _, _, _, _, _, _, _]) Z Z Z Z (QA (QaP (by omega) (by omega) (by omega) (by omega)) Z Z (.inr Z) (Qd Z ?_))
 refine Qs (g := 7) Z (fun h1 => ?_) (fun h1 => ?_)
 ·try rw [h1]
  try simp only [qB] at h1
  refine Qg Z (QH (cs := [_, _, _, _, _]) Z Z Z Z (Qg Z (QA (ZP (by omega) (by omega)) Z Z (.inr Z) (Qh Z Z (Qd Z ?_)))))
  refine Qs (g := 11) Z (fun h2 => ?_) (fun h2 => ?_)
  ·try rw [h2]
   try simp only [qB] at h2
   refine Qg Z (Ql Z Z (Qg Z (QH (cs := [_, _, _, _, _, _, _]) Z Z Z Z (Qg Z (QH (cs := [_, _, _, _, _]) Z Z Z Z (Qg Z (QA (Qb2 (by omega) (by omega) (by omega) (by omega)) Z Z (.inr Z) (Qh Z Z (Qd Z ?_)))))))))
   refine Qs (g := 17) Z (fun h3 => ?_) (fun h3 => ?_)
   ·try rw [h3]
    try simp only [qB] at h3
    refine Qg Z (Ql Z Z (Qg Z (QH (cs := [_, _, _, _, _, _, _]) Z Z Z Z (Qg Z (QH (cs := [_, _, _, _, _]) Z Z Z Z (Qg Z (QA (Qb2 (by omega) (by omega) (by omega) (by omega)) Z Z (.inr Z) (Qg Z (ZV Z (Qh Z Z (Qd Z ?_)))))))))))
    refine hK _ _ (Qa (kp1 Z) ?_)
    refine Qr (Qi Z ?_)
    (repeat clear hK K); first | (simp [Qaw, h1, h2, h3]; done) | (simp_all [Qaw]; done)
   ·try rw [h3]
    try simp only [qB] at h3
    refine Qp Z (Qp Z (Qp Z (Qp Z (Qp Z (Qh Z Z (Qd Z (hK _ _ (Qa (kp1 Z) ?_))))))))
    refine Qr (Qi Z ?_)
    (repeat clear hK K); first | (simp [Qaw, h1, h2, h3]; done) | (simp_all [Qaw]; done)
  ·try rw [h2]
   try simp only [qB] at h2
   refine Qp Z (Qp Z (Qp Z (Qp Z (Qh Z Z (Qd Z (Qp Z (Qp Z (Qp Z (Qp Z (Qp Z (Qh Z Z ?_)))))))))))
   refine Qd Z (hK _ _ (Qa (kp1 Z) ?_))
   refine Qr (Qi Z ?_)
   (repeat clear hK K); first | (simp [Qaw, h1, h2]; done) | (simp_all [Qaw]; done)
 ·try rw [h1]
  try simp only [qB] at h1
  refine Qp Z (Qp Z (Qh Z Z (Qd Z (Qp Z (Qp Z (Qp Z (Qp Z (Qh Z Z (Qd Z (Qp Z (Qp Z ?_)))))))))))
  refine Qp Z (Qp Z (Qp Z (Qh Z Z (Qd Z (hK _ _ (Qa (kp1 Z) ?_))))))
  refine Qr (Qi Z ?_)
  (repeat clear hK K); first | (simp [Qaw, h1]; done) | (simp_all [Qaw]; done)
end Go.Proofs
namespace M3
open Go Go.Abs
end M3
namespace M3
open Go Go.Abs
end M3
namespace M3
open Go Go.Abs
end M3
namespace M25
open Go Go.Abs M3
def Qbs (a b c : Int) : Bool := decide (a = 0) && decide (b = 0) && decide (c = 0)
def Yy (a b c : Int) (p q : List UInt8) (part : Int) : Option (Int × Int × Int) :=
 if Xz a b c p q = false \/ part < 0 \/ 2 < part then none
 else
  let o := if part = 0 then (a + 1, 0, 0) else if part = 1 then (a, b + 1, 0) else (a, b, c + 1)
  if Xz o.1 o.2.1 o.2.2 [] [] = true then some o else none
def dOV (o : Option (Int × Int × Int)) : D := .tup [.agg [.int .i64 (o.getD (0, 0, 0)).1, .int .i64 (o.getD (0, 0, 0)).2.1, .int .i64 (o.getD (0, 0, 0)).2.2, .str [], .str []], .bool o.isSome]
def Yl (a b c : Int) (p q : List UInt8) : Nat -> Option (Int × Int × Int)
 | 0 => none
 | n + 1 => if (Yy a b c p q n).isSome = true then Yy a b c p q n else Yl a b c p q n
def QeN (a b c : Int) (p q : List UInt8) : Option (Int × Int × Int) :=
 if Xz a b c p q = false then none else if p ≠ [] then some (a, b, c) else Yl a b c p q 3
theorem Qae {a b c : Int} {p q : List UInt8} (h : Xz a b c p q = true) : (0 <= a /\ a <= 9999) /\ (0 <= b /\ b <= 9999) /\ (0 <= c /\ c <= 9999) := by
 simp only [Xz, QcS, Bool.and_eq_true, decide_eq_true_eq] at h
 omega
theorem Qfa {a b c : Int} {p q : List UInt8} {m : Nat} (hm : 0 < m) (h : (Yy a b c p q ((m : Int) - 1)).isSome = false) : Yl a b c p q m = Yl a b c p q (m - 1) := by
 obtain ⟨n, rfl⟩ : ∃ n, m = n + 1 := ⟨m - 1, by omega⟩
 rw [show ((n + 1 : Nat) : Int) - 1 = (n : Int) by omega] at h
 rw [Yl, if_neg (by rw [h]; simp)]; rfl
theorem Qep {a b c : Int} {p q : List UInt8} {m : Nat} (hm : 0 < m) (h : (Yy a b c p q ((m : Int) - 1)).isSome = true) : Yl a b c p q m = Yy a b c p q ((m : Int) - 1) := by
 obtain ⟨n, rfl⟩ : ∃ n, m = n + 1 := ⟨m - 1, by omega⟩
 rw [show ((n + 1 : Nat) : Int) - 1 = (n : Int) by omega] at h ⊢
 rw [Yl, if_pos h]
def dCu (x : Cu) : List D := [.int .i64 x.e, .int .i64 x.a, .int .i64 x.b, .int .i64 x.c, .str x.p, .str x.q, .bool x.f]
def Qic (s : Cu × Cu) : List D := dCu s.1 ++ dCu s.2
def ZG (l : List (Cu × Cu)) : D := .sl (l.map Qic)
def Qib (s : List (Cu × Cu) × List (Cu × Cu)) : D := .agg [ZG s.1, ZG s.2]
def Qhc : Cu := ⟨-1, 0, 0, 0, [], [], false⟩
def Qjy : Cu := ⟨1, 0, 0, 0, [], [], false⟩
def Qcu (a b c : Int) : Cu := if Qbs a b c = true then Qhc else ⟨0, a, b, c, [], [], false⟩
def Qa3 (a b c : Int) : Cu := match QeN a b c [] [] with
 | none => Qjy
 | some o => ⟨0, o.1, o.2.1, o.2.2, [], [], false⟩
def Qcv (a b c : Int) (p q : List UInt8) : List (Cu × Cu) × List (Cu × Cu) :=
 if Xz a b c p q = false then ([], []) else if p ≠ [] then ([], [(⟨0, a, b, c, p, [], false⟩, ⟨0, a, b, c, p, [], true⟩)]) else ([(Qcu a b c, Qa3 a b c)], [])
def Qhs (e a b c : Int) (p q : List UInt8) (f : Bool) : Bool := !decide (e = 0) || (!f && decide (p = []) && !Qbs a b c)
def Cu.sm (x : Cu) : Prop := x.p.length <= 1000000 /\ x.q.length <= 1000000
def Sm (l : List (Cu × Cu)) : Prop := l.length <= 1000000 /\ ∀ s ∈ l, Cu.sm s.1 /\ Cu.sm s.2
theorem Sm.at {l : List (Cu × Cu)} (h : Sm l) {i : Nat} (hi : i < l.length) : (l[i].1.p.length <= 1000000 /\ l[i].1.q.length <= 1000000) /\ (l[i].2.p.length <= 1000000 /\ l[i].2.q.length <= 1000000) := h.2 _ (List.getElem_mem hi)
def QeO (s : Cu × Cu) : Bool := QcW s.1.e s.1.a s.1.b s.1.c s.1.p s.1.q s.1.f s.2.e s.2.a s.2.b s.2.c s.2.p s.2.q s.2.f
def Qix (x y : Cu) : Int := Y7 x.e x.a x.b x.c x.p x.q x.f y.e y.a y.b y.c y.p y.q y.f
def QjV (l : List (Cu × Cu)) (i : Nat) : Bool := match l[i]? with
 | none => true
 | some s => QeO s && (decide (i = 0) || match l[i - 1]? with | none => true | some r => decide (Qix r.2 s.1 < 0))
theorem Qfm {l : List (Cu × Cu)} {i : Nat} (h : i < l.length) : QjV l i = (QeO l[i] && (decide (i = 0) || decide (Qix (l[i - 1]'(by omega)).2 l[i].1 < 0))) := by
 unfold QjV
 rw [List.getElem?_eq_getElem h, List.getElem?_eq_getElem (show i - 1 < l.length by omega)]
theorem QiY {l : List (Cu × Cu)} {i : Nat} (h : i < l.length) (h1 : QeO l[i] = true) (h2 : i = 0 \/ Qix (l[i - 1]'(by omega)).2 l[i].1 < 0) : QjV l i = true := by
 rw [Qfm h, h1]; simpa using h2
theorem Qdj {l : List (Cu × Cu)} {i : Nat} (h : i < l.length) (h1 : QeO l[i] = false \/ (i ≠ 0 /\ 0 <= Qix (l[i - 1]'(by omega)).2 l[i].1)) : QjV l i = false := by
 rw [Qfm h]
 rcases h1 with h1 | ⟨h1, h2⟩
 ·rw [h1]; rfl
 ·simp only [Bool.and_eq_false_iff, Bool.or_eq_false_iff, decide_eq_false_iff_not]
  exact .inr ⟨h1, by omega⟩
def QcU (l : List (Cu × Cu)) : Bool := (List.range l.length).all (QjV l)
theorem Qah {n i : Nat} {p : Nat -> Bool} (h : i < n) (hp : p i = false) : (List.range n).all p = false := by
 rw [Bool.eq_false_iff]; intro ha
 rw [List.all_eq_true] at ha
 rw [ha i (List.mem_range.2 h)] at hp; cases hp
theorem Qf8 {i : Nat} {p : Nat -> Bool} (h : (List.range i).all p = true) (hp : p i = true) : (List.range (i + 1)).all p = true := by
 rw [List.range_succ, List.all_append, h]; simp [hp]
theorem QdX {i : Nat} {p : Nat -> Bool} {n : Nat} (h : (List.range i).all p = true) (hn : n <= i) : (List.range n).all p = true := by
 rw [List.all_eq_true] at h ⊢
 exact fun x hx => h x (List.mem_range.2 (Nat.lt_of_lt_of_le (List.mem_range.1 hx) hn))
def QdS (s : Cu × Cu) (a b c : Int) (p q : List UInt8) : Bool := Qaw s.1.e s.1.a s.1.b s.1.c s.1.p s.1.q s.1.f s.2.e s.2.a s.2.b s.2.c s.2.p s.2.q s.2.f a b c p q
def QdR (l : List (Cu × Cu)) (a b c : Int) (p q : List UInt8) : Bool := QcU l && l.any fun s => QdS s a b c p q
theorem QdF {l : List (Cu × Cu)} {a b c : Int} {p q : List UInt8} {i : Nat} (hi : l.length <= i) (h : (l.take i).any (fun s => QdS s a b c p q) = false) : QdR l a b c p q = false := by
 rw [List.take_of_length_le hi] at h; rw [QdR, h, Bool.and_false]
theorem QdG {l : List (Cu × Cu)} {a b c : Int} {p q : List UInt8} (h : QcU l = false) : QdR l a b c p q = false := by rw [QdR, h]; rfl
theorem QdH {l : List (Cu × Cu)} {a b c : Int} {p q : List UInt8} {i : Nat} (h : QcU l = true) (hi : i < l.length) (hp : QdS l[i] a b c p q = true) : QdR l a b c p q = true := by
 rw [QdR, h, Bool.true_and]; exact List.any_eq_true.2 ⟨_, List.getElem_mem hi, hp⟩
theorem Qkc {α : Type} {s : List α} {p : α -> Bool} {i : Nat} (h : i < s.length) (ha : (s.take i).any p = false) (hp : p s[i] = false) : (s.take (i + 1)).any p = false := by
 rw [List.take_succ_eq_append_getElem h, List.any_append, ha]; simp [hp]
def Y1 (x : Cu) : Bool := Qhs x.e x.a x.b x.c x.p x.q x.f
def Qfl (s : List (Cu × Cu) × List (Cu × Cu)) : Bool := QcU s.1 && QcU s.2 && s.1.all fun x => Y1 x.1 && Y1 x.2
def Qgw (s : List (Cu × Cu) × List (Cu × Cu)) (a b c : Int) (p q : List UInt8) : Bool :=
 Qfl s && Xz a b c p q && (if p = [] then QdR s.1 a b c p q else QdR s.2 a b c p q)
theorem QjF {s : List (Cu × Cu) × List (Cu × Cu)} {i : Nat} (hi : i < s.1.length) (h : Y1 s.1[i].1 = false \/ Y1 s.1[i].2 = false) : Qfl s = false := by
 have : (s.1.all fun x => Y1 x.1 && Y1 x.2) = false := ZK hi (by rcases h with h | h <;> simp [h])
 rw [Qfl, this, Bool.and_false]
theorem QkJ {i : Nat} : ((i : Int) + 1).toNat = i + 1 := by omega
abbrev QhY := List (Cu × Cu) × List (Cu × Cu)
def I64 (x : Int) : Prop := -9223372036854775808 <= x /\ x <= 9223372036854775807
theorem QcL (x : Int) : I64 (IntKind.i64.wrap x) := by
 unfold IntKind.wrap I64
 simp only [IntKind.bits, IntKind.signed, Bool.true_and]
 split
 ·rename_i h
  have := of_decide_eq_true h
  omega
 ·rename_i h
  have : ¬ (x % 2 ^ 64 >= 2 ^ (64 - 1)) := fun hh => h (decide_eq_true hh)
  omega
def X1 (h m : Int) : Int := if YQ .and .i64 h m = h then 2 else if YQ .and .i64 h m = 0 then 0 else 1
def Qbh (h m : Int) : Int := if YQ .andNot .i64 h m = 0 then 2 else if YQ .and .i64 h m = 0 then 0 else 1
theorem Qhy {i : Nat} (h : i <= 62) : 1 <= (2 : Int) ^ i /\ (2 : Int) ^ i <= 4611686018427387904 := by
 have h1 : (2 : Nat) ^ i <= 2 ^ 62 := Nat.pow_le_pow_right (by omega) h
 have h2 : 1 <= (2 : Nat) ^ i := Nat.one_le_two_pow
 have h3 : ((2 ^ i : Nat) : Int) = (2 : Int) ^ i := by simp
 rw [<- h3]
 have h4 : (2 : Nat) ^ 62 = 4611686018427387904 := by decide
 omega
structure Vr where
 a : Int
 b : Int
 c : Int
 p : List UInt8
 q : List UInt8
def dVr (v : Vr) : List D := [.int .i64 v.a, .int .i64 v.b, .int .i64 v.c, .str v.p, .str v.q]
def versions : List Vr := [⟨1, 0, 0, [], []⟩, ⟨1, 2, 0, [], []⟩, ⟨2, 0, 0, [97, 46, 49], []⟩, ⟨2, 0, 0, [], []⟩]
theorem Qa7 {i : Nat} : ((i : Int) - 1).toNat = i - 1 := by omega
end M25
namespace Go.Proofs
open Go Go.Abs M3 M25
set_option linter.unusedVariables false
set_option linter.unusedSimpArgs false
theorem YI {a b c : Int} {p q : List UInt8} : Ok Tryd.prog 71 [.agg [.int .i64 a, .int .i64 b, .int .i64 c, .str p, .str q]] (.agg [.int .i64 a, .int .i64 b, .int .i64 c, .str p, .str []]) := by
 refine Ok.ofT Z9 Tryd.func71 Ql9 (Nat.le_of_ble_eq_true Z) ?_
 show TW _ _ tf71.body _ _
 refine Qe fun K hK => ZU Z Z Z (Zt Z (hK _ _ (Qa (kp2 Z Z) ?_)))
 refine Qe fun K hK => Ql Z Z (QX Z Z Z Z Z Z Z Z (hK _ _ (Qa (kp2 Z Z) ?_)))
 refine Qe fun K hK => QH (cs := [_, _, _, _, _]) Z Z Z Z (QX Z Z Z Z Z Z Z Z (hK _ _ (Qa (kp1 Z) ?_)))
 refine Qr (Zo (cs := [_, _, _, _, _]) Z Z Z Z ?_)
 exact rfl
theorem Qam  : Ok Tryd.prog 73 [] (.agg [.int .i64 (-1), .int .i64 0, .int .i64 0, .int .i64 0, .str [], .str [], .bool false]) := by
 refine Ok.ofT Z9 Tryd.func73 Qmb (Nat.le_of_ble_eq_true Z) ?_
 show TW _ _ tf73.body _ _
 refine Qe fun K hK => Zt Z (hK _ _ (Qa (kp1 Z) ?_))
 refine Qe fun K hK => QZ Z Z (QX Z Z Z Z Z Z Z Z (hK _ _ (Qa (kp1 Z) ?_)))
 refine Qr (Zo (cs := [_, _, _, _, _, _, _]) Z Z Z Z ?_)
 exact rfl
theorem QaA  : Ok Tryd.prog 75 [] (.agg [.int .i64 1, .int .i64 0, .int .i64 0, .int .i64 0, .str [], .str [], .bool false]) := by
 refine Ok.ofT Z9 Tryd.func75 Qmd (Nat.le_of_ble_eq_true Z) ?_
 show TW _ _ tf75.body _ _
 refine Qe fun K hK => Zt Z (hK _ _ (Qa (kp1 Z) ?_))
 refine Qe fun K hK => QZ Z Z (QX Z Z Z Z Z Z Z Z (hK _ _ (Qa (kp1 Z) ?_)))
 refine Qr (Zo (cs := [_, _, _, _, _, _, _]) Z Z Z Z ?_)
 exact rfl
theorem ZM {a b c : Int} {p q : List UInt8} : Ok Tryd.prog 53 [.agg [.int .i64 a, .int .i64 b, .int .i64 c, .str p, .str q]] (.agg [.int .i64 0, .int .i64 a, .int .i64 b, .int .i64 c, .str p, .str [], .bool false]) := by
 refine Ok.ofT Z9 Tryd.func53 Ql0 (Nat.le_of_ble_eq_true Z) ?_
 show TW _ _ tf53.body _ _
 refine Qe fun K hK => ZU Z Z Z (Zt Z (hK _ _ (Qa (kp2 Z Z) ?_)))
 refine Qe fun K hK => QH (cs := [_, _, _, _, _]) Z Z Z Z (QA (YI) Z Z (.inl Z) (QZ Z Z (QX Z Z Z Z Z Z Z Z (hK _ _ (Qa (kp1 Z) ?_)))))
 refine Qr (Zo (cs := [_, _, _, _, _, _, _]) Z Z Z Z ?_)
 exact rfl
theorem XT {a b c : Int} {p q : List UInt8} : Ok Tryd.prog 54 [.agg [.int .i64 a, .int .i64 b, .int .i64 c, .str p, .str q]] (.agg [.int .i64 0, .int .i64 a, .int .i64 b, .int .i64 c, .str p, .str [], .bool true]) := by
 refine Ok.ofT Z9 Tryd.func54 Ql1 (Nat.le_of_ble_eq_true Z) ?_
 show TW _ _ tf54.body _ _
 refine Qe fun K hK => ZU Z Z Z (Zt Z (hK _ _ (Qa (kp2 Z Z) ?_)))
 refine Qe fun K hK => QH (cs := [_, _, _, _, _]) Z Z Z Z (QA (YI) Z Z (.inl Z) (QZ Z Z (QX Z Z Z Z Z Z Z Z (hK _ _ (Qa (kp1 Z) ?_)))))
 refine Qr (Zo (cs := [_, _, _, _, _, _, _]) Z Z Z Z ?_)
 exact rfl
theorem Qap {a b c : Int} {p q : List UInt8} : Ok Tryd.prog 72 [.agg [.int .i64 a, .int .i64 b, .int .i64 c, .str p, .str q]] (.bool (Qbs a b c)) := by
 refine Ok.ofT Z9 Tryd.func72 Qma (Nat.le_of_ble_eq_true Z) ?_
 show TW _ _ tf72.body _ _
 refine Qe fun K hK => ZU Z Z Z (Qd Z (hK _ _ (Qa (kp1 Z) ?_)))
 refine Qe fun K hK => Ql Z Z (QG Z Z Z (Ys Z Z (Qd Z ?_)))
 refine Qs (g := 6) Z (fun h1 => ?_) (fun h1 => ?_)
 ·try rw [h1]
  try simp only [qB] at h1
  refine Qg Z (Ql Z Z (Qg Z (QG Z Z Z (Qg Z (Ys Z Z (Qh Z Z (Qd Z ?_)))))))
  refine Qs (g := 11) Z (fun h2 => ?_) (fun h2 => ?_)
  ·try rw [h2]
   try simp only [qB] at h2
   refine Qg Z (Ql Z Z (Qg Z (QG Z Z Z (Qg Z (Ys Z Z (Qh Z Z (Qd Z (hK _ _ (Qa (kp1 Z) ?_)))))))))
   refine Qr (Qi Z ?_)
   (repeat clear hK K); simp_all [Qbs]
  ·try rw [h2]
   try simp only [qB] at h2
   refine Qp Z (Qp Z (Qp Z (Qh Z Z (Qd Z (hK _ _ (Qa (kp1 Z) ?_))))))
   refine Qr (Qi Z ?_)
   (repeat clear hK K); simp_all [Qbs]
 ·try rw [h1]
  try simp only [qB] at h1
  refine Qp Z (Qp Z (Qp Z (Qh Z Z (Qd Z (Qp Z (Qp Z (Qp Z (Qh Z Z (Qd Z (hK _ _ (Qa (kp1 Z) ?_)))))))))))
  refine Qr (Qi Z ?_)
  (repeat clear hK K); simp_all [Qbs]
end Go.Proofs
namespace Go.Proofs
open Go Go.Abs M3 M25
set_option linter.unusedVariables false
set_option linter.unusedSimpArgs false
theorem Qay {a b c : Int} {p q : List UInt8} (hp : p.length <= 1000000) (hq : q.length <= 1000000) {part : Int} : Ok Tryd.prog 91 [.agg [.int .i64 a, .int .i64 b, .int .i64 c, .str p, .str q], .int .i64 part] (dOV (Yy a b c p q part)) := by
 refine Ok.ofT Z9 Tryd.func91 Qmo (Nat.le_of_ble_eq_true Z) ?_
 show TW _ _ tf91.body _ _
 refine Qe fun K hK => ZU Z Z Z (Zt Z (Qd Z (hK _ _ (Qa (kp3 Z Z Z) ?_))))
 refine QJ ?_ -- 0
 refine Qe fun K hK => QH (cs := [_, _, _, _, _]) Z Z Z Z (QA (Zi (by omega) (by omega)) Z Z (.inr Z) (ZV Z (Qd Z ?_)))
 refine Qs (g := 10) Z (fun h1 => ?_) (fun h1 => ?_)
 ·try rw [h1]
  try simp only [qB] at h1
  refine Qp Z (Qp Z (Qh Z Z (Qd Z (Qp Z (Qp Z (Qh Z Z (hK _ _ (Qa (kp4 Z Z Z Z) ?_))))))))
  refine Zd Z (Qe fun K hK => QZ Z Z (QX Z Z Z Z Z Z Z Z (Qd Z (hK _ _ (Qa (kp2 Z Z) ?_)))))
  refine Qr (Qk (Post.eq (Yg (ds := [.int .i64 _, .int .i64 _, .int .i64 _, .str _, .str _]) (d' := .bool _) (cs := [_, _, _, _, _]) Z Z Z Z Z ⟨rfl, rfl⟩) ?_))
  (repeat clear hK K); first | (simp [Yy, dOV, h1]; done) | (simp_all [Yy, dOV]; done)
 ·try rw [h1]
  try simp only [qB] at h1
  refine Qg Z (Qd Z (Qg Z (XJ Z Z (Qh Z Z (Qd Z ?_)))))
  refine Qs (g := 14) Z (fun h2 => ?_) (fun h2 => ?_)
  ·try rw [h2]
   try simp only [qB] at h2
   refine Qp Z (Qp Z (Qh Z Z (hK _ _ (Qa (kp4 Z Z Z Z) ?_))))
   refine Zd Z (Qe fun K hK => QZ Z Z (QX Z Z Z Z Z Z Z Z (Qd Z (hK _ _ (Qa (kp2 Z Z) ?_)))))
   refine Qr (Qk (Post.eq (Yg (ds := [.int .i64 _, .int .i64 _, .int .i64 _, .str _, .str _]) (d' := .bool _) (cs := [_, _, _, _, _]) Z Z Z Z Z ⟨rfl, rfl⟩) ?_))
   (repeat clear hK K); first | (simp [Yy, dOV, h1, h2]; done) | (simp_all [Yy, dOV]; done)
  ·try rw [h2]
   try simp only [qB] at h2
   refine Qg Z (Qd Z (Qg Z (QbW Z Z (Qh Z Z (hK _ _ (Qa (kp4 Z Z Z Z) ?_))))))
   refine Qy Z (fun h3 => ?_) (fun h3 => ?_)
   ·try rw [h3]
    try simp only [qB] at h3
    refine Qe fun K hK => QZ Z Z (QX Z Z Z Z Z Z Z Z (Qd Z (hK _ _ (Qa (kp2 Z Z) ?_))))
    refine Qr (Qk (Post.eq (Yg (ds := [.int .i64 _, .int .i64 _, .int .i64 _, .str _, .str _]) (d' := .bool _) (cs := [_, _, _, _, _]) Z Z Z Z Z ⟨rfl, rfl⟩) ?_))
    (repeat clear hK K); first | (simp [Yy, dOV, h1, h2, h3]; done) | (simp_all [Yy, dOV]; done)
   ·try rw [h3]
    try simp only [qB] at h3
    refine Qu (Qf (kp3 Z Z Z) (Qe fun K hK => Zt Z (hK _ _ (Qa (kp4 Z Z Z Z) ?_))))
    refine QJ ?_ -- 1
    refine Qe fun K hK => Qd Z (hK _ _ (Qa (kp4 Z Z Z Z) ?_))
    refine QP (Qe fun K hK => Ys Z Z (Qd Z (hK _ _ (Qa (kp5 Z Z Z Z Z) ?_))))
    refine Qy Z (fun h4 => ?_) (fun h4 => ?_)
    ·try rw [h4]
     try simp only [qB] at h4
     refine Ze fun K hK => Ql Z Z (QG Z Z Z (ZJ Z Z (QD (by have := Qae (by simpa using h1); omega) (by have := Qae (by simpa using h1); omega)) (QZ Z Z (QX Z Z Z Z Z Z Z Z (hK _ ?_)))))
     refine Qm (Qf (kp2 Z Z) ?_)
     refine QJ ?_ -- 2
     refine Qe fun K hK => QH (cs := [_, _, _, _, _]) Z Z Z Z (QA (Zi (by simp) (by simp)) Z Z (.inr Z) (ZV Z (hK _ _ (Qa (kp3 Z Z Z) ?_))))
     refine Qy Z (fun h5 => ?_) (fun h5 => ?_)
     ·try rw [h5]
      try simp only [qB] at h5
      refine Qe fun K hK => QZ Z Z (QX Z Z Z Z Z Z Z Z (Qd Z (hK _ _ (Qa (kp2 Z Z) ?_))))
      refine Qr (Qk (Post.eq (Yg (ds := [.int .i64 _, .int .i64 _, .int .i64 _, .str _, .str _]) (d' := .bool _) (cs := [_, _, _, _, _]) Z Z Z Z Z ⟨rfl, rfl⟩) ?_))
      (repeat clear hK K); first | (simp [Yy, dOV, h1, h2, h3, h4, h5]; done) | (simp_all [Yy, dOV]; done)
     ·try rw [h5]
      try simp only [qB] at h5
      refine Qu (Qf (kp2 Z Z) (Qe fun K hK => QH (cs := [_, _, _, _, _]) Z Z Z Z (QX Z Z Z Z Z Z Z Z (Qd Z (hK _ _ (Qa (kp2 Z Z) ?_))))))
      refine Qr (Post.eq (Yg (ds := [.int .i64 _, .int .i64 _, .int .i64 _, .str _, .str _]) (d' := .bool _) (cs := [_, _, _, _, _]) Z Z Z Z Z ⟨rfl, rfl⟩) ?_)
      (repeat clear hK K); first | (simp [Yy, dOV, h1, h2, h3, h4, h5]; done) | (simp_all [Yy, dOV]; done)
    ·try rw [h4]
     try simp only [qB] at h4
     refine Qe fun K hK => Ys Z Z (Qd Z (hK _ _ (Qa (kp4 Z Z Z Z) ?_)))
     refine Qy Z (fun h6 => ?_) (fun h6 => ?_)
     ·try rw [h6]
      try simp only [qB] at h6
      refine Ze fun K hK => Ql Z Z (QG Z Z Z (Ql Z Z (QG Z Z Z (ZJ Z Z (QD (by have := Qae (by simpa using h1); omega) (by have := Qae (by simpa using h1); omega)) (QZ Z Z (QX Z Z Z Z Z Z Z Z (hK _ ?_)))))))
      refine Qm (Qf (kp2 Z Z) ?_)
      refine QJ ?_ -- 2
      refine Qe fun K hK => QH (cs := [_, _, _, _, _]) Z Z Z Z (QA (Zi (by simp) (by simp)) Z Z (.inr Z) (ZV Z (hK _ _ (Qa (kp3 Z Z Z) ?_))))
      refine Qy Z (fun h7 => ?_) (fun h7 => ?_)
      ·try rw [h7]
       try simp only [qB] at h7
       refine Qe fun K hK => QZ Z Z (QX Z Z Z Z Z Z Z Z (Qd Z (hK _ _ (Qa (kp2 Z Z) ?_))))
       refine Qr (Qk (Post.eq (Yg (ds := [.int .i64 _, .int .i64 _, .int .i64 _, .str _, .str _]) (d' := .bool _) (cs := [_, _, _, _, _]) Z Z Z Z Z ⟨rfl, rfl⟩) ?_))
       (repeat clear hK K); first | (simp [Yy, dOV, h1, h2, h3, h4, h6, h7]; done) | (simp_all [Yy, dOV]; done)
      ·try rw [h7]
       try simp only [qB] at h7
       refine Qu (Qf (kp2 Z Z) (Qe fun K hK => QH (cs := [_, _, _, _, _]) Z Z Z Z (QX Z Z Z Z Z Z Z Z (Qd Z (hK _ _ (Qa (kp2 Z Z) ?_))))))
       refine Qr (Post.eq (Yg (ds := [.int .i64 _, .int .i64 _, .int .i64 _, .str _, .str _]) (d' := .bool _) (cs := [_, _, _, _, _]) Z Z Z Z Z ⟨rfl, rfl⟩) ?_)
       (repeat clear hK K); first | (simp [Yy, dOV, h1, h2, h3, h4, h6, h7]; done) | (simp_all [Yy, dOV]; done)
     ·try rw [h6]
      try simp only [qB] at h6
      refine Ze fun K hK => Ql Z Z (QG Z Z Z (Ql Z Z (QG Z Z Z (Ql Z Z (QG Z Z Z (ZJ Z Z (QD (by have := Qae (by simpa using h1); omega) (by have := Qae (by simpa using h1); omega)) (QZ Z Z (QX Z Z Z Z Z Z Z Z (hK _ ?_)))))))))
      refine Qm (Qf (kp2 Z Z) ?_)
      refine QJ ?_ -- 2
      refine Qe fun K hK => QH (cs := [_, _, _, _, _]) Z Z Z Z (QA (Zi (by simp) (by simp)) Z Z (.inr Z) (ZV Z (hK _ _ (Qa (kp3 Z Z Z) ?_))))
      refine Qy Z (fun h8 => ?_) (fun h8 => ?_)
      ·try rw [h8]
       try simp only [qB] at h8
       refine Qe fun K hK => QZ Z Z (QX Z Z Z Z Z Z Z Z (Qd Z (hK _ _ (Qa (kp2 Z Z) ?_))))
       refine Qr (Qk (Post.eq (Yg (ds := [.int .i64 _, .int .i64 _, .int .i64 _, .str _, .str _]) (d' := .bool _) (cs := [_, _, _, _, _]) Z Z Z Z Z ⟨rfl, rfl⟩) ?_))
       (repeat clear hK K); first | (simp [Yy, dOV, h1, h2, h3, h4, h6, h8]; done) | (simp_all [Yy, dOV]; done)
      ·try rw [h8]
       try simp only [qB] at h8
       refine Qu (Qf (kp2 Z Z) (Qe fun K hK => QH (cs := [_, _, _, _, _]) Z Z Z Z (QX Z Z Z Z Z Z Z Z (Qd Z (hK _ _ (Qa (kp2 Z Z) ?_))))))
       refine Qr (Post.eq (Yg (ds := [.int .i64 _, .int .i64 _, .int .i64 _, .str _, .str _]) (d' := .bool _) (cs := [_, _, _, _, _]) Z Z Z Z Z ⟨rfl, rfl⟩) ?_)
       (repeat clear hK K); first | (simp [Yy, dOV, h1, h2, h3, h4, h6, h8]; done) | (simp_all [Yy, dOV]; done)
theorem Qaz {a b c : Int} {p q : List UInt8} (hp : p.length <= 1000000) (hq : q.length <= 1000000) : Ok Tryd.prog 74 [.agg [.int .i64 a, .int .i64 b, .int .i64 c, .str p, .str q]] (dOV (QeN a b c p q)) := by
 refine Ok.ofT Z9 Tryd.func74 Qmc (Nat.le_of_ble_eq_true Z) ?_
 show TW _ _ tf74.body _ _
 refine Qe fun K hK => ZU Z Z Z (Zt Z (Qd Z (hK _ _ (Qa (kp2 Z Z) ?_))))
 refine QJ ?_ -- 0
 refine Qe fun K hK => QH (cs := [_, _, _, _, _]) Z Z Z Z (QA (Zi (by omega) (by omega)) Z Z (.inr Z) (ZV Z (hK _ _ (Qa (kp3 Z Z Z) ?_))))
 refine Qy Z (fun h1 => ?_) (fun h1 => ?_)
 ·try rw [h1]
  try simp only [qB] at h1
  refine Qe fun K hK => QZ Z Z (QX Z Z Z Z Z Z Z Z (Qd Z (hK _ _ (Qa (kp2 Z Z) ?_))))
  refine Qr (Qk (Post.eq (Yg (ds := [.int .i64 _, .int .i64 _, .int .i64 _, .str _, .str _]) (d' := .bool _) (cs := [_, _, _, _, _]) Z Z Z Z Z ⟨rfl, rfl⟩) ?_))
  simp [QeN, dOV, h1]
 ·try rw [h1]
  try simp only [qB] at h1
  refine Qu (Qf (kp2 Z Z) ?_)
  refine QJ ?_ -- 1
  refine Qe fun K hK => Ql Z Z (QG Z Z Z (Qh2 Z Z (hK _ _ (Qa (kp3 Z Z Z) ?_))))
  refine Qy Z (fun h2 => ?_) (fun h2 => ?_)
  ·try rw [h2]
   try simp only [qB] at h2
   refine Qe fun K hK => Ql Z Z (QG Z Z Z (Ql Z Z (QG Z Z Z (Ql Z Z (QG Z Z Z (QZ Z Z (QX Z Z Z Z Z Z Z Z (Qd Z (hK _ _ (Qa (kp2 Z Z) ?_))))))))))
   refine Qr (Qk (Post.eq (Yg (ds := [.int .i64 _, .int .i64 _, .int .i64 _, .str _, .str _]) (d' := .bool _) (cs := [_, _, _, _, _]) Z Z Z Z Z ⟨rfl, rfl⟩) ?_))
   simp [QeN, dOV, h1, h2]
  ·try rw [h2]
   try simp only [qB] at h2
   refine Qu (Qf (kp2 Z Z) ?_)
   refine QJ ?_ -- 2
   refine Qe fun K hK => Qd Z (hK _ _ (Qa (kp3 Z Z Z) ?_))
   refine QP ?_
   refine Yn (ι := Nat) (fun m => ⟨[(1, .ref 1 0 0), (2, .ref 2 0 0), (4, .int .i64 ((m : Int) - 1))], [(1, ⟨[[.int .i64 a, .int .i64 b, .int .i64 c, .str p, .str q]], 5, 49, true⟩), (2, ⟨[[.int .i64 0, .int .i64 0, .int .i64 0, .str [], .str []]], 5, 49, true⟩)]⟩) (fun m => m <= 3 /\ Yl a b c p q 3 = Yl a b c p q m) (fun m => m) 3 ?_ ?_ ?_
   ·exact Zk (l := [1, 2, 4]) (lH := [1, 2]) (kp3 rfl rfl rfl) (Qv rfl (Qv rfl Qw)) rfl rfl rfl
   ·exact ⟨by omega, rfl⟩
   intro m hI
   obtain ⟨hI1, hI2⟩ := hI
   try dsimp only
   refine QJ ?_ -- 3
   refine Qe fun K hK => Qd Z (QhX Z Z (hK _ _ (Qa (kp4 Z Z Z Z) ?_)))
   refine Qy Z (fun h3 => ?_) (fun h3 => ?_)
   ·try rw [h3]
    try simp only [qB] at h3
    rcases Nat.eq_zero_or_pos m with hm | hm <;> first | omega | skip
    refine Qu (Qf (kp3 Z Z Z) ?_)
    refine QJ ?_ -- 4
    refine QP (Qe fun K hK => QH (cs := [_, _, _, _, _]) Z Z Z Z (Qd Z (QA (Qay (by omega) (by omega)) Z Z (.inl Z) (Qd Z (Q2 Z Z (Q2 Z Z (Zt Z (QX Z Z Z Z Z Z Z Z (Qd Z (hK _ _ (Qa (kp5 Z Z Z Z Z) ?_)))))))))))
    refine Qe fun K hK => Qd Z (hK _ _ (Qa (kp5 Z Z Z Z Z) ?_))
    refine Qy Z (fun h4 => ?_) (fun h4 => ?_)
    ·try rw [h4]
     try simp only [qB] at h4
     refine Qe fun K hK => QH (cs := [_, _, _, _, _]) Z Z Z Z (QX Z Z Z Z Z Z Z Z (Qd Z (hK _ _ (Qa (kp2 Z Z) ?_))))
     refine Qr (Qt (Qk (QY (Qt (Qk (Post.eq (Yg (ds := [.int .i64 _, .int .i64 _, .int .i64 _, .str _, .str _]) (d' := .bool _) (cs := [_, _, _, _, _]) Z Z Z Z Z ⟨rfl, rfl⟩) ?_))))))
     subst h2
     simp [QeN, dOV, h1, hI2, Qep hm h4, h4]
    ·try rw [h4]
     try simp only [qB] at h4
     refine Qu (Qm (Qf (kp3 Z Z Z) (Ze fun K hK => Qd Z (Qgm Z Z (by first | exact QD (by omega) (by omega) | rfl) (Qd Z (hK _ ?_))))))
     refine Qq (m - 1) ?_ ?_ ?_
     ·refine Zk (l := [1, 2, 4]) (lH := [1, 2]) (kp3 Z Z Z) (Qv Z (Qv Z Qw)) ?_ Z rfl; simp only [List.cons.injEq, Prod.mk.injEq, D.int.injEq, and_true, true_and]; omega
     ·exact ⟨by omega, by rw [hI2]; exact Qfa hm h4⟩
     ·show m - 1 < m; omega
   ·try rw [h3]
    try simp only [qB] at h3
    rcases Nat.eq_zero_or_pos m with hm | hm <;> first | omega | skip
    refine Zv (QO (QC (QQ (Qf (kp1 Z) (Qe fun K hK => QZ Z Z (QX Z Z Z Z Z Z Z Z (Qd Z (hK _ _ (Qa (kp2 Z Z) ?_)))))))))
    refine Qr (Post.eq (Yg (ds := [.int .i64 _, .int .i64 _, .int .i64 _, .str _, .str _]) (d' := .bool _) (cs := [_, _, _, _, _]) Z Z Z Z Z ⟨rfl, rfl⟩) ?_)
    subst h2
    subst hm
    have hb : Yl a b c [] q 3 = none := hI2
    simp [QeN, dOV, h1, hb]
end Go.Proofs
namespace Go.Proofs
open Go Go.Abs M3 M25
set_option linter.unusedVariables false
set_option linter.unusedSimpArgs false
theorem Qao {a b c : Int} {p q : List UInt8} : Ok Tryd.prog 55 [.agg [.int .i64 a, .int .i64 b, .int .i64 c, .str p, .str q]] (.agg (dCu (Qcu a b c))) := by
 refine Ok.ofT Z9 Tryd.func55 Ql2 (Nat.le_of_ble_eq_true Z) ?_
 show TW _ _ tf55.body _ _
 refine Qe fun K hK => ZU Z Z Z (Zt Z (hK _ _ (Qa (kp2 Z Z) ?_)))
 refine QJ ?_ -- 0
 refine Qe fun K hK => QH (cs := [_, _, _, _, _]) Z Z Z Z (QA (Qap) Z Z (.inr Z) (hK _ _ (Qa (kp3 Z Z Z) ?_)))
 refine Qy Z (fun h1 => ?_) (fun h1 => ?_)
 ·try rw [h1]
  try simp only [qB] at h1
  refine Qe fun K hK => QA (Qam) Z Z (.inl Z) (QX Z Z Z Z Z Z Z Z (hK _ _ (Qa (kp1 Z) ?_)))
  refine Qr (Qk (Post.eq (Zo (ds := [.int .i64 _, .int .i64 _, .int .i64 _, .int .i64 _, .str _, .str _, .bool _]) (cs := [_, _, _, _, _, _, _]) Z Z Z Z Z) ?_))
  simp [Qcu, dCu, Qhc, h1]
 ·try rw [h1]
  try simp only [qB] at h1
  refine Qu (Qf (kp2 Z Z) (Qe fun K hK => Ql Z Z (QG Z Z Z (Ql Z Z (QG Z Z Z (Ql Z Z (QG Z Z Z (QZ Z Z (QA (ZM) Z Z (.inl Z) (QX Z Z Z Z Z Z Z Z ?_))))))))))
  refine hK _ _ (Qa (kp1 Z) ?_)
  refine Qr (Post.eq (Zo (ds := [.int .i64 _, .int .i64 _, .int .i64 _, .int .i64 _, .str _, .str _, .bool _]) (cs := [_, _, _, _, _, _, _]) Z Z Z Z Z) ?_)
  simp [Qcu, dCu, Qhc, h1]
theorem XU {a b c : Int} {p q : List UInt8} : Ok Tryd.prog 56 [.agg [.int .i64 a, .int .i64 b, .int .i64 c, .str p, .str q]] (.agg (dCu (Qa3 a b c))) := by
 refine Ok.ofT Z9 Tryd.func56 Ql3 (Nat.le_of_ble_eq_true Z) ?_
 show TW _ _ tf56.body _ _
 refine Qe fun K hK => ZU Z Z Z (Zt Z (hK _ _ (Qa (kp2 Z Z) ?_)))
 refine Qe fun K hK => Ql Z Z (QG Z Z Z (Ql Z Z (QG Z Z Z (Ql Z Z (QG Z Z Z (QZ Z Z (QA (Qaz (by simp) (by simp)) Z Z (.inl Z) (Qd Z (Q2 Z Z (Q2 Z Z ?_))))))))))
 refine Zt Z (QX Z Z Z Z Z Z Z Z (Qd Z (hK _ _ (Qa (kp3 Z Z Z) ?_))))
 refine QJ ?_ -- 0
 refine Qe fun K hK => Qd Z (ZV Z (hK _ _ (Qa (kp3 Z Z Z) ?_)))
 refine Qy Z (fun h1 => ?_) (fun h1 => ?_)
 ·try rw [h1]
  try simp only [qB] at h1
  refine Qe fun K hK => QA (QaA) Z Z (.inl Z) (QX Z Z Z Z Z Z Z Z (hK _ _ (Qa (kp1 Z) ?_)))
  refine Qr (Qk (Post.eq (Zo (ds := [.int .i64 _, .int .i64 _, .int .i64 _, .int .i64 _, .str _, .str _, .bool _]) (cs := [_, _, _, _, _, _, _]) Z Z Z Z Z) ?_))
  cases hn : QeN a b c [] [] <;> simp [Qa3, dCu, Qjy, hn] at *
 ·try rw [h1]
  try simp only [qB] at h1
  refine Qu (Qf (kp2 Z Z) (Qe fun K hK => QH (cs := [_, _, _, _, _]) Z Z Z Z (QA (ZM) Z Z (.inl Z) (QX Z Z Z Z Z Z Z Z (hK _ _ (Qa (kp1 Z) ?_))))))
  refine Qr (Post.eq (Zo (ds := [.int .i64 _, .int .i64 _, .int .i64 _, .int .i64 _, .str _, .str _, .bool _]) (cs := [_, _, _, _, _, _, _]) Z Z Z Z Z) ?_)
  cases hn : QeN a b c [] [] <;> simp [Qa3, dCu, Qjy, hn] at *
theorem QaB  : Ok Tryd.prog 48 [] (Qib ([], [])) := by
 refine Ok.ofT Z9 Tryd.func48 QlY (Nat.le_of_ble_eq_true Z) ?_
 show TW _ _ tf48.body _ _
 refine Qe fun K hK => Zt Z (hK _ _ (Qa (kp1 Z) ?_))
 refine Qe fun K hK => QZ Z Z (QX Z Z Z Z Z Z Z Z (hK _ _ (Qa (kp1 Z) ?_)))
 refine Qr (Post.eq (Zo (ds := [.sl _, .sl _]) (cs := [_, _]) Z Z Z Z Z) ?_)
 rfl
theorem Qan {a b c : Int} {p q : List UInt8} (hp : p.length <= 1000000) (hq : q.length <= 1000000) : Ok Tryd.prog 36 [.agg [.int .i64 a, .int .i64 b, .int .i64 c, .str p, .str q]] (Qib (Qcv a b c p q)) := by
 refine Ok.ofT Z9 Tryd.func36 QlR (Nat.le_of_ble_eq_true Z) ?_
 show TW _ _ tf36.body _ _
 refine Qe fun K hK => ZU Z Z Z (Zt Z (hK _ _ (Qa (kp2 Z Z) ?_)))
 refine QJ ?_ -- 0
 refine Qe fun K hK => QH (cs := [_, _, _, _, _]) Z Z Z Z (QA (Zi (by omega) (by omega)) Z Z (.inr Z) (ZV Z (hK _ _ (Qa (kp3 Z Z Z) ?_))))
 refine Qy Z (fun h1 => ?_) (fun h1 => ?_)
 ·try rw [h1]
  try simp only [qB] at h1
  refine Qe fun K hK => QA (QaB) Z Z (.inl Z) (QX Z Z Z Z Z Z Z Z (hK _ _ (Qa (kp1 Z) ?_)))
  refine Qr (Qk (Post.eq (Zo (ds := [.sl _, .sl _]) (cs := [_, _]) Z Z Z Z Z) ?_))
  simp [Qcv, Qib, ZG, Qic, dCu, h1]
 ·try rw [h1]
  try simp only [qB] at h1
  refine Qu (Qf (kp2 Z Z) ?_)
  refine QJ ?_ -- 1
  refine Qe fun K hK => Ql Z Z (QG Z Z Z (Qh2 Z Z (hK _ _ (Qa (kp3 Z Z Z) ?_))))
  refine Qy Z (fun h2 => ?_) (fun h2 => ?_)
  ·try rw [h2]
   try simp only [qB] at h2
   refine Qe fun K hK => Zh (ds0 := [6, 3, 2, 1, 0]) (cs := [_, _, _, _, _]) Z Z Z Z Z Z (Zg (ds0 := [3, 2, 1, 0]) (ZM) Z Z (.inl Z) Z Z (Zh (ds0 := [4, 3, 2, 1, 0]) (cs := [_, _, _, _, _]) Z Z Z Z Z Z (Zg (ds0 := [3, 2, 1, 0]) (XT) Z Z (.inl Z) Z Z (QZ Z Z (Zf Z Z (QZ Z Z (QbB (ds0 := []) Z Z Z Z Z Z Z Z Z Z (hK _ _ (Qa (kp1 Z) ?_)))))))))
   refine Qr (Qk (Post.eq (Zo (ds := [.sl _, .sl _]) (cs := [_, _]) Z Z Z Z Z) ?_))
   simp [Qcv, Qib, ZG, Qic, dCu, h1, h2]
  ·try rw [h2]
   try simp only [qB] at h2
   refine Qu (Qf (kp2 Z Z) (Qe fun K hK => Zh (ds0 := [6, 3, 2, 1, 0]) (cs := [_, _, _, _, _]) Z Z Z Z Z Z (Zg (ds0 := [3, 2, 1, 0]) (Qao) Z Z (.inl Z) Z Z (Zh (ds0 := [4, 3, 2, 1, 0]) (cs := [_, _, _, _, _]) Z Z Z Z Z Z (Zg (ds0 := [3, 2, 1, 0]) (XU) Z Z (.inl Z) Z Z (QZ Z Z (Zf Z Z (QZ Z Z (QbB (ds0 := []) Z Z Z Z Z Z Z Z Z Z (hK _ _ (Qa (kp1 Z) ?_)))))))))))
   refine Qr (Post.eq (Zo (ds := [.sl _, .sl _]) (cs := [_, _]) Z Z Z Z Z) ?_)
   subst h2
   simp [Qcv, Qib, ZG, Qic, dCu, h1]
end Go.Proofs
namespace Go.Proofs
open Go Go.Abs M3 M25
set_option linter.unusedVariables false
set_option linter.unusedSimpArgs false
end Go.Proofs
namespace Go.Proofs
open Go Go.Abs M3 M25
set_option linter.unusedVariables false
set_option linter.unusedSimpArgs false
end Go.Proofs
namespace Go.Proofs
open Go Go.Abs M3 M25
set_option linter.unusedVariables false
set_option linter.unusedSimpArgs false
end Go.Proofs
namespace Go.Proofs
open Go Go.Abs M3 M25
set_option linter.unusedVariables false
set_option linter.unusedSimpArgs false
end Go.Proofs
namespace Go.Proofs
open Go Go.Abs M3 M25
set_option linter.unusedVariables false
set_option linter.unusedSimpArgs false
end Go.Proofs
namespace Go.Proofs
open Go Go.Abs M3 M25
set_option linter.unusedVariables false
set_option linter.unusedSimpArgs false
end Go.Proofs
namespace Go.Proofs
open Go Go.Abs M3 M25
set_option linter.unusedVariables false
set_option linter.unusedSimpArgs false
end Go.Proofs
namespace Go.Proofs
open Go Go.Abs M3 M25
set_option linter.unusedVariables false
set_option linter.unusedSimpArgs false
end Go.Proofs
namespace Go.Proofs
open Go Go.Abs M3 M25
set_option linter.unusedVariables false
set_option linter.unusedSimpArgs false
theorem ZL {h m : Int} : Ok Tryd.prog 19 [.int .i64 h, .int .i64 m] (.int .i64 (X1 h m)) := by
 refine Ok.ofT Z9 Tryd.func19 QlO (Nat.le_of_ble_eq_true Z) ?_
 show TW _ _ tf19.body _ _
 refine Qe fun K hK => Qd Z (hK _ _ (Qa (kp2 Z Z) ?_))
 refine QJ ?_ -- 0
 refine QP (Qe fun K hK => Qd Z (Qd Z (Qei Z Z (Qd Z (Ys Z Z (Qd Z (hK _ _ (Qa (kp3 Z Z Z) ?_))))))))
 refine Qy Z (fun h1 => ?_) (fun h1 => ?_)
 ·try rw [h1]
  try simp only [qB] at h1
  refine Qe fun K hK => Qd Z (hK _ _ (Qa (kp1 Z) ?_))
  refine Qr (Qt (Qk (Qx Z ?_)))
  rw [X1, if_pos h1]
 ·try rw [h1]
  try simp only [qB] at h1
  refine Qe fun K hK => Qd Z (Qd Z (Qei Z Z (Ys Z Z (Qd Z (hK _ _ (Qa (kp1 Z) ?_))))))
  refine Qy Z (fun h2 => ?_) (fun h2 => ?_)
  ·try rw [h2]
   try simp only [qB] at h2
   refine Qe fun K hK => Qd Z (hK _ _ (Qa (kp1 Z) ?_))
   refine Qr (Qt (Qk (Qx Z ?_)))
   rw [X1, if_neg h1, if_pos h2]
  ·try rw [h2]
   try simp only [qB] at h2
   refine Qu (Qm (Qf (QK) (Qe fun K hK => Qd Z (hK _ _ (Qa (kp1 Z) ?_)))))
   refine Qr (Qx Z ?_)
   rw [X1, if_neg h1, if_neg h2]
theorem Yo {h m : Int} : Ok Tryd.prog 18 [.int .i64 h, .int .i64 m] (.int .i64 (Qbh h m)) := by
 refine Ok.ofT Z9 Tryd.func18 QlN (Nat.le_of_ble_eq_true Z) ?_
 show TW _ _ tf18.body _ _
 refine Qe fun K hK => Qd Z (hK _ _ (Qa (kp2 Z Z) ?_))
 refine QJ ?_ -- 0
 refine QP (Qe fun K hK => Qd Z (Qd Z (Qfz Z Z (Ys Z Z (Qd Z (hK _ _ (Qa (kp3 Z Z Z) ?_)))))))
 refine Qy Z (fun h1 => ?_) (fun h1 => ?_)
 ·try rw [h1]
  try simp only [qB] at h1
  refine Qe fun K hK => Qd Z (hK _ _ (Qa (kp1 Z) ?_))
  refine Qr (Qt (Qk (Qx Z ?_)))
  rw [Qbh, if_pos h1]
 ·try rw [h1]
  try simp only [qB] at h1
  refine Qe fun K hK => Qd Z (Qd Z (Qei Z Z (Ys Z Z (Qd Z (hK _ _ (Qa (kp1 Z) ?_))))))
  refine Qy Z (fun h2 => ?_) (fun h2 => ?_)
  ·try rw [h2]
   try simp only [qB] at h2
   refine Qe fun K hK => Qd Z (hK _ _ (Qa (kp1 Z) ?_))
   refine Qr (Qt (Qk (Qx Z ?_)))
   rw [Qbh, if_neg h1, if_pos h2]
  ·try rw [h2]
   try simp only [qB] at h2
   refine Qu (Qm (Qf (QK) (Qe fun K hK => Qd Z (hK _ _ (Qa (kp1 Z) ?_)))))
   refine Qr (Qx Z ?_)
   rw [Qbh, if_neg h1, if_neg h2]
end Go.Proofs
namespace Go.Proofs
open Go Go.Abs M3 M25
set_option linter.unusedVariables false
set_option linter.unusedSimpArgs false
theorem Xp  : Ok Tryd.prog 52 [] (.sl (versions.map dVr)) := by
 refine Ok.ofT Z9 Tryd.func52 QlZ (Nat.le_of_ble_eq_true Z) ?_
 show TW _ _ tf52.body _ _
 refine Qe fun K hK => Qd Z (hK _ _ (Qa (QK) ?_))
 refine Qe fun K hK => QZ Z Z (QZ Z Z (QZ Z Z (QZ Z Z (Zf Z Z (Qd Z (hK _ _ (Qa (kp1 Z) ?_)))))))
 refine Qr (Qa6 Z ?_)
 rfl
end Go.Proofs
namespace M25
open Go Go.Abs M3
structure Qaj where
 u : Int
 s : QhY
structure QbS where
 v : Vr
 sh : Int
 ns : List (List Qaj)
 bs : List Qaj
structure Qh4 where
 n : List UInt8
 f : List UInt8
 cs : List QbS
abbrev QU := List Qh4
def Qjq (x : Qaj) : List D := [.int .i64 x.u, ZG x.s.1, ZG x.s.2]
def Qg1 (l : List Qaj) : D := .sl (l.map Qjq)
def QiU (l : List (List Qaj)) : D := .sl (l.map fun r => [Qg1 r])
def Qk9 (c : QbS) : List D := [.int .i64 c.v.a, .int .i64 c.v.b, .int .i64 c.v.c, .str c.v.p, .str c.v.q, .int .i64 c.sh, QiU c.ns, Qg1 c.bs]
def Qkk (l : List QbS) : D := .sl (l.map Qk9)
def Qid (u : Qh4) : List D := [.str u.n, .str u.f, Qkk u.cs]
def Qc5 (w : QU) : D := .agg [.sl (w.map Qid)]
structure QcN where
 u : Int
 m : Int
 deriving DecidableEq
structure Xn where
 u : Int
 m : Int
 l : Int
 c : Int
 deriving DecidableEq
structure RowT where
 k : Int
 u : Int
 a : Int
 b : Int
 t : List QcN
abbrev QbC (a b : Int) : Int := YQ .and .i64 a b
abbrev bor (a b : Int) : Int := YQ .or .i64 a b
abbrev Qeb (a b : Int) : Int := YQ .andNot .i64 a b
def uAt (w : QU) (u : Int) : Option Qh4 := if u < 0 then none else w[u.toNat]?
theorem QcK {w : QU} {u : Int} (h0 : 0 <= u) (h : u < w.length) : uAt w u = some (w[u.toNat]'(by omega)) := by
 rw [uAt, if_neg (by omega), List.getElem?_eq_getElem (by omega)]
theorem Qd5 {w : QU} {u : Int} (h : u < 0 \/ (w.length : Int) <= u) : uAt w u = none := by
 unfold uAt
 split
 ·rfl
 ·rw [List.getElem?_eq_none]; omega
def Xe (w : QU) (u : Int) : Int := match uAt w u with
 | none => 0
 | some x => 2 ^ (min x.cs.length 16 + 1) - 1
theorem QdQ {w : QU} {u : Int} (h0 : 0 <= u) (h : u < w.length) : Xe w u = 2 ^ (min (w[u.toNat]'(by omega)).cs.length 16 + 1) - 1 := by
 rw [Xe, QcK h0 h]
theorem QeM {w : QU} {u : Int} (h : u < 0 \/ (w.length : Int) <= u) : Xe w u = 0 := by rw [Xe, Qd5 h]
def Qjf (v : Vr) : Prop := v.p.length <= 1000000 /\ v.q.length <= 1000000
structure WSm (w : QU) : Prop where
 len : w.length <= 48
 cs : ∀ u ∈ w, u.cs.length <= 16
 vs : ∀ u ∈ w, ∀ c ∈ u.cs, Qjf c.v
 ns : ∀ u ∈ w, ∀ c ∈ u.cs, c.ns.length <= 1000 /\ c.bs.length <= 1000
 nl : ∀ u ∈ w, ∀ c ∈ u.cs, ∀ r ∈ c.ns, r.length <= 1000
 nw : ∀ u ∈ w, ∀ c ∈ u.cs, ∀ r ∈ c.ns, ∀ x ∈ r, Sm x.s.1 /\ Sm x.s.2
 bw : ∀ u ∈ w, ∀ c ∈ u.cs, ∀ x ∈ c.bs, Sm x.s.1 /\ Sm x.s.2
def QjT (s : QhY) (v : Vr) : Bool := Qgw s v.a v.b v.c v.p v.q
def Qa5 (s : QhY) (l : List QbS) : Nat -> Int
 | 0 => 0
 | n + 1 => Qa5 s l n + match l[n]? with
  | some c => if QjT s c.v = true then 2 ^ (n + 1) else 0
  | none => 0
theorem Qf5 (s : QhY) (l : List QbS) : ∀ n, 0 <= Qa5 s l n /\ Qa5 s l n <= 2 ^ (n + 1) - 2
 | 0 => by simp [Qa5]
 | n + 1 => by
  obtain ⟨h1, h2⟩ := Qf5 s l n
  have h3 : (2 : Int) ^ (n + 1 + 1) = 2 ^ (n + 1) * 2 := Int.pow_succ ..
  have h4 : (0 : Int) < 2 ^ (n + 1) := Int.pow_pos (by omega)
  rw [Qa5, h3]
  generalize (2 : Int) ^ (n + 1) = z at *
  split
  ·split <;> omega
  ·omega
theorem Qhv {s : QhY} {l : List QbS} {i : Nat} (h : i < l.length) (hp : QjT s l[i].v = true) : Qa5 s l (i + 1) = Qa5 s l i + 2 ^ (i + 1) := by
 rw [Qa5, List.getElem?_eq_getElem h]; simp only [hp, if_true]
theorem QiD {s : QhY} {l : List QbS} {i : Nat} (h : i < l.length) (hp : QjT s l[i].v = false) : Qa5 s l (i + 1) = Qa5 s l i := by
 rw [Qa5, List.getElem?_eq_getElem h]; simp only [hp, Bool.false_eq_true, if_false, Int.add_zero]
def QjB (w : QU) (x : Qaj) : Int := match uAt w x.u with
 | none => 0
 | some un => Qa5 x.s un.cs (min un.cs.length 16)
theorem QjC {w : QU} {x : Qaj} (h0 : 0 <= x.u) (h : x.u < w.length) : QjB w x = Qa5 x.s (w[x.u.toNat]'(by omega)).cs (min (w[x.u.toNat]'(by omega)).cs.length 16) := by
 rw [QjB, QcK h0 h]
theorem Qiz {w : QU} {x : Qaj} (h : x.u < 0 \/ (w.length : Int) <= x.u) : QjB w x = 0 := by rw [QjB, Qd5 h]
theorem Qlf {n : Nat} (h : n <= 17) : 1 <= (2 : Int) ^ n /\ (2 : Int) ^ n <= 131072 := by
 have h1 : (2 : Nat) ^ n <= 2 ^ 17 := Nat.pow_le_pow_right (by omega) h
 have h2 : 1 <= (2 : Nat) ^ n := Nat.one_le_two_pow
 have h3 : ((2 ^ n : Nat) : Int) = (2 : Int) ^ n := by simp
 rw [<- h3]
 have h4 : (2 : Nat) ^ 17 = 131072 := by decide
 omega
def Qbu (w : QU) (c : List Int) (u : Int) : Int := match uAt w u with
 | none => 0
 | some x => if (c.length : Int) <= u then 0 else if c.getD u.toNat 0 < -1 \/ ((min x.cs.length 16 : Nat) : Int) <= c.getD u.toNat 0 then 0 else 2 ^ (c.getD u.toNat 0 + 1).toNat
def ZF (m : Int) : Nat -> List Int
 | 0 => []
 | n + 1 => ZF m n ++ if QbC m (2 ^ n) = 0 then [] else [(n : Int) - 1]
def Yf (m : Int) : List Int := ZF m 17
def inW (w : QU) (u : Int) : Bool := decide (0 <= u) && decide (u < w.length)
/-! ### Trails -/
def QcT (w : QU) (l : List Xn) (u : Int) : Int := l.foldl (fun a s => if s.u = u /\ inW w u = true then s.m else a) (Xe w u)
def Qky (l : List Xn) : Int := match l.getLast? with
 | none => 0
 | some s => s.l
def Qiy (l : List Xn) (u : Int) : Bool := l.any fun s => decide (s.u = u) && decide (s.c = -1)
def Qld (w : QU) (l : List Xn) (inc : List QcN) : Bool := inc.all fun t => decide (X1 (QcT w l t.u) t.m = 2)
def QdT (have_ : Int -> Int) : List QcN -> Int -> Int
 | [], at_ => at_
 | t :: r, at_ => if X1 (have_ t.u) t.m = 0 then -1 else if X1 (have_ t.u) t.m = 1 then (if 0 <= at_ then -1 else QdT have_ r t.u) else QdT have_ r at_
def Qkz (w : QU) (l : List Xn) (inc : List QcN) : Int := QdT (QcT w l) inc (-1)
def Qgd (w : QU) (l : List Xn) : Nat -> List (List QcN) -> Int × Int
 | _, [] => (-1, -1)
 | i, x :: r => if Qld w l x = true then (i, -1) else if 0 <= Qkz w l x then (i, Qkz w l x) else Qgd w l (i + 1) r
def Qlc (w : QU) (db : List (List QcN)) (l : List Xn) : Int × Int := Qgd w l 0 db
end M25
namespace M25
open Go Go.Abs M3
section
variable {fr : List (Nat × D)} {H : List (Nat × Box)} {t u : Nat}
end
theorem QhV {n : Nat} (h : n <= 62) : IntKind.i64.wrap ((2 : Int) ^ n - 1) = 2 ^ n - 1 := by
 have := Qhy h; exact QD (by omega) (by omega)
theorem Xg {w : QU} {c : List Int} {u : Int} (h : (u < 0 \/ (w.length : Int) <= u) \/ (c.length : Int) <= u) : Qbu w c u = 0 := by
 unfold Qbu
 split
 ·rfl
 ·rename_i x hx
  rcases h with h | h
  ·rw [Qd5 h] at hx; cases hx
  ·rw [if_pos h]
theorem Xf {w : QU} {c : List Int} {u : Int} (h0 : 0 <= u) (h1 : u < w.length) (h2 : u < c.length) (h : c[u.toNat]'(by omega) < -1 \/ min (((w[u.toNat]'(by omega)).cs.length : Nat) : Int) 16 <= c[u.toNat]'(by omega)) : Qbu w c u = 0 := by
 rw [Qbu, QcK h0 h1]
 simp only []
 rw [if_neg (by omega), List.getD_eq_getElem?_getD, List.getElem?_eq_getElem (by omega)]
 simp only [Option.getD_some]
 rw [if_pos]
 rcases h with h | h
 ·exact .inl h
 ·right; omega
theorem X2 {w : QU} {c : List Int} {u : Int} (h0 : 0 <= u) (h1 : u < w.length) (h2 : u < c.length) (h : ¬ c[u.toNat]'(by omega) < -1) (h' : ¬ min (((w[u.toNat]'(by omega)).cs.length : Nat) : Int) 16 <= c[u.toNat]'(by omega)) : Qbu w c u = 2 ^ (c[u.toNat]'(by omega) + 1).toNat := by
 rw [Qbu, QcK h0 h1]
 simp only []
 rw [if_neg (by omega), List.getD_eq_getElem?_getD, List.getElem?_eq_getElem (by omega)]
 simp only [Option.getD_some]
 rw [if_neg]
 omega
theorem QfL {m : Int} {n : Nat} (h : ¬ QbC m (2 ^ n) = 0) : ZF m (n + 1) = ZF m n ++ [(n : Int) - 1] := by rw [ZF, if_neg h]
theorem Qg5 {m : Int} {n : Nat} (h : QbC m (2 ^ n) = 0) : ZF m (n + 1) = ZF m n := by rw [ZF, if_pos h, List.append_nil]
theorem Qkr {w : QU} {u : Int} (h0 : 0 <= u) (h : u < w.length) : inW w u = true := by simp [inW, h0, h]
theorem Qhl {w : QU} {u : Int} (h : u < 0 \/ (w.length : Int) <= u) : inW w u = false := by
 simp only [inW, Bool.and_eq_false_iff, decide_eq_false_iff_not]; omega
theorem Qcl {w : QU} {u : Int} : inW w u = true ↔ 0 <= u /\ u < w.length := by simp [inW]
end M25
namespace Go.Proofs
open Go Go.Abs M3 M25
set_option linter.unusedVariables false
set_option linter.unusedSimpArgs false
end Go.Proofs
namespace M25
open Go Go.Abs M3
end M25
namespace M25
open Go Go.Abs M3
/-! ### Bits of numbers -/
theorem Qd9 (e : Int) : IntKind.i64.wrap e = (BitVec.ofInt 64 e).toInt := by
 have hb : (BitVec.ofInt 64 e).toInt = if e % 18446744073709551616 < 9223372036854775808 then e % 18446744073709551616 else e % 18446744073709551616 - 18446744073709551616 := by
  rw [BitVec.toInt_ofInt]; rfl
 rw [hb]
 unfold IntKind.wrap
 simp only [IntKind.bits, IntKind.signed, Bool.true_and]
 split
 ·rename_i h
  have := of_decide_eq_true h
  split <;> omega
 ·rename_i h
  have : ¬ (e % 2 ^ 64 >= 2 ^ (64 - 1)) := fun hh => h (decide_eq_true hh)
  split <;> omega
theorem QaE (b : BitVec 64) : BitVec.ofInt 64 (b.toNat : Int) = b := by
 rw [BitVec.ofInt_natCast, BitVec.ofNat_toNat, BitVec.setWidth_eq]
theorem Qkg (x y : Int) : BitVec.ofInt 64 (QbC x y) = BitVec.ofInt 64 x &&& BitVec.ofInt 64 y := by
 show BitVec.ofInt 64 (IntKind.i64.wrap ((BitVec.ofInt 64 x &&& BitVec.ofInt 64 y).toNat : Int)) = _
 rw [Qd9, BitVec.ofInt_toInt, QaE]
theorem Qk8 (x y : Int) : BitVec.ofInt 64 (bor x y) = BitVec.ofInt 64 x ||| BitVec.ofInt 64 y := by
 show BitVec.ofInt 64 (IntKind.i64.wrap ((BitVec.ofInt 64 x ||| BitVec.ofInt 64 y).toNat : Int)) = _
 rw [Qd9, BitVec.ofInt_toInt, QaE]
theorem Qkh (x y : Int) : BitVec.ofInt 64 (Qeb x y) = BitVec.ofInt 64 x &&& ~~~ BitVec.ofInt 64 y := by
 show BitVec.ofInt 64 (IntKind.i64.wrap ((BitVec.ofInt 64 x &&& ~~~ BitVec.ofInt 64 y).toNat : Int)) = _
 rw [Qd9, BitVec.ofInt_toInt, QaE]
theorem Qis {x : Int} (h : I64 x) : IntKind.i64.wrap x = x := QD h.1 h.2
theorem QiR {x : Int} (h : I64 x) : (BitVec.ofInt 64 x).toInt = x := by rw [<- Qd9, Qis h]
theorem QdJ (x y : Int) : I64 (QbC x y) := QcL _
theorem Qkp (x y : Int) : I64 (bor x y) := QcL _
theorem Qju (x y : Int) : I64 (Qeb x y) := QcL _
def tb (x : Int) (i : Nat) : Bool := (BitVec.ofInt 64 x).getLsbD i
theorem QhM (x y : Int) (i : Nat) : tb (QbC x y) i = (tb x i && tb y i) := by rw [tb, Qkg, BitVec.getLsbD_and]; rfl
theorem Qli (x y : Int) (i : Nat) : tb (bor x y) i = (tb x i || tb y i) := by rw [tb, Qk8, BitVec.getLsbD_or]; rfl
theorem Qi2 (x y : Int) {i : Nat} : tb (Qeb x y) i = (tb x i && !tb y i) := by
 rw [tb, Qkh, BitVec.getLsbD_and, BitVec.getLsbD_not]
 by_cases h : i < 64
 ·simp [h, tb]
 ·simp [tb, BitVec.getLsbD_of_ge _ i (by omega : 64 <= i)]
theorem QhO (x : Int) {i : Nat} (h : 64 <= i) : tb x i = false := BitVec.getLsbD_of_ge _ i h
theorem QhN {x y : Int} (hx : I64 x) (hy : I64 y) (h : ∀ i, tb x i = tb y i) : x = y := by
 rw [<- QiR hx, <- QiR hy]
 congr 1
 exact BitVec.eq_of_getLsbD_eq fun i _ => h i
theorem QhP (i : Nat) : tb 0 i = false := by
 show (BitVec.ofInt 64 0).getLsbD i = false
 rw [show BitVec.ofInt 64 0 = 0#64 from rfl, BitVec.getLsbD_zero]
theorem Qb9 {x : Int} (hx : I64 x) : x = 0 ↔ ∀ i, tb x i = false := by
 constructor
 ·rintro rfl i; exact QhP i
 ·intro h; exact QhN hx ⟨by omega, by omega⟩ fun i => by rw [h i, QhP]
theorem Qgg (n : Nat) {i : Nat} (h : i < 64) : tb (n : Int) i = n.testBit i := by
 rw [tb, BitVec.ofInt_natCast, BitVec.getLsbD_ofNat]; simp [h]
theorem Qgh {k : Nat} (hk : k < 64) (i : Nat) : tb ((2 : Int) ^ k) i = decide (i = k) := by
 have e : ((2 ^ k : Nat) : Int) = (2 : Int) ^ k := by simp
 by_cases h : i < 64
 ·rw [<- e, Qgg _ h, Nat.testBit_two_pow]
  exact decide_eq_decide.2 eq_comm
 ·rw [QhO _ (by omega)]; exact (decide_eq_false (by omega)).symm
theorem Qh5 {x m : Int} : QbC x m = 0 ↔ ∀ i, tb x i = true -> tb m i = false := by
 rw [Qb9 (QdJ x m)]
 refine forall_congr' fun i => ?_
 rw [QhM]; cases tb x i <;> cases tb m i <;> simp
theorem QiE {x m : Int} : Qeb x m = 0 ↔ ∀ i, tb x i = true -> tb m i = true := by
 rw [Qb9 (Qju x m)]
 refine forall_congr' fun i => ?_
 rw [Qi2]; cases tb x i <;> cases tb m i <;> simp
theorem Qel {x m : Int} (hx : I64 x) : QbC x m = x ↔ ∀ i, tb x i = true -> tb m i = true := by
 constructor
 ·intro h i hi
  have := congrArg (fun z => tb z i) h
  simp only [QhM, hi, Bool.true_and] at this
  exact this
 ·intro h
  refine QhN (QdJ x m) hx fun i => ?_
  rw [QhM]
  cases hx2 : tb x i
  ·rfl
  ·rw [h i hx2]; rfl
def Lo (x : Int) : Prop := 0 <= x /\ x < 131072
theorem Qd4 {x : Int} (hx : I64 x) (m : Int) : Qbh x m = X1 x m := by
 unfold X1 Qbh
 have : (YQ .andNot .i64 x m = 0) ↔ (YQ .and .i64 x m = x) := (QiE (x := x) (m := m)).trans (Qel hx).symm
 by_cases h : YQ .andNot .i64 x m = 0
 ·rw [if_pos h, if_pos (this.1 h)]
 ·rw [if_neg h, if_neg (fun e => h (this.2 e))]
theorem Qh8 {x : Int} {k : Nat} (hk : k < 64) : QbC x (2 ^ k) = 0 ↔ tb x k = false := by
 rw [Qh5]
 constructor
 ·intro h
  cases hx : tb x k
  ·rfl
  ·have := h k hx; rw [Qgh hk] at this; simp at this
 ·intro h i hi
  rw [Qgh hk]
  by_cases e : i = k
  ·subst e; rw [h] at hi; cases hi
  ·exact decide_eq_false e
end M25
namespace M25
open Go Go.Abs M3
/-! ### Trails: the loops' laws -/
theorem Qhd {w : QU} {u : Int} : Xe w u = 0 ↔ inW w u = false := by
 constructor
 ·intro h
  cases hw : inW w u
  ·rfl
  ·rw [Qcl] at hw
   rw [QdQ hw.1 hw.2] at h
   have h2 : 2 <= (2 : Int) ^ (min (w[u.toNat]'(by omega)).cs.length 16 + 1) := by
    rw [Int.pow_succ]
    have := Qlf (n := min (w[u.toNat]'(by omega)).cs.length 16) (by omega)
    omega
   omega
 ·intro h
  refine QeM (Classical.byContradiction fun hn => ?_)
  rw [Qkr (by omega) (by omega)] at h; cases h
def Qj4 (w : QU) (l : List Xn) : Prop := ∀ s ∈ l, Lo s.m
end M25
namespace M25
open Go Go.Abs M3
theorem QhW {v : Int} (h : (v + 1).toNat <= 61) : IntKind.i64.wrap ((1 : Int) * 2 ^ min (v + 1).toNat IntKind.i64.bits) = 2 ^ (v + 1).toNat := by
 rw [show min (v + 1).toNat IntKind.i64.bits = (v + 1).toNat from by simp only [IntKind.bits]; omega, Int.one_mul]
 have := Qhy (i := (v + 1).toNat) (by omega)
 exact QD (by omega) (by omega)
end M25
namespace Go.Proofs
open Go Go.Abs M3 M25
set_option linter.unusedVariables false
set_option linter.unusedSimpArgs false
theorem X9 {v : Int} (h0 : -1 <= v) (h1v : v <= 60) : Ok Tryd.prog 40 [.int .i64 v] (.int .i64 (2 ^ (v + 1).toNat)) := by
 refine Ok.ofT Z9 Tryd.func40 QlT (Nat.le_of_ble_eq_true Z) ?_
 show TW _ _ tf40.body _ _
 refine Qe fun K hK => Qd Z (hK _ _ (Qa (kp1 Z) ?_))
 refine Qe fun K hK => Qd Z (ZJ Z Z (by first | exact QD (by omega) (by omega) | rfl) (Qk2 Z Z (by omega) (QhW (by omega)) (Qd Z (hK _ _ (Qa (kp1 Z) ?_)))))
 refine Qr (Qx Z ?_)
 rfl
theorem Qc1 {w : QU} (hw : WSm w) {u : Int} : Ok Tryd.prog 39 [Qc5 w, .int .i64 u] (.bool (inW w u)) := by
 refine Ok.ofT Z9 Tryd.func39 QlS (Nat.le_of_ble_eq_true Z) ?_
 show TW _ _ tf39.body _ _
 refine Qe fun K hK => ZU Z Z Z (Qd Z (hK _ _ (Qa (kp2 Z Z) ?_)))
 refine Qe fun K hK => Qd Z (QhX Z Z (Qd Z ?_))
 refine Qs (g := 7) Z (fun h1 => ?_) (fun h1 => ?_)
 ·try rw [h1]
  try simp only [qA] at h1
  refine Qg Z (Qd Z (Qg Z (Ql Z Z (Qg Z (QG Z Z Z (Qg Z ?_))))))
  first | refine YG rfl QbG ?_ | refine YG rfl rfl ?_
  refine Qg Z (XJ Z Z (Qh Z Z (Qd Z (hK _ _ (Qa (kp1 Z) ?_)))))
  refine Qr (Qi Z ?_)
  first | rfl | (rw [Qhl (by omega)]; done) | (rw [inW, decide_eq_true h1, Bool.true_and])
 ·try rw [h1]
  try simp only [qA] at h1
  refine Qp Z (Qp Z (Qp Z (Qp Z (Qp Z (Qh Z Z (Qd Z (hK _ _ (Qa (kp1 Z) ?_))))))))
  refine Qr (Qi Z ?_)
  first | rfl | (rw [Qhl (by omega)]; done) | (rw [inW, decide_eq_true h1, Bool.true_and])
theorem Qb4 {w : QU} (hw : WSm w) {u : Int} : Ok Tryd.prog 13 [Qc5 w, .int .i64 u] (.int .i64 (Xe w u)) := by
 refine Ok.ofT Z9 Tryd.func13 QlK (Nat.le_of_ble_eq_true Z) ?_
 show TW _ _ tf13.body _ _
 refine Qe fun K hK => ZU Z Z Z (Qd Z (hK _ _ (Qa (kp2 Z Z) ?_)))
 refine QJ ?_ -- 0
 refine Qe fun K hK => QH (cs := [_]) Z Z Z Z (Qd Z (QA (Qc1 hw) Z Z (.inr Z) (ZV Z (hK _ _ (Qa (kp3 Z Z Z) ?_)))))
 refine Qy Z (fun h1 => ?_) (fun h1 => ?_)
 ·try rw [h1]
  try simp only [qA] at h1
  try have h1b := Qcl.1 h1
  refine Qe fun K hK => Qd Z (hK _ _ (Qa (kp1 Z) ?_))
  refine Qr (Qk (Qx Z ?_))
  rw [Qhd.2 h1]
 ·try rw [h1]
  try simp only [qA] at h1
  try have h1b := Qcl.1 h1
  refine Qu (Qf (kp2 Z Z) (Qe fun K hK => Ql Z Z (QG Z Z Z (Qd Z (Zn Z Z Z (by omega) (YW (by omega) (by omega)) Z (Xm Z Z (QG Z Z Z ?_)))))))
  first | refine YG rfl QbG ?_ | refine YG rfl rfl ?_
  refine QA (X9 (by omega) (by have := hw.cs _ (List.getElem_mem (show u.toNat < w.length by omega)); omega)) Z Z (.inr Z) (Qgm Z Z (QhV (by have := hw.cs _ (List.getElem_mem (show u.toNat < w.length by omega)); omega)) (Qd Z (hK _ _ (Qa (kp1 Z) ?_))))
  refine Qr (Qx Z ?_)
  rw [QdQ h1b.1 h1b.2, show min (w[u.toNat]'(by omega)).cs.length 16 = (w[u.toNat]'(by omega)).cs.length from Nat.min_eq_left (hw.cs _ (List.getElem_mem _)), QkJ]
end Go.Proofs
namespace M25
open Go Go.Abs M3
/-! ### prop: what is left of each unit, scans -/
structure Qj3 (w : QU) (db : List (List QcN)) (l : List Xn) (a : Nat) (k : Nat) : Prop where
  ha : a < db.length
  hk : k < db[a].length
  eq : Qlc w db l = ((a : Int), db[a][k].u)
  one : X1 (QcT w l db[a][k].u) db[a][k].m = 1
  two : ∀ j, ∀ hj : j < db[a].length, j ≠ k -> X1 (QcT w l db[a][j].u) db[a][j].m = 2
def QlG (w : QU) (l : List Xn) (t : QcN) (c : Int) : Xn := ⟨t.u, Qeb (QcT w l t.u) t.m, Qky l, c⟩
end M25
namespace M25
open Go Go.Abs M3
/-! ### Sets that are made: moderate sizes -/
def SmN (n : Nat) (l : List (Cu × Cu)) : Prop := l.length <= n /\ ∀ s ∈ l, Cu.sm s.1 /\ Cu.sm s.2
theorem SmN.sm {n : Nat} {l : List (Cu × Cu)} (h : SmN n l) (hn : n <= 1000000) : Sm l := ⟨Nat.le_trans h.1 hn, h.2⟩
theorem SmN.nil (n : Nat) : SmN n [] := ⟨Nat.zero_le _, by simp⟩
def Qlv (n : Nat) (s : QhY) : Prop := SmN n s.1 /\ SmN n s.2
theorem QbO (e a b c : Int) (f : Bool) : Cu.sm ⟨e, a, b, c, [], [], f⟩ := ⟨Nat.zero_le _, Nat.zero_le _⟩
theorem Qil {a b c : Int} {p q : List UInt8} (hp : p.length <= 1000000) : Qlv 1 (Qcv a b c p q) := by
 unfold Qcv
 split
 ·exact ⟨SmN.nil _, SmN.nil _⟩
 ·split
  ·refine ⟨SmN.nil _, ⟨Nat.le_refl _, fun s hs => ?_⟩⟩
   simp only [List.mem_singleton] at hs; subst hs
   exact ⟨⟨hp, Nat.zero_le _⟩, ⟨hp, Nat.zero_le _⟩⟩
  ·refine ⟨⟨Nat.le_refl _, fun s hs => ?_⟩, SmN.nil _⟩
   simp only [List.mem_singleton] at hs; subst hs
   constructor
   ·unfold Qcu; split
    ·exact QbO ..
    ·exact QbO ..
   ·unfold Qa3; split
    ·exact QbO ..
    ·exact QbO ..
def Qk3 (s : QhY) : Prop := Qlv 600000 s
structure CR where
 v : Vr
 x : D
 y : D
 z : D
def dCR (r : CR) : List D := [.int .i64 r.v.a, .int .i64 r.v.b, .int .i64 r.v.c, .str r.v.p, .str r.v.q, r.x, r.y, r.z]
structure UR where
 n : List UInt8
 f : List UInt8
 k : Nat
 cs : List CR
def dUR (u : UR) : List D := [.str u.n, .str u.f, .osl u.k u.cs.length]
structure Fam (H : List (Nat × Box)) (kg ku eu ec : Nat) (us : List UR) : Prop where
 ne : ku ≠ kg
 u : ∃ pr, lk H ku = some ⟨us.map dUR, 3, eu, pr⟩
 c : ∀ y ∈ us, y.k ≠ kg /\ ∃ pr, lk H y.k = some ⟨y.cs.map dCR, 8, ec, pr⟩
 v : ∀ y ∈ us, y.cs.length <= 16 /\ ∀ z ∈ y.cs, Qjf z.v
end M25
namespace M25
open Go Go.Abs M3
/-! ### The boxes of a world under way -/
def QiO (us : List UR) : Prop := ∀ j, ∀ h : j < us.length, us[j].k = 500001 + j
def zr (v : Vr) (sh : Int) : CR := ⟨v, .int .i64 sh, .fsl [], .fsl []⟩
def Qj1 (u : UR) : Prop := u.cs.length <= 4 /\ ∀ z ∈ u.cs, ∃ v sh, z = zr v sh /\ Qjf v
section
variable {l : List Nat} {fr fr1 fr' : List (Nat × D)} {B : List (Nat × Box)} {kg eg eu ec : Nat} {L : List Int} {J : Int} {us : List UR}
end
def v0 : Vr := ⟨0, 0, 0, [], []⟩
structure UnitsIn (us : List UR) : Prop where
 keys : QiO us
 fresh : ∀ u ∈ us, Qj1 u
 first : ∃ z rest, us = ⟨[], [], 500001, [z]⟩ :: rest
end M25
namespace M25
open Go Go.Abs M3
/-! ### A world under way: one candidate after the other is filled -/
section
variable {us : List UR} {eu ec eg : Nat} {L : List Int} {J : Int} {b4 : Box}
end
/-! ### Filled candidates -/
def Qkb (n : Nat) (x : Qaj) : Prop := 0 <= x.u /\ x.u < n /\ Qk3 x.s
structure QiN (n : Nat) (c : QbS) : Prop where
 v : Qjf c.v
 nl : c.ns.length <= 10
 nr : ∀ r ∈ c.ns, r.length <= 2 /\ ∀ x ∈ r, Qkb n x
 bl : c.bs.length <= 1
 bw : ∀ x ∈ c.bs, Qkb n x
def QlF (c : QbS) : CR := ⟨c.v, .int .i64 c.sh, QiU c.ns, Qg1 c.bs⟩
def QkX (n : Nat) (z : CR) : Prop := ∃ c, z = QlF c /\ QiN n c
def Qj0 (z : CR) : Prop := ∃ v sh, z = zr v sh /\ Qjf v
structure Prog (n : Nat) (us : List UR) (i k : Nat) : Prop where
 keys : QiO us
 len : us.length = n /\ 2 <= n /\ n <= 11
 cl : ∀ u ∈ us, u.cs.length <= 4
 done : ∀ j, ∀ hj : j < us.length, ∀ m, ∀ hm : m < us[j].cs.length, (j < i \/ (j = i /\ m < k)) -> QkX n us[j].cs[m]
 fresh : ∀ j, ∀ hj : j < us.length, ∀ m, ∀ hm : m < us[j].cs.length, ¬ (j < i \/ (j = i /\ m < k)) -> Qj0 us[j].cs[m]
structure WMade (w : QU) : Prop where
 sm : WSm w
 len : 2 <= w.length /\ w.length <= 11
 cs : ∀ u ∈ w, u.cs.length <= 4
 cand : ∀ u ∈ w, ∀ c ∈ u.cs, QiN w.length c
end M25
namespace M25
open Go Go.Abs M3
/-! ### Trails that may be -/
end M25
namespace M25
open Go Go.Abs M3
/-! ### What every program says -/
/-! ### A world's facts, and more -/
end M25
namespace M25
open Go Go.Abs M3
/-! ### Powers of two -/
/-! ### Steps that may be: the program's -/
/-! ### Deciding -/
end M25
namespace M25
open Go Go.Abs M3
/-! ### Back, Sure, When -/
/-! ### What valid trails are -/
/-! ### Levels -/
end M25
namespace M25
open Go Go.Abs M3
/-! ### The first row of lefts -/
end M25
namespace M25
open Go Go.Abs M3
/-! ### When, QgD by QgD -/
/-! ### The Qlh world -/
end M25
namespace M25
open Go Go.Abs M3
/-! ### What a run is: steps, one open after the other -/
inductive QgQ (w : QU) (db : List (List QcN)) : List Xn -> List Xn -> Prop
 | nil (l : List Xn) : QgQ w db l l
 | cons {l x : List Xn} (a k : Nat) (ho : Qj3 w db l a k) (h : QgQ w db (l ++ [QlG w l ((db[a]'ho.ha)[k]'ho.hk) a]) x) : QgQ w db l x
section
variable {w : QU} {db : List (List QcN)}
def Below (w : QU) (b l : List Xn) : Prop := ∀ u i, tb (QcT w b u) i = true -> tb (QcT w l u) i = true
theorem Below.refl (l : List Xn) : Below w l l := fun _ _ h => h
/-! ### Sound: a choice stays -/
end
end M25
namespace M25
open Go Go.Abs M3
end M25
namespace M25
open Go Go.Abs M3
/-! ### More of runs -/
end M25
namespace M25
open Go Go.Abs M3
/-! ### The facts in another order -/
end M25
namespace M25
open Go Go.Abs M3
/-! ### How long a run is -/
structure Good (w : QU) (l : List Xn) : Prop where
 p : Qj4 w l
 nz : ∀ u, inW w u = true -> QcT w l u ≠ 0
 le : ∀ u i, tb (QcT w l u) i = true -> tb (Xe w u) i = true
end M25
namespace M25
open Go Go.Abs M3
/-! ### Masks are of values that there are -/
/-! ### Each QgD of a run -/
end M25
namespace M25
open Go Go.Abs M3
end M25
namespace M25
open Go Go.Abs M3
/-! ### Derive again -/
/-! ### Sure, and what holds -/
end M25
namespace M25
open Go Go.Abs M3
/-! ### The choice that a trail has decided -/
end M25
namespace Go.Proofs
open Go Go.Abs M3 M25
set_option linter.unusedVariables false
set_option linter.unusedSimpArgs false
end Go.Proofs
namespace Go.Proofs
open Go Go.Abs M3 M25
set_option linter.unusedVariables false
set_option linter.unusedSimpArgs false
end Go.Proofs
namespace Go.Proofs
open Go Go.Abs M3 M25
set_option linter.unusedVariables false
set_option linter.unusedSimpArgs false
end Go.Proofs
namespace Go.Proofs
open Go Go.Abs M3 M25
set_option linter.unusedVariables false
set_option linter.unusedSimpArgs false
end Go.Proofs
namespace Go.Proofs
open Go Go.Abs M3 M25
set_option linter.unusedVariables false
set_option linter.unusedSimpArgs false
end Go.Proofs
namespace Go.Proofs
open Go Go.Abs M3 M25
set_option linter.unusedVariables false
set_option linter.unusedSimpArgs false
end Go.Proofs
namespace M25
open Go Go.Abs M3
/-! ### One without terms -/
end M25
namespace M25
open M3
def YY (e a b c : Int) (p q : List UInt8) (f : Bool) : Bool := !decide (e = 0) || (!f && decide (p = []) && !(decide (a = 0) && (decide (b = 0) && (decide (c = 0) && (decide (p = []) && (decide (q = []) && true))))))
def Z0 (x : Cu) : Bool := YY x.e x.a x.b x.c x.p x.q x.f
theorem QiS {e a b c : Int} {p q : List UInt8} {f : Bool} (h : Yz e a b c p q f = true) : q = [] := by
 unfold Yz at h
 split at h
 ·simp at h; exact h.2
 ·simp at h; exact h.1.2.2.2.2.2
theorem Qbd {x : Cu} (h : x.q = []) : Z0 x = Y1 x := by
 rw [Z0, Y1, YY, Qhs, Qbs, h]
 cases decide (x.e = 0) <;> cases x.f <;> cases hp : decide (x.p = []) <;> cases decide (x.a = 0) <;> cases decide (x.b = 0) <;> cases decide (x.c = 0) <;> simp_all
theorem Qbb {x : Cu} (h : Y1 x = true) : Z0 x = true := by
 rw [Y1, Qhs, Qbs] at h
 rw [Z0, YY]
 revert h
 cases decide (x.e = 0) <;> cases x.f <;> cases hp : decide (x.p = []) <;> cases decide (x.a = 0) <;> cases decide (x.b = 0) <;> cases decide (x.c = 0) <;> simp
theorem QkA {l : List (Cu × Cu)} (h : QcU l = true) {s : Cu × Cu} (hs : s ∈ l) : s.1.q = [] /\ s.2.q = [] := by
 obtain ⟨i, hi, rfl⟩ := List.mem_iff_getElem.1 hs
 have := List.all_eq_true.1 h i (List.mem_range.2 hi)
 rw [Qfm hi, Bool.and_eq_true] at this
 have h1 := this.1
 simp only [QeO, QcW, Bool.and_eq_true] at h1
 exact ⟨QiS h1.1.1, QiS h1.1.2⟩
theorem QbK {s : List (Cu × Cu) × List (Cu × Cu)} {i : Nat} (hi : s.1.length <= i) (h : (s.1.take i).all (fun x => Z0 x.1 && Z0 x.2) = true) : Qfl s = (QcU s.1 && QcU s.2) := by
 rw [List.take_of_length_le hi] at h
 rw [Qfl]
 cases h1 : QcU s.1 with
 | false => rfl
 | true =>
  have : (s.1.all fun x => Y1 x.1 && Y1 x.2) = true := by
   rw [List.all_eq_true] at h ⊢
   intro x hx
   obtain ⟨q1, q2⟩ := QkA h1 hx
   rw [<- Qbd q1, <- Qbd q2]
   exact h x hx
  rw [this, Bool.true_and, Bool.and_true]
theorem YZ {s : List (Cu × Cu) × List (Cu × Cu)} {i : Nat} (hi : i < s.1.length) (h : Z0 s.1[i].1 = false \/ Z0 s.1[i].2 = false) : Qfl s = false :=
 QjF hi (h.imp (fun h => by cases e : Y1 s.1[i].1 with
  | false => rfl
  | true => rw [Qbb e] at h; cases h) (fun h => by cases e : Y1 s.1[i].2 with
  | false => rfl
  | true => rw [Qbb e] at h; cases h))
end M25
namespace Go.Abs
open Go
/-! ### Cells told otherwise -/
section
variable {fr : List (Nat × D)} {H : List (Nat × Box)}
end
end Go.Abs
namespace Go.Abs
abbrev gD : D := .ptr [.int .i64 0, .int .i64 0, .int .i64 0, .str [], .str []]
end Go.Abs
namespace Go.Proofs
open Go Go.Abs M3 M25
set_option linter.unusedVariables false
set_option linter.unusedSimpArgs false
theorem Qb3 {l : List (Cu × Cu)} (hl : Sm l) : Ok Tryd.prog 78 [ZG l] (.bool (QcU l)) := by
 refine Ok.ofT Z9 Tryd.func78 Qmf (Nat.le_of_ble_eq_true Z) ?_
 show TW _ _ tf78.body _ _
 have hn := hl.1
 refine Qe fun K hK => Qd Z (hK _ _ (Qa (kp1 Z) ?_))
 refine QJ ?_ -- 0
 refine Qe fun K hK => Qd Z (YG Z Z (Qd Z (hK _ _ (Qa (kp4 Z Z Z Z) ?_))))
 refine QP ?_
 refine Yn (ι := Nat) (fun i => ⟨[(0, ZG l), (5, ZG l), (6, .int .i64 l.length), (7, .int .i64 i)], []⟩) (fun i => i <= l.length /\ (List.range i).all (QjV l) = true) (fun i => l.length - i) 0 ?_ ?_ ?_
 ·exact Zk (l := [0, 5, 6, 7]) (kp4 rfl rfl rfl rfl) Qw (by simp [ZG, List.length_map]) rfl rfl
 ·exact ⟨Nat.zero_le _, rfl⟩
 intro i hI
 try dsimp only
 refine Qe fun K hK => XJ Z Z (hK _ _ (Qa (kp5 Z Z Z Z Z) ?_))
 refine QJ ?_ -- 1
 refine Qy Z (fun h1 => ?_) (fun h1 => ?_)
 ·try rw [h1]
  try simp only [qA] at h1
  refine Qu (Qf (kp4 Z Z Z Z) ?_)
  refine QJ ?_ -- 2
  refine QP (Qe fun K hK => Qd Z (Zn Z Z Z (by omega) (QdK (by omega)) Z (QH (cs := [_, _, _, _, _, _, _, _, _, _, _, _, _, _]) Z Z Z Z (Zt Z (Qd Z (QX Z Z Z Z Z Z Z Z (hK _ _ (Qa (kp6 Z Z Z Z Z Z) ?_))))))))
  refine Qe fun K hK => Zh (ds0 := [17, 16, 15, 14, 13, 12, 11, 10, 9, 8, 7, 6, 5, 4, 3, 2, 1, 0]) (cs := [_, _, _, _, _, _, _, _, _, _, _, _, _, _]) Z Z Z Z Z Z (Zg (ds0 := [16, 15, 14, 13, 12, 11, 10, 9, 8, 7, 6, 5, 4, 3, 2, 1, 0]) (QaP (hl.at (i := i) (by omega)).1.1 (hl.at (i := i) (by omega)).1.2 (hl.at (i := i) (by omega)).2.1 (hl.at (i := i) (by omega)).2.2) Z Z (.inr Z) Z Z (ZV Z (Qd Z ?_)))
  refine Qs (g := 15) Z (fun h2 => ?_) (fun h2 => ?_)
  ·try rw [h2]
   try simp only [qA] at h2
   refine Qp Z (Qp Z (Qp Z (QE Z (QE Z (QE Z (QE Z (QE Z (QE Z (QE Z (QE Z (QE Z ?_)))))))))))
   refine QE Z (Qp Z (Qh Z Z (hK _ _ (Qa (kp5 Z Z Z Z Z) ?_))))
   refine Zd Z (Qe fun K hK => Qd Z (hK _ _ (Qa (kp1 Z) ?_)))
   refine Qr (Qt (Qk (QY (Qt (Qk (Qi Z ?_))))))
   first
    | exact (QdX hI.2 (by omega)).symm
    | exact (Qah (i := i) (by omega) (Qdj (by omega) (.inl h2))).symm
    | (simp only [Qa7] at *; exact (Qah (i := i) (by omega) (Qdj (by omega) (.inr ⟨by omega, h4⟩))).symm)
  ·try rw [h2]
   try simp only [qA] at h2
   refine Qg Z (Qd Z (Qg Z (QbW Z Z (Qg Z (Qd Z ?_)))))
   refine Qs (g := 18) Z (fun h3 => ?_) (fun h3 => ?_)
   ·try rw [h3]
    try simp only [qA] at h3
    refine Qg Z (Qd Z (Qg Z (Qd Z (Qg Z (Qgm Z Z (by first | exact QD (by omega) (by omega) | exact QI (by omega) (by omega) | exact QT (by omega) (by omega) | rfl) (Qg Z (Zn Z Z Z (by omega) (YW (by omega) (by omega)) Z (Qg Z (Xm Z Z (Qg Z (Zh (ds0 := [3, 2, 1, 0]) (cs := [_, _, _, _, _, _, _]) Z Z Z Z Z Z ?_)))))))))))
    refine Qg Z (Ql Z Z (Qg Z (Zh (ds0 := [3, 2, 1, 0]) (cs := [_, _, _, _, _, _, _]) Z Z Z Z Z Z (Qg Z (Zg (ds0 := [2, 1, 0]) (QaO (hl.at (i := ((i : Int) - 1).toNat) (by omega)).2.1 (hl.at (i := ((i : Int) - 1).toNat) (by omega)).2.2 (hl.at (i := i) (by omega)).1.1 (hl.at (i := i) (by omega)).1.2) Z Z (.inr Z) Z Z (Qg Z (QhX Z Z (Qg Z (Qh Z Z (Qh Z Z (hK _ _ (Qa (kp5 Z Z Z Z Z) ?_))))))))))))
    refine Qy Z (fun h4 => ?_) (fun h4 => ?_)
    ·try rw [h4]
     try simp only [qA] at h4
     refine Qe fun K hK => Qd Z (hK _ _ (Qa (kp1 Z) ?_))
     refine Qr (Qt (Qk (QY (Qt (Qk (Qi Z ?_))))))
     first
      | exact (QdX hI.2 (by omega)).symm
      | exact (Qah (i := i) (by omega) (Qdj (by omega) (.inl h2))).symm
      | (simp only [Qa7] at *; exact (Qah (i := i) (by omega) (Qdj (by omega) (.inr ⟨by omega, h4⟩))).symm)
    ·try rw [h4]
     try simp only [qA] at h4
     refine Qu (Qm (Qf (kp4 Z Z Z Z) (Ze fun K hK => ZJ Z Z (by first | exact QD (by omega) (by omega) | exact QI (by omega) (by omega) | exact QT (by omega) (by omega) | rfl) (Qd Z (hK _ ?_)))))
     refine Qq (i + 1) ?_ ?_ ?_
     ·exact Zk (l := [0, 5, 6, 7]) (lH := []) (kp4 rfl rfl rfl rfl) Qw rfl rfl rfl
     ·exact ⟨by omega, Qf8 hI.2 (QiY (by omega) h2 (by first | exact .inl (by omega) | (simp only [Qa7] at *; exact .inr (Int.not_le.1 h4))))⟩
     ·first | omega | (simp only; omega) | (dsimp only; omega)
   ·try rw [h3]
    try simp only [qA] at h3
    refine Qp Z (Qp Z (Qp Z (Qp Z (Qp Z (Qp Z (Qp Z (Qp Z (Qp Z (Qp Z (Qg Z (Qh Z Z ?_)))))))))))
    refine Qh Z Z (hK _ _ (Qa (kp5 Z Z Z Z Z) ?_))
    refine Zr Z (Qu (Qm (Qf (kp4 Z Z Z Z) (Ze fun K hK => ZJ Z Z (by first | exact QD (by omega) (by omega) | exact QI (by omega) (by omega) | exact QT (by omega) (by omega) | rfl) (Qd Z (hK _ ?_))))))
    refine Qq (i + 1) ?_ ?_ ?_
    ·exact Zk (l := [0, 5, 6, 7]) (lH := []) (kp4 rfl rfl rfl rfl) Qw rfl rfl rfl
    ·exact ⟨by omega, Qf8 hI.2 (QiY (by omega) h2 (by first | exact .inl (by omega) | (simp only [Qa7] at *; exact .inr (Int.not_le.1 h4))))⟩
    ·first | omega | (simp only; omega) | (dsimp only; omega)
 ·try rw [h1]
  try simp only [qA] at h1
  refine Zv (QO (QC (QQ (Qf (QK) (Qe fun K hK => Qd Z (hK _ _ (Qa (kp1 Z) ?_)))))))
  refine Qr (Qi Z ?_)
  first
   | exact (QdX hI.2 (by omega)).symm
   | exact (Qah (i := i) (by omega) (Qdj (by omega) (.inl h2))).symm
   | (simp only [Qa7] at *; exact (Qah (i := i) (by omega) (Qdj (by omega) (.inr ⟨by omega, h4⟩))).symm)
theorem Qer {l : List (Cu × Cu)} (hl : Sm l) {a b c : Int} {p q : List UInt8} (hp : p.length <= 1000000) (hq : q.length <= 1000000) : Ok Tryd.prog 61 [ZG l, .agg [.int .i64 a, .int .i64 b, .int .i64 c, .str p, .str q]] (.bool (QdR l a b c p q)) := by
 refine Ok.ofT Z9 Tryd.func61 Ql6 (Nat.le_of_ble_eq_true Z) ?_
 show TW _ _ tf61.body _ _
 have hn := hl.1
 refine Qe fun K hK => ZU Z Z Z (Qd Z (hK _ _ (Qa (kp2 Z Z) ?_)))
 refine QJ ?_ -- 0
 refine Qe fun K hK => Qd Z (QA (Qb3 hl) Z Z (.inr Z) (ZV Z (hK _ _ (Qa (kp3 Z Z Z) ?_))))
 refine Qy Z (fun h1 => ?_) (fun h1 => ?_)
 ·try rw [h1]
  try simp only [qA] at h1
  refine Qe fun K hK => Qd Z (hK _ _ (Qa (kp1 Z) ?_))
  refine Qr (Qk (Qi Z ?_))
  first
   | exact (QdF (i := i) (by omega) hI.2).symm
   | exact (QdG h1).symm
   | exact (QdH h1 (i := i) (by omega) h3).symm
 ·try rw [h1]
  try simp only [qA] at h1
  refine Qu (Qf (kp2 Z Z) ?_)
  refine QJ ?_ -- 1
  refine Qe fun K hK => Qd Z (YG Z Z (Qd Z (hK _ _ (Qa (kp4 Z Z Z Z) ?_))))
  refine QP ?_
  refine Yn (ι := Nat) (fun i => ⟨[(3, .ref 3 0 0), (10, ZG l), (11, .int .i64 l.length), (12, .int .i64 i)], [(3, ⟨[[.int .i64 a, .int .i64 b, .int .i64 c, .str p, .str q]], 5, 49, true⟩)]⟩) (fun i => i <= l.length /\ (l.take i).any (fun s => QdS s a b c p q) = false) (fun i => l.length - i) 0 ?_ ?_ ?_
  ·exact Zk (l := [3, 10, 11, 12]) (lH := [3]) (kp4 rfl rfl rfl rfl) (Qv rfl Qw) (by simp [ZG, List.length_map]) rfl rfl
  ·exact ⟨Nat.zero_le _, by simp⟩
  intro i hI
  try dsimp only
  refine Qe fun K hK => XJ Z Z (hK _ _ (Qa (kp5 Z Z Z Z Z) ?_))
  refine QJ ?_ -- 2
  refine Qy Z (fun h2 => ?_) (fun h2 => ?_)
  ·try rw [h2]
   try simp only [qA] at h2
   refine Qu (Qf (kp4 Z Z Z Z) ?_)
   refine QJ ?_ -- 3
   refine QP (Qe fun K hK => Zn Z Z Z (by omega) (QdK (by omega)) Z (QH (cs := [_, _, _, _, _, _, _, _, _, _, _, _, _, _]) Z Z Z Z (Zt Z (QX Z Z Z Z Z Z Z Z (hK _ _ (Qa (kp5 Z Z Z Z Z) ?_))))))
   refine Qe fun K hK => QH (cs := [_, _, _, _, _, _, _, _, _, _, _, _, _, _]) Z Z Z Z (QH (cs := [_, _, _, _, _]) Z Z Z Z (QA (Qfb (hl.at (i := i) (by omega)).1.1 (hl.at (i := i) (by omega)).1.2 (hl.at (i := i) (by omega)).2.1 (hl.at (i := i) (by omega)).2.2 hp hq) Z Z (.inr Z) (hK _ _ (Qa (kp5 Z Z Z Z Z) ?_))))
   refine Qy Z (fun h3 => ?_) (fun h3 => ?_)
   ·try rw [h3]
    try simp only [qA] at h3
    refine Qe fun K hK => Qd Z (hK _ _ (Qa (kp1 Z) ?_))
    refine Qr (Qt (Qk (QY (Qt (Qk (Qi Z ?_))))))
    first
     | exact (QdF (i := i) (by omega) hI.2).symm
     | exact (QdG h1).symm
     | exact (QdH h1 (i := i) (by omega) h3).symm
   ·try rw [h3]
    try simp only [qA] at h3
    refine Qu (Qm (Qf (kp4 Z Z Z Z) (Ze fun K hK => ZJ Z Z (by first | exact QD (by omega) (by omega) | exact QI (by omega) (by omega) | exact QT (by omega) (by omega) | rfl) (Qd Z (hK _ ?_)))))
    refine Qq (i + 1) ?_ ?_ ?_
    ·exact Zk (l := [3, 10, 11, 12]) (lH := [3]) (kp4 rfl rfl rfl rfl) (Qv rfl Qw) rfl rfl rfl
    ·exact ⟨by omega, Qkc (by omega) hI.2 h3⟩
    ·first | omega | (simp only; omega) | (dsimp only; omega)
  ·try rw [h2]
   try simp only [qA] at h2
   refine Zv (QO (QC (QQ (Qf (QK) (Qe fun K hK => Qd Z (hK _ _ (Qa (kp1 Z) ?_)))))))
   refine Qr (Qi Z ?_)
   first
    | exact (QdF (i := i) (by omega) hI.2).symm
    | exact (QdG h1).symm
    | exact (QdH h1 (i := i) (by omega) h3).symm
theorem QaR {e a b c : Int} {p q : List UInt8} {f : Bool} : Ok Tryd.prog 77 [.agg [.int .i64 e, .int .i64 a, .int .i64 b, .int .i64 c, .str p, .str q, .bool f], gD] (.bool (YY e a b c p q f)) := by
 refine Ok.ofTG (ds := [.agg [.int .i64 e, .int .i64 a, .int .i64 b, .int .i64 c, .str p, .str q, .bool f]]) (dg := gD) Z9 Tryd.func77 Qme (Nat.le_of_ble_eq_true Z) ?_
 show TW _ _ tf77.body _ _
 refine Qe fun K hK => ZU Z Z Z (Qd Z (hK _ _ (Qa (kp2 Z Z) ?_)))
 refine Qe fun K hK => Ql Z Z (QG Z Z Z (YH Z Z (Qd Z ?_)))
 refine Qs (g := 6) Z (fun h1 => ?_) (fun h1 => ?_)
 ·try rw [h1]
  try simp only [qB] at h1
  refine Qp Z (Qp Z (Qp Z (Qp Z (QE Z (QE Z (QE Z (QE Z (Qp Z (Qp Z (QE Z (QE Z ?_)))))))))))
  refine QE Z (QE Z (Qp Z (Qh Z Z (Qd Z (hK _ _ (Qa (kp1 Z) ?_))))))
  refine Qr (Qi Z ?_)
  (repeat clear hK K); simp_all [YY]
 ·try rw [h1]
  try simp only [qB] at h1
  refine Qg Z (Ql Z Z (Qg Z (QG Z Z Z (Qg Z (ZV Z (Qg Z (Qd Z ?_)))))))
  refine Qs (g := 10) Z (fun h2 => ?_) (fun h2 => ?_)
  ·try rw [h2]
   try simp only [qB] at h2
   refine Qg Z (Ql Z Z (Qg Z (Ql Z Z (Qg Z (QG Z Z Z (Qg Z (QbV Z Z (Qg Z (Qh Z Z (Qg Z (Qd Z ?_)))))))))))
   refine Qs (g := 16) Z (fun h3 => ?_) (fun h3 => ?_)
   ·try rw [h3]
    try simp only [qB] at h3
    refine Qg Z (Ql Z Z (Qg Z (QH (cs := [_, _, _, _, _]) Z Z Z Z (Qg Z (QH (cs := [_, _, _, _, _]) Z Z Z Z (Qg Z (Qj6 Z Z Z (Qg Z (Qh Z Z (Qh Z Z (Qd Z ?_)))))))))))
    refine hK _ _ (Qa (kp1 Z) ?_)
    refine Qr (Qi Z ?_)
    (repeat clear hK K); simp_all [YY]
   ·try rw [h3]
    try simp only [qB] at h3
    refine Qp Z (Qp Z (Qp Z (Qp Z (Qg Z (Qh Z Z (Qh Z Z (Qd Z (hK _ _ (Qa (kp1 Z) ?_)))))))))
    refine Qr (Qi Z ?_)
    (repeat clear hK K); simp_all [YY]
  ·try rw [h2]
   try simp only [qB] at h2
   refine Qp Z (Qp Z (Qp Z (Qp Z (Qg Z (Qh Z Z (Qg Z (Qd Z (Qp Z (Qp Z (Qp Z (Qp Z ?_)))))))))))
   refine Qg Z (Qh Z Z (Qh Z Z (Qd Z (hK _ _ (Qa (kp1 Z) ?_)))))
   refine Qr (Qi Z ?_)
   (repeat clear hK K); simp_all [YY]
end Go.Proofs
namespace Go.Proofs
open Go Go.Abs M3 M25
set_option linter.unusedVariables false
set_option linter.unusedSimpArgs false
theorem QgW {s : List (Cu × Cu) × List (Cu × Cu)} (h1s : Sm s.1) (h2s : Sm s.2) : Ok Tryd.prog 59 [Qib s, gD] (.bool (Qfl s)) := by
 refine Ok.ofTG (ds := [Qib s]) (dg := gD) Z9 Tryd.func59 Ql4 (Nat.le_of_ble_eq_true Z) ?_
 show TW _ _ tf59.body _ _
 have hn := h1s.1
 refine Qe fun K hK => ZU Z Z Z (Qd Z (hK _ _ (Qa (kp2 Z Z) ?_)))
 refine QJ ?_ -- 0
 refine Qe fun K hK => Ql Z Z (QG Z Z Z (YG Z Z (Qd Z (hK _ _ (Qa (kp5 Z Z Z Z Z) ?_)))))
 refine QP ?_
 refine Yn (ι := Nat) (fun i => ⟨[(1, .ref 1 0 0), (6, ZG s.1), (7, .int .i64 s.1.length), (8, .int .i64 i), (900000, gD)], [(1, ⟨[[ZG s.1, ZG s.2]], 2, 30, true⟩)]⟩) (fun i => i <= s.1.length /\ (s.1.take i).all (fun x => Z0 x.1 && Z0 x.2) = true) (fun i => s.1.length - i) 0 ?_ ?_ ?_
 ·exact Zk (l := [1, 6, 7, 8, 900000]) (lH := [1]) (kp5 rfl rfl rfl rfl rfl) (Qv rfl Qw) (by simp [ZG, List.length_map]) rfl rfl
 ·exact ⟨Nat.zero_le _, by simp⟩
 intro i hI
 try dsimp only
 refine Qe fun K hK => XJ Z Z (hK _ _ (Qa (kp6 Z Z Z Z Z Z) ?_))
 refine QJ ?_ -- 1
 refine Qy Z (fun h1 => ?_) (fun h1 => ?_)
 ·try rw [h1]
  try simp only [qA] at h1
  refine Qu (Qf (kp5 Z Z Z Z Z) ?_)
  refine QJ ?_ -- 2
  refine QP (Qe fun K hK => Zn Z Z Z (by omega) (QdK (by omega)) Z (QH (cs := [_, _, _, _, _, _, _, _, _, _, _, _, _, _]) Z Z Z Z (Zt Z (QX Z Z Z Z Z Z Z Z (hK _ _ (Qa (kp6 Z Z Z Z Z Z) ?_))))))
  refine Qe fun K hK => Ql Z Z (QH (cs := [_, _, _, _, _, _, _]) Z Z Z Z (QA (QaR) Z Z (.inr Z) (ZV Z (Qd Z ?_))))
  refine Qs (g := 16) Z (fun h2 => ?_) (fun h2 => ?_)
  ·try rw [h2]
   try simp only [qA] at h2
   refine Qp Z (Qp Z (Qp Z (Qp Z (Qh Z Z (hK _ _ (Qa (kp6 Z Z Z Z Z Z) ?_))))))
   refine Zd Z (Qe fun K hK => Qd Z (hK _ _ (Qa (kp1 Z) ?_)))
   refine Qr (Qt (Qk (QY (Qt (Qk (Qi Z ?_))))))
   first
    | exact (YZ (i := i) (by omega) (.inl h2)).symm
    | exact (YZ (i := i) (by omega) (.inr h3)).symm
    | (rw [QbK (i := i) (by omega) hI.2]; simp_all)
  ·try rw [h2]
   try simp only [qA] at h2
   refine Qg Z (Ql Z Z (Qg Z (QH (cs := [_, _, _, _, _, _, _]) Z Z Z Z (Qg Z (QA (QaR) Z Z (.inr Z) (Qg Z (ZV Z (Qh Z Z (hK _ _ (Qa (kp6 Z Z Z Z Z Z) ?_))))))))))
   refine Qy Z (fun h3 => ?_) (fun h3 => ?_)
   ·try rw [h3]
    try simp only [qA] at h3
    refine Qe fun K hK => Qd Z (hK _ _ (Qa (kp1 Z) ?_))
    refine Qr (Qt (Qk (QY (Qt (Qk (Qi Z ?_))))))
    first
     | exact (YZ (i := i) (by omega) (.inl h2)).symm
     | exact (YZ (i := i) (by omega) (.inr h3)).symm
     | (rw [QbK (i := i) (by omega) hI.2]; simp_all)
   ·try rw [h3]
    try simp only [qA] at h3
    refine Qu (Qm (Qf (kp5 Z Z Z Z Z) (Ze fun K hK => ZJ Z Z (by first | exact QD (by omega) (by omega) | exact QI (by omega) (by omega) | exact QT (by omega) (by omega) | rfl) (Qd Z (hK _ ?_)))))
    refine Qq (i + 1) ?_ ?_ ?_
    ·exact Zk (l := [1, 6, 7, 8, 900000]) (lH := [1]) (kp5 rfl rfl rfl rfl rfl) (Qv rfl Qw) rfl rfl rfl
    ·exact ⟨by omega, QS (by omega) hI.2 (by rw [show Z0 s.1[i].1 = true from h2, show Z0 s.1[i].2 = true from h3]; rfl)⟩
    ·first | omega | (simp only; omega) | (dsimp only; omega)
 ·try rw [h1]
  try simp only [qA] at h1
  refine Zv (QO (QC (QQ (Qf (kp1 Z) (Qe fun K hK => Ql Z Z (QG Z Z Z (QA (Qb3 h1s) Z Z (.inr Z) (Qd Z ?_))))))))
  refine Qs (g := 26) Z (fun h4 => ?_) (fun h4 => ?_)
  ·try rw [h4]
   try simp only [qA] at h4
   refine Qg Z (Ql Z Z (Qg Z (QG Z Z Z (Qg Z (QA (Qb3 h2s) Z Z (.inr Z) (Qh Z Z (Qd Z (hK _ _ (Qa (kp1 Z) ?_)))))))))
   refine Qr (Qi Z ?_)
   first
    | exact (YZ (i := i) (by omega) (.inl h2)).symm
    | exact (YZ (i := i) (by omega) (.inr h3)).symm
    | (rw [QbK (i := i) (by omega) hI.2]; simp_all)
  ·try rw [h4]
   try simp only [qA] at h4
   refine Qp Z (Qp Z (Qp Z (Qh Z Z (Qd Z (hK _ _ (Qa (kp1 Z) ?_))))))
   refine Qr (Qi Z ?_)
   first
    | exact (YZ (i := i) (by omega) (.inl h2)).symm
    | exact (YZ (i := i) (by omega) (.inr h3)).symm
    | (rw [QbK (i := i) (by omega) hI.2]; simp_all)
theorem QgV {s : List (Cu × Cu) × List (Cu × Cu)} (h1s : Sm s.1) (h2s : Sm s.2) {a b c : Int} {p q : List UInt8} (hp : p.length <= 1000000) (hq : q.length <= 1000000) : Ok Tryd.prog 42 [Qib s, .agg [.int .i64 a, .int .i64 b, .int .i64 c, .str p, .str q], gD] (.bool (Qgw s a b c p q)) := by
 refine Ok.ofTG (ds := [Qib s, .agg [.int .i64 a, .int .i64 b, .int .i64 c, .str p, .str q]]) (dg := gD) Z9 Tryd.func42 QlU (Nat.le_of_ble_eq_true Z) ?_
 show TW _ _ tf42.body _ _
 refine Qe fun K hK => ZU Z Z Z (ZU Z Z Z (Qd Z (hK _ _ (Qa (kp3 Z Z Z) ?_))))
 refine QJ ?_ -- 0
 refine Qe fun K hK => QH (cs := [_, _]) Z Z Z Z (QA (QgW h1s h2s) Z Z (.inr Z) (ZV Z (Qd Z ?_)))
 refine Qs (g := 8) Z (fun h1 => ?_) (fun h1 => ?_)
 ·try rw [h1]
  try simp only [qB] at h1
  refine Qp Z (Qp Z (Qp Z (Qh Z Z (hK _ _ (Qa (kp3 Z Z Z) ?_)))))
  refine Zd Z (Qe fun K hK => Qd Z (hK _ _ (Qa (kp1 Z) ?_)))
  refine Qr (Qk (Qi Z ?_))
  (repeat clear hK K); simp_all [Qgw]
 ·try rw [h1]
  try simp only [qB] at h1
  refine Qg Z (QH (cs := [_, _, _, _, _]) Z Z Z Z (Qg Z (QA (ZP hp hq) Z Z (.inr Z) (Qg Z (ZV Z (Qh Z Z (hK _ _ (Qa (kp3 Z Z Z) ?_))))))))
  refine Qy Z (fun h2 => ?_) (fun h2 => ?_)
  ·try rw [h2]
   try simp only [qB] at h2
   refine Qe fun K hK => Qd Z (hK _ _ (Qa (kp1 Z) ?_))
   refine Qr (Qk (Qi Z ?_))
   (repeat clear hK K); simp_all [Qgw]
  ·try rw [h2]
   try simp only [qB] at h2
   refine Qu (Qf (kp2 Z Z) ?_)
   refine QJ ?_ -- 1
   refine Qe fun K hK => Ql Z Z (QG Z Z Z (QbV Z Z (hK _ _ (Qa (kp3 Z Z Z) ?_))))
   refine Qy Z (fun h3 => ?_) (fun h3 => ?_)
   ·try rw [h3]
    try simp only [qB] at h3
    refine Qe fun K hK => Ql Z Z (QG Z Z Z (QH (cs := [_, _, _, _, _]) Z Z Z Z (QA (Qer h1s hp hq) Z Z (.inr Z) (Qd Z (hK _ _ (Qa (kp1 Z) ?_))))))
    refine Qr (Qk (Qi Z ?_))
    (repeat clear hK K); simp_all [Qgw]
   ·try rw [h3]
    try simp only [qB] at h3
    refine Qu (Qf (kp2 Z Z) (Qe fun K hK => Ql Z Z (QG Z Z Z (QH (cs := [_, _, _, _, _]) Z Z Z Z (QA (Qer h2s hp hq) Z Z (.inr Z) (Qd Z (hK _ _ (Qa (kp1 Z) ?_))))))))
    refine Qr (Qi Z ?_)
    (repeat clear hK K); simp_all [Qgw]
end Go.Proofs
