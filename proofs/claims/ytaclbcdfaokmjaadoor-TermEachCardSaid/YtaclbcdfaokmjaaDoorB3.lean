/- Part 3 of the means of the proof: a verified abstract evaluator, the prepared functions, and contracts of functions. It states nothing of the claim by itself. -/
import Derived.Test.YtaclbcdfaokmjaaDoorB2
import Derived.KernelRfl
import Derived.Test.YtaclbcdfaokmjaaDoorProg
set_option maxRecDepth 4000
set_option linter.unusedSimpArgs false
set_option linter.unusedVariables false
namespace Go.Proofs
open Go Go.Abs
set_option maxRecDepth 100000
abbrev oo (t : Nat) (op : AOp) : AOper := ⟨some t,op,none⟩
abbrev om (t x : Nat) : AOper := ⟨some t,.mov (.s x),none⟩
abbrev oL (t n x : Nat) : AOper := ⟨some t,.load true n (.s x),none⟩
abbrev ol (t n x : Nat) : AOper := ⟨some t,.load false n (.s x),none⟩
abbrev oA (t n x : Nat) : AOper := ⟨some t,.fieldAddr n (.s x),none⟩
abbrev oe (t n x : Nat) : AOper := ⟨some t,.extract n (.s x),none⟩
abbrev oT (t g : Nat) (op : AOp) : AOper := ⟨some t,op,some (g,true)⟩
abbrev oF (t g : Nat) (op : AOp) : AOper := ⟨some t,op,some (g,false)⟩
def tf5 : TFn := ⟨53,[.cell 4 false 1],.seq (.region false [oo 3 (.box 3 (.s 1)),oo 4 (.alloc 4 [(.bool false)])]) [0,3,4,900000] (.seq (.region false [om 11 0,oo 12 (.call 20 [(.s 11)]),oo 5 (.alloc 22 [(.fsl [])]),⟨none,.store 1 (.s 5) (.s 12),none⟩]) [0,3,4,5,900000] (.seq (
 .region false [om 13 0,oo 14 (.call 21 [(.s 13)]),om 6 14]) [3,4,5,6,900000] (.seq (.seq (.region false [om 15 6,oo 16 (.bin .xor true (.s 15) (.c (.val .nilFunc)))]) [3,4,5,6,16,900000] (.cond (.s 16) (.seq (.region false [⟨none,.store 1 (.s 4) (.c (.bool false)),none⟩]) [4] (.ret)) (
 .skip))) [3,4,5,6,900000] (.seq (.region false [ol 17 1 3,ol 18 1 5,oo 19 (.len (.s 18)),oo 20 (.bin .add false (.s 19) (.c (.int .i64 1))),oo 21 (.call 11 [(.s 17),(.s 20)]),⟨none,.store 1 (.s 3) (.s 21),none⟩]) [3,4,5,6,900000] (.seq (.region false [oo 7 (.alloc 3 [(.int .i64 0)]),
 ⟨none,.store 1 (.s 7) (.c (.int .i64 0)),none⟩]) [3,4,5,6,7,900000] (.seq (.seq (.region false [om 22 6]) [3,4,5,6,7,22,900000] (.block 0 (.rangeF (.s 22) 23 8 (.block 1 (.seq (.seq (.region false [ol 24 1 7,ol 25 1 5,oo 26 (.len (.s 25)),oo 27 (.bin .geq false (.s 24) (.s 26)),om 28 27,
 oF 29 28 (.mov (.s 8)),oF 30 28 (.load false 1 (.s 5)),oF 31 28 (.load false 1 (.s 7)),oF 32 28 (.indexAddr 1 (.s 30) (.s 31)),oF 33 28 (.load false 1 (.s 32)),oF 34 28 (.bin .neq false (.s 29) (.s 33)),oo 35 (.pick (.s 28) (.c (.bool true)) (.s 34))]) [3,4,7,35] (.cond (.s 35) (.seq (
 .region false [⟨none,.store 1 (.s 4) (.c (.bool false)),none⟩]) [] (.ret)) (.skip))) [3,7] (.seq (.seq (.region false [ol 36 1 7,ol 37 1 3,oo 38 (.bin .eql false (.s 36) (.s 37))]) [7,38] (.cond (.s 38) (.exit 0) (.skip))) [7] (.region false [ol 39 1 7,
 oo 40 (.bin .add false (.s 39) (.c (.int .i64 1))),⟨none,.store 1 (.s 7) (.s 40),none⟩]))))))) [4,5,6,900000] (.seq (.region false [oo 9 (.alloc 22 [(.fsl [])])]) [4,5,6,9,900000] (.seq (.seq (.region false [om 41 6]) [4,5,9,41,900000] (.block 2 (.rangeF (.s 41) 42 10 (.block 3 (
 .region false [ol 43 1 9,om 44 10,oo 45 (.buildSlice 1 3 [(.s 44)]),oo 46 (.append 1 3 8 (.s 43) (.s 45)),⟨none,.store 1 (.s 9) (.s 46),none⟩]))))) [4,5,9,900000] (.seq (.region false [ol 47 1 9,ol 48 1 5,oo 49 (.call 22 [(.s 47),(.s 48)]),om 50 49,oT 51 50 (.call 17 [(.s 900000)]),
 oo 52 (.pick (.s 50) (.s 51) (.c (.bool false))),⟨none,.store 1 (.s 4) (.s 52),none⟩]) [4] (.ret))))))))))⟩
def tf11 : TFn := ⟨17,[.tmp 4],.seq (.region false [oo 4 (.mov (.c (.int .i64 0)))]) [0,1] (.seq (.seq (.region false [om 6 1,oo 7 (.bin .lss false (.s 6) (.c (.int .i64 1)))]) [0,1,7] (.cond (.s 7) (.seq (.region false [oo 4 (.mov (.c (.int .i64 0)))]) [4] (.ret)) (.skip))) [0,1] (.seq (
 .region false [om 8 0,om 9 1,oo 10 (.bin .rem false (.s 8) (.s 9)),om 5 10]) [1,5] (.seq (.seq (.region false [om 11 5,oo 12 (.bin .lss false (.s 11) (.c (.int .i64 0)))]) [1,5,12] (.cond (.s 12) (.seq (.region false [om 13 5,om 14 1,oo 15 (.bin .add false (.s 13) (.s 14)),om 4 15]) [4] (.ret)) (
 .skip))) [5] (.seq (.region false [om 16 5,om 4 16]) [4] (.ret)))))⟩
def tf13 : TFn := ⟨18,[.tmp 4],.seq (.region false [oo 2 (.box 25 (.s 0)),oo 4 (.mov (.c (.int .i64 0)))]) [1,2] (.seq (.seq (.region false [oL 5 1 2,om 6 1,oo 7 (.call 39 [(.s 5),(.s 6)]),oo 8 (.un .not (.s 7))]) [1,2,8] (.cond (.s 8) (.seq (.region false [oo 4 (.mov (.c (.int .i64 0)))]) [4] (
 .ret)) (.skip))) [1,2] (.seq (.region false [oA 9 0 2,ol 10 1 9,om 11 1,oo 12 (.indexAddr 3 (.s 10) (.s 11)),oA 13 2 12,ol 14 1 13,oo 15 (.len (.s 14)),oo 16 (.call 40 [(.s 15)]),oo 17 (.bin .sub false (.s 16) (.c (.int .i64 1))),om 4 17]) [4] (.ret)))⟩
def tf15 : TFn := ⟨33,[.tmp 4],.seq (.region false [oo 2 (.box 25 (.s 0)),oo 3 (.box 32 (.s 1)),oo 4 (.mov (.c (.int .i64 0)))]) [2,3,4,900000] (.seq (.region false [oo 5 (.alloc 3 [(.int .i64 0)]),⟨none,.store 1 (.s 5) (.c (.int .i64 0)),none⟩]) [2,3,4,5,900000] (.seq (.seq (
 .region false [oL 7 1 2,oA 8 0 3,ol 9 1 8,oo 10 (.call 13 [(.s 7),(.s 9)]),oo 11 (.bin .andNot false (.s 10) (.c (.int .i64 1))),oo 12 (.call 21 [(.s 11)])]) [2,3,4,5,12,900000] (.block 0 (.rangeF (.s 12) 13 6 (.block 1 (.seq (.region true [oA 14 1 3,oL 15 2 14,oA 16 0 2,ol 17 1 16,oA 18 0 3,
 ol 19 1 18,oo 20 (.indexAddr 3 (.s 17) (.s 19)),oA 21 2 20,ol 22 1 21,om 23 6,oo 24 (.indexAddr 8 (.s 22) (.s 23)),oA 25 0 24,oL 26 5 25,oo 27 (.call 42 [(.s 15),(.s 26),(.s 900000)])]) [5,6,27] (.cond (.s 27) (.region true [ol 28 1 5,om 29 6,oo 30 (.call 40 [(.s 29)]),
 oo 31 (.bin .or false (.s 28) (.s 30)),⟨none,.store 1 (.s 5) (.s 31),none⟩]) (.skip))))))) [5] (.seq (.region false [ol 32 1 5,om 4 32]) [4] (.ret))))⟩
def tf17 : TFn := ⟨35,[.tmp 0],.seq (.region false [oo 0 (.mov (.c (.bool false)))]) [900000] (.seq (.region false [oo 2 (.call 43 []),oo 1 (.alloc 25 [(.fsl [])]),⟨none,.store 1 (.s 1) (.s 2),none⟩]) [1,900000] (.seq (.region true [oL 3 1 1,oo 4 (.call 13 [(.s 3),(.c (.int .i64 1))]),
 oo 5 (.bin .eql false (.s 4) (.c (.int .i64 7))),om 6 5,oT 7 6 (.load true 1 (.s 1)),oT 8 6 (.fieldAddr 0 (.s 1)),oT 9 6 (.load false 1 (.s 8)),oT 10 6 (.indexAddr 3 (.s 9) (.c (.int .i64 1))),oT 11 6 (.fieldAddr 2 (.s 10)),oT 12 6 (.load false 1 (.s 11)),
 oT 13 6 (.indexAddr 8 (.s 12) (.c (.int .i64 1))),oT 14 6 (.fieldAddr 0 (.s 13)),oT 15 6 (.load true 5 (.s 14)),oT 16 6 (.call 36 [(.s 15)]),oT 17 6 (.build [(.int .i64 0),(.fsl []),(.fsl [])] [(0,1,(.c (.int .i64 1))),(1,2,(.s 16))]),oT 18 6 (.call 15 [(.s 7),(.s 17),(.s 900000)]),
 oT 19 6 (.bin .eql false (.s 18) (.c (.int .i64 4))),oo 20 (.pick (.s 6) (.s 19) (.c (.bool false))),om 21 20,oT 22 21 (.load true 1 (.s 1)),oT 23 21 (.buildSlice 1 3 [(.c (.int .i64 0)),(.c (.int .i64 (-1)))]),oT 24 21 (.call 26 [(.s 22),(.s 23),(.c (.int .i64 1))]),
 oT 25 21 (.bin .eql false (.s 24) (.c (.int .i64 1))),oo 26 (.pick (.s 21) (.s 25) (.c (.bool false))),om 27 26,oT 28 27 (.call 18 [(.c (.int .i64 6)),(.c (.int .i64 7))]),oT 29 27 (.bin .eql false (.s 28) (.c (.int .i64 2))),oo 30 (.pick (.s 27) (.s 29) (.c (.bool false))),om 31 30,
 oT 32 31 (.call 18 [(.c (.int .i64 1)),(.c (.int .i64 6))]),oT 33 31 (.bin .eql false (.s 32) (.c (.int .i64 0))),oo 34 (.pick (.s 31) (.s 33) (.c (.bool false))),om 0 34]) [0] (.ret)))⟩
def tf18 : TFn := ⟨15,[.tmp 4],.seq (.region false [oo 4 (.mov (.c (.int .i64 0)))]) [0,1] (.seq (.block 0 (.seq (.region false [om 6 0,om 7 1,oo 8 (.bin .andNot false (.s 6) (.s 7)),oo 9 (.bin .eql false (.s 8) (.c (.int .i64 0))),om 5 9]) [0,1,5] (.cond (.s 5) (.seq (
 .region false [oo 4 (.mov (.c (.int .i64 2)))]) [4] (.ret)) (.seq (.region false [om 11 0,om 12 1,oo 13 (.bin .and false (.s 11) (.s 12)),oo 14 (.bin .eql false (.s 13) (.c (.int .i64 0))),om 10 14]) [10] (.cond (.s 10) (.seq (.region false [oo 4 (.mov (.c (.int .i64 0)))]) [4] (.ret)) (
 .skip)))))) [] (.seq (.region false [oo 4 (.mov (.c (.int .i64 1)))]) [4] (.ret)))⟩
def tf20 : TFn := ⟨20,[.tmp 2],.seq (.region false [oo 2 (.mov (.c (.fsl [])))]) [0] (.seq (.region false [oo 3 (.mov (.c (.fsl [])))]) [0,3] (.seq (.seq (.region false [oo 4 (.mov (.c (.int .i64 0)))]) [0,3,4] (.block 0 (.loop (.seq (.seq (.region false [om 5 4,
 oo 6 (.bin .leq false (.s 5) (.c (.int .i64 16)))]) [0,3,4,6] (.cond (.s 6) (.skip) (.exit 0))) [0,3,4] (.seq (.block 1 (.seq (.region false [om 9 0,om 10 4,oo 11 (.call 41 [(.s 10)]),oo 12 (.bin .and false (.s 9) (.s 11)),oo 13 (.bin .neq false (.s 12) (.c (.int .i64 0)))]) [0,3,4,13] (
 .cond (.s 13) (.region false [om 14 3,om 15 4,oo 16 (.bin .sub false (.s 15) (.c (.int .i64 1))),oo 17 (.buildSlice 1 3 [(.s 16)]),oo 18 (.append 1 3 8 (.s 14) (.s 17)),om 3 18]) (.skip)))) [0,3,4] (.region false [om 7 4,oo 8 (.bin .add false (.s 7) (.c (.int .i64 1))),om 4 8])))))) [3] (.seq (
 .region false [om 19 3,om 2 19]) [2] (.ret))))⟩
def tf21 : TFn := ⟨4,[.tmp 2],.seq (.region false [oo 1 (.box 3 (.s 0)),oo 2 (.mov (.c (.val .nilFunc)))]) [1] (.seq (.region false [oo 3 (.mkfn 44 [(.s 1)]),om 2 3]) [2] (.ret))⟩
def tf22 : TFn := ⟨26,[.tmp 4],.seq (.region false [oo 4 (.mov (.c (.bool false)))]) [0,1] (.seq (.seq (.region false [om 6 0,oo 7 (.len (.s 6)),om 8 1,oo 9 (.len (.s 8)),oo 10 (.bin .neq false (.s 7) (.s 9))]) [0,1,10] (.cond (.s 10) (.seq (.region false [oo 4 (.mov (.c (.bool false)))]) [4] (
 .ret)) (.skip))) [0,1] (.seq (.seq (.region false [oo 5 (.mov (.c (.int .i64 0)))]) [0,1,5] (.block 0 (.loop (.seq (.seq (.region false [om 11 5,om 12 0,oo 13 (.len (.s 12)),oo 14 (.bin .lss false (.s 11) (.s 13))]) [0,1,5,14] (.cond (.s 14) (.skip) (.exit 0))) [0,1,5] (.seq (.block 1 (.seq (
 .region true [om 17 0,om 18 5,oo 19 (.indexAddr 1 (.s 17) (.s 18)),ol 20 1 19,om 21 1,om 22 5,oo 23 (.indexAddr 1 (.s 21) (.s 22)),ol 24 1 23,oo 25 (.bin .neq false (.s 20) (.s 24))]) [0,1,5,25] (.cond (.s 25) (.seq (.region false [oo 4 (.mov (.c (.bool false)))]) [4] (.ret)) (.skip)))) [0,1,5] (
 .region false [om 15 5,oo 16 (.bin .add false (.s 15) (.c (.int .i64 1))),om 5 16])))))) [] (.seq (.region false [oo 4 (.mov (.c (.bool true)))]) [4] (.ret))))⟩
def tf26 : TFn := ⟨43,[.tmp 6],.seq (.region false [oo 3 (.box 25 (.s 0)),oo 6 (.mov (.c (.int .i64 0)))]) [1,2,3] (.seq (.seq (.region true [oL 7 1 3,om 8 2,oo 9 (.call 39 [(.s 7),(.s 8)]),oo 10 (.un .not (.s 9)),om 11 10,oF 12 11 (.mov (.s 2)),oF 13 11 (.mov (.s 1)),oF 14 11 (.len (.s 13)),
 oF 15 11 (.bin .geq false (.s 12) (.s 14)),oo 16 (.pick (.s 11) (.c (.bool true)) (.s 15)),om 17 16,oF 18 17 (.mov (.s 1)),oF 19 17 (.mov (.s 2)),oF 20 17 (.indexAddr 1 (.s 18) (.s 19)),oF 21 17 (.load false 1 (.s 20)),oF 22 17 (.bin .lss false (.s 21) (.c (.int .i64 (-1)))),
 oo 23 (.pick (.s 17) (.c (.bool true)) (.s 22)),om 24 23,oF 25 24 (.mov (.s 1)),oF 26 24 (.mov (.s 2)),oF 27 24 (.indexAddr 1 (.s 25) (.s 26)),oF 28 24 (.load false 1 (.s 27)),oF 29 24 (.fieldAddr 0 (.s 3)),oF 30 24 (.load false 1 (.s 29)),oF 31 24 (.mov (.s 2)),
 oF 32 24 (.indexAddr 3 (.s 30) (.s 31)),oF 33 24 (.fieldAddr 2 (.s 32)),oF 34 24 (.load false 1 (.s 33)),oF 35 24 (.len (.s 34)),oF 36 24 (.bin .geq false (.s 28) (.s 35)),oo 37 (.pick (.s 24) (.c (.bool true)) (.s 36))]) [1,2,37] (.cond (.s 37) (.seq (
 .region false [oo 6 (.mov (.c (.int .i64 0)))]) [6] (.ret)) (.skip))) [1,2] (.seq (.region false [om 38 1,om 39 2,oo 40 (.indexAddr 1 (.s 38) (.s 39)),ol 41 1 40,oo 42 (.call 40 [(.s 41)]),om 6 42]) [6] (.ret)))⟩
def tf36 : TFn := ⟨24,[.cell 2 true 2],.seq (.region false [oo 1 (.box 49 (.s 0)),oo 2 (.alloc 30 [(.fsl []),(.fsl [])])]) [1,2] (.seq (.seq (.region false [oL 3 5 1,oo 4 (.call 46 [(.s 3)]),oo 5 (.un .not (.s 4))]) [1,2,5] (.cond (.s 5) (.seq (.region false [oo 6 (.call 48 []),
 ⟨none,.store 2 (.s 2) (.s 6),none⟩]) [2] (.ret)) (.skip))) [1,2] (.seq (.seq (.region false [oA 7 3 1,ol 8 1 7,oo 9 (.bin .neq false (.s 8) (.c (.str [])))]) [1,2,9] (.cond (.s 9) (.seq (.region true [oL 10 5 1,oo 11 (.call 53 [(.s 10)]),oL 12 5 1,oo 13 (.call 54 [(.s 12)]),
 oo 14 (.build [(.int .i64 0),(.int .i64 0),(.int .i64 0),(.int .i64 0),(.str []),(.str []),(.bool false),(.int .i64 0),(.int .i64 0),(.int .i64 0),(.int .i64 0),(.str []),(.str []),(.bool false)] [(0,7,(.s 11)),(7,7,(.s 13))]),oo 15 (.buildSlice 14 93 [(.s 14)]),
 oo 16 (.build [(.fsl []),(.fsl [])] [(1,1,(.s 15))]),⟨none,.store 2 (.s 2) (.s 16),none⟩]) [2] (.ret)) (.skip))) [1,2] (.seq (.region true [oL 17 5 1,oo 18 (.call 55 [(.s 17)]),oL 19 5 1,oo 20 (.call 56 [(.s 19)]),
 oo 21 (.build [(.int .i64 0),(.int .i64 0),(.int .i64 0),(.int .i64 0),(.str []),(.str []),(.bool false),(.int .i64 0),(.int .i64 0),(.int .i64 0),(.int .i64 0),(.str []),(.str []),(.bool false)] [(0,7,(.s 18)),(7,7,(.s 20))]),oo 22 (.buildSlice 14 93 [(.s 21)]),
 oo 23 (.build [(.fsl []),(.fsl [])] [(0,1,(.s 22))]),⟨none,.store 2 (.s 2) (.s 23),none⟩]) [2] (.ret))))⟩
def tf39 : TFn := ⟨14,[.tmp 4],.seq (.region false [oo 2 (.box 25 (.s 0)),oo 4 (.mov (.c (.bool false)))]) [1,2] (.seq (.region false [om 5 1,oo 6 (.bin .geq false (.s 5) (.c (.int .i64 0))),om 7 6,oT 8 7 (.mov (.s 1)),oT 9 7 (.fieldAddr 0 (.s 2)),oT 10 7 (.load false 1 (.s 9)),
 oT 11 7 (.len (.s 10)),oT 12 7 (.bin .lss false (.s 8) (.s 11)),oo 13 (.pick (.s 7) (.s 12) (.c (.bool false))),om 4 13]) [4] (.ret))⟩
def tf40 : TFn := ⟨6,[.tmp 2],.seq (.region false [oo 2 (.mov (.c (.int .i64 0)))]) [0] (.seq (.region false [om 3 0,oo 4 (.bin .add false (.s 3) (.c (.int .i64 1))),oo 5 (.bin .shl false (.c (.int .i64 1)) (.s 4)),om 2 5]) [2] (.ret))⟩
def tf41 : TFn := ⟨13,[.tmp 2],.seq (.region false [oo 2 (.mov (.c (.int .i64 0)))]) [0] (.seq (.region false [oo 3 (.mov (.c (.int .i64 1)))]) [0,3] (.seq (.seq (.region false [oo 4 (.mov (.c (.int .i64 0)))]) [0,3,4] (.block 0 (.loop (.seq (.seq (.region false [om 5 4,om 6 0,
 oo 7 (.bin .lss false (.s 5) (.s 6))]) [0,3,4,7] (.cond (.s 7) (.skip) (.exit 0))) [0,3,4] (.seq (.block 1 (.region false [om 10 3,oo 11 (.bin .mul false (.s 10) (.c (.int .i64 2))),om 3 11])) [0,3,4] (.region false [om 8 4,oo 9 (.bin .add false (.s 8) (.c (.int .i64 1))),om 4 9])))))) [3] (.seq (
 .region false [om 12 3,om 2 12]) [2] (.ret))))⟩
def tf42 : TFn := ⟨24,[.tmp 4],.seq (.region false [oo 2 (.box 30 (.s 0)),oo 3 (.box 49 (.s 1)),oo 4 (.mov (.c (.bool false)))]) [2,3,900000] (.seq (.seq (.region false [oL 5 2 2,oo 6 (.call 59 [(.s 5),(.s 900000)]),oo 7 (.un .not (.s 6)),om 8 7,oF 9 8 (.load true 5 (.s 3)),
 oF 10 8 (.call 60 [(.s 9)]),oF 11 8 (.un .not (.s 10)),oo 12 (.pick (.s 8) (.c (.bool true)) (.s 11))]) [2,3,12] (.cond (.s 12) (.seq (.region false [oo 4 (.mov (.c (.bool false)))]) [4] (.ret)) (.skip))) [2,3] (.seq (.seq (.region false [oA 13 3 3,ol 14 1 13,
 oo 15 (.bin .eql false (.s 14) (.c (.str [])))]) [2,3,15] (.cond (.s 15) (.seq (.region false [oA 16 0 2,ol 17 1 16,oL 18 5 3,oo 19 (.call 61 [(.s 17),(.s 18)]),om 4 19]) [4] (.ret)) (.skip))) [2,3] (.seq (.region false [oA 20 1 2,ol 21 1 20,oL 22 5 3,oo 23 (.call 61 [(.s 21),(.s 22)]),
 om 4 23]) [4] (.ret))))⟩
def tf43 : TFn := ⟨18,[.cell 0 true 1],.seq (.region false [oo 0 (.alloc 25 [(.fsl [])])]) [0] (.seq (.region false [oo 2 (.call 52 []),om 1 2]) [0,1] (.seq (
 .region true [oo 3 (.build [(.int .i64 0),(.int .i64 0),(.int .i64 0),(.str []),(.str []),(.int .i64 0),(.fsl []),(.fsl [])] [(5,1,(.c (.int .i64 (-1))))]),oo 4 (.buildSlice 8 53 [(.s 3)]),oo 5 (.build [(.str []),(.str []),(.fsl [])] [(2,1,(.s 4))]),om 6 1,
 oo 7 (.indexAddr 5 (.s 6) (.c (.int .i64 0))),oL 8 5 7,oo 9 (.build [(.int .i64 0),(.int .i64 0),(.int .i64 0),(.str []),(.str []),(.int .i64 0),(.fsl []),(.fsl [])] [(0,5,(.s 8))]),om 10 1,oo 11 (.indexAddr 5 (.s 10) (.c (.int .i64 1))),oL 12 5 11,
 oo 13 (.build [(.int .i64 0),(.int .i64 0),(.int .i64 0),(.str []),(.str []),(.int .i64 0),(.fsl []),(.fsl [])] [(0,5,(.s 12))]),oo 14 (.buildSlice 8 53 [(.s 9),(.s 13)]),oo 15 (.build [(.str []),(.str []),(.fsl [])] [(0,1,(.c (.str [97,110,116]))),(2,1,(.s 14))]),
 oo 16 (.buildSlice 3 56 [(.s 5),(.s 15)]),oo 17 (.build [(.fsl [])] [(0,1,(.s 16))]),⟨none,.store 1 (.s 0) (.s 17),none⟩]) [0] (.ret)))⟩
def tf44 : TFn := ⟨19,[],.seq (.region false [oo 3 (.mov (.c (.int .i64 (-1))))]) [0,1,3] (.block 0 (.loop (.seq (.seq (.region false [om 4 3,oo 5 (.bin .lss false (.s 4) (.c (.int .i64 16)))]) [0,1,3,5] (.cond (.s 5) (.skip) (.exit 0))) [0,1,3] (.seq (.block 1 (.seq (.region true [ol 8 1 1,om 9 3,
 oo 10 (.call 40 [(.s 9)]),oo 11 (.bin .and false (.s 8) (.s 10)),oo 12 (.bin .neq false (.s 11) (.c (.int .i64 0))),om 13 12,oT 14 13 (.mov (.s 0)),oT 15 13 (.mov (.s 3)),oT 16 13 (.callV (.s 14) [(.s 15)]),oT 17 13 (.un .not (.s 16)),oo 18 (.pick (.s 13) (.s 17) (.c (.bool false)))]) [0,1,3,18] (
 .cond (.s 18) (.ret) (.skip)))) [0,1,3] (.region false [om 6 3,oo 7 (.bin .add false (.s 6) (.c (.int .i64 1))),om 3 7])))))⟩
def tf46 : TFn := ⟨26,[.tmp 2],.seq (.region false [oo 1 (.box 49 (.s 0)),oo 2 (.mov (.c (.bool false)))]) [1] (.seq (.region false [oA 3 0 1,ol 4 1 3,oo 5 (.call 64 [(.s 4)]),om 6 5,oT 7 6 (.fieldAddr 1 (.s 1)),oT 8 6 (.load false 1 (.s 7)),oT 9 6 (.call 64 [(.s 8)]),
 oo 10 (.pick (.s 6) (.s 9) (.c (.bool false))),om 11 10,oT 12 11 (.fieldAddr 2 (.s 1)),oT 13 11 (.load false 1 (.s 12)),oT 14 11 (.call 64 [(.s 13)]),oo 15 (.pick (.s 11) (.s 14) (.c (.bool false))),om 16 15,oT 17 16 (.fieldAddr 3 (.s 1)),oT 18 16 (.load false 1 (.s 17)),
 oT 19 16 (.call 65 [(.s 18),(.c (.bool true))]),oo 20 (.pick (.s 16) (.s 19) (.c (.bool false))),om 21 20,oT 22 21 (.fieldAddr 4 (.s 1)),oT 23 21 (.load false 1 (.s 22)),oT 24 21 (.call 65 [(.s 23),(.c (.bool false))]),oo 25 (.pick (.s 21) (.s 24) (.c (.bool false))),om 2 25]) [2] (.ret))⟩
def tf48 : TFn := ⟨2,[.cell 0 true 2],.seq (.region false [oo 0 (.alloc 30 [(.fsl []),(.fsl [])])]) [0] (.seq (.region false [oo 1 (.build [(.fsl []),(.fsl [])] []),⟨none,.store 2 (.s 0) (.s 1),none⟩]) [0] (.ret))⟩
def tf52 : TFn := ⟨6,[.tmp 0],.seq (.region false [oo 0 (.mov (.c (.fsl [])))]) [] (.seq (.region false [oo 1 (.build [(.int .i64 0),(.int .i64 0),(.int .i64 0),(.str []),(.str [])] [(0,1,(.c (.int .i64 1)))]),
 oo 2 (.build [(.int .i64 0),(.int .i64 0),(.int .i64 0),(.str []),(.str [])] [(0,1,(.c (.int .i64 1))),(1,1,(.c (.int .i64 2)))]),oo 3 (.build [(.int .i64 0),(.int .i64 0),(.int .i64 0),(.str []),(.str [])] [(0,1,(.c (.int .i64 2))),(3,1,(.c (.str [97,46,49])))]),
 oo 4 (.build [(.int .i64 0),(.int .i64 0),(.int .i64 0),(.str []),(.str [])] [(0,1,(.c (.int .i64 2)))]),oo 5 (.buildSlice 5 49 [(.s 1),(.s 2),(.s 3),(.s 4)]),om 0 5]) [0] (.ret))⟩
def tf53 : TFn := ⟨6,[.cell 2 true 7],.seq (.region false [oo 1 (.box 49 (.s 0)),oo 2 (.alloc 90 [(.int .i64 0),(.int .i64 0),(.int .i64 0),(.int .i64 0),(.str []),(.str []),(.bool false)])]) [1,2] (.seq (.region false [oL 3 5 1,oo 4 (.call 71 [(.s 3)]),
 oo 5 (.build [(.int .i64 0),(.int .i64 0),(.int .i64 0),(.int .i64 0),(.str []),(.str []),(.bool false)] [(1,5,(.s 4))]),⟨none,.store 7 (.s 2) (.s 5),none⟩]) [2] (.ret))⟩
def tf54 : TFn := ⟨6,[.cell 2 true 7],.seq (.region false [oo 1 (.box 49 (.s 0)),oo 2 (.alloc 90 [(.int .i64 0),(.int .i64 0),(.int .i64 0),(.int .i64 0),(.str []),(.str []),(.bool false)])]) [1,2] (.seq (.region false [oL 3 5 1,oo 4 (.call 71 [(.s 3)]),
 oo 5 (.build [(.int .i64 0),(.int .i64 0),(.int .i64 0),(.int .i64 0),(.str []),(.str []),(.bool false)] [(1,5,(.s 4)),(6,1,(.c (.bool true)))]),⟨none,.store 7 (.s 2) (.s 5),none⟩]) [2] (.ret))⟩
def tf55 : TFn := ⟨14,[.cell 2 true 7],.seq (.region false [oo 1 (.box 49 (.s 0)),oo 2 (.alloc 90 [(.int .i64 0),(.int .i64 0),(.int .i64 0),(.int .i64 0),(.str []),(.str []),(.bool false)])]) [1,2] (.seq (.seq (.region false [oL 3 5 1,oo 4 (.call 72 [(.s 3)])]) [1,2,4] (.cond (.s 4) (.seq (
 .region false [oo 5 (.call 73 []),⟨none,.store 7 (.s 2) (.s 5),none⟩]) [2] (.ret)) (.skip))) [1,2] (.seq (.region false [oA 6 0 1,ol 7 1 6,oA 8 1 1,ol 9 1 8,oA 10 2 1,ol 11 1 10,
 oo 12 (.build [(.int .i64 0),(.int .i64 0),(.int .i64 0),(.str []),(.str [])] [(0,1,(.s 7)),(1,1,(.s 9)),(2,1,(.s 11))]),oo 13 (.call 53 [(.s 12)]),⟨none,.store 7 (.s 2) (.s 13),none⟩]) [2] (.ret)))⟩
def tf56 : TFn := ⟨21,[.cell 2 true 7],.seq (.region false [oo 1 (.box 49 (.s 0)),oo 2 (.alloc 90 [(.int .i64 0),(.int .i64 0),(.int .i64 0),(.int .i64 0),(.str []),(.str []),(.bool false)])]) [1,2] (.seq (.region false [oA 6 0 1,ol 7 1 6,oA 8 1 1,ol 9 1 8,oA 10 2 1,ol 11 1 10,
 oo 12 (.build [(.int .i64 0),(.int .i64 0),(.int .i64 0),(.str []),(.str [])] [(0,1,(.s 7)),(1,1,(.s 9)),(2,1,(.s 11))]),oo 13 (.call 74 [(.s 12)]),om 5 13,oe 14 0 5,oe 15 1 5,oo 3 (.alloc 49 [(.int .i64 0),(.int .i64 0),(.int .i64 0),(.str []),(.str [])]),⟨none,.store 5 (.s 3) (.s 14),none⟩,
 om 4 15]) [2,3,4] (.seq (.seq (.region false [om 16 4,oo 17 (.un .not (.s 16))]) [2,3,17] (.cond (.s 17) (.seq (.region false [oo 18 (.call 75 []),⟨none,.store 7 (.s 2) (.s 18),none⟩]) [2] (.ret)) (.skip))) [2,3] (.seq (.region false [oL 19 5 3,oo 20 (.call 53 [(.s 19)]),
 ⟨none,.store 7 (.s 2) (.s 20),none⟩]) [2] (.ret))))⟩
def tf59 : TFn := ⟨31,[.tmp 2],.seq (.region false [oo 1 (.box 30 (.s 0)),oo 2 (.mov (.c (.bool false)))]) [1,900000] (.seq (.seq (.region false [oA 5 0 1,ol 6 1 5,oo 7 (.len (.s 6)),oo 8 (.mov (.c (.int .i64 0)))]) [1,6,7,8,900000] (.block 0 (.loop (.seq (
 .region false [oo 9 (.bin .lss false (.s 8) (.s 7))]) [1,6,7,8,9,900000] (.seq (.cond (.s 9) (.skip) (.exit 0)) [1,6,7,8,900000] (.seq (.block 1 (.seq (.region false [oo 10 (.indexAddr 14 (.s 6) (.s 8)),oL 11 14 10,
 oo 4 (.alloc 93 [(.int .i64 0),(.int .i64 0),(.int .i64 0),(.int .i64 0),(.str []),(.str []),(.bool false),(.int .i64 0),(.int .i64 0),(.int .i64 0),(.int .i64 0),(.str []),(.str []),(.bool false)]),⟨none,.store 14 (.s 4) (.s 11),none⟩]) [1,4,6,7,8,900000] (.seq (.region false [oA 12 0 4,
 oL 13 7 12,oo 14 (.call 77 [(.s 13),(.s 900000)]),oo 15 (.un .not (.s 14)),om 16 15,oF 17 16 (.fieldAddr 7 (.s 4)),oF 18 16 (.load true 7 (.s 17)),oF 19 16 (.call 77 [(.s 18),(.s 900000)]),oF 20 16 (.un .not (.s 19)),oo 21 (.pick (.s 16) (.c (.bool true)) (.s 20))]) [1,6,7,8,21,900000] (
 .cond (.s 21) (.seq (.region false [oo 2 (.mov (.c (.bool false)))]) [2] (.ret)) (.skip))))) [1,6,7,8,900000] (.region false [oo 22 (.bin .add false (.s 8) (.c (.int .i64 1))),om 8 22]))))))) [1] (.seq (.region false [oA 23 0 1,ol 24 1 23,oo 25 (.call 78 [(.s 24)]),om 26 25,
 oT 27 26 (.fieldAddr 1 (.s 1)),oT 28 26 (.load false 1 (.s 27)),oT 29 26 (.call 78 [(.s 28)]),oo 30 (.pick (.s 26) (.s 29) (.c (.bool false))),om 2 30]) [2] (.ret)))⟩
def tf60 : TFn := ⟨36,[.tmp 2],.seq (.region false [oo 1 (.box 49 (.s 0)),oo 2 (.mov (.c (.bool false)))]) [1] (.seq (.region false [oA 3 0 1,ol 4 1 3,oo 5 (.call 79 [(.s 4)]),om 6 5,oT 7 6 (.fieldAddr 1 (.s 1)),oT 8 6 (.load false 1 (.s 7)),oT 9 6 (.call 79 [(.s 8)]),
 oo 10 (.pick (.s 6) (.s 9) (.c (.bool false))),om 11 10,oT 12 11 (.fieldAddr 2 (.s 1)),oT 13 11 (.load false 1 (.s 12)),oT 14 11 (.call 79 [(.s 13)]),oo 15 (.pick (.s 11) (.s 14) (.c (.bool false))),om 16 15,oT 17 16 (.fieldAddr 3 (.s 1)),oT 18 16 (.load false 1 (.s 17)),
 oT 19 16 (.bin .eql false (.s 18) (.c (.str []))),oT 20 16 (.mov (.s 19)),oF 21 20 (.fieldAddr 3 (.s 1)),oF 22 20 (.load false 1 (.s 21)),oF 23 20 (.call 80 [(.s 22)]),oT 24 16 (.pick (.s 20) (.c (.bool true)) (.s 23)),oo 25 (.pick (.s 16) (.s 24) (.c (.bool false))),om 26 25,
 oT 27 26 (.fieldAddr 4 (.s 1)),oT 28 26 (.load false 1 (.s 27)),oT 29 26 (.bin .eql false (.s 28) (.c (.str []))),oT 30 26 (.mov (.s 29)),oF 31 30 (.fieldAddr 4 (.s 1)),oF 32 30 (.load false 1 (.s 31)),oF 33 30 (.call 81 [(.s 32)]),oT 34 26 (.pick (.s 30) (.c (.bool true)) (.s 33)),
 oo 35 (.pick (.s 26) (.s 34) (.c (.bool false))),om 2 35]) [2] (.ret))⟩
def tf61 : TFn := ⟨20,[.tmp 4],.seq (.region false [oo 3 (.box 49 (.s 1)),oo 4 (.mov (.c (.bool false)))]) [0,3] (.seq (.seq (.region false [om 7 0,oo 8 (.call 78 [(.s 7)]),oo 9 (.un .not (.s 8))]) [0,3,9] (.cond (.s 9) (.seq (.region false [oo 4 (.mov (.c (.bool false)))]) [4] (.ret)) (
 .skip))) [0,3] (.seq (.seq (.region false [om 10 0,oo 11 (.len (.s 10)),oo 12 (.mov (.c (.int .i64 0)))]) [3,10,11,12] (.block 0 (.loop (.seq (.region false [oo 13 (.bin .lss false (.s 12) (.s 11))]) [3,10,11,12,13] (.seq (.cond (.s 13) (.skip) (.exit 0)) [3,10,11,12] (.seq (.block 1 (.seq (
 .region false [oo 14 (.indexAddr 14 (.s 10) (.s 12)),oL 15 14 14,oo 6 (.alloc 93 [(.int .i64 0),(.int .i64 0),(.int .i64 0),(.int .i64 0),(.str []),(.str []),(.bool false),(.int .i64 0),(.int .i64 0),(.int .i64 0),(.int .i64 0),(.str []),(.str []),(.bool false)]),
 ⟨none,.store 14 (.s 6) (.s 15),none⟩]) [3,6,10,11,12] (.seq (.region false [oL 16 14 6,oL 17 5 3,oo 18 (.call 82 [(.s 16),(.s 17)])]) [3,10,11,12,18] (.cond (.s 18) (.seq (.region false [oo 4 (.mov (.c (.bool true)))]) [4] (.ret)) (.skip))))) [3,10,11,12] (
 .region false [oo 19 (.bin .add false (.s 12) (.c (.int .i64 1))),om 12 19]))))))) [] (.seq (.region false [oo 4 (.mov (.c (.bool false)))]) [4] (.ret))))⟩
def tf64 : TFn := ⟨9,[.tmp 2],.seq (.region false [oo 2 (.mov (.c (.bool false)))]) [0] (.seq (.region false [om 3 0,oo 4 (.bin .geq false (.s 3) (.c (.int .i64 0))),om 5 4,oT 6 5 (.mov (.s 0)),oT 7 5 (.bin .leq false (.s 6) (.c (.int .i64 9999))),oo 8 (.pick (.s 5) (.s 7) (.c (.bool false))),
 om 2 8]) [2] (.ret))⟩
def tf65 : TFn := ⟨48,[.tmp 4],.seq (.region false [oo 4 (.mov (.c (.bool false)))]) [0,1] (.seq (.seq (.region false [om 9 0,oo 10 (.bin .eql false (.s 9) (.c (.str [])))]) [0,1,10] (.cond (.s 10) (.seq (.region false [oo 4 (.mov (.c (.bool true)))]) [4] (.ret)) (.skip))) [0,1] (.seq (
 .region false [om 11 0,oo 12 (.call 85 [(.s 11),(.c (.int .u8 46))]),om 5 12]) [1,5] (.seq (.seq (.region false [om 13 5,oo 14 (.len (.s 13)),oo 15 (.bin .gtr false (.s 14) (.c (.int .i64 4)))]) [1,5,15] (.cond (.s 15) (.seq (.region false [oo 4 (.mov (.c (.bool false)))]) [4] (.ret)) (
 .skip))) [1,5] (.seq (.seq (.region false [oo 6 (.mov (.c (.int .i64 0)))]) [1,5,6] (.block 0 (.loop (.seq (.seq (.region false [om 16 6,om 17 5,oo 18 (.len (.s 17)),oo 19 (.bin .lss false (.s 16) (.s 18))]) [1,5,6,19] (.cond (.s 19) (.skip) (.exit 0))) [1,5,6] (.seq (.block 1 (.seq (.seq (
 .region false [om 22 5,om 23 6,oo 24 (.indexAddr 1 (.s 22) (.s 23)),ol 25 1 24,oo 26 (.call 86 [(.s 25)]),oo 27 (.un .not (.s 26))]) [1,5,6,27] (.cond (.s 27) (.seq (.region false [oo 4 (.mov (.c (.bool false)))]) [4] (.ret)) (.skip))) [1,5,6] (.seq (.region false [om 29 5,om 30 6,
 oo 31 (.indexAddr 1 (.s 29) (.s 30)),ol 32 1 31,oo 33 (.call 87 [(.s 32)]),om 28 33,oe 34 0 28,oe 35 1 28,om 7 34,om 8 35]) [1,5,6,8] (.seq (.region false [om 36 1,om 37 36,oT 38 37 (.mov (.s 5)),oT 39 37 (.mov (.s 6)),oT 40 37 (.indexAddr 1 (.s 38) (.s 39)),oT 41 37 (.load false 1 (.s 40)),
 oT 42 37 (.call 88 [(.s 41)]),oo 43 (.pick (.s 37) (.s 42) (.c (.bool false))),om 44 43,oT 45 44 (.mov (.s 8)),oT 46 44 (.un .not (.s 45)),oo 47 (.pick (.s 44) (.s 46) (.c (.bool false)))]) [1,5,6,47] (.cond (.s 47) (.seq (.region false [oo 4 (.mov (.c (.bool false)))]) [4] (.ret)) (
 .skip)))))) [1,5,6] (.region false [om 20 6,oo 21 (.bin .add false (.s 20) (.c (.int .i64 1))),om 6 21])))))) [] (.seq (.region false [oo 4 (.mov (.c (.bool true)))]) [4] (.ret))))))⟩
def tf71 : TFn := ⟨5,[.cell 2 true 5],.seq (.region false [oo 1 (.box 49 (.s 0)),oo 2 (.alloc 49 [(.int .i64 0),(.int .i64 0),(.int .i64 0),(.str []),(.str [])])]) [1,2] (.seq (.region false [oA 3 4 1,⟨none,.store 1 (.s 3) (.c (.str [])),none⟩]) [1,2] (.seq (.region false [oL 4 5 1,
 ⟨none,.store 5 (.s 2) (.s 4),none⟩]) [2] (.ret)))⟩
def tf72 : TFn := ⟨16,[.tmp 2],.seq (.region false [oo 1 (.box 49 (.s 0)),oo 2 (.mov (.c (.bool false)))]) [1] (.seq (.region false [oA 3 0 1,ol 4 1 3,oo 5 (.bin .eql false (.s 4) (.c (.int .i64 0))),om 6 5,oT 7 6 (.fieldAddr 1 (.s 1)),oT 8 6 (.load false 1 (.s 7)),
 oT 9 6 (.bin .eql false (.s 8) (.c (.int .i64 0))),oo 10 (.pick (.s 6) (.s 9) (.c (.bool false))),om 11 10,oT 12 11 (.fieldAddr 2 (.s 1)),oT 13 11 (.load false 1 (.s 12)),oT 14 11 (.bin .eql false (.s 13) (.c (.int .i64 0))),oo 15 (.pick (.s 11) (.s 14) (.c (.bool false))),om 2 15]) [2] (.ret))⟩
def tf73 : TFn := ⟨2,[.cell 0 true 7],.seq (.region false [oo 0 (.alloc 90 [(.int .i64 0),(.int .i64 0),(.int .i64 0),(.int .i64 0),(.str []),(.str []),(.bool false)])]) [0] (.seq (
 .region false [oo 1 (.build [(.int .i64 0),(.int .i64 0),(.int .i64 0),(.int .i64 0),(.str []),(.str []),(.bool false)] [(0,1,(.c (.int .i64 (-1))))]),⟨none,.store 7 (.s 0) (.s 1),none⟩]) [0] (.ret))⟩
def tf74 : TFn := ⟨34,[.cell 2 true 5,.tmp 3],.seq (.region false [oo 1 (.box 49 (.s 0)),oo 2 (.alloc 49 [(.int .i64 0),(.int .i64 0),(.int .i64 0),(.str []),(.str [])]),oo 3 (.mov (.c (.bool false)))]) [1,2] (.seq (.seq (.region false [oL 7 5 1,oo 8 (.call 46 [(.s 7)]),
 oo 9 (.un .not (.s 8))]) [1,2,9] (.cond (.s 9) (.seq (.region false [oo 10 (.build [(.int .i64 0),(.int .i64 0),(.int .i64 0),(.str []),(.str [])] []),⟨none,.store 5 (.s 2) (.s 10),none⟩,oo 3 (.mov (.c (.bool false)))]) [2,3] (.ret)) (.skip))) [1,2] (.seq (.seq (.region false [oA 11 3 1,
 ol 12 1 11,oo 13 (.bin .neq false (.s 12) (.c (.str [])))]) [1,2,13] (.cond (.s 13) (.seq (.region false [oA 14 0 1,ol 15 1 14,oA 16 1 1,ol 17 1 16,oA 18 2 1,ol 19 1 18,oo 20 (.build [(.int .i64 0),(.int .i64 0),(.int .i64 0),(.str []),(.str [])] [(0,1,(.s 15)),(1,1,(.s 17)),(2,1,(.s 19))]),
 ⟨none,.store 5 (.s 2) (.s 20),none⟩,oo 3 (.mov (.c (.bool true)))]) [2,3] (.ret)) (.skip))) [1,2] (.seq (.seq (.region false [oo 4 (.mov (.c (.int .i64 2)))]) [1,2,4] (.block 0 (.loop (.seq (.seq (.region false [om 21 4,oo 22 (.bin .geq false (.s 21) (.c (.int .i64 0)))]) [1,2,4,22] (
 .cond (.s 22) (.skip) (.exit 0))) [1,2,4] (.seq (.block 1 (.seq (.region false [oL 26 5 1,om 27 4,oo 28 (.call 91 [(.s 26),(.s 27)]),om 25 28,oe 29 0 25,oe 30 1 25,oo 5 (.alloc 49 [(.int .i64 0),(.int .i64 0),(.int .i64 0),(.str []),(.str [])]),⟨none,.store 5 (.s 5) (.s 29),none⟩,
 om 6 30]) [1,2,4,5,6] (.seq (.region false [om 31 6]) [1,2,4,5,31] (.cond (.s 31) (.seq (.region false [oL 32 5 5,⟨none,.store 5 (.s 2) (.s 32),none⟩,oo 3 (.mov (.c (.bool true)))]) [2,3] (.ret)) (.skip))))) [1,2,4] (.region false [om 23 4,oo 24 (.bin .sub false (.s 23) (.c (.int .i64 1))),
 om 4 24])))))) [2] (.seq (.region false [oo 33 (.build [(.int .i64 0),(.int .i64 0),(.int .i64 0),(.str []),(.str [])] []),⟨none,.store 5 (.s 2) (.s 33),none⟩,oo 3 (.mov (.c (.bool false)))]) [2,3] (.ret)))))⟩
def tf75 : TFn := ⟨2,[.cell 0 true 7],.seq (.region false [oo 0 (.alloc 90 [(.int .i64 0),(.int .i64 0),(.int .i64 0),(.int .i64 0),(.str []),(.str []),(.bool false)])]) [0] (.seq (
 .region false [oo 1 (.build [(.int .i64 0),(.int .i64 0),(.int .i64 0),(.int .i64 0),(.str []),(.str []),(.bool false)] [(0,1,(.c (.int .i64 1)))]),⟨none,.store 7 (.s 0) (.s 1),none⟩]) [0] (.ret))⟩
def tf77 : TFn := ⟨23,[.tmp 2],.seq (.region false [oo 1 (.box 90 (.s 0)),oo 2 (.mov (.c (.bool false)))]) [1,900000] (.seq (.region false [oA 3 0 1,ol 4 1 3,oo 5 (.bin .neq false (.s 4) (.c (.int .i64 0))),om 6 5,oF 7 6 (.fieldAddr 6 (.s 1)),oF 8 6 (.load false 1 (.s 7)),oF 9 6 (.un .not (.s 8)),
 oF 10 6 (.mov (.s 9)),oT 11 10 (.fieldAddr 1 (.s 1)),oT 12 10 (.fieldAddr 3 (.s 11)),oT 13 10 (.load false 1 (.s 12)),oT 14 10 (.bin .eql false (.s 13) (.c (.str []))),oF 15 6 (.pick (.s 10) (.s 14) (.c (.bool false))),oF 16 6 (.mov (.s 15)),oT 17 16 (.fieldAddr 1 (.s 1)),
 oT 18 16 (.load true 5 (.s 17)),oT 19 16 (.load true 5 (.s 900000)),oT 20 16 (.eqs true [0,0,0,2,2] (.s 18) (.s 19)),oF 21 6 (.pick (.s 16) (.s 20) (.c (.bool false))),oo 22 (.pick (.s 6) (.c (.bool true)) (.s 21)),om 2 22]) [2] (.ret))⟩
def tf78 : TFn := ⟨32,[.tmp 2],.seq (.region false [oo 2 (.mov (.c (.bool false)))]) [0] (.seq (.seq (.region false [om 5 0,oo 6 (.len (.s 5)),oo 7 (.mov (.c (.int .i64 0)))]) [0,5,6,7] (.block 0 (.loop (.seq (.region false [oo 8 (.bin .lss false (.s 7) (.s 6))]) [0,5,6,7,8] (.seq (.cond (.s 8) (
 .skip) (.exit 0)) [0,5,6,7] (.seq (.block 1 (.seq (.region false [om 9 7,oo 10 (.indexAddr 14 (.s 5) (.s 7)),oL 11 14 10,
 oo 4 (.alloc 93 [(.int .i64 0),(.int .i64 0),(.int .i64 0),(.int .i64 0),(.str []),(.str []),(.bool false),(.int .i64 0),(.int .i64 0),(.int .i64 0),(.int .i64 0),(.str []),(.str []),(.bool false)]),om 3 9,⟨none,.store 14 (.s 4) (.s 11),none⟩]) [0,3,4,5,6,7] (.seq (.region true [oL 12 14 4,
 oo 13 (.call 93 [(.s 12)]),oo 14 (.un .not (.s 13)),om 15 14,oF 16 15 (.mov (.s 3)),oF 17 15 (.bin .gtr false (.s 16) (.c (.int .i64 0))),oF 18 15 (.mov (.s 17)),oT 19 18 (.mov (.s 0)),oT 20 18 (.mov (.s 3)),oT 21 18 (.bin .sub false (.s 20) (.c (.int .i64 1))),
 oT 22 18 (.indexAddr 14 (.s 19) (.s 21)),oT 23 18 (.fieldAddr 7 (.s 22)),oT 24 18 (.load true 7 (.s 23)),oT 25 18 (.fieldAddr 0 (.s 4)),oT 26 18 (.load true 7 (.s 25)),oT 27 18 (.call 94 [(.s 24),(.s 26)]),oT 28 18 (.bin .geq false (.s 27) (.c (.int .i64 0))),
 oF 29 15 (.pick (.s 18) (.s 28) (.c (.bool false))),oo 30 (.pick (.s 15) (.c (.bool true)) (.s 29))]) [0,5,6,7,30] (.cond (.s 30) (.seq (.region false [oo 2 (.mov (.c (.bool false)))]) [2] (.ret)) (.skip))))) [0,5,6,7] (.region false [oo 31 (.bin .add false (.s 7) (.c (.int .i64 1))),
 om 7 31]))))))) [] (.seq (.region false [oo 2 (.mov (.c (.bool true)))]) [2] (.ret)))⟩
def tf79 : TFn := ⟨9,[.tmp 2],.seq (.region false [oo 2 (.mov (.c (.bool false)))]) [0] (.seq (.region false [om 3 0,oo 4 (.bin .geq false (.s 3) (.c (.int .i64 0))),om 5 4,oT 6 5 (.mov (.s 0)),oT 7 5 (.bin .leq false (.s 6) (.c (.int .i64 9999))),oo 8 (.pick (.s 5) (.s 7) (.c (.bool false))),
 om 2 8]) [2] (.ret))⟩
def tf80 : TFn := ⟨29,[.tmp 2],.seq (.region false [oo 2 (.mov (.c (.bool false)))]) [0] (.seq (.seq (.region false [om 7 0,oo 8 (.call 81 [(.s 7)]),oo 9 (.un .not (.s 8))]) [0,9] (.cond (.s 9) (.seq (.region false [oo 2 (.mov (.c (.bool false)))]) [2] (.ret)) (.skip))) [0] (.seq (.seq (
 .region false [om 10 0,oo 11 (.call 95 [(.s 10),(.c (.int .u8 46))]),oo 12 (.len (.s 11)),oo 13 (.mov (.c (.int .i64 0)))]) [11,12,13] (.block 0 (.loop (.seq (.region false [oo 14 (.bin .lss false (.s 13) (.s 12))]) [11,12,13,14] (.seq (.cond (.s 14) (.skip) (.exit 0)) [11,12,13] (.seq (.block 1 (
 .seq (.region false [oo 15 (.indexAddr 1 (.s 11) (.s 13)),ol 16 1 15,om 4 16]) [4,11,12,13] (.seq (.region false [om 18 4,oo 19 (.call 96 [(.s 18)]),om 17 19,oe 20 0 17,oe 21 1 17,om 5 20,om 6 21]) [4,6,11,12,13] (.seq (.region false [om 22 4,oo 23 (.call 97 [(.s 22)]),om 24 23,
 oT 25 24 (.mov (.s 6)),oT 26 24 (.un .not (.s 25)),oo 27 (.pick (.s 24) (.s 26) (.c (.bool false)))]) [11,12,13,27] (.cond (.s 27) (.seq (.region false [oo 2 (.mov (.c (.bool false)))]) [2] (.ret)) (.skip)))))) [11,12,13] (.region false [oo 28 (.bin .add false (.s 13) (.c (.int .i64 1))),
 om 13 28]))))))) [] (.seq (.region false [oo 2 (.mov (.c (.bool true)))]) [2] (.ret))))⟩
def tf81 : TFn := ⟨52,[.tmp 2],.seq (.region false [oo 2 (.mov (.c (.bool false)))]) [0] (.scope (.seq (.region false [om 9 0,oo 10 (.call 95 [(.s 9),(.c (.int .u8 46))]),om 3 10]) [3] (.seq (.region false [om 11 3,oo 12 (.len (.s 11)),oo 13 (.bin .leq false (.s 12) (.c (.int .i64 4))),
 om 4 13]) [3,4] (.seq (.skip) [3,4] (.seq (.seq (.region false [om 14 3,oo 15 (.len (.s 14)),oo 16 (.mov (.c (.int .i64 0)))]) [4,14,15,16] (.block 0 (.loop (.seq (.region false [oo 17 (.bin .lss false (.s 16) (.s 15))]) [4,14,15,16,17] (.seq (.cond (.s 17) (.skip) (.exit 0)) [4,14,15,16] (.seq (
 .block 1 (.seq (.region false [oo 18 (.indexAddr 1 (.s 14) (.s 16)),ol 19 1 18,om 6 19]) [4,6,14,15,16] (.seq (.seq (.region false [om 20 6,oo 21 (.bin .eql false (.s 20) (.c (.str []))),om 22 21,oF 23 22 (.mov (.s 6)),oF 24 22 (.lenStr (.s 23)),
 oF 25 22 (.bin .gtr false (.s 24) (.c (.int .i64 8))),oo 26 (.pick (.s 22) (.c (.bool true)) (.s 25))]) [4,6,14,15,16,26] (.cond (.s 26) (.seq (.region false [oo 4 (.mov (.c (.bool false)))]) [4] (.exit 0)) (.skip))) [4,6,14,15,16] (.seq (.region false [om 27 6,
 oo 28 (.range (.s 27))]) [4,14,15,16,28] (.block 2 (.loop (.seq (.region false [oo 29 (.next (.s 28)),oe 30 0 29]) [4,14,15,16,28,29,30] (.seq (.cond (.s 30) (.skip) (.exit 2)) [4,14,15,16,28,29] (.block 3 (.seq (.region false [oe 31 2 29,om 8 31]) [4,8,14,15,16,28] (.seq (.region false [om 32 8,
 oo 33 (.bin .lss false (.s 32) (.c (.int .i32 97))),om 34 33,oF 35 34 (.mov (.s 8)),oF 36 34 (.bin .gtr false (.s 35) (.c (.int .i32 122))),oo 37 (.pick (.s 34) (.c (.bool true)) (.s 36)),om 38 37,oT 39 38 (.mov (.s 8)),oT 40 38 (.bin .lss false (.s 39) (.c (.int .i32 48))),
 oT 41 38 (.mov (.s 40)),oF 42 41 (.mov (.s 8)),oF 43 41 (.bin .gtr false (.s 42) (.c (.int .i32 57))),oT 44 38 (.pick (.s 41) (.c (.bool true)) (.s 43)),oo 45 (.pick (.s 38) (.s 44) (.c (.bool false))),om 46 45,oT 47 46 (.mov (.s 8)),oT 48 46 (.bin .neq false (.s 47) (.c (.int .i32 45))),
 oo 49 (.pick (.s 46) (.s 48) (.c (.bool false)))]) [4,14,15,16,28,49] (.cond (.s 49) (.seq (.region false [oo 4 (.mov (.c (.bool false)))]) [4] (.exit 0)) (.skip))))))))))))) [4,14,15,16] (.region false [oo 50 (.bin .add false (.s 16) (.c (.int .i64 1))),om 16 50]))))))) [4] (.seq (
 .region false [om 51 4,om 2 51]) [2] (.ret)))))))⟩
def tf82 : TFn := ⟨24,[.tmp 4],.seq (.region false [oo 2 (.box 93 (.s 0)),oo 3 (.box 49 (.s 1)),oo 4 (.mov (.c (.bool false)))]) [2,3] (.seq (.region false [oL 5 14 2,oo 6 (.call 93 [(.s 5)]),om 7 6,oT 8 7 (.load true 5 (.s 3)),oT 9 7 (.call 60 [(.s 8)]),
 oo 10 (.pick (.s 7) (.s 9) (.c (.bool false))),om 11 10,oT 12 11 (.fieldAddr 0 (.s 2)),oT 13 11 (.load true 7 (.s 12)),oT 14 11 (.load true 5 (.s 3)),oT 15 11 (.call 98 [(.s 13),(.s 14)]),oo 16 (.pick (.s 11) (.s 15) (.c (.bool false))),om 17 16,oT 18 17 (.fieldAddr 7 (.s 2)),
 oT 19 17 (.load true 7 (.s 18)),oT 20 17 (.load true 5 (.s 3)),oT 21 17 (.call 98 [(.s 19),(.s 20)]),oT 22 17 (.un .not (.s 21)),oo 23 (.pick (.s 17) (.s 22) (.c (.bool false))),om 4 23]) [4] (.ret))⟩
def tf85 : TFn := ⟨34,[.tmp 4],.seq (.region false [oo 4 (.mov (.c (.fsl [])))]) [0,1] (.seq (.region false [oo 5 (.mov (.c (.fsl [])))]) [0,1,5] (.seq (.region false [oo 6 (.mov (.c (.int .i64 0)))]) [0,1,5,6] (.seq (.seq (.region false [oo 7 (.mov (.c (.int .i64 0)))]) [0,1,5,6,7] (.block 0 (
 .loop (.seq (.seq (.region false [om 8 7,om 9 0,oo 10 (.lenStr (.s 9)),oo 11 (.bin .lss false (.s 8) (.s 10))]) [0,1,5,6,7,11] (.cond (.s 11) (.skip) (.exit 0))) [0,1,5,6,7] (.seq (.block 1 (.seq (.region false [om 14 0,om 15 7,oo 16 (.indexStr (.s 14) (.s 15)),om 17 1,
 oo 18 (.bin .eql false (.s 16) (.s 17))]) [0,1,5,6,7,18] (.cond (.s 18) (.seq (.region false [om 19 5,om 20 0,om 21 6,om 22 7,oo 23 (.sliceStr (.s 20) (some (.s 21)) (some (.s 22))),oo 24 (.buildSlice 1 9 [(.s 23)]),oo 25 (.append 1 9 16 (.s 19) (.s 24)),om 5 25]) [0,1,5,7] (
 .region false [om 26 7,oo 27 (.bin .add false (.s 26) (.c (.int .i64 1))),om 6 27])) (.skip)))) [0,1,5,6,7] (.region false [om 12 7,oo 13 (.bin .add false (.s 12) (.c (.int .i64 1))),om 7 13])))))) [0,5,6] (.seq (.region false [om 28 5,om 29 0,om 30 6,oo 31 (.sliceStr (.s 29) (some (.s 30)) none),
 oo 32 (.buildSlice 1 9 [(.s 31)]),oo 33 (.append 1 9 16 (.s 28) (.s 32)),om 4 33]) [4] (.ret)))))⟩
def tf86 : TFn := ⟨40,[.tmp 2],.seq (.region false [oo 2 (.mov (.c (.bool false)))]) [0] (.seq (.seq (.region false [om 5 0,oo 6 (.lenStr (.s 5)),oo 7 (.bin .lss false (.s 6) (.c (.int .i64 1))),om 8 7,oF 9 8 (.mov (.s 0)),oF 10 8 (.lenStr (.s 9)),
 oF 11 8 (.bin .gtr false (.s 10) (.c (.int .i64 8))),oo 12 (.pick (.s 8) (.c (.bool true)) (.s 11))]) [0,12] (.cond (.s 12) (.seq (.region false [oo 2 (.mov (.c (.bool false)))]) [2] (.ret)) (.skip))) [0] (.seq (.seq (.region false [oo 3 (.mov (.c (.int .i64 0)))]) [0,3] (.block 0 (.loop (.seq (
 .seq (.region false [om 13 3,om 14 0,oo 15 (.lenStr (.s 14)),oo 16 (.bin .lss false (.s 13) (.s 15))]) [0,3,16] (.cond (.s 16) (.skip) (.exit 0))) [0,3] (.seq (.block 1 (.seq (.region false [om 19 0,om 20 3,oo 21 (.indexStr (.s 19) (.s 20)),om 4 21]) [0,3,4] (.seq (.region false [om 22 4,
 oo 23 (.bin .lss false (.s 22) (.c (.int .u8 97))),om 24 23,oF 25 24 (.mov (.s 4)),oF 26 24 (.bin .gtr false (.s 25) (.c (.int .u8 122))),oo 27 (.pick (.s 24) (.c (.bool true)) (.s 26)),om 28 27,oT 29 28 (.mov (.s 4)),oT 30 28 (.bin .lss false (.s 29) (.c (.int .u8 48))),oT 31 28 (.mov (.s 30)),
 oF 32 31 (.mov (.s 4)),oF 33 31 (.bin .gtr false (.s 32) (.c (.int .u8 57))),oT 34 28 (.pick (.s 31) (.c (.bool true)) (.s 33)),oo 35 (.pick (.s 28) (.s 34) (.c (.bool false))),om 36 35,oT 37 36 (.mov (.s 4)),oT 38 36 (.bin .neq false (.s 37) (.c (.int .u8 45))),
 oo 39 (.pick (.s 36) (.s 38) (.c (.bool false)))]) [0,3,39] (.cond (.s 39) (.seq (.region false [oo 2 (.mov (.c (.bool false)))]) [2] (.ret)) (.skip))))) [0,3] (.region false [om 17 3,oo 18 (.bin .add false (.s 17) (.c (.int .i64 1))),om 3 18])))))) [] (.seq (
 .region false [oo 2 (.mov (.c (.bool true)))]) [2] (.ret))))⟩
def tf87 : TFn := ⟨46,[.tmp 2,.tmp 3],.seq (.region false [oo 2 (.mov (.c (.int .i64 0))),oo 3 (.mov (.c (.bool false)))]) [0] (.seq (.seq (.region false [om 6 0,oo 7 (.lenStr (.s 6)),oo 8 (.bin .lss false (.s 7) (.c (.int .i64 1))),om 9 8,oF 10 9 (.mov (.s 0)),oF 11 9 (.lenStr (.s 10)),
 oF 12 9 (.bin .gtr false (.s 11) (.c (.int .i64 9))),oo 13 (.pick (.s 9) (.c (.bool true)) (.s 12)),om 14 13,oF 15 14 (.mov (.s 0)),oF 16 14 (.lenStr (.s 15)),oF 17 14 (.bin .gtr false (.s 16) (.c (.int .i64 1))),oF 18 14 (.mov (.s 17)),oT 19 18 (.mov (.s 0)),
 oT 20 18 (.indexStr (.s 19) (.c (.int .i64 0))),oT 21 18 (.bin .eql false (.s 20) (.c (.int .u8 48))),oF 22 14 (.pick (.s 18) (.s 21) (.c (.bool false))),oo 23 (.pick (.s 14) (.c (.bool true)) (.s 22))]) [0,23] (.cond (.s 23) (.seq (.region false [oo 2 (.mov (.c (.int .i64 0))),
 oo 3 (.mov (.c (.bool false)))]) [2,3] (.ret)) (.skip))) [0] (.seq (.region false [oo 4 (.mov (.c (.int .i64 0)))]) [0,4] (.seq (.seq (.region false [oo 5 (.mov (.c (.int .i64 0)))]) [0,4,5] (.block 0 (.loop (.seq (.seq (.region false [om 24 5,om 25 0,oo 26 (.lenStr (.s 25)),
 oo 27 (.bin .lss false (.s 24) (.s 26))]) [0,4,5,27] (.cond (.s 27) (.skip) (.exit 0))) [0,4,5] (.seq (.block 1 (.seq (.seq (.region false [om 30 0,om 31 5,oo 32 (.indexStr (.s 30) (.s 31)),oo 33 (.call 102 [(.s 32)]),oo 34 (.un .not (.s 33))]) [0,4,5,34] (.cond (.s 34) (.seq (
 .region false [oo 2 (.mov (.c (.int .i64 0))),oo 3 (.mov (.c (.bool false)))]) [2,3] (.ret)) (.skip))) [0,4,5] (.region false [om 35 4,oo 36 (.bin .mul false (.s 35) (.c (.int .i64 10))),om 37 0,om 38 5,oo 39 (.indexStr (.s 37) (.s 38)),oo 40 (.bin .sub false (.s 39) (.c (.int .u8 48))),
 oo 41 (.conv .i64 (.s 40)),oo 42 (.bin .add false (.s 36) (.s 41)),om 4 42]))) [0,4,5] (.region false [om 28 5,oo 29 (.bin .add false (.s 28) (.c (.int .i64 1))),om 5 29])))))) [4] (.seq (.seq (.region false [om 43 4,oo 44 (.bin .gtr false (.s 43) (.c (.int .i64 9999)))]) [4,44] (.cond (.s 44) (
 .seq (.region false [oo 2 (.mov (.c (.int .i64 0))),oo 3 (.mov (.c (.bool false)))]) [2,3] (.ret)) (.skip))) [4] (.seq (.region false [om 45 4,om 2 45,oo 3 (.mov (.c (.bool true)))]) [2,3] (.ret))))))⟩
def tf88 : TFn := ⟨23,[.tmp 2],.seq (.region false [oo 2 (.mov (.c (.bool false)))]) [0] (.seq (.seq (.region false [oo 3 (.mov (.c (.int .i64 0)))]) [0,3] (.block 0 (.loop (.seq (.seq (.region false [om 4 3,om 5 0,oo 6 (.lenStr (.s 5)),oo 7 (.bin .lss false (.s 4) (.s 6))]) [0,3,7] (.cond (.s 7) (
 .skip) (.exit 0))) [0,3] (.seq (.block 1 (.seq (.region false [om 10 0,om 11 3,oo 12 (.indexStr (.s 10) (.s 11)),oo 13 (.bin .lss false (.s 12) (.c (.int .u8 48))),om 14 13,oF 15 14 (.mov (.s 0)),oF 16 14 (.mov (.s 3)),oF 17 14 (.indexStr (.s 15) (.s 16)),
 oF 18 14 (.bin .gtr false (.s 17) (.c (.int .u8 57))),oo 19 (.pick (.s 14) (.c (.bool true)) (.s 18))]) [0,3,19] (.cond (.s 19) (.seq (.region false [oo 2 (.mov (.c (.bool false)))]) [2] (.ret)) (.skip)))) [0,3] (.region false [om 8 3,oo 9 (.bin .add false (.s 8) (.c (.int .i64 1))),
 om 3 9])))))) [0] (.seq (.region false [om 20 0,oo 21 (.lenStr (.s 20)),oo 22 (.bin .gtr false (.s 21) (.c (.int .i64 0))),om 2 22]) [2] (.ret)))⟩
def tf91 : TFn := ⟨47,[.cell 4 true 5,.tmp 5],.seq (.region false [oo 2 (.box 49 (.s 0)),oo 4 (.alloc 49 [(.int .i64 0),(.int .i64 0),(.int .i64 0),(.str []),(.str [])]),oo 5 (.mov (.c (.bool false)))]) [1,2,4] (.seq (.seq (.region false [oL 7 5 2,oo 8 (.call 46 [(.s 7)]),oo 9 (.un .not (.s 8)),
 om 10 9,oF 11 10 (.mov (.s 1)),oF 12 10 (.bin .lss false (.s 11) (.c (.int .i64 0))),oo 13 (.pick (.s 10) (.c (.bool true)) (.s 12)),om 14 13,oF 15 14 (.mov (.s 1)),oF 16 14 (.bin .gtr false (.s 15) (.c (.int .i64 2))),oo 17 (.pick (.s 14) (.c (.bool true)) (.s 16))]) [1,2,4,17] (.cond (.s 17) (
 .seq (.region false [oo 18 (.build [(.int .i64 0),(.int .i64 0),(.int .i64 0),(.str []),(.str [])] []),⟨none,.store 5 (.s 4) (.s 18),none⟩,oo 5 (.mov (.c (.bool false)))]) [4,5] (.ret)) (.skip))) [1,2,4] (.seq (
 .region false [oo 6 (.alloc 49 [(.int .i64 0),(.int .i64 0),(.int .i64 0),(.str []),(.str [])])]) [1,2,4,6] (.seq (.seq (.region false [om 19 1]) [2,4,6,19] (.block 0 (.seq (.region false [oo 29 (.bin .eql false (.s 19) (.c (.int .i64 0))),om 28 29]) [2,4,6,19,28] (.cond (.s 28) (
 .region false [oA 30 0 2,ol 31 1 30,oo 32 (.bin .add false (.s 31) (.c (.int .i64 1))),oo 33 (.build [(.int .i64 0),(.int .i64 0),(.int .i64 0),(.str []),(.str [])] [(0,1,(.s 32))]),⟨none,.store 5 (.s 6) (.s 33),none⟩]) (.seq (.region false [oo 35 (.bin .eql false (.s 19) (.c (.int .i64 1))),
 om 34 35]) [2,4,6,34] (.cond (.s 34) (.region false [oA 36 0 2,ol 37 1 36,oA 38 1 2,ol 39 1 38,oo 40 (.bin .add false (.s 39) (.c (.int .i64 1))),oo 41 (.build [(.int .i64 0),(.int .i64 0),(.int .i64 0),(.str []),(.str [])] [(0,1,(.s 37)),(1,1,(.s 40))]),⟨none,.store 5 (.s 6) (.s 41),none⟩]) (
 .region false [oA 20 0 2,ol 21 1 20,oA 22 1 2,ol 23 1 22,oA 24 2 2,ol 25 1 24,oo 26 (.bin .add false (.s 25) (.c (.int .i64 1))),oo 27 (.build [(.int .i64 0),(.int .i64 0),(.int .i64 0),(.str []),(.str [])] [(0,1,(.s 21)),(1,1,(.s 23)),(2,1,(.s 26))]),
 ⟨none,.store 5 (.s 6) (.s 27),none⟩]))))))) [4,6] (.seq (.seq (.region false [oL 42 5 6,oo 43 (.call 46 [(.s 42)]),oo 44 (.un .not (.s 43))]) [4,6,44] (.cond (.s 44) (.seq (.region false [oo 45 (.build [(.int .i64 0),(.int .i64 0),(.int .i64 0),(.str []),(.str [])] []),
 ⟨none,.store 5 (.s 4) (.s 45),none⟩,oo 5 (.mov (.c (.bool false)))]) [4,5] (.ret)) (.skip))) [4,6] (.seq (.region false [oL 46 5 6,⟨none,.store 5 (.s 4) (.s 46),none⟩,oo 5 (.mov (.c (.bool true)))]) [4,5] (.ret))))))⟩
def tf93 : TFn := ⟨19,[.tmp 2],.seq (.region false [oo 1 (.box 93 (.s 0)),oo 2 (.mov (.c (.bool false)))]) [1] (.seq (.region false [oA 3 0 1,oL 4 7 3,oo 5 (.call 103 [(.s 4)]),om 6 5,oT 7 6 (.fieldAddr 7 (.s 1)),oT 8 6 (.load true 7 (.s 7)),oT 9 6 (.call 103 [(.s 8)]),
 oo 10 (.pick (.s 6) (.s 9) (.c (.bool false))),om 11 10,oT 12 11 (.fieldAddr 0 (.s 1)),oT 13 11 (.load true 7 (.s 12)),oT 14 11 (.fieldAddr 7 (.s 1)),oT 15 11 (.load true 7 (.s 14)),oT 16 11 (.call 94 [(.s 13),(.s 15)]),oT 17 11 (.bin .lss false (.s 16) (.c (.int .i64 0))),
 oo 18 (.pick (.s 11) (.s 17) (.c (.bool false))),om 2 18]) [2] (.ret))⟩
def tf94 : TFn := ⟨42,[.tmp 4],.seq (.region false [oo 2 (.box 90 (.s 0)),oo 3 (.box 90 (.s 1)),oo 4 (.mov (.c (.int .i64 0)))]) [2,3] (.seq (.seq (.region false [oL 6 7 2,oo 7 (.call 103 [(.s 6)]),oo 8 (.un .not (.s 7)),om 9 8,oF 10 9 (.load true 7 (.s 3)),oF 11 9 (.call 103 [(.s 10)]),
 oF 12 9 (.un .not (.s 11)),oo 13 (.pick (.s 9) (.c (.bool true)) (.s 12))]) [2,3,13] (.cond (.s 13) (.seq (.region false [oo 4 (.mov (.c (.int .i64 0)))]) [4] (.ret)) (.seq (.region false [oA 14 0 2,ol 15 1 14,oo 16 (.bin .neq false (.s 15) (.c (.int .i64 0))),om 17 16,
 oF 18 17 (.fieldAddr 0 (.s 3)),oF 19 17 (.load false 1 (.s 18)),oF 20 17 (.bin .neq false (.s 19) (.c (.int .i64 0))),oo 21 (.pick (.s 17) (.c (.bool true)) (.s 20))]) [2,3,21] (.cond (.s 21) (.seq (.region false [oA 22 0 2,ol 23 1 22,oA 24 0 3,ol 25 1 24,oo 26 (.call 104 [(.s 23),(.s 25)]),
 om 4 26]) [4] (.ret)) (.seq (.region false [oA 27 1 2,oL 28 5 27,oA 29 1 3,oL 30 5 29,oo 31 (.call 105 [(.s 28),(.s 30)]),om 5 31]) [2,3,5] (.seq (.region false [om 32 5,oo 33 (.bin .neq false (.s 32) (.c (.int .i64 0)))]) [2,3,5,33] (.cond (.s 33) (.seq (.region false [om 34 5,om 4 34]) [4] (
 .ret)) (.seq (.region false [oA 35 6 2,ol 36 1 35,oA 37 6 3,ol 38 1 37,oo 39 (.bin .eql true (.s 36) (.s 38))]) [3,39] (.cond (.s 39) (.seq (.region false [oo 4 (.mov (.c (.int .i64 0)))]) [4] (.ret)) (.seq (.region false [oA 40 6 3,ol 41 1 40]) [41] (.cond (.s 41) (.seq (
 .region false [oo 4 (.mov (.c (.int .i64 (-1))))]) [4] (.ret)) (.skip)))))))))))) [] (.seq (.region false [oo 4 (.mov (.c (.int .i64 1)))]) [4] (.ret)))⟩
def tf95 : TFn := ⟨34,[.tmp 4],.seq (.region false [oo 4 (.mov (.c (.fsl [])))]) [0,1] (.seq (.region false [oo 5 (.mov (.c (.fsl [])))]) [0,1,5] (.seq (.region false [oo 6 (.mov (.c (.int .i64 0)))]) [0,1,5,6] (.seq (.seq (.region false [om 8 0,oo 9 (.lenStr (.s 8)),
 oo 10 (.mov (.c (.int .i64 0)))]) [0,1,5,6,9,10] (.block 0 (.loop (.seq (.region false [oo 11 (.bin .lss false (.s 10) (.s 9))]) [0,1,5,6,9,10,11] (.seq (.cond (.s 11) (.skip) (.exit 0)) [0,1,5,6,9,10] (.seq (.block 1 (.seq (.region false [om 12 10,om 7 12]) [0,1,5,6,7,9,10] (.seq (
 .region false [om 13 0,om 14 7,oo 15 (.indexStr (.s 13) (.s 14)),om 16 1,oo 17 (.bin .eql false (.s 15) (.s 16))]) [0,1,5,6,7,9,10,17] (.cond (.s 17) (.seq (.region false [om 18 5,om 19 0,om 20 6,om 21 7,oo 22 (.sliceStr (.s 19) (some (.s 20)) (some (.s 21))),oo 23 (.buildSlice 1 9 [(.s 22)]),
 oo 24 (.append 1 9 16 (.s 18) (.s 23)),om 5 24]) [0,1,5,7,9,10] (.region false [om 25 7,oo 26 (.bin .add false (.s 25) (.c (.int .i64 1))),om 6 26])) (.skip))))) [0,1,5,6,9,10] (.region false [oo 27 (.bin .add false (.s 10) (.c (.int .i64 1))),om 10 27]))))))) [0,5,6] (.seq (
 .region false [om 28 5,om 29 0,om 30 6,oo 31 (.sliceStr (.s 29) (some (.s 30)) none),oo 32 (.buildSlice 1 9 [(.s 31)]),oo 33 (.append 1 9 16 (.s 28) (.s 32)),om 4 33]) [4] (.ret)))))⟩
def tf96 : TFn := ⟨45,[.tmp 2,.tmp 3],.seq (.region false [oo 2 (.mov (.c (.int .i64 0))),oo 3 (.mov (.c (.bool false)))]) [0] (.seq (.seq (.region false [om 7 0,oo 8 (.bin .eql false (.s 7) (.c (.str []))),om 9 8,oF 10 9 (.mov (.s 0)),oF 11 9 (.lenStr (.s 10)),
 oF 12 9 (.bin .gtr false (.s 11) (.c (.int .i64 4))),oo 13 (.pick (.s 9) (.c (.bool true)) (.s 12)),om 14 13,oF 15 14 (.mov (.s 0)),oF 16 14 (.indexStr (.s 15) (.c (.int .i64 0))),oF 17 14 (.bin .eql false (.s 16) (.c (.int .u8 48))),oF 18 14 (.mov (.s 17)),oT 19 18 (.mov (.s 0)),
 oT 20 18 (.lenStr (.s 19)),oT 21 18 (.bin .gtr false (.s 20) (.c (.int .i64 1))),oF 22 14 (.pick (.s 18) (.s 21) (.c (.bool false))),oo 23 (.pick (.s 14) (.c (.bool true)) (.s 22))]) [0,23] (.cond (.s 23) (.seq (.region false [oo 2 (.mov (.c (.int .i64 0))),oo 3 (.mov (.c (.bool false)))]) [2,3] (
 .ret)) (.skip))) [0] (.seq (.region false [oo 4 (.mov (.c (.int .i64 0)))]) [0,4] (.seq (.seq (.region false [om 24 0,oo 25 (.range (.s 24))]) [4,25] (.block 0 (.loop (.seq (.region false [oo 26 (.next (.s 25)),oe 27 0 26]) [4,25,26,27] (.seq (.cond (.s 27) (.skip) (.exit 0)) [4,25,26] (.block 1 (
 .seq (.region false [oe 28 2 26,om 6 28]) [4,6,25] (.block 2 (.seq (.region false [om 30 6,oo 31 (.bin .geq false (.s 30) (.c (.int .i32 48))),om 32 31,oT 33 32 (.mov (.s 6)),oT 34 32 (.bin .leq false (.s 33) (.c (.int .i32 57))),oo 35 (.pick (.s 32) (.s 34) (.c (.bool false))),
 om 29 35]) [4,6,25,29] (.cond (.s 29) (.region false [om 36 4,oo 37 (.bin .mul false (.c (.int .i64 10)) (.s 36)),om 38 6,oo 39 (.bin .sub false (.s 38) (.c (.int .i32 48))),oo 40 (.conv .i64 (.s 39)),oo 41 (.bin .add false (.s 37) (.s 40)),om 4 41]) (.seq (
 .region false [oo 2 (.mov (.c (.int .i64 0))),oo 3 (.mov (.c (.bool false)))]) [2,3] (.ret)))))))))))) [4] (.seq (.region false [om 42 4,om 43 4,oo 44 (.bin .leq false (.s 43) (.c (.int .i64 9999))),om 2 42,om 3 44]) [2,3] (.ret)))))⟩
def tf97 : TFn := ⟨22,[.tmp 2],.seq (.region false [oo 2 (.mov (.c (.bool false)))]) [0] (.seq (.seq (.region false [om 4 0,oo 5 (.lenStr (.s 4)),oo 6 (.mov (.c (.int .i64 0)))]) [0,5,6] (.block 0 (.loop (.seq (.region false [oo 7 (.bin .lss false (.s 6) (.s 5))]) [0,5,6,7] (.seq (.cond (.s 7) (
 .skip) (.exit 0)) [0,5,6] (.seq (.block 1 (.seq (.region false [om 8 6,om 3 8]) [0,3,5,6] (.seq (.region false [om 9 0,om 10 3,oo 11 (.indexStr (.s 9) (.s 10)),oo 12 (.bin .lss false (.s 11) (.c (.int .u8 48))),om 13 12,oF 14 13 (.mov (.s 0)),oF 15 13 (.mov (.s 3)),
 oF 16 13 (.indexStr (.s 14) (.s 15)),oF 17 13 (.bin .gtr false (.s 16) (.c (.int .u8 57))),oo 18 (.pick (.s 13) (.c (.bool true)) (.s 17))]) [0,5,6,18] (.cond (.s 18) (.seq (.region false [oo 2 (.mov (.c (.bool false)))]) [2] (.ret)) (.skip))))) [0,5,6] (
 .region false [oo 19 (.bin .add false (.s 6) (.c (.int .i64 1))),om 6 19]))))))) [0] (.seq (.region false [om 20 0,oo 21 (.bin .neq false (.s 20) (.c (.str []))),om 2 21]) [2] (.ret)))⟩
def tf98 : TFn := ⟨35,[.tmp 4],.seq (.region false [oo 2 (.box 90 (.s 0)),oo 3 (.box 49 (.s 1)),oo 4 (.mov (.c (.bool false)))]) [2,3] (.seq (.seq (.region false [oL 6 7 2,oo 7 (.call 103 [(.s 6)]),oo 8 (.un .not (.s 7)),om 9 8,oF 10 9 (.load true 5 (.s 3)),oF 11 9 (.call 60 [(.s 10)]),
 oF 12 9 (.un .not (.s 11)),oo 13 (.pick (.s 9) (.c (.bool true)) (.s 12))]) [2,3,13] (.cond (.s 13) (.seq (.region false [oo 4 (.mov (.c (.bool false)))]) [4] (.ret)) (.seq (.region false [oA 14 0 2,ol 15 1 14,oo 16 (.bin .neq false (.s 15) (.c (.int .i64 0)))]) [2,3,16] (.cond (.s 16) (.seq (
 .region false [oA 17 0 2,ol 18 1 17,oo 19 (.bin .lss false (.s 18) (.c (.int .i64 0))),om 4 19]) [4] (.ret)) (.skip))))) [2,3] (.seq (.region false [oA 20 1 2,oL 21 5 20,oL 22 5 3,oo 23 (.call 105 [(.s 21),(.s 22)]),om 5 23]) [2,5] (.seq (.region false [om 24 5,
 oo 25 (.bin .lss false (.s 24) (.c (.int .i64 0))),om 26 25,oF 27 26 (.mov (.s 5)),oF 28 26 (.bin .eql false (.s 27) (.c (.int .i64 0))),oF 29 26 (.mov (.s 28)),oT 30 29 (.fieldAddr 6 (.s 2)),oT 31 29 (.load false 1 (.s 30)),oT 32 29 (.un .not (.s 31)),
 oF 33 26 (.pick (.s 29) (.s 32) (.c (.bool false))),oo 34 (.pick (.s 26) (.c (.bool true)) (.s 33)),om 4 34]) [4] (.ret))))⟩
def tf102 : TFn := ⟨9,[.tmp 2],.seq (.region false [oo 2 (.mov (.c (.bool false)))]) [0] (.seq (.region false [om 3 0,oo 4 (.bin .geq false (.s 3) (.c (.int .u8 48))),om 5 4,oT 6 5 (.mov (.s 0)),oT 7 5 (.bin .leq false (.s 6) (.c (.int .u8 57))),oo 8 (.pick (.s 5) (.s 7) (.c (.bool false))),
 om 2 8]) [2] (.ret))⟩
def tf103 : TFn := ⟨32,[.tmp 2],.seq (.region false [oo 1 (.box 90 (.s 0)),oo 2 (.mov (.c (.bool false)))]) [1] (.seq (.seq (.region false [oA 3 0 1,ol 4 1 3,oo 5 (.bin .eql false (.s 4) (.c (.int .i64 (-1)))),om 6 5,oF 7 6 (.fieldAddr 0 (.s 1)),oF 8 6 (.load false 1 (.s 7)),
 oF 9 6 (.bin .eql false (.s 8) (.c (.int .i64 1))),oo 10 (.pick (.s 6) (.c (.bool true)) (.s 9))]) [1,10] (.cond (.s 10) (.seq (.region false [oA 11 1 1,oL 12 5 11,oo 13 (.build [(.int .i64 0),(.int .i64 0),(.int .i64 0),(.str []),(.str [])] []),oo 14 (.eqs false [0,0,0,2,2] (.s 12) (.s 13)),
 om 15 14,oT 16 15 (.fieldAddr 6 (.s 1)),oT 17 15 (.load false 1 (.s 16)),oT 18 15 (.un .not (.s 17)),oo 19 (.pick (.s 15) (.s 18) (.c (.bool false))),om 2 19]) [2] (.ret)) (.seq (.region false [oA 20 0 1,ol 21 1 20,oo 22 (.bin .neq false (.s 21) (.c (.int .i64 0)))]) [1,22] (.cond (.s 22) (.seq (
 .region false [oo 2 (.mov (.c (.bool false)))]) [2] (.ret)) (.skip))))) [1] (.seq (.region false [oA 23 1 1,oL 24 5 23,oo 25 (.call 60 [(.s 24)]),om 26 25,oT 27 26 (.fieldAddr 1 (.s 1)),oT 28 26 (.fieldAddr 4 (.s 27)),oT 29 26 (.load false 1 (.s 28)),
 oT 30 26 (.bin .eql false (.s 29) (.c (.str []))),oo 31 (.pick (.s 26) (.s 30) (.c (.bool false))),om 2 31]) [2] (.ret)))⟩
def tf104 : TFn := ⟨20,[.tmp 4],.seq (.region false [oo 4 (.mov (.c (.int .i64 0)))]) [0,1] (.seq (.region false [om 7 0,oo 8 (.call 107 [(.s 7)]),om 5 8]) [0,1,5] (.seq (.region false [om 9 1,oo 10 (.call 107 [(.s 9)]),om 6 10]) [0,1,5,6] (.seq (.seq (.region false [om 11 5]) [0,1,6,11] (
 .cond (.s 11) (.seq (.seq (.region false [om 12 6]) [12] (.cond (.s 12) (.seq (.region false [oo 4 (.mov (.c (.int .i64 0)))]) [4] (.ret)) (.skip))) [] (.seq (.region false [oo 4 (.mov (.c (.int .i64 (-1))))]) [4] (.ret))) (.skip))) [0,1,6] (.seq (.seq (.region false [om 13 6]) [0,1,13] (
 .cond (.s 13) (.seq (.region false [oo 4 (.mov (.c (.int .i64 1)))]) [4] (.ret)) (.skip))) [0,1] (.seq (.seq (.region false [om 14 0,om 15 1,oo 16 (.bin .lss false (.s 14) (.s 15))]) [0,1,16] (.cond (.s 16) (.seq (.region false [oo 4 (.mov (.c (.int .i64 (-1))))]) [4] (.ret)) (.skip))) [0,1] (
 .seq (.seq (.region false [om 17 0,om 18 1,oo 19 (.bin .gtr false (.s 17) (.s 18))]) [19] (.cond (.s 19) (.seq (.region false [oo 4 (.mov (.c (.int .i64 1)))]) [4] (.ret)) (.skip))) [] (.seq (.region false [oo 4 (.mov (.c (.int .i64 0)))]) [4] (.ret))))))))⟩
def tf105 : TFn := ⟨86,[.tmp 4],.seq (.region false [oo 2 (.box 49 (.s 0)),oo 3 (.box 49 (.s 1)),oo 4 (.mov (.c (.int .i64 0)))]) [2,3] (.seq (.seq (.region true [oL 10 5 2,oo 11 (.call 60 [(.s 10)]),oo 12 (.un .not (.s 11)),om 13 12,oF 14 13 (.load true 5 (.s 3)),oF 15 13 (.call 60 [(.s 14)]),
 oF 16 13 (.un .not (.s 15)),oo 17 (.pick (.s 13) (.c (.bool true)) (.s 16)),om 18 17,oF 19 18 (.load true 5 (.s 2)),oF 20 18 (.call 108 [(.s 19)]),oF 21 18 (.load true 5 (.s 3)),oF 22 18 (.call 108 [(.s 21)]),oF 23 18 (.eqs false [0,0,0,2,2] (.s 20) (.s 22)),
 oo 24 (.pick (.s 18) (.c (.bool true)) (.s 23))]) [2,3,24] (.cond (.s 24) (.seq (.region false [oo 4 (.mov (.c (.int .i64 0)))]) [4] (.ret)) (.skip))) [2,3] (.seq (.seq (.region true [oA 25 0 2,ol 26 1 25,oA 27 0 3,ol 28 1 27,oo 29 (.call 104 [(.s 26),(.s 28)]),oA 30 1 2,ol 31 1 30,oA 32 1 3,
 ol 33 1 32,oo 34 (.call 104 [(.s 31),(.s 33)]),oA 35 2 2,ol 36 1 35,oA 37 2 3,ol 38 1 37,oo 39 (.call 104 [(.s 36),(.s 38)]),oo 40 (.buildSlice 1 3 [(.s 29),(.s 34),(.s 39)]),oo 41 (.call 109 [(.s 40)]),om 5 41]) [2,3,5] (.seq (.region false [om 42 5,
 oo 43 (.bin .neq false (.s 42) (.c (.int .i64 0)))]) [2,3,5,43] (.cond (.s 43) (.seq (.region false [om 44 5,om 4 44]) [4] (.ret)) (.skip)))) [2,3] (.seq (.seq (.region false [oA 45 3 2,ol 46 1 45,oo 47 (.bin .eql false (.s 46) (.c (.str [])))]) [2,3,47] (.cond (.s 47) (.seq (
 .region false [oo 4 (.mov (.c (.int .i64 1)))]) [4] (.ret)) (.skip))) [2,3] (.seq (.seq (.region false [oA 48 3 3,ol 49 1 48,oo 50 (.bin .eql false (.s 49) (.c (.str [])))]) [2,3,50] (.cond (.s 50) (.seq (.region false [oo 4 (.mov (.c (.int .i64 (-1))))]) [4] (.ret)) (.skip))) [2,3] (.seq (
 .region true [oA 51 3 2,ol 52 1 51,oo 53 (.call 95 [(.s 52),(.c (.int .u8 46))]),oA 54 3 3,ol 55 1 54,oo 56 (.call 95 [(.s 55),(.c (.int .u8 46))]),om 6 53,om 7 56]) [6,7] (.seq (.seq (.region false [oo 8 (.mov (.c (.int .i64 0)))]) [6,7,8] (.block 0 (.loop (.seq (.seq (.region false [om 57 8,
 om 58 6,oo 59 (.len (.s 58)),oo 60 (.bin .lss false (.s 57) (.s 59)),om 61 60,oT 62 61 (.mov (.s 8)),oT 63 61 (.mov (.s 7)),oT 64 61 (.len (.s 63)),oT 65 61 (.bin .lss false (.s 62) (.s 64)),oo 66 (.pick (.s 61) (.s 65) (.c (.bool false)))]) [6,7,8,66] (.cond (.s 66) (.skip) (.exit 0))) [6,7,8] (
 .seq (.block 1 (.seq (.region true [om 69 6,om 70 8,oo 71 (.indexAddr 1 (.s 69) (.s 70)),ol 72 1 71,om 73 7,om 74 8,oo 75 (.indexAddr 1 (.s 73) (.s 74)),ol 76 1 75,oo 77 (.call 110 [(.s 72),(.s 76)]),om 9 77]) [6,7,8,9] (.seq (.region false [om 78 9,
 oo 79 (.bin .neq false (.s 78) (.c (.int .i64 0)))]) [6,7,8,9,79] (.cond (.s 79) (.seq (.region false [om 80 9,om 4 80]) [4] (.ret)) (.skip))))) [6,7,8] (.region false [om 67 8,oo 68 (.bin .add false (.s 67) (.c (.int .i64 1))),om 8 68])))))) [6,7] (.seq (.region false [om 81 6,
 oo 82 (.len (.s 81)),om 83 7,oo 84 (.len (.s 83)),oo 85 (.call 104 [(.s 82),(.s 84)]),om 4 85]) [4] (.ret))))))))⟩
def tf107 : TFn := ⟨6,[.tmp 2],.seq (.region false [oo 2 (.mov (.c (.bool false)))]) [0] (.seq (.region false [om 3 0,om 4 0,oo 5 (.bin .neq false (.s 3) (.s 4)),om 2 5]) [2] (.ret))⟩
def tf108 : TFn := ⟨5,[.cell 2 true 5],.seq (.region false [oo 1 (.box 49 (.s 0)),oo 2 (.alloc 49 [(.int .i64 0),(.int .i64 0),(.int .i64 0),(.str []),(.str [])])]) [1,2] (.seq (.region false [oA 3 4 1,⟨none,.store 1 (.s 3) (.c (.str [])),none⟩]) [1,2] (.seq (.region false [oL 4 5 1,
 ⟨none,.store 5 (.s 2) (.s 4),none⟩]) [2] (.ret)))⟩
def tf109 : TFn := ⟨18,[.tmp 2],.seq (.region false [oo 2 (.mov (.c (.int .i64 0)))]) [0] (.seq (.region false [oo 3 (.mov (.c (.int .i64 0)))]) [0,3] (.seq (.seq (.region false [om 6 0,oo 7 (.len (.s 6)),oo 8 (.mov (.c (.int .i64 0)))]) [3,6,7,8] (.block 0 (.loop (.seq (
 .region false [oo 9 (.bin .lss false (.s 8) (.s 7))]) [3,6,7,8,9] (.seq (.cond (.s 9) (.skip) (.exit 0)) [3,6,7,8] (.seq (.block 1 (.seq (.region false [oo 10 (.indexAddr 1 (.s 6) (.s 8)),ol 11 1 10,om 5 11]) [3,5,6,7,8] (.seq (.region false [om 12 5,om 13 3,
 oo 14 (.bin .neq false (.s 12) (.s 13))]) [3,5,6,7,8,14] (.cond (.s 14) (.seq (.region false [om 15 5,om 2 15]) [2] (.ret)) (.skip))))) [3,6,7,8] (.region false [oo 16 (.bin .add false (.s 8) (.c (.int .i64 1))),om 8 16]))))))) [3] (.seq (.region false [om 17 3,om 2 17]) [2] (.ret))))⟩
def tf110 : TFn := ⟨39,[.tmp 4],.seq (.region false [oo 4 (.mov (.c (.int .i64 0)))]) [0,1] (.seq (.region false [om 11 0,oo 12 (.call 97 [(.s 11)]),om 13 1,oo 14 (.call 97 [(.s 13)]),om 5 12,om 6 14]) [0,1,5,6] (.seq (.seq (.region false [om 15 5,om 16 15,oT 17 16 (.mov (.s 6)),
 oo 18 (.pick (.s 16) (.s 17) (.c (.bool false)))]) [0,1,5,6,18] (.cond (.s 18) (.seq (.region false [om 20 0,oo 21 (.call 96 [(.s 20)]),om 19 21,oe 22 0 19,oe 23 1 19,om 7 22,om 8 23]) [1,7] (.seq (.region false [om 25 1,oo 26 (.call 96 [(.s 25)]),om 24 26,oe 27 0 24,oe 28 1 24,om 9 27,
 om 10 28]) [7,9] (.seq (.region false [om 29 7,om 30 9,oo 31 (.call 104 [(.s 29),(.s 30)]),om 4 31]) [4] (.ret)))) (.skip))) [0,1,5,6] (.seq (.seq (.region false [om 32 5,om 33 6,oo 34 (.bin .neq true (.s 32) (.s 33))]) [0,1,5,34] (.cond (.s 34) (.seq (.seq (.region false [om 35 5]) [35] (
 .cond (.s 35) (.seq (.region false [oo 4 (.mov (.c (.int .i64 (-1))))]) [4] (.ret)) (.skip))) [] (.seq (.region false [oo 4 (.mov (.c (.int .i64 1)))]) [4] (.ret))) (.skip))) [0,1] (.seq (.region false [om 36 0,om 37 1,oo 38 (.call 112 [(.s 36),(.s 37)]),om 4 38]) [4] (.ret)))))⟩
def tf112 : TFn := ⟨20,[.tmp 4],.seq (.region false [oo 4 (.mov (.c (.int .i64 0)))]) [0,1] (.seq (.region false [om 7 0,oo 8 (.call 114 [(.s 7)]),om 5 8]) [0,1,5] (.seq (.region false [om 9 1,oo 10 (.call 114 [(.s 9)]),om 6 10]) [0,1,5,6] (.seq (.seq (.region false [om 11 5]) [0,1,6,11] (
 .cond (.s 11) (.seq (.seq (.region false [om 12 6]) [12] (.cond (.s 12) (.seq (.region false [oo 4 (.mov (.c (.int .i64 0)))]) [4] (.ret)) (.skip))) [] (.seq (.region false [oo 4 (.mov (.c (.int .i64 (-1))))]) [4] (.ret))) (.skip))) [0,1,6] (.seq (.seq (.region false [om 13 6]) [0,1,13] (
 .cond (.s 13) (.seq (.region false [oo 4 (.mov (.c (.int .i64 1)))]) [4] (.ret)) (.skip))) [0,1] (.seq (.seq (.region false [om 14 0,om 15 1,oo 16 (.bin .lss false (.s 14) (.s 15))]) [0,1,16] (.cond (.s 16) (.seq (.region false [oo 4 (.mov (.c (.int .i64 (-1))))]) [4] (.ret)) (.skip))) [0,1] (
 .seq (.seq (.region false [om 17 0,om 18 1,oo 19 (.bin .gtr false (.s 17) (.s 18))]) [19] (.cond (.s 19) (.seq (.region false [oo 4 (.mov (.c (.int .i64 1)))]) [4] (.ret)) (.skip))) [] (.seq (.region false [oo 4 (.mov (.c (.int .i64 0)))]) [4] (.ret))))))))⟩
def tf114 : TFn := ⟨6,[.tmp 2],.seq (.region false [oo 2 (.mov (.c (.bool false)))]) [0] (.seq (.region false [om 3 0,om 4 0,oo 5 (.bin .neq false (.s 3) (.s 4)),om 2 5]) [2] (.ret))⟩
theorem tp5 : QM Tryd.prog Tryd.f5 = some tf5.erase := by kernel_rfl
theorem Ql8 : QM Tryd.prog Tryd.f11 = some tf11.erase := by kernel_rfl
theorem Ql9 : QM Tryd.prog Tryd.f13 = some tf13.erase := by kernel_rfl
theorem Qma : QM Tryd.prog Tryd.f15 = some tf15.erase := by kernel_rfl
theorem Qmb : QM Tryd.prog Tryd.f17 = some tf17.erase := by kernel_rfl
theorem Qmc : QM Tryd.prog Tryd.f18 = some tf18.erase := by kernel_rfl
theorem Qmd : QM Tryd.prog Tryd.f20 = some tf20.erase := by kernel_rfl
theorem Qme : QM Tryd.prog Tryd.f21 = some tf21.erase := by kernel_rfl
theorem Qmf : QM Tryd.prog Tryd.f22 = some tf22.erase := by kernel_rfl
theorem Qmg : QM Tryd.prog Tryd.f26 = some tf26.erase := by kernel_rfl
theorem Qmh : QM Tryd.prog Tryd.f36 = some tf36.erase := by kernel_rfl
theorem Qmi : QM Tryd.prog Tryd.f39 = some tf39.erase := by kernel_rfl
theorem Qmj : QM Tryd.prog Tryd.f40 = some tf40.erase := by kernel_rfl
theorem Qmk : QM Tryd.prog Tryd.f41 = some tf41.erase := by kernel_rfl
theorem Qml : QM Tryd.prog Tryd.f42 = some tf42.erase := by kernel_rfl
theorem Qmm : QM Tryd.prog Tryd.f43 = some tf43.erase := by kernel_rfl
theorem Qmn : QM Tryd.prog Tryd.f44 = some tf44.erase := by kernel_rfl
theorem Qmo : QM Tryd.prog Tryd.f46 = some tf46.erase := by kernel_rfl
theorem Qmp : QM Tryd.prog Tryd.f48 = some tf48.erase := by kernel_rfl
theorem Qmq : QM Tryd.prog Tryd.f52 = some tf52.erase := by kernel_rfl
theorem Qmr : QM Tryd.prog Tryd.f53 = some tf53.erase := by kernel_rfl
theorem Qms : QM Tryd.prog Tryd.f54 = some tf54.erase := by kernel_rfl
theorem Qmt : QM Tryd.prog Tryd.f55 = some tf55.erase := by kernel_rfl
theorem Qmu : QM Tryd.prog Tryd.f56 = some tf56.erase := by kernel_rfl
theorem Qmv : QM Tryd.prog Tryd.f59 = some tf59.erase := by kernel_rfl
theorem Qmw : QM Tryd.prog Tryd.f60 = some tf60.erase := by kernel_rfl
theorem Qmx : QM Tryd.prog Tryd.f61 = some tf61.erase := by kernel_rfl
theorem Qmy : QM Tryd.prog Tryd.f64 = some tf64.erase := by kernel_rfl
theorem Qmz : QM Tryd.prog Tryd.f65 = some tf65.erase := by kernel_rfl
theorem QmA : QM Tryd.prog Tryd.f71 = some tf71.erase := by kernel_rfl
theorem QmB : QM Tryd.prog Tryd.f72 = some tf72.erase := by kernel_rfl
theorem QmC : QM Tryd.prog Tryd.f73 = some tf73.erase := by kernel_rfl
theorem QmD : QM Tryd.prog Tryd.f74 = some tf74.erase := by kernel_rfl
theorem QmE : QM Tryd.prog Tryd.f75 = some tf75.erase := by kernel_rfl
theorem QmF : QM Tryd.prog Tryd.f77 = some tf77.erase := by kernel_rfl
theorem QmG : QM Tryd.prog Tryd.f78 = some tf78.erase := by kernel_rfl
theorem QmH : QM Tryd.prog Tryd.f79 = some tf79.erase := by kernel_rfl
theorem QmI : QM Tryd.prog Tryd.f80 = some tf80.erase := by kernel_rfl
theorem QmJ : QM Tryd.prog Tryd.f81 = some tf81.erase := by kernel_rfl
theorem QmK : QM Tryd.prog Tryd.f82 = some tf82.erase := by kernel_rfl
theorem QmL : QM Tryd.prog Tryd.f85 = some tf85.erase := by kernel_rfl
theorem QmM : QM Tryd.prog Tryd.f86 = some tf86.erase := by kernel_rfl
theorem QmN : QM Tryd.prog Tryd.f87 = some tf87.erase := by kernel_rfl
theorem QmO : QM Tryd.prog Tryd.f88 = some tf88.erase := by kernel_rfl
theorem QmP : QM Tryd.prog Tryd.f91 = some tf91.erase := by kernel_rfl
theorem QmQ : QM Tryd.prog Tryd.f93 = some tf93.erase := by kernel_rfl
theorem QmR : QM Tryd.prog Tryd.f94 = some tf94.erase := by kernel_rfl
theorem QmS : QM Tryd.prog Tryd.f95 = some tf95.erase := by kernel_rfl
theorem QmT : QM Tryd.prog Tryd.f96 = some tf96.erase := by kernel_rfl
theorem QmU : QM Tryd.prog Tryd.f97 = some tf97.erase := by kernel_rfl
theorem QmV : QM Tryd.prog Tryd.f98 = some tf98.erase := by kernel_rfl
theorem QlH : QM Tryd.prog Tryd.f102 = some tf102.erase := by kernel_rfl
theorem QlI : QM Tryd.prog Tryd.f103 = some tf103.erase := by kernel_rfl
theorem QlJ : QM Tryd.prog Tryd.f104 = some tf104.erase := by kernel_rfl
theorem QlK : QM Tryd.prog Tryd.f105 = some tf105.erase := by kernel_rfl
theorem QlL : QM Tryd.prog Tryd.f107 = some tf107.erase := by kernel_rfl
theorem QlM : QM Tryd.prog Tryd.f108 = some tf108.erase := by kernel_rfl
theorem QlN : QM Tryd.prog Tryd.f109 = some tf109.erase := by kernel_rfl
theorem QlO : QM Tryd.prog Tryd.f110 = some tf110.erase := by kernel_rfl
theorem QlP : QM Tryd.prog Tryd.f112 = some tf112.erase := by kernel_rfl
theorem QlQ : QM Tryd.prog Tryd.f114 = some tf114.erase := by kernel_rfl
theorem Z7 : Tryd.prog.follows .mixedOrders = true := by kernel_rfl
end Go.Proofs
namespace M3
open Go Go.Abs
def Qc5 (n : Int) : Bool := decide (0 <= n) && decide (n <= 9999)
def Zn (m n : Int) : Int := if m < n then -1 else if n < m then 1 else 0
def ZE (c : UInt8) : Bool := decide (48 <= c.toNat) && decide (c.toNat <= 57)
def Z1 (s : List UInt8) : Bool := s.all ZE && !decide (s = [])
theorem Qam {s : List UInt8} {i : Nat} (h : i < s.length) (hd : ZE s[i] = false) : Z1 s = false := by
 have : s.all ZE = false := by
  rw [Bool.eq_false_iff]
  intro ha
  rw [List.all_eq_true] at ha
  rw [ha _ (List.getElem_mem h)] at hd
  cases hd
 rw [Z1, this]; rfl
theorem QcN {s : List UInt8} {i : Nat} (hi : s.length <= i) (h : (s.take i).all ZE = true) : Z1 s = !decide (s = []) := by
 rw [List.take_of_length_le hi] at h
 rw [Z1, h]; rfl
def QhH (v n : Int) : Int := if v.tmod n < 0 then v.tmod n + n else v.tmod n
def Yk (l : List Int) : D := .sl (l.map fun x => [.int .i64 x])
end M3
namespace M3
open Go Go.Abs
def Xd (c : Int) : List UInt8 -> List UInt8 -> List (List UInt8)
 | [], cur => [cur]
 | x :: xs, cur => if (x.toNat : Int) = c then cur :: Xd c xs [] else Xd c xs (cur ++ [x])
def QR (s : List UInt8) (c : Int) : List (List UInt8) := Xd c s []
def Yg (l : List (List UInt8)) : List (List D) := l.map fun x => [.str x]
def SplitI (s : List UInt8) (c : Int) (i k : Nat) (acc : List (List UInt8)) : Prop :=
 i <= s.length /\ k <= i /\ acc.length <= i /\ QR s c = acc ++ Xd c (s.drop i) ((s.take i).drop k)
theorem SplitI.zero {s : List UInt8} {c : Int} : SplitI s c 0 0 [] := ⟨Nat.zero_le _, Nat.le_refl _, Nat.le_refl _, by simp [QR]⟩
theorem SplitI.hit {s : List UInt8} {c : Int} {i k : Nat} {acc : List (List UInt8)} (h : SplitI s c i k acc) (hi : i < s.length) (he : ((s[i]).toNat : Int) = c) : SplitI s c (i + 1) (i + 1) (acc ++ [(s.take i).drop k]) := by
 obtain ⟨h1, h2, h3, h4⟩ := h
 refine ⟨hi, Nat.le_refl _, by simp; omega, ?_⟩
 rw [List.drop_eq_getElem_cons hi] at h4
 simp only [Xd, he, if_true] at h4
 rw [h4, List.append_assoc]
 simp
theorem SplitI.miss {s : List UInt8} {c : Int} {i k : Nat} {acc : List (List UInt8)} (h : SplitI s c i k acc) (hi : i < s.length) (he : ¬ ((s[i]).toNat : Int) = c) : SplitI s c (i + 1) k acc := by
 obtain ⟨h1, h2, h3, h4⟩ := h
 refine ⟨hi, by omega, by omega, ?_⟩
 rw [List.drop_eq_getElem_cons hi] at h4
 simp only [Xd, he, if_false] at h4
 rw [h4, List.take_succ_eq_append_getElem hi, List.drop_append_of_le_length (by simp; omega)]
theorem SplitI.done {s : List UInt8} {c : Int} {i k : Nat} {acc : List (List UInt8)} (h : SplitI s c i k acc) (hi : s.length <= i) : QR s c = acc ++ [s.drop k] := by
 obtain ⟨h1, h2, h3, h4⟩ := h
 rw [h4, List.drop_eq_nil_of_le hi, List.take_of_length_le hi]
 rfl
end M3
namespace M3
open Go Go.Abs
def QbE (a b : List UInt8) : Int := if Op.bytesLess a b = true then -1 else if a = b then 0 else 1
def Yu (c : Int) : Bool := decide (48 <= c) && decide (c <= 57)
def Ze (c : UInt8) : Bool := (decide (97 <= c.toNat) && decide (c.toNat <= 122)) || (decide (48 <= c.toNat) && decide (c.toNat <= 57)) || decide (c.toNat = 45)
def XS (s : List UInt8) : Bool := decide (1 <= s.length) && decide (s.length <= 8) && s.all Ze
def val (s : List UInt8) : Nat := s.foldl (fun n c => 10 * n + (c.toNat - 48)) 0
def Zz (s : List UInt8) : Int × Bool :=
 if s.length < 1 \/ 9 < s.length \/ (1 < s.length /\ s.head? = some 48) \/ s.all ZE = false \/ 9999 < val s then (0, false) else ((val s : Int), true)
def Qfg (a b : List UInt8) : Int :=
 if Z1 a = true /\ Z1 b = true then Zn (Zz a).1 (Zz b).1
 else if Z1 a = true then -1 else if Z1 b = true then 1 else QbE a b
def QgI : List (List UInt8) -> List (List UInt8) -> Int
 | [], [] => 0
 | [], _ :: _ => -1
 | _ :: _, [] => 1
 | a :: l, b :: m => if Qfg a b ≠ 0 then Qfg a b else QgI l m
def QgH (a b : List UInt8) : Int := if a = b then 0 else if a = [] then 1 else if b = [] then -1 else QgI (QR a 46) (QR b 46)
def Qaz (pre : Bool) (t : List UInt8) : Bool := XS t && !(pre && Z1 t && !(Zz t).2)
def Xc (s : List UInt8) (pre : Bool) : Bool := decide (s = []) || (decide ((QR s 46).length <= 4) && (QR s 46).all (Qaz pre))
def XI (a b c : Int) (p q : List UInt8) : Bool := Qc5 a && Qc5 b && Qc5 c && Xc p true && Xc q false
def QbS (a b c : Int) (p q : List UInt8) (a' b' c' : Int) (p' q' : List UInt8) : Int :=
 if XI a b c p q = false \/ XI a' b' c' p' q' = false then 0
 else if Zn a a' ≠ 0 then Zn a a' else if Zn b b' ≠ 0 then Zn b b' else if Zn c c' ≠ 0 then Zn c c' else QgH p p'
theorem ZL {α : Type} {s : List α} {p : α -> Bool} {i : Nat} (h : i < s.length) (hd : p s[i] = false) : s.all p = false := by
 rw [Bool.eq_false_iff]
 intro ha
 rw [List.all_eq_true] at ha
 rw [ha _ (List.getElem_mem h)] at hd
 cases hd
theorem Yi {α : Type} {s : List α} {p : α -> Bool} {i : Nat} (hi : s.length <= i) (h : (s.take i).all p = true) : s.all p = true := by rwa [List.take_of_length_le hi] at h
theorem QbZ {s : List UInt8} {i : Nat} (h : i < s.length) : val (s.take (i + 1)) = 10 * val (s.take i) + (s[i].toNat - 48) := by
 rw [List.take_succ_eq_append_getElem h]; simp only [val, List.foldl_append, List.foldl_cons, List.foldl_nil]
theorem Qh5 : ∀ {s : List UInt8}, s.all ZE = true -> val s < 10 ^ s.length := by
 intro s
 rw [<- List.reverse_reverse s]
 generalize s.reverse = r
 induction r with
 | nil => intro _; decide
 | cons c r ih =>
  intro h
  rw [List.reverse_cons, List.all_append, Bool.and_eq_true] at h
  have h1 := ih h.1
  have h2 : ZE c = true := by simpa using h.2
  simp only [ZE, Bool.and_eq_true, decide_eq_true_eq] at h2
  rw [List.reverse_cons]
  simp only [val, List.foldl_append, List.foldl_cons, List.foldl_nil, List.length_append, List.length_cons, List.length_nil] at h1 ⊢
  rw [Nat.pow_succ]
  omega
theorem QhJ {l m : List (List UInt8)} {i : Nat} (h1 : i < l.length) (h2 : i < m.length) (h : Qfg l[i] m[i] = 0) : QgI (l.drop i) (m.drop i) = QgI (l.drop (i + 1)) (m.drop (i + 1)) := by
 rw [List.drop_eq_getElem_cons h1, List.drop_eq_getElem_cons h2]
 simp [QgI, h]
theorem YH {l m : List (List UInt8)} {i : Nat} (h1 : i < l.length) (h2 : i < m.length) (h : Qfg l[i] m[i] ≠ 0) : QgI (l.drop i) (m.drop i) = Qfg l[i] m[i] := by
 rw [List.drop_eq_getElem_cons h1, List.drop_eq_getElem_cons h2]
 simp [QgI, h]
theorem YG {l m : List (List UInt8)} {i : Nat} (hl : i <= l.length) (hm : i <= m.length) (h : l.length <= i \/ m.length <= i) : QgI (l.drop i) (m.drop i) = Zn l.length m.length := by
 rcases Nat.lt_or_ge i l.length with h1 | h1 <;> rcases Nat.lt_or_ge i m.length with h2 | h2
 ·omega
 ·rw [List.drop_eq_getElem_cons h1, List.drop_eq_nil_of_le h2]
  simp only [QgI, Zn]
  rw [if_neg (by omega), if_pos (by omega)]
 ·rw [List.drop_eq_getElem_cons h2, List.drop_eq_nil_of_le h1]
  simp only [QgI, Zn]
  rw [if_pos (by omega)]
 ·rw [List.drop_eq_nil_of_le h1, List.drop_eq_nil_of_le h2]
  simp only [QgI, Zn]
  rw [if_neg (by omega), if_neg (by omega)]
end M3
namespace M3
end M3
namespace M3
theorem QkK {s : List UInt8} (h : 0 < s.length) (e : ((s[0]).toNat : Int) = 48) : s.head? = some 48 := by
 cases s with
 | nil => simp at h
 | cons x r =>
  simp only [List.getElem_cons_zero] at e
  have : x = 48 := UInt8.toNat_inj.1 (by simpa using (by omega : x.toNat = 48))
  simp [this]
theorem QdU {s : List UInt8} (h : 0 < s.length) (e : ¬ ((s[0]).toNat : Int) = 48) : s.head? ≠ some 48 := by
 cases s with
 | nil => simp at h
 | cons x r =>
  simp only [List.getElem_cons_zero] at e
  intro hh
  simp at hh
  subst hh
  exact e rfl
theorem QcM {s : List UInt8} {i : Nat} (h : ¬ (s.length < 1 \/ 9 < s.length \/ (1 < s.length /\ s.head? = some 48))) (hi : s.length <= i) (ha : (s.take i).all ZE = true) (hv : val (s.take i) <= 9999) : Zz s = ((val (s.take i) : Int), true) := by
 have h1 := Yi hi ha
 rw [List.take_of_length_le hi] at hv ⊢
 rw [Zz, if_neg]
 rintro (q | q | q | q | q)
 ·exact h (.inl q)
 ·exact h (.inr (.inl q))
 ·exact h (.inr (.inr q))
 ·rw [h1] at q; cases q
 ·omega
theorem Qbr {s : List UInt8} {i : Nat} (hi : s.length <= i) (hv : 9999 < val (s.take i)) : Zz s = (0, false) := by
 rw [List.take_of_length_le hi] at hv
 rw [Zz, if_pos (.inr (.inr (.inr (.inr hv))))]
theorem Ye {s : List UInt8} {i : Nat} (h : i < s.length) (hd : ZE s[i] = false) : Zz s = (0, false) := by
 rw [Zz, if_pos (.inr (.inr (.inr (.inl (ZL h hd)))))]
theorem Qbs {s : List UInt8} (h : s.length < 1 \/ 9 < s.length) : Zz s = (0, false) := by
 rw [Zz, if_pos (by rcases h with h | h; exact .inl h; exact .inr (.inl h))]
theorem ZJ {s : List UInt8} (h : 1 < s.length) (e : ((s[0]).toNat : Int) = 48) : Zz s = (0, false) := by
 rw [Zz, if_pos (.inr (.inr (.inl ⟨h, QkK (by omega) e⟩)))]
end M3
namespace M3
open Go Go.Abs
theorem Qk (l : List (List UInt8)) : (Yg l).length = l.length := by simp [Yg]
theorem XE {l : List (List UInt8)} {i : Nat} (h : i < l.length) : (Yg l)[((i : Nat) : Int).toNat]? = some [.str l[i]] := by simp [Yg, h]
theorem XL {c : Int} : ∀ (s cur : List UInt8), (Xd c s cur).length <= s.length + 1 /\ ∀ x ∈ Xd c s cur, x.length <= s.length + cur.length
 | [], cur => by simp [Xd]
 | x :: xs, cur => by
  simp only [Xd]
  split
  ·obtain ⟨h1, h2⟩ := XL (c := c) xs []
   refine ⟨by simp; omega, fun y hy => ?_⟩
   rcases List.mem_cons.1 hy with rfl | hy
   ·simp <;> omega
   ·have := h2 y hy; simp at this ⊢; omega
  ·obtain ⟨h1, h2⟩ := XL (c := c) xs (cur ++ [x])
   refine ⟨by simp; omega, fun y hy => ?_⟩
   have := h2 y hy; simp at this ⊢; omega
theorem QcW {s : List UInt8} {c : Int} : (QR s c).length <= s.length + 1 := (XL s []).1
theorem XM {s : List UInt8} {c : Int} {i : Nat} (h : i < (QR s c).length) (hl : s.length <= 1000000) : ((QR s c)[i]).length <= 1000000 := by
 have := (XL (c := c) s []).2 _ (List.getElem_mem h)
 simp only [List.length_nil, Nat.add_zero] at this
 exact Nat.le_trans this hl
end M3
namespace M3
open Go Go.Abs
theorem Qbe {s : List UInt8} {pre : Bool} {i : Nat} (hs : s ≠ []) (h : i < (QR s 46).length) (hd : Qaz pre (QR s 46)[i] = false) : Xc s pre = false := by
 rw [Xc, ZL h hd]; simp [hs]
theorem X6 {s : List UInt8} {pre : Bool} {i : Nat} (h4 : (QR s 46).length <= 4) (hi : (QR s 46).length <= i) (h : ((QR s 46).take i).all (Qaz pre) = true) : Xc s pre = true := by
 rw [Xc, Yi hi h]; simp [h4]
def ZG : List Int -> Int
 | [] => 0
 | x :: r => if x ≠ 0 then x else ZG r
theorem Qcp {l : List Int} {i : Nat} (h : i < l.length) (e : ¬ l[i] = 0) : ZG (l.drop i) = l[i] := by
 rw [List.drop_eq_getElem_cons h]; simp [ZG, e]
theorem QeJ {l : List Int} {i : Nat} (h : i < l.length) (e : l[i] = 0) : ZG (l.drop i) = ZG (l.drop (i + 1)) := by
 rw [List.drop_eq_getElem_cons h]; simp [ZG, e]
end M3
namespace M3
open Go Go.Abs
structure Cu where
 e : Int
 a : Int
 b : Int
 c : Int
 p : List UInt8
 q : List UInt8
 f : Bool
def YF (e a b c : Int) (p q : List UInt8) (f : Bool) : Bool :=
 if e = 0 then XI a b c p q && decide (q = [])
 else (decide (e = -1) || decide (e = 1)) && (decide (a = 0) && (decide (b = 0) && (decide (c = 0) && (decide (p = []) && (decide (q = []) && true))))) && !f
def Xb (e a b c : Int) (p q : List UInt8) (f : Bool) (e' a' b' c' : Int) (p' q' : List UInt8) (f' : Bool) : Int :=
 if YF e a b c p q f = false \/ YF e' a' b' c' p' q' f' = false then 0
 else if e ≠ e' \/ e ≠ 0 then Zn e e'
 else if QbS a b c p q a' b' c' p' q' ≠ 0 then QbS a b c p q a' b' c' p' q'
 else if f = f' then 0 else if f' = true then -1 else 1
def YS (e a b c : Int) (p q : List UInt8) (f : Bool) (a' b' c' : Int) (p' q' : List UInt8) : Bool :=
 if YF e a b c p q f = false \/ XI a' b' c' p' q' = false then false
 else if e ≠ 0 then decide (e < 0)
 else decide (QbS a b c p q a' b' c' p' q' < 0) || (decide (QbS a b c p q a' b' c' p' q' = 0) && !f)
end M3
namespace M3
def Qc9 (e a b c : Int) (p q : List UInt8) (f : Bool) (e' a' b' c' : Int) (p' q' : List UInt8) (f' : Bool) : Bool :=
 YF e a b c p q f && YF e' a' b' c' p' q' f' && decide (Xb e a b c p q f e' a' b' c' p' q' f' < 0)
def QaE (e a b c : Int) (p q : List UInt8) (f : Bool) (e' a' b' c' : Int) (p' q' : List UInt8) (f' : Bool) (x y z : Int) (r s : List UInt8) : Bool :=
 Qc9 e a b c p q f e' a' b' c' p' q' f' && XI x y z r s && YS e a b c p q f x y z r s && !YS e' a' b' c' p' q' f' x y z r s
end M3
namespace M3
open Go Go.Abs
theorem Y4 {s : List UInt8} (h : s = [] \/ 4 < s.length) : Zz s = (0, false) := by
 rcases h with rfl | h
 ·rfl
 ·unfold Zz
  split
  ·rfl
  ·rename_i hn
   exfalso
   apply hn
   by_cases h1 : s.head? = some 48
   ·exact .inr (.inr (.inl ⟨by omega, h1⟩))
   ·cases hd : s.all ZE with
    | false => exact .inr (.inr (.inr (.inl rfl)))
    | true =>
     refine .inr (.inr (.inr (.inr ?_)))
     cases s with
     | nil => simp at h
     | cons x r =>
      simp only [List.all_cons, Bool.and_eq_true, ZE, decide_eq_true_eq] at hd
      simp only [List.head?_cons, Option.some.injEq] at h1
      have hx : 1 <= x.toNat - 48 := by
       have : x.toNat ≠ 48 := fun e => h1 (UInt8.toNat_inj.1 (by simpa using e))
       omega
      have key : ∀ (r : List UInt8) (n : Nat), n * 10 ^ r.length <= r.foldl (fun n c => 10 * n + (c.toNat - 48)) n := by
       intro r
       induction r with
       | nil => intro n; simp
       | cons c r ih =>
        intro n
        simp only [List.foldl_cons, List.length_cons]
        refine Nat.le_trans ?_ (ih _)
        rw [Nat.pow_succ, <- Nat.mul_assoc, Nat.mul_right_comm]
        exact Nat.mul_le_mul_right _ (by omega)
      have h2 := key r (10 * 0 + (x.toNat - 48))
      have h3 : 10 ^ 4 <= 10 ^ r.length := Nat.pow_le_pow_right (by omega) (by simp at h; omega)
      have h4 : 10 ^ r.length <= (10 * 0 + (x.toNat - 48)) * 10 ^ r.length := Nat.le_mul_of_pos_left _ (by omega)
      show 9999 < (x :: r).foldl (fun n c => 10 * n + (c.toNat - 48)) 0
      simp only [List.foldl_cons]
      omega
theorem X8 {s : List UInt8} {i : Nat} (h : ¬ (s = [] \/ 4 < s.length \/ (1 < s.length /\ s.head? = some 48))) (hi : s.length <= i) (ha : (s.take i).all ZE = true) : Zz s = ((val (s.take i) : Int), true) := by
 have h1 := Yi hi ha
 have hv := Qh5 h1
 have h4 : s.length <= 4 := Nat.le_of_not_lt fun q => h (.inr (.inl q))
 have hp : 10 ^ s.length <= 10 ^ 4 := Nat.pow_le_pow_right (by omega) h4
 refine QcM ?_ hi ha ?_
 ·rintro (q | q | q)
  ·exact h (.inl (List.eq_nil_of_length_eq_zero (by omega)))
  ·omega
  ·exact h (.inr (.inr q))
 ·rw [List.take_of_length_le hi]; omega
end M3
namespace M3
open Go Go.Abs
def QaF (s : List UInt8) : Bool := decide ((QR s 46).length <= 4) && (QR s 46).all XS
theorem QjX {t : List UInt8} (h0 : ¬ t = []) (h8 : t.length <= 8) (h : t.all Ze = true) : XS t = true := by
 have : 1 <= t.length := List.length_pos_iff.2 h0
 simp [XS, h, h8, this]
theorem Yd {t : List UInt8} (h : t = [] \/ 8 < t.length) : XS t = false := by
 rcases h with rfl | h
 ·rfl
 ·simp [XS]; omega
theorem Yb {t : List UInt8} (h : t.all Ze = false) : XS t = false := by simp [XS, h]
theorem Zg {s : List UInt8} {i : Nat} (h : i < (QR s 46).length) (hd : XS (QR s 46)[i] = false) : QaF s = false := by
 rw [QaF, ZL h hd, Bool.and_false]
theorem ZO {s : List UInt8} {i : Nat} (hi : (QR s 46).length <= i) (h : ((QR s 46).take i).all XS = true) : QaF s = decide ((QR s 46).length <= 4) := by
 rw [QaF, Yi hi h, Bool.and_true]
theorem ZN (s : List UInt8) : Xc s false = (decide (s = []) || QaF s) := by
 have : Qaz false = XS := by funext t; simp [Qaz]
 rw [Xc, QaF, this]
end M3
namespace M3
open Go Go.Abs
def QbK (t : List UInt8) : Bool := !(Z1 t && !(Zz t).2)
def Qc8 (s : List UInt8) : Bool := QaF s && (QR s 46).all QbK
theorem QfB {s : List UInt8} {i : Nat} (h : i < (QR s 46).length) (hd : QbK (QR s 46)[i] = false) : Qc8 s = false := by
 rw [Qc8, ZL h hd, Bool.and_false]
theorem Qd7 {s : List UInt8} {i : Nat} (h1 : QaF s = true) (hi : (QR s 46).length <= i) (h : ((QR s 46).take i).all QbK = true) : Qc8 s = true := by
 rw [Qc8, Yi hi h, h1]; rfl
theorem Z5 (s : List UInt8) : Xc s true = (decide (s = []) || Qc8 s) := by
 have : Qaz true = fun t => XS t && QbK t := by funext t; simp [Qaz, QbK]
 rw [Xc, Qc8, QaF, this, Bool.and_assoc]
 congr 2
 induction (QR s 46) with
 | nil => rfl
 | cons x xs ih => simp only [List.all_cons, ih]; cases XS x <;> cases QbK x <;> simp
theorem Qds {a b : Int} : Zn a b = 0 ↔ a = b := by unfold Zn; (repeat' split) <;> omega
theorem Qa5 {a b c : Int} {p q : List UInt8} {a' b' c' : Int} {p' q' : List UInt8} (h1 : XI a b c p q = true) (h2 : XI a' b' c' p' q' = true)
  (h : (decide (a = a') && (decide (b = b') && (decide (c = c') && (decide (p = p') && (decide (([] : List UInt8) = []) && true))))) = true) : QbS a b c p q a' b' c' p' q' = 0 := by
 simp only [Bool.and_eq_true, decide_eq_true_eq, and_true] at h
 obtain ⟨rfl, rfl, rfl, rfl⟩ := h
 have e : ∀ x, Zn x x = 0 := fun x => Qds.2 rfl
 simp [QbS, h1, h2, e, QgH]
theorem Xy {a b c : Int} {p q : List UInt8} {a' b' c' : Int} {p' q' : List UInt8} (h1 : XI a b c p q = true) (h2 : XI a' b' c' p' q' = true)
  (h : ¬ ZG [Zn a a', Zn b b', Zn c c'] = 0) : ZG [Zn a a', Zn b b', Zn c c'] = QbS a b c p q a' b' c' p' q' := by
 simp only [ZG, QbS, h1, h2] at h ⊢
 simp only [Bool.true_eq_false, or_self, if_false]
 repeat' split
 all_goals first | rfl | (exfalso; simp_all)
theorem Qcm {a b c : Int} {p q : List UInt8} {a' b' c' : Int} {p' q' : List UInt8} (h1 : XI a b c p q = true) (h2 : XI a' b' c' p' q' = true) (h : ZG [Zn a a', Zn b b', Zn c c'] = 0) :
  QbS a b c p q a' b' c' p' q' = QgH p p' := by
 simp only [ZG] at h
 simp only [QbS, h1, h2, Bool.true_eq_false, or_self, if_false]
 repeat' split
 all_goals first | rfl | (exfalso; simp_all)
theorem Qjb {a b c : Int} {p : List UInt8} {a' b' c' : Int} {p' : List UInt8} (h : (decide (a = a') && (decide (b = b') && (decide (c = c') && (decide (p = p') && (decide (([] : List UInt8) = []) && true))))) = false)
  (h0 : ZG [Zn a a', Zn b b', Zn c c'] = 0) : p ≠ p' := by
 rintro rfl
 have e : Zn a a' = 0 /\ Zn b b' = 0 /\ Zn c c' = 0 := by
  simp only [ZG] at h0
  revert h0
  repeat' split
  all_goals simp_all
 simp only [Qds] at e
 simp [e] at h
theorem Yz {a b c : Int} {p q : List UInt8} {a' b' c' : Int} {p' q' : List UInt8} (h1 : XI a b c p q = true) (h2 : XI a' b' c' p' q' = true)
  (h : (decide (a = a') && (decide (b = b') && (decide (c = c') && (decide (p = p') && (decide (([] : List UInt8) = []) && true))))) = false)
  (h0 : ZG [Zn a a', Zn b b', Zn c c'] = 0) (hp : p = []) : QbS a b c p q a' b' c' p' q' = 1 := by
 rw [Qcm h1 h2 h0, QgH, if_neg (Qjb h h0), if_pos hp]
theorem YA {a b c : Int} {p q : List UInt8} {a' b' c' : Int} {p' q' : List UInt8} (h1 : XI a b c p q = true) (h2 : XI a' b' c' p' q' = true)
  (h0 : ZG [Zn a a', Zn b b', Zn c c'] = 0) (hp : ¬ p = []) (hp' : p' = []) : QbS a b c p q a' b' c' p' q' = -1 := by
 have : p ≠ p' := fun e => hp (e.trans hp')
 rw [Qcm h1 h2 h0, QgH, if_neg this, if_neg hp, if_pos hp']
theorem QjH {a b c : Int} {p q : List UInt8} {a' b' c' : Int} {p' q' : List UInt8} (h1 : XI a b c p q = true) (h2 : XI a' b' c' p' q' = true)
  (h : (decide (a = a') && (decide (b = b') && (decide (c = c') && (decide (p = p') && (decide (([] : List UInt8) = []) && true))))) = false)
  (h0 : ZG [Zn a a', Zn b b', Zn c c'] = 0) (hp : ¬ p = []) (hp' : ¬ p' = []) : QbS a b c p q a' b' c' p' q' = QgI ((QR p 46).drop 0) ((QR p' 46).drop 0) := by
 rw [Qcm h1 h2 h0, QgH, if_neg (Qjb h h0), if_neg hp, if_neg hp']; rfl
end M3
namespace M3
open Go Go.Abs
theorem YZ {e a b c : Int} {p q : List UInt8} {f : Bool} {e' a' b' c' : Int} {p' q' : List UInt8} {f' : Bool} (h1 : YF e a b c p q f = true) (h2 : YF e' a' b' c' p' q' f' = true) (h : ¬ e = 0 \/ ¬ e' = 0) :
  Xb e a b c p q f e' a' b' c' p' q' f' = Zn e e' := by
 rw [Xb, h1, h2, if_neg (by simp), if_pos]
 by_cases h0 : e = 0
 ·exact .inl (by omega)
 ·exact .inr h0
end M3
namespace Go.Proofs
open Go Go.Abs M3
set_option linter.unusedVariables false
set_option linter.unusedSimpArgs false
theorem Y9 {n : Int} : Ok Tryd.prog 79 [.int .i64 n] (.bool (Qc5 n)) := by
 refine Ok.ofT Z7 Tryd.func79 QmH (Nat.le_of_ble_eq_true Z) ?_
 show TW _ _ tf79.body _ _
 refine Qf fun K hK => Qd Z (hK _ _ (Qa (kp1 Z) ?_))
 refine Qf fun K hK => Qd Z (QgZ Z Z (Qd Z ?_))
 refine Qv (g := 5) Z (fun h1 => ?_) (fun h1 => ?_)
 ·try rw [h1]
  try simp only [qB] at h1
  refine Qg Z (Qd Z (Qg Z (Qi6 Z Z (Qh Z Z (Qd Z (hK _ _ (Qa (kp1 Z) ?_)))))))
  refine Qr (Qi Z ?_)
  (repeat clear hK K); simp_all [Qc5] <;> omega
 ·try rw [h1]
  try simp only [qB] at h1
  refine Qs Z (Qs Z (Qh Z Z (Qd Z (hK _ _ (Qa (kp1 Z) ?_)))))
  refine Qr (Qi Z ?_)
  (repeat clear hK K); simp_all [Qc5] <;> omega
theorem Z9 {n : Int} : Ok Tryd.prog 64 [.int .i64 n] (.bool (Qc5 n)) := by
 refine Ok.ofT Z7 Tryd.func64 Qmy (Nat.le_of_ble_eq_true Z) ?_
 show TW _ _ tf64.body _ _
 refine Qf fun K hK => Qd Z (hK _ _ (Qa (kp1 Z) ?_))
 refine Qf fun K hK => Qd Z (QgZ Z Z (Qd Z ?_))
 refine Qv (g := 5) Z (fun h1 => ?_) (fun h1 => ?_)
 ·try rw [h1]
  try simp only [qB] at h1
  refine Qg Z (Qd Z (Qg Z (Qi6 Z Z (Qh Z Z (Qd Z (hK _ _ (Qa (kp1 Z) ?_)))))))
  refine Qr (Qi Z ?_)
  (repeat clear hK K); simp_all [Qc5] <;> omega
 ·try rw [h1]
  try simp only [qB] at h1
  refine Qs Z (Qs Z (Qh Z Z (Qd Z (hK _ _ (Qa (kp1 Z) ?_)))))
  refine Qr (Qi Z ?_)
  (repeat clear hK K); simp_all [Qc5] <;> omega
theorem XV {n : Int} : Ok Tryd.prog 107 [.int .i64 n] (.bool false) := by
 refine Ok.ofT Z7 Tryd.func107 QlL (Nat.le_of_ble_eq_true Z) ?_
 show TW _ _ tf107.body _ _
 refine Qf fun K hK => Qd Z (hK _ _ (Qa (kp1 Z) ?_))
 refine Qf fun K hK => Qd Z (Qd Z (Yh Z Z (Qd Z (hK _ _ (Qa (kp1 Z) ?_)))))
 refine Qr (Qi Z ?_)
 (repeat clear hK K); simp_all
theorem Q9 {m n : Int} : Ok Tryd.prog 104 [.int .i64 m, .int .i64 n] (.int .i64 (Zn m n)) := by
 refine Ok.ofT Z7 Tryd.func104 QlJ (Nat.le_of_ble_eq_true Z) ?_
 show TW _ _ tf104.body _ _
 refine Qf fun K hK => Qd Z (hK _ _ (Qa (kp2 Z Z) ?_))
 refine Qf fun K hK => Qd Z (QB (XV) Z Z (.inr Z) (Qd Z (hK _ _ (Qa (kp3 Z Z Z) ?_))))
 refine Qf fun K hK => Qd Z (QB (XV) Z Z (.inr Z) (Qd Z (hK _ _ (Qa (kp4 Z Z Z Z) ?_))))
 refine QH ?_ -- 0
 refine Qf fun K hK => Qd Z (hK _ _ (Qa (kp4 Z Z Z Z) ?_))
 refine Qx Z (fun h1 => ?_) (fun h1 => ?_)
 ·try rw [h1]
  try simp only [qB] at h1
  refine QH ?_ -- 1
  refine Qf fun K hK => Qd Z (hK _ _ (Qa (kp1 Z) ?_))
  refine Qx Z (fun h2 => ?_) (fun h2 => ?_)
  ·try rw [h2]
   try simp only [qB] at h2
   refine Qf fun K hK => Qd Z (hK _ _ (Qa (kp1 Z) ?_))
   refine Qr (Qj (Qj (Qy Z ?_)))
   (repeat clear hK K); simp_all [Zn] <;> omega
  ·try rw [h2]
   try simp only [qB] at h2
   refine Qu (Qe (QI) (Qf fun K hK => Qd Z (hK _ _ (Qa (kp1 Z) ?_))))
   refine Qr (Qj (Qy Z ?_))
   (repeat clear hK K); simp_all [Zn] <;> omega
 ·try rw [h1]
  try simp only [qB] at h1
  refine Qu (Qe (kp3 Z Z Z) ?_)
  refine QH ?_ -- 2
  refine Qf fun K hK => Qd Z (hK _ _ (Qa (kp3 Z Z Z) ?_))
  refine Qx Z (fun h3 => ?_) (fun h3 => ?_)
  ·try rw [h3]
   try simp only [qB] at h3
   refine Qf fun K hK => Qd Z (hK _ _ (Qa (kp1 Z) ?_))
   refine Qr (Qj (Qy Z ?_))
   (repeat clear hK K); simp_all [Zn] <;> omega
  ·try rw [h3]
   try simp only [qB] at h3
   refine Qu (Qe (kp2 Z Z) ?_)
   refine QH ?_ -- 3
   refine Qf fun K hK => Qd Z (Qd Z (Xq Z Z (hK _ _ (Qa (kp3 Z Z Z) ?_))))
   refine Qx Z (fun h4 => ?_) (fun h4 => ?_)
   ·try rw [h4]
    try simp only [qB] at h4
    refine Qf fun K hK => Qd Z (hK _ _ (Qa (kp1 Z) ?_))
    refine Qr (Qj (Qy Z ?_))
    (repeat clear hK K); simp_all [Zn] <;> omega
   ·try rw [h4]
    try simp only [qB] at h4
    refine Qu (Qe (kp2 Z Z) ?_)
    refine QH ?_ -- 4
    refine Qf fun K hK => Qd Z (Qd Z (Qb7 Z Z (hK _ _ (Qa (kp1 Z) ?_))))
    refine Qx Z (fun h5 => ?_) (fun h5 => ?_)
    ·try rw [h5]
     try simp only [qB] at h5
     refine Qf fun K hK => Qd Z (hK _ _ (Qa (kp1 Z) ?_))
     refine Qr (Qj (Qy Z ?_))
     (repeat clear hK K); simp_all [Zn] <;> omega
    ·try rw [h5]
     try simp only [qB] at h5
     refine Qu (Qe (QI) (Qf fun K hK => Qd Z (hK _ _ (Qa (kp1 Z) ?_))))
     refine Qr (Qy Z ?_)
     (repeat clear hK K); simp_all [Zn] <;> omega
theorem Yj {s : List UInt8} (hl : s.length <= 1000000) : Ok Tryd.prog 97 [.str s] (.bool (Z1 s)) := by
 refine Ok.ofT Z7 Tryd.func97 QmU (Nat.le_of_ble_eq_true Z) ?_
 show TW _ _ tf97.body _ _
 refine Qf fun K hK => Qd Z (hK _ _ (Qa (kp1 Z) ?_))
 refine QH ?_ -- 0
 refine Qf fun K hK => Qd Z (ZF Z (Qd Z (hK _ _ (Qa (kp3 Z Z Z) ?_))))
 refine QK ?_
 refine Z3 (ι := Nat) (fun i => ⟨[(0, .str s), (5, .int .i64 s.length), (6, .int .i64 i)], []⟩) (fun i => i <= s.length /\ (s.take i).all ZE = true) (fun i => s.length - i) 0 ?_ ?_ ?_
 ·exact Q0 (kp3 rfl rfl rfl)
 ·exact ⟨Nat.zero_le _, rfl⟩
 intro i hI
 try dsimp only
 refine Qf fun K hK => Xq Z Z (hK _ _ (Qa (kp4 Z Z Z Z) ?_))
 refine QH ?_ -- 1
 refine Qx Z (fun h1 => ?_) (fun h1 => ?_)
 ·try rw [h1]
  try simp only [qB] at h1
  refine Qu (Qe (kp3 Z Z Z) ?_)
  refine QH ?_ -- 2
  refine QK (Qf fun K hK => Qd Z (Qd Z (hK _ _ (Qa (kp4 Z Z Z Z) ?_))))
  refine Qf fun K hK => Qd Z (Qd Z (ZA Z Z (by omega) (X3 (by omega)) (Xq Z Z (Qd Z ?_))))
  refine Qv (g := 13) Z (fun h2 => ?_) (fun h2 => ?_)
  ·try rw [h2]
   try simp only [qB] at h2
   refine Qs Z (Qs Z (Qs Z (Qs Z (Qh Z Z (hK _ _ (Qa (kp4 Z Z Z Z) ?_))))))
   refine Zh Z (Qf fun K hK => Qd Z (hK _ _ (Qa (kp1 Z) ?_)))
   refine Qr (Qw (Qj (QX (Qw (Qj (Qi Z ?_))))))
   exact (Qam (i := i) (by omega) (by simp [ZE]; omega)).symm
  ·try rw [h2]
   try simp only [qB] at h2
   refine Qg Z (Qd Z (Qg Z (Qd Z (Qg Z (ZA Z Z (by omega) (X3 (by omega)) (Qg Z (Qb7 Z Z (Qh Z Z (hK _ _ (Qa (kp4 Z Z Z Z) ?_))))))))))
   refine Qx Z (fun h3 => ?_) (fun h3 => ?_)
   ·try rw [h3]
    try simp only [qB] at h3
    refine Qf fun K hK => Qd Z (hK _ _ (Qa (kp1 Z) ?_))
    refine Qr (Qw (Qj (QX (Qw (Qj (Qi Z ?_))))))
    exact (Qam (i := i) (by omega) (by simp [ZE]; omega)).symm
   ·try rw [h3]
    try simp only [qB] at h3
    refine Qu (Qm (Qe (kp3 Z Z Z) (Q6 fun K hK => Zy Z Z (by first | exact Qz (by omega) (by omega) | exact QJ (by omega) (by omega) | exact QT (by omega) (by omega) | rfl) (Qd Z (hK _ ?_)))))
    refine Qq (i + 1) ?_ ?_ ?_
    ·exact Q0 (kp3 rfl rfl rfl)
    ·exact ⟨by omega, QV (by omega) hI.2 (by simp [ZE]; omega)⟩
    ·first | omega | (simp only; omega) | (dsimp only; omega)
 ·try rw [h1]
  try simp only [qB] at h1
  refine Zp (QN (QC (QP (Qe (kp1 Z) (Qf fun K hK => Qd Z (Qg0 Z Z (Qd Z (hK _ _ (Qa (kp1 Z) ?_)))))))))
  refine Qr (Qi Z ?_)
  exact (QcN (i := i) (by omega) hI.2).symm
theorem Qar {s : List UInt8} {c : Int} (hl : s.length <= 1000000) : Ok Tryd.prog 85 [.str s, .int .u8 c] (.sl (Yg (QR s c))) := by
 refine Ok.ofT Z7 Tryd.func85 QmL (Nat.le_of_ble_eq_true Z) ?_
 show TW _ _ tf85.body _ _
 refine Qf fun K hK => Qd Z (hK _ _ (Qa (kp2 Z Z) ?_))
 refine Qf fun K hK => Qd Z (hK _ _ (Qa (kp3 Z Z Z) ?_))
 refine Qf fun K hK => Qd Z (hK _ _ (Qa (kp4 Z Z Z Z) ?_))
 refine QH ?_ -- 0
 refine Qf fun K hK => Qd Z (hK _ _ (Qa (kp5 Z Z Z Z Z) ?_))
 refine QK ?_
 refine Z3 (ι := Nat × Nat × List (List UInt8)) (fun ⟨i, k, acc⟩ => ⟨[(0, .str s), (1, .int .u8 c), (5, .osl 25 acc.length), (6, .int .i64 k), (7, .int .i64 i)], [(25, ⟨Yg acc, 1, 9, true⟩)]⟩) (fun ⟨i, k, acc⟩ => SplitI s c i k acc) (fun ⟨i, k, acc⟩ => s.length - i) (0, 0, []) ?_ ?_ ?_
 ·exact le_trans (QcB 5 25 1 9 rfl rfl) (Zc (l := [0, 1, 5, 6, 7]) (lH := [25]) (kp5 rfl rfl rfl rfl rfl) (Ql rfl Qt) rfl rfl rfl)
 ·exact SplitI.zero
 intro ⟨i, k, acc⟩ hI
 have hI1 := hI.1
 have hI2 := hI.2.1
 have hI3 := hI.2.2.1
 try dsimp only
 refine QH ?_ -- 1
 refine Qf fun K hK => Qd Z (Qd Z (ZF Z (Xq Z Z (hK _ _ (Qa (kp6 Z Z Z Z Z Z) ?_)))))
 refine Qx Z (fun h1 => ?_) (fun h1 => ?_)
 ·try rw [h1]
  try simp only [qB] at h1
  refine Qu (Qe (kp5 Z Z Z Z Z) ?_)
  refine QH ?_ -- 2
  refine QK (Qf fun K hK => Qd Z (Qd Z (ZA Z Z (by omega) (X3 (by omega)) (Qd Z (Xf Z Z (hK _ _ (Qa (kp6 Z Z Z Z Z Z) ?_)))))))
  refine Qx Z (fun h2 => ?_) (fun h2 => ?_)
  ·try rw [h2]
   try simp only [qB] at h2
   refine Qf fun K hK => Qd Z (Qd Z (Qd Z (Qd Z (Qae Z Z Z (by omega) (by omega) (by omega) Z (Zf Z Z (Qb5 Z Z (fun _ h => Qfa Z Z Z h) Z (by simp [Yg]) Z Z Z (by simp; omega) (by simp; omega) (Qd Z (hK _ _ (Qa (kp4 Z Z Z Z) ?_)))))))))
   refine Q6 fun K hK => Qd Z (Zy Z Z (by first | exact Qz (by omega) (by omega) | exact QJ (by omega) (by omega) | exact QT (by omega) (by omega) | rfl) (Qd Z (hK _ ?_)))
   refine Qm (Qe (kp5 Z Z Z Z Z) (Q6 fun K hK => Qd Z (Zy Z Z (by first | exact Qz (by omega) (by omega) | exact QJ (by omega) (by omega) | exact QT (by omega) (by omega) | rfl) (Qd Z (hK _ ?_)))))
   refine Qq (i + 1, i + 1, acc ++ [(s.take i).drop k]) ?_ ?_ ?_
   ·exact Zc (l := [0, 1, 5, 6, 7]) (lH := [25]) (kp5 rfl rfl rfl rfl rfl) (Ql rfl Qt) (by simp [Yg, D.scrub]) (by simp [Yg, Box.scrub]) rfl
   ·exact hI.hit (by omega) (by assumption)
   ·show s.length - (i + 1) < s.length - i; omega
  ·try rw [h2]
   try simp only [qB] at h2
   refine Qu (Qm (Qe (kp5 Z Z Z Z Z) (Q6 fun K hK => Qd Z (Zy Z Z (by first | exact Qz (by omega) (by omega) | exact QJ (by omega) (by omega) | exact QT (by omega) (by omega) | rfl) (Qd Z (hK _ ?_))))))
   refine Qq (i + 1, k, acc) ?_ ?_ ?_
   ·exact Zc (l := [0, 1, 5, 6, 7]) (lH := [25]) (kp5 rfl rfl rfl rfl rfl) (Ql rfl Qt) (by simp [Yg, D.scrub]) (by simp [Yg, Box.scrub]) rfl
   ·exact hI.miss (by omega) (by assumption)
   ·show s.length - (i + 1) < s.length - i; omega
 ·try rw [h1]
  try simp only [qB] at h1
  refine Zp (QN (QC (QP (Qe (kp3 Z Z Z) (Qf fun K hK => Qd Z (Qd Z (Qd Z (Qae Z Z Z (by omega) (by omega) (by omega) Z (Zf Z Z (Qb5 Z Z (fun _ h => Qfa Z Z Z h) Z (by simp [Yg]) Z Z Z (by simp; omega) (by simp; omega) ?_))))))))))
  refine Qd Z (hK _ _ (Qa (kp1 Z) ?_))
  refine Qr (X9 Z ?_)
  rw [hI.done (by omega)]; simp [Xr, D.fz, D.fzS, Qcb, lk, D.can, D.canS, Yg]
theorem Yy {s : List UInt8} {c : Int} (hl : s.length <= 1000000) : Ok Tryd.prog 95 [.str s, .int .u8 c] (.sl (Yg (QR s c))) := by
 refine Ok.ofT Z7 Tryd.func95 QmS (Nat.le_of_ble_eq_true Z) ?_
 show TW _ _ tf95.body _ _
 refine Qf fun K hK => Qd Z (hK _ _ (Qa (kp2 Z Z) ?_))
 refine Qf fun K hK => Qd Z (hK _ _ (Qa (kp3 Z Z Z) ?_))
 refine Qf fun K hK => Qd Z (hK _ _ (Qa (kp4 Z Z Z Z) ?_))
 refine QH ?_ -- 0
 refine Qf fun K hK => Qd Z (ZF Z (Qd Z (hK _ _ (Qa (kp6 Z Z Z Z Z Z) ?_))))
 refine QK ?_
 refine Z3 (ι := Nat × Nat × List (List UInt8)) (fun ⟨i, k, acc⟩ => ⟨[(0, .str s), (1, .int .u8 c), (5, .osl 24 acc.length), (6, .int .i64 k), (9, .int .i64 s.length), (10, .int .i64 i)], [(24, ⟨Yg acc, 1, 9, true⟩)]⟩) (fun ⟨i, k, acc⟩ => SplitI s c i k acc) (fun ⟨i, k, acc⟩ => s.length - i) (0, 0, []) ?_ ?_ ?_
 ·exact le_trans (QcB 5 24 1 9 rfl rfl) (Zc (l := [0, 1, 5, 6, 9, 10]) (lH := [24]) (kp6 rfl rfl rfl rfl rfl rfl) (Ql rfl Qt) rfl rfl rfl)
 ·exact SplitI.zero
 intro ⟨i, k, acc⟩ hI
 have hI1 := hI.1
 have hI2 := hI.2.1
 have hI3 := hI.2.2.1
 try dsimp only
 refine Qf fun K hK => Xq Z Z (hK _ _ (Qa (kp7 Z Z Z Z Z Z Z) ?_))
 refine QH ?_ -- 1
 refine Qx Z (fun h1 => ?_) (fun h1 => ?_)
 ·try rw [h1]
  try simp only [qB] at h1
  refine Qu (Qe (kp6 Z Z Z Z Z Z) ?_)
  refine QH ?_ -- 2
  refine QK (Qf fun K hK => Qd Z (Qd Z (hK _ _ (Qa (kp7 Z Z Z Z Z Z Z) ?_))))
  refine Qf fun K hK => Qd Z (Qd Z (ZA Z Z (by omega) (X3 (by omega)) (Qd Z (Xf Z Z (hK _ _ (Qa (kp8 Z Z Z Z Z Z Z Z) ?_))))))
  refine Qx Z (fun h2 => ?_) (fun h2 => ?_)
  ·try rw [h2]
   try simp only [qB] at h2
   refine Qf fun K hK => Qd Z (Qd Z (Qd Z (Qd Z (Qae Z Z Z (by omega) (by omega) (by omega) Z (Zf Z Z (Qb5 Z Z (fun _ h => Qfa Z Z Z h) Z (by simp [Yg]) Z Z Z (by simp; omega) (by simp; omega) (Qd Z (hK _ _ (Qa (kp6 Z Z Z Z Z Z) ?_)))))))))
   refine Q6 fun K hK => Qd Z (Zy Z Z (by first | exact Qz (by omega) (by omega) | exact QJ (by omega) (by omega) | exact QT (by omega) (by omega) | rfl) (Qd Z (hK _ ?_)))
   refine Qm (Qe (kp6 Z Z Z Z Z Z) (Q6 fun K hK => Zy Z Z (by first | exact Qz (by omega) (by omega) | exact QJ (by omega) (by omega) | exact QT (by omega) (by omega) | rfl) (Qd Z (hK _ ?_))))
   refine Qq (i + 1, i + 1, acc ++ [(s.take i).drop k]) ?_ ?_ ?_
   ·exact Zc (l := [0, 1, 5, 6, 9, 10]) (lH := [24]) (kp6 rfl rfl rfl rfl rfl rfl) (Ql rfl Qt) (by simp [Yg, D.scrub]) (by simp [Yg, Box.scrub]) rfl
   ·exact hI.hit (by omega) (by assumption)
   ·show s.length - (i + 1) < s.length - i; omega
  ·try rw [h2]
   try simp only [qB] at h2
   refine Qu (Qm (Qe (kp6 Z Z Z Z Z Z) (Q6 fun K hK => Zy Z Z (by first | exact Qz (by omega) (by omega) | exact QJ (by omega) (by omega) | exact QT (by omega) (by omega) | rfl) (Qd Z (hK _ ?_)))))
   refine Qq (i + 1, k, acc) ?_ ?_ ?_
   ·exact Zc (l := [0, 1, 5, 6, 9, 10]) (lH := [24]) (kp6 rfl rfl rfl rfl rfl rfl) (Ql rfl Qt) (by simp [Yg, D.scrub]) (by simp [Yg, Box.scrub]) rfl
   ·exact hI.miss (by omega) (by assumption)
   ·show s.length - (i + 1) < s.length - i; omega
 ·try rw [h1]
  try simp only [qB] at h1
  refine Zp (QN (QC (QP (Qe (kp3 Z Z Z) (Qf fun K hK => Qd Z (Qd Z (Qd Z (Qae Z Z Z (by omega) (by omega) (by omega) Z (Zf Z Z (Qb5 Z Z (fun _ h => Qfa Z Z Z h) Z (by simp [Yg]) Z Z Z (by simp; omega) (by simp; omega) ?_))))))))))
  refine Qd Z (hK _ _ (Qa (kp1 Z) ?_))
  refine Qr (X9 Z ?_)
  rw [hI.done (by omega)]; simp [Xr, D.fz, D.fzS, Qcb, lk, D.can, D.canS, Yg]
end Go.Proofs
namespace Go.Proofs
open Go Go.Abs M3
set_option linter.unusedVariables false
set_option linter.unusedSimpArgs false
theorem YY {s : List UInt8} : Ok Tryd.prog 114 [.str s] (.bool false) := by
 refine Ok.ofT Z7 Tryd.func114 QlQ (Nat.le_of_ble_eq_true Z) ?_
 show TW _ _ tf114.body _ _
 refine Qf fun K hK => Qd Z (hK _ _ (Qa (kp1 Z) ?_))
 refine Qf fun K hK => Qd Z (Qd Z (Qg0 Z Z (Qd Z (hK _ _ (Qa (kp1 Z) ?_)))))
 refine Qr (Qi Z ?_)
 simp
theorem Yw {a b : List UInt8} : Ok Tryd.prog 112 [.str a, .str b] (.int .i64 (QbE a b)) := by
 refine Ok.ofT Z7 Tryd.func112 QlP (Nat.le_of_ble_eq_true Z) ?_
 show TW _ _ tf112.body _ _
 refine Qf fun K hK => Qd Z (hK _ _ (Qa (kp2 Z Z) ?_))
 refine Qf fun K hK => Qd Z (QB (YY) Z Z (.inr Z) (Qd Z (hK _ _ (Qa (kp3 Z Z Z) ?_))))
 refine Qf fun K hK => Qd Z (QB (YY) Z Z (.inr Z) (Qd Z (hK _ _ (Qa (kp4 Z Z Z Z) ?_))))
 refine QH ?_ -- 0
 refine Qf fun K hK => Qd Z (hK _ _ (Qa (kp4 Z Z Z Z) ?_))
 refine Qx Z (fun h1 => ?_) (fun h1 => ?_)
 ·try rw [h1]
  try simp only [qB] at h1
  refine QH ?_ -- 1
  refine Qf fun K hK => Qd Z (hK _ _ (Qa (kp1 Z) ?_))
  refine Qx Z (fun h2 => ?_) (fun h2 => ?_)
  ·try rw [h2]
   try simp only [qB] at h2
   refine Qf fun K hK => Qd Z (hK _ _ (Qa (kp1 Z) ?_))
   refine Qr (Qj (Qj (Qy Z ?_)))
   (repeat clear hK K); simp_all [QbE]
  ·try rw [h2]
   try simp only [qB] at h2
   refine Qu (Qe (QI) (Qf fun K hK => Qd Z (hK _ _ (Qa (kp1 Z) ?_))))
   refine Qr (Qj (Qy Z ?_))
   (repeat clear hK K); simp_all [QbE]
 ·try rw [h1]
  try simp only [qB] at h1
  refine Qu (Qe (kp3 Z Z Z) ?_)
  refine QH ?_ -- 2
  refine Qf fun K hK => Qd Z (hK _ _ (Qa (kp3 Z Z Z) ?_))
  refine Qx Z (fun h3 => ?_) (fun h3 => ?_)
  ·try rw [h3]
   try simp only [qB] at h3
   refine Qf fun K hK => Qd Z (hK _ _ (Qa (kp1 Z) ?_))
   refine Qr (Qj (Qy Z ?_))
   (repeat clear hK K); simp_all [QbE]
  ·try rw [h3]
   try simp only [qB] at h3
   refine Qu (Qe (kp2 Z Z) ?_)
   refine QH ?_ -- 3
   refine Qf fun K hK => Qd Z (Qd Z (Qln Z Z (hK _ _ (Qa (kp3 Z Z Z) ?_))))
   refine Qx Z (fun h4 => ?_) (fun h4 => ?_)
   ·try rw [h4]
    try simp only [qB] at h4
    refine Qf fun K hK => Qd Z (hK _ _ (Qa (kp1 Z) ?_))
    refine Qr (Qj (Qy Z ?_))
    (repeat clear hK K); simp_all [QbE]
   ·try rw [h4]
    try simp only [qB] at h4
    refine Qu (Qe (kp2 Z Z) ?_)
    refine QH ?_ -- 4
    refine Qf fun K hK => Qd Z (Qd Z (Qlm Z Z (hK _ _ (Qa (kp1 Z) ?_))))
    refine Qx Z (fun h5 => ?_) (fun h5 => ?_)
    ·try rw [h5]
     try simp only [qB] at h5
     refine Qf fun K hK => Qd Z (hK _ _ (Qa (kp1 Z) ?_))
     refine Qr (Qj (Qy Z ?_))
     (repeat clear hK K); simp_all [QbE]
    ·try rw [h5]
     try simp only [qB] at h5
     refine Qu (Qe (QI) (Qf fun K hK => Qd Z (hK _ _ (Qa (kp1 Z) ?_))))
     refine Qr (Qy Z ?_)
     (repeat clear hK K); simp_all [QbE]
theorem Qas {c : Int} : Ok Tryd.prog 102 [.int .u8 c] (.bool (Yu c)) := by
 refine Ok.ofT Z7 Tryd.func102 QlH (Nat.le_of_ble_eq_true Z) ?_
 show TW _ _ tf102.body _ _
 refine Qf fun K hK => Qd Z (hK _ _ (Qa (kp1 Z) ?_))
 refine Qf fun K hK => Qd Z (QgZ Z Z (Qd Z ?_))
 refine Qv (g := 5) Z (fun h1 => ?_) (fun h1 => ?_)
 ·try rw [h1]
  try simp only [qB] at h1
  refine Qg Z (Qd Z (Qg Z (Qi6 Z Z (Qh Z Z (Qd Z (hK _ _ (Qa (kp1 Z) ?_)))))))
  refine Qr (Qi Z ?_)
  (repeat clear hK K); simp_all [Yu] <;> omega
 ·try rw [h1]
  try simp only [qB] at h1
  refine Qs Z (Qs Z (Qh Z Z (Qd Z (hK _ _ (Qa (kp1 Z) ?_)))))
  refine Qr (Qi Z ?_)
  (repeat clear hK K); simp_all [Yu] <;> omega
theorem XQ {s : List UInt8} (hl : s.length <= 1000000) : Ok Tryd.prog 88 [.str s] (.bool (Z1 s)) := by
 refine Ok.ofT Z7 Tryd.func88 QmO (Nat.le_of_ble_eq_true Z) ?_
 show TW _ _ tf88.body _ _
 refine Qf fun K hK => Qd Z (hK _ _ (Qa (kp1 Z) ?_))
 refine QH ?_ -- 0
 refine Qf fun K hK => Qd Z (hK _ _ (Qa (kp2 Z Z) ?_))
 refine QK ?_
 refine Z3 (ι := Nat) (fun i => ⟨[(0, .str s), (3, .int .i64 i)], []⟩) (fun i => i <= s.length /\ (s.take i).all ZE = true) (fun i => s.length - i) 0 ?_ ?_ ?_
 ·exact Q0 (kp2 rfl rfl)
 ·exact ⟨Nat.zero_le _, rfl⟩
 intro i hI
 try dsimp only
 refine QH ?_ -- 1
 refine Qf fun K hK => Qd Z (Qd Z (ZF Z (Xq Z Z (hK _ _ (Qa (kp3 Z Z Z) ?_)))))
 refine Qx Z (fun h1 => ?_) (fun h1 => ?_)
 ·try rw [h1]
  try simp only [qB] at h1
  refine Qu (Qe (kp2 Z Z) ?_)
  refine QH ?_ -- 2
  refine QK (Qf fun K hK => Qd Z (Qd Z (ZA Z Z (by omega) (X3 (by omega)) (Xq Z Z (Qd Z ?_)))))
  refine Qv (g := 14) Z (fun h2 => ?_) (fun h2 => ?_)
  ·try rw [h2]
   try simp only [qB] at h2
   refine Qs Z (Qs Z (Qs Z (Qs Z (Qh Z Z (hK _ _ (Qa (kp3 Z Z Z) ?_))))))
   refine Zh Z (Qf fun K hK => Qd Z (hK _ _ (Qa (kp1 Z) ?_)))
   refine Qr (Qw (Qj (QX (Qw (Qj (Qi Z ?_))))))
   exact (Qam (i := i) (by omega) (by simp [ZE]; omega)).symm
  ·try rw [h2]
   try simp only [qB] at h2
   refine Qg Z (Qd Z (Qg Z (Qd Z (Qg Z (ZA Z Z (by omega) (X3 (by omega)) (Qg Z (Qb7 Z Z (Qh Z Z (hK _ _ (Qa (kp3 Z Z Z) ?_))))))))))
   refine Qx Z (fun h3 => ?_) (fun h3 => ?_)
   ·try rw [h3]
    try simp only [qB] at h3
    refine Qf fun K hK => Qd Z (hK _ _ (Qa (kp1 Z) ?_))
    refine Qr (Qw (Qj (QX (Qw (Qj (Qi Z ?_))))))
    exact (Qam (i := i) (by omega) (by simp [ZE]; omega)).symm
   ·try rw [h3]
    try simp only [qB] at h3
    refine Qu (Qm (Qe (kp2 Z Z) (Q6 fun K hK => Qd Z (Zy Z Z (by first | exact Qz (by omega) (by omega) | exact QJ (by omega) (by omega) | exact QT (by omega) (by omega) | rfl) (Qd Z (hK _ ?_))))))
    refine Qq (i + 1) ?_ ?_ ?_
    ·exact Q0 (kp2 rfl rfl)
    ·exact ⟨by omega, QV (by omega) hI.2 (by simp [ZE]; omega)⟩
    ·first | omega | (simp only; omega) | (dsimp only; omega)
 ·try rw [h1]
  try simp only [qB] at h1
  refine Zp (QN (QC (QP (Qe (kp1 Z) (Qf fun K hK => Qd Z (ZF Z (Qb7 Z Z (Qd Z (hK _ _ (Qa (kp1 Z) ?_))))))))))
  refine Qr (Qi Z ?_)
  rw [QcN (i := i) (by omega) hI.2]; cases s <;> simp
theorem Qa0 {s : List UInt8} (hl : s.length <= 1000000) : Ok Tryd.prog 86 [.str s] (.bool (XS s)) := by
 refine Ok.ofT Z7 Tryd.func86 QmM (Nat.le_of_ble_eq_true Z) ?_
 show TW _ _ tf86.body _ _
 refine Qf fun K hK => Qd Z (hK _ _ (Qa (kp1 Z) ?_))
 refine QH ?_ -- 0
 refine Qf fun K hK => Qd Z (ZF Z (Xq Z Z (Qd Z ?_)))
 refine Qv (g := 8) Z (fun h1 => ?_) (fun h1 => ?_)
 ·try rw [h1]
  try simp only [qB] at h1
  refine Qs Z (Qs Z (Qs Z (Qh Z Z (hK _ _ (Qa (kp2 Z Z) ?_)))))
  refine Zh Z (Qf fun K hK => Qd Z (hK _ _ (Qa (kp1 Z) ?_)))
  refine Qr (Qj (Qi Z ?_))
  first | (have hz := Yi (p := Ze) (s := s) (i := i) (by omega) hI.2; simp [XS, hz]; omega) | (have hz := ZL (p := Ze) (s := s) (i := i) (by omega) (by simp [Ze]; omega); simp [XS, hz]; done) | (simp [XS]; omega)
 ·try rw [h1]
  try simp only [qB] at h1
  refine Qg Z (Qd Z (Qg Z (ZF Z (Qg Z (Qb7 Z Z (Qh Z Z (hK _ _ (Qa (kp2 Z Z) ?_))))))))
  refine Qx Z (fun h2 => ?_) (fun h2 => ?_)
  ·try rw [h2]
   try simp only [qB] at h2
   refine Qf fun K hK => Qd Z (hK _ _ (Qa (kp1 Z) ?_))
   refine Qr (Qj (Qi Z ?_))
   first | (have hz := Yi (p := Ze) (s := s) (i := i) (by omega) hI.2; simp [XS, hz]; omega) | (have hz := ZL (p := Ze) (s := s) (i := i) (by omega) (by simp [Ze]; omega); simp [XS, hz]; done) | (simp [XS]; omega)
  ·try rw [h2]
   try simp only [qB] at h2
   refine Qu (Qe (kp1 Z) ?_)
   refine QH ?_ -- 1
   refine Qf fun K hK => Qd Z (hK _ _ (Qa (kp2 Z Z) ?_))
   refine QK ?_
   refine Z3 (ι := Nat) (fun i => ⟨[(0, .str s), (3, .int .i64 i)], []⟩) (fun i => i <= s.length /\ (s.take i).all Ze = true) (fun i => s.length - i) 0 ?_ ?_ ?_
   ·exact Q0 (kp2 rfl rfl)
   ·exact ⟨Nat.zero_le _, rfl⟩
   intro i hI
   try dsimp only
   refine QH ?_ -- 2
   refine Qf fun K hK => Qd Z (Qd Z (ZF Z (Xq Z Z (hK _ _ (Qa (kp3 Z Z Z) ?_)))))
   refine Qx Z (fun h3 => ?_) (fun h3 => ?_)
   ·try rw [h3]
    try simp only [qB] at h3
    refine Qu (Qe (kp2 Z Z) ?_)
    refine QH ?_ -- 3
    refine QK (Qf fun K hK => Qd Z (Qd Z (ZA Z Z (by omega) (X3 (by omega)) (Qd Z (hK _ _ (Qa (kp3 Z Z Z) ?_))))))
    refine Qf fun K hK => Qd Z (Xq Z Z (Qd Z ?_))
    refine Qv (g := 24) Z (fun h4 => ?_) (fun h4 => ?_)
    ·try rw [h4]
     try simp only [qB] at h4
     refine Qs Z (Qs Z (Qh Z Z (Qd Z (Qg Z (Qd Z (Qg Z (Xq Z Z (Qg Z (Qd Z ?_)))))))))
     refine Qv (g := 31) Z (fun h5 => ?_) (fun h5 => ?_)
     ·try rw [h5]
      try simp only [qB] at h5
      refine Qs Z (Qs Z (Qg Z (Qh Z Z (Qh Z Z (Qd Z (Qg Z (Qd Z (Qg Z (Yh Z Z (Qh Z Z (hK _ _ (Qa (kp3 Z Z Z) ?_))))))))))))
      refine Qx Z (fun h6 => ?_) (fun h6 => ?_)
      ·try rw [h6]
       try simp only [qB] at h6
       refine Qf fun K hK => Qd Z (hK _ _ (Qa (kp1 Z) ?_))
       refine Qr (Qw (Qj (QX (Qw (Qj (Qi Z ?_))))))
       first | (have hz := Yi (p := Ze) (s := s) (i := i) (by omega) hI.2; simp [XS, hz]; omega) | (have hz := ZL (p := Ze) (s := s) (i := i) (by omega) (by simp [Ze]; omega); simp [XS, hz]; done) | (simp [XS]; omega)
      ·try rw [h6]
       try simp only [qB] at h6
       refine Qu (Qm (Qe (kp2 Z Z) (Q6 fun K hK => Qd Z (Zy Z Z (by first | exact Qz (by omega) (by omega) | exact QJ (by omega) (by omega) | exact QT (by omega) (by omega) | rfl) (Qd Z (hK _ ?_))))))
       refine Qq (i + 1) ?_ ?_ ?_
       ·exact Q0 (kp2 rfl rfl)
       ·exact ⟨by omega, QV (by omega) hI.2 (by simp [Ze]; omega)⟩
       ·first | omega | (simp only; omega) | (dsimp only; omega)
     ·try rw [h5]
      try simp only [qB] at h5
      refine Qg Z (Qd Z (Qg Z (Qb7 Z Z (Qg Z (Qh Z Z (Qh Z Z (Qd Z ?_)))))))
      refine Qv (g := 36) Z (fun h7 => ?_) (fun h7 => ?_)
      ·try rw [h7]
       try simp only [qB] at h7
       refine Qg Z (Qd Z (Qg Z (Yh Z Z (Qh Z Z (hK _ _ (Qa (kp3 Z Z Z) ?_))))))
       refine Qx Z (fun h8 => ?_) (fun h8 => ?_)
       ·try rw [h8]
        try simp only [qB] at h8
        refine Qf fun K hK => Qd Z (hK _ _ (Qa (kp1 Z) ?_))
        refine Qr (Qw (Qj (QX (Qw (Qj (Qi Z ?_))))))
        first | (have hz := Yi (p := Ze) (s := s) (i := i) (by omega) hI.2; simp [XS, hz]; omega) | (have hz := ZL (p := Ze) (s := s) (i := i) (by omega) (by simp [Ze]; omega); simp [XS, hz]; done) | (simp [XS]; omega)
       ·try rw [h8]
        try simp only [qB] at h8
        refine Qu (Qm (Qe (kp2 Z Z) (Q6 fun K hK => Qd Z (Zy Z Z (by first | exact Qz (by omega) (by omega) | exact QJ (by omega) (by omega) | exact QT (by omega) (by omega) | rfl) (Qd Z (hK _ ?_))))))
        refine Qq (i + 1) ?_ ?_ ?_
        ·exact Q0 (kp2 rfl rfl)
        ·exact ⟨by omega, QV (by omega) hI.2 (by simp [Ze]; omega)⟩
        ·first | omega | (simp only; omega) | (dsimp only; omega)
      ·try rw [h7]
       try simp only [qB] at h7
       refine Qs Z (Qs Z (Qh Z Z (hK _ _ (Qa (kp3 Z Z Z) ?_))))
       refine Zr Z (Qu (Qm (Qe (kp2 Z Z) (Q6 fun K hK => Qd Z (Zy Z Z (by first | exact Qz (by omega) (by omega) | exact QJ (by omega) (by omega) | exact QT (by omega) (by omega) | rfl) (Qd Z (hK _ ?_)))))))
       refine Qq (i + 1) ?_ ?_ ?_
       ·exact Q0 (kp2 rfl rfl)
       ·exact ⟨by omega, QV (by omega) hI.2 (by simp [Ze]; omega)⟩
       ·first | omega | (simp only; omega) | (dsimp only; omega)
    ·try rw [h4]
     try simp only [qB] at h4
     refine Qg Z (Qd Z (Qg Z (Qb7 Z Z (Qh Z Z (Qd Z ?_)))))
     refine Qv (g := 28) Z (fun h9 => ?_) (fun h9 => ?_)
     ·try rw [h9]
      try simp only [qB] at h9
      refine Qg Z (Qd Z (Qg Z (Xq Z Z (Qg Z (Qd Z ?_)))))
      refine Qv (g := 31) Z (fun h10 => ?_) (fun h10 => ?_)
      ·try rw [h10]
       try simp only [qB] at h10
       refine Qs Z (Qs Z (Qg Z (Qh Z Z (Qh Z Z (Qd Z (Qg Z (Qd Z (Qg Z (Yh Z Z (Qh Z Z (hK _ _ (Qa (kp3 Z Z Z) ?_))))))))))))
       refine Qx Z (fun h11 => ?_) (fun h11 => ?_)
       ·try rw [h11]
        try simp only [qB] at h11
        refine Qf fun K hK => Qd Z (hK _ _ (Qa (kp1 Z) ?_))
        refine Qr (Qw (Qj (QX (Qw (Qj (Qi Z ?_))))))
        first | (have hz := Yi (p := Ze) (s := s) (i := i) (by omega) hI.2; simp [XS, hz]; omega) | (have hz := ZL (p := Ze) (s := s) (i := i) (by omega) (by simp [Ze]; omega); simp [XS, hz]; done) | (simp [XS]; omega)
       ·try rw [h11]
        try simp only [qB] at h11
        refine Qu (Qm (Qe (kp2 Z Z) (Q6 fun K hK => Qd Z (Zy Z Z (by first | exact Qz (by omega) (by omega) | exact QJ (by omega) (by omega) | exact QT (by omega) (by omega) | rfl) (Qd Z (hK _ ?_))))))
        refine Qq (i + 1) ?_ ?_ ?_
        ·exact Q0 (kp2 rfl rfl)
        ·exact ⟨by omega, QV (by omega) hI.2 (by simp [Ze]; omega)⟩
        ·first | omega | (simp only; omega) | (dsimp only; omega)
      ·try rw [h10]
       try simp only [qB] at h10
       refine Qg Z (Qd Z (Qg Z (Qb7 Z Z (Qg Z (Qh Z Z (Qh Z Z (Qd Z ?_)))))))
       refine Qv (g := 36) Z (fun h12 => ?_) (fun h12 => ?_)
       ·try rw [h12]
        try simp only [qB] at h12
        refine Qg Z (Qd Z (Qg Z (Yh Z Z (Qh Z Z (hK _ _ (Qa (kp3 Z Z Z) ?_))))))
        refine Qx Z (fun h13 => ?_) (fun h13 => ?_)
        ·try rw [h13]
         try simp only [qB] at h13
         refine Qf fun K hK => Qd Z (hK _ _ (Qa (kp1 Z) ?_))
         refine Qr (Qw (Qj (QX (Qw (Qj (Qi Z ?_))))))
         first | (have hz := Yi (p := Ze) (s := s) (i := i) (by omega) hI.2; simp [XS, hz]; omega) | (have hz := ZL (p := Ze) (s := s) (i := i) (by omega) (by simp [Ze]; omega); simp [XS, hz]; done) | (simp [XS]; omega)
        ·try rw [h13]
         try simp only [qB] at h13
         refine Qu (Qm (Qe (kp2 Z Z) (Q6 fun K hK => Qd Z (Zy Z Z (by first | exact Qz (by omega) (by omega) | exact QJ (by omega) (by omega) | exact QT (by omega) (by omega) | rfl) (Qd Z (hK _ ?_))))))
         refine Qq (i + 1) ?_ ?_ ?_
         ·exact Q0 (kp2 rfl rfl)
         ·exact ⟨by omega, QV (by omega) hI.2 (by simp [Ze]; omega)⟩
         ·first | omega | (simp only; omega) | (dsimp only; omega)
       ·try rw [h12]
        try simp only [qB] at h12
        refine Qs Z (Qs Z (Qh Z Z (hK _ _ (Qa (kp3 Z Z Z) ?_))))
        refine Zr Z (Qu (Qm (Qe (kp2 Z Z) (Q6 fun K hK => Qd Z (Zy Z Z (by first | exact Qz (by omega) (by omega) | exact QJ (by omega) (by omega) | exact QT (by omega) (by omega) | rfl) (Qd Z (hK _ ?_)))))))
        refine Qq (i + 1) ?_ ?_ ?_
        ·exact Q0 (kp2 rfl rfl)
        ·exact ⟨by omega, QV (by omega) hI.2 (by simp [Ze]; omega)⟩
        ·first | omega | (simp only; omega) | (dsimp only; omega)
     ·try rw [h9]
      try simp only [qB] at h9
      refine Qs Z (Qs Z (Qs Z (QG Z (QG Z (Qs Z (Qh Z Z (Qd Z (Qs Z (Qs Z (Qh Z Z (hK _ _ (Qa (kp3 Z Z Z) ?_))))))))))))
      refine Zr Z (Qu (Qm (Qe (kp2 Z Z) (Q6 fun K hK => Qd Z (Zy Z Z (by first | exact Qz (by omega) (by omega) | exact QJ (by omega) (by omega) | exact QT (by omega) (by omega) | rfl) (Qd Z (hK _ ?_)))))))
      refine Qq (i + 1) ?_ ?_ ?_
      ·exact Q0 (kp2 rfl rfl)
      ·exact ⟨by omega, QV (by omega) hI.2 (by simp [Ze]; omega)⟩
      ·first | omega | (simp only; omega) | (dsimp only; omega)
   ·try rw [h3]
    try simp only [qB] at h3
    refine Zp (QN (QC (QP (Qe (QI) (Qf fun K hK => Qd Z (hK _ _ (Qa (kp1 Z) ?_)))))))
    refine Qr (Qi Z ?_)
    first | (have hz := Yi (p := Ze) (s := s) (i := i) (by omega) hI.2; simp [XS, hz]; omega) | (have hz := ZL (p := Ze) (s := s) (i := i) (by omega) (by simp [Ze]; omega); simp [XS, hz]; done) | (simp [XS]; omega)
theorem QaA {a b c : Int} {p q : List UInt8} : Ok Tryd.prog 108 [.agg [.int .i64 a, .int .i64 b, .int .i64 c, .str p, .str q]] (.agg [.int .i64 a, .int .i64 b, .int .i64 c, .str p, .str []]) := by
 refine Ok.ofT Z7 Tryd.func108 QlM (Nat.le_of_ble_eq_true Z) ?_
 show TW _ _ tf108.body _ _
 refine Qf fun K hK => ZP Z Z Z (Zi Z (hK _ _ (Qa (kp2 Z Z) ?_)))
 refine Qf fun K hK => Qn Z Z (QS Z Z Z Z Z Z Z Z (hK _ _ (Qa (kp2 Z Z) ?_)))
 refine Qf fun K hK => QL (cs := [_, _, _, _, _]) Z Z Z Z (QS Z Z Z Z Z Z Z Z (hK _ _ (Qa (kp1 Z) ?_)))
 refine Qr (Zs (cs := [_, _, _, _, _]) Z Z Z Z ?_)
 exact rfl
theorem XY {s : List UInt8} (hl : s.length <= 1000000) : Ok Tryd.prog 87 [.str s] (.tup [.int .i64 (Zz s).1, .bool (Zz s).2]) := by
 refine Ok.ofT Z7 Tryd.func87 QmN (Nat.le_of_ble_eq_true Z) ?_
 show TW _ _ tf87.body _ _
 refine Qf fun K hK => Qd Z (Qd Z (hK _ _ (Qa (kp1 Z) ?_)))
 refine Qi7 (ι := Unit) (fun _u => ⟨[(0, .str s)], []⟩) (fun _u => ¬ (s.length < 1 \/ 9 < s.length \/ (1 < s.length /\ s.head? = some 48))) ?_ ?_
 ·skip
  refine Qf fun K hK => Qd Z (ZF Z (Xq Z Z (Qd Z ?_)))
  refine Qv (g := 9) Z (fun h1 => ?_) (fun h1 => ?_)
  ·try rw [h1]
   try simp only [qB, Yu, Bool.and_eq_true, Bool.and_eq_false_iff] at h1
   refine Qs Z (Qs Z (Qs Z (Qh Z Z (Qd Z (Qs Z (Qs Z (Qs Z (Qs Z (QG Z (QG Z (QG Z ?_)))))))))))
   refine Qs Z (Qh Z Z (hK _ _ (Qa (kp2 Z Z) ?_)))
   refine Zh Z (Qf fun K hK => Qd Z (Qd Z (hK _ _ (Qa (kp2 Z Z) ?_))))
   refine Qr (Qai (Zx Z Z ?_))
   first | (rw [Qbs (s := s) (by omega)]; exact ⟨rfl, rfl⟩) | (rw [ZJ (s := s) (by omega) (by assumption)]; exact ⟨rfl, rfl⟩) | (rw [Ye (s := s) (i := i) (by omega) (by simp [ZE]; omega)]; exact ⟨rfl, rfl⟩) | (rw [Qbr (s := s) (i := i) (by omega) (by omega)]; exact ⟨rfl, rfl⟩) | (rw [QcM (s := s) (i := i) hJ (by omega) hI.2.1 (by omega)]; exact ⟨rfl, rfl⟩)
  ·try rw [h1]
   try simp only [qB, Yu, Bool.and_eq_true, Bool.and_eq_false_iff] at h1
   refine Qg Z (Qd Z (Qg Z (ZF Z (Qg Z (Qb7 Z Z (Qh Z Z (Qd Z ?_)))))))
   refine Qv (g := 14) Z (fun h2 => ?_) (fun h2 => ?_)
   ·try rw [h2]
    try simp only [qB, Yu, Bool.and_eq_true, Bool.and_eq_false_iff] at h2
    refine Qs Z (Qs Z (Qs Z (Qs Z (QG Z (QG Z (QG Z (Qs Z (Qh Z Z (hK _ _ (Qa (kp2 Z Z) ?_))))))))))
    refine Zh Z (Qf fun K hK => Qd Z (Qd Z (hK _ _ (Qa (kp2 Z Z) ?_))))
    refine Qr (Qai (Zx Z Z ?_))
    first | (rw [Qbs (s := s) (by omega)]; exact ⟨rfl, rfl⟩) | (rw [ZJ (s := s) (by omega) (by assumption)]; exact ⟨rfl, rfl⟩) | (rw [Ye (s := s) (i := i) (by omega) (by simp [ZE]; omega)]; exact ⟨rfl, rfl⟩) | (rw [Qbr (s := s) (i := i) (by omega) (by omega)]; exact ⟨rfl, rfl⟩) | (rw [QcM (s := s) (i := i) hJ (by omega) hI.2.1 (by omega)]; exact ⟨rfl, rfl⟩)
   ·try rw [h2]
    try simp only [qB, Yu, Bool.and_eq_true, Bool.and_eq_false_iff] at h2
    refine Qg Z (Qd Z (Qg Z (ZF Z (Qg Z (Qb7 Z Z (Qg Z (Qd Z ?_)))))))
    refine Qv (g := 18) Z (fun h3 => ?_) (fun h3 => ?_)
    ·try rw [h3]
     try simp only [qB, Yu, Bool.and_eq_true, Bool.and_eq_false_iff] at h3
     refine Qg Z (Qd Z (Qg Z (ZA Z Z (by omega) (X3 (i := 0) (by omega)) (Qg Z (Xf Z Z (Qg Z (Qh Z Z (Qh Z Z (hK _ _ (Qa (kp2 Z Z) ?_))))))))))
     refine Qx Z (fun h4 => ?_) (fun h4 => ?_)
     ·try rw [h4]
      try simp only [qB, Yu, Bool.and_eq_true, Bool.and_eq_false_iff] at h4
      refine Qf fun K hK => Qd Z (Qd Z (hK _ _ (Qa (kp2 Z Z) ?_)))
      refine Qr (Qai (Zx Z Z ?_))
      first | (rw [Qbs (s := s) (by omega)]; exact ⟨rfl, rfl⟩) | (rw [ZJ (s := s) (by omega) (by assumption)]; exact ⟨rfl, rfl⟩) | (rw [Ye (s := s) (i := i) (by omega) (by simp [ZE]; omega)]; exact ⟨rfl, rfl⟩) | (rw [Qbr (s := s) (i := i) (by omega) (by omega)]; exact ⟨rfl, rfl⟩) | (rw [QcM (s := s) (i := i) hJ (by omega) hI.2.1 (by omega)]; exact ⟨rfl, rfl⟩)
     ·try rw [h4]
      try simp only [qB, Yu, Bool.and_eq_true, Bool.and_eq_false_iff] at h4
      refine Qu ?_
      refine XG () ?_ ?_
      ·exact Q0 (kp1 rfl)
      ·rintro (q | q | q) <;> first | omega | exact QdU (s := s) (by omega) (by assumption) q.2
    ·try rw [h3]
     try simp only [qB, Yu, Bool.and_eq_true, Bool.and_eq_false_iff] at h3
     refine Qs Z (Qs Z (Qs Z (Qg Z (Qh Z Z (Qh Z Z (hK _ _ (Qa (kp2 Z Z) ?_)))))))
     refine Zr Z (Qu ?_)
     refine XG () ?_ ?_
     ·exact Q0 (kp1 rfl)
     ·rintro (q | q | q) <;> first | omega | exact QdU (s := s) (by omega) (by assumption) q.2
 intro _u hJ
 try dsimp only
 refine Qf fun K hK => Qd Z (hK _ _ (Qa (kp2 Z Z) ?_))
 refine QH ?_ -- 1
 refine Qf fun K hK => Qd Z (hK _ _ (Qa (kp3 Z Z Z) ?_))
 refine QK ?_
 refine Z3 (ι := Nat) (fun i => ⟨[(0, .str s), (4, .int .i64 (val (s.take i))), (5, .int .i64 i)], []⟩) (fun i => i <= s.length /\ (s.take i).all ZE = true /\ s.length <= 9) (fun i => s.length - i) 0 ?_ ?_ ?_
 ·first | exact Q0 (kp3 rfl rfl rfl) | exact Zc (l := [0, 4, 5]) (kp3 rfl rfl rfl) Qt (by rw [QbZ (by omega)]; simp; omega) rfl rfl
 ·exact ⟨Nat.zero_le _, rfl, by omega⟩
 intro i hI
 have hv := Qh5 (s := s.take i) hI.2.1
 have hp : 10 ^ (s.take i).length <= 10 ^ 9 := Nat.pow_le_pow_right (by omega) (by simp; omega)
 try dsimp only
 refine QH ?_ -- 2
 refine Qf fun K hK => Qd Z (Qd Z (ZF Z (Xq Z Z (hK _ _ (Qa (kp4 Z Z Z Z) ?_)))))
 refine Qx Z (fun h5 => ?_) (fun h5 => ?_)
 ·try rw [h5]
  try simp only [qB, Yu, Bool.and_eq_true, Bool.and_eq_false_iff] at h5
  refine Qu (Qe (kp3 Z Z Z) ?_)
  refine QH ?_ -- 3
  refine QK ?_
  refine QH ?_ -- 4
  refine Qf fun K hK => Qd Z (Qd Z (ZA Z Z (by omega) (X3 (by omega)) (QB (Qas) Z Z (.inr Z) (ZW Z (hK _ _ (Qa (kp4 Z Z Z Z) ?_))))))
  refine Qx Z (fun h6 => ?_) (fun h6 => ?_)
  ·try rw [h6]
   try simp only [qB, Yu, Bool.and_eq_true, Bool.and_eq_false_iff] at h6
   refine Qf fun K hK => Qd Z (Qd Z (hK _ _ (Qa (kp2 Z Z) ?_)))
   refine Qr (Qj (Qw (Qj (QX (Qw (Qj (Zx Z Z ?_)))))))
   first | (rw [Qbs (s := s) (by omega)]; exact ⟨rfl, rfl⟩) | (rw [ZJ (s := s) (by omega) (by assumption)]; exact ⟨rfl, rfl⟩) | (rw [Ye (s := s) (i := i) (by omega) (by simp [ZE]; omega)]; exact ⟨rfl, rfl⟩) | (rw [Qbr (s := s) (i := i) (by omega) (by omega)]; exact ⟨rfl, rfl⟩) | (rw [QcM (s := s) (i := i) hJ (by omega) hI.2.1 (by omega)]; exact ⟨rfl, rfl⟩)
  ·try rw [h6]
   try simp only [qB, Yu, Bool.and_eq_true, Bool.and_eq_false_iff] at h6
   refine Qu (Qe (kp3 Z Z Z) (Q6 fun K hK => Qd Z (Qig Z Z (by first | exact Qz (by omega) (by omega) | exact QJ (by omega) (by omega) | exact QT (by omega) (by omega) | rfl) (Qd Z (Qd Z (ZA Z Z (by omega) (X3 (by omega)) (Qfk Z Z (by first | exact Qz (by omega) (by omega) | exact QJ (by omega) (by omega) | exact QT (by omega) (by omega) | rfl) (QgX Z (by first | exact Qz (by omega) (by omega) | exact QJ (by omega) (by omega) | exact QT (by omega) (by omega) | rfl) (Zy Z Z (by first | exact Qz (by omega) (by omega) | exact QJ (by omega) (by omega) | exact QT (by omega) (by omega) | rfl) (Qd Z ?_))))))))))
   refine hK _ ?_
   refine Qm (Qe (kp3 Z Z Z) (Q6 fun K hK => Qd Z (Zy Z Z (by first | exact Qz (by omega) (by omega) | exact QJ (by omega) (by omega) | exact QT (by omega) (by omega) | rfl) (Qd Z (hK _ ?_)))))
   refine Qq (i + 1) ?_ ?_ ?_
   ·first | exact Q0 (kp3 rfl rfl rfl) | exact Zc (l := [0, 4, 5]) (kp3 rfl rfl rfl) Qt (by rw [QbZ (by omega)]; simp; omega) rfl rfl
   ·exact ⟨by omega, QV (by omega) hI.2.1 (by simp [ZE]; omega), hI.2.2⟩
   ·first | omega | (simp only; omega) | (dsimp only; omega)
 ·try rw [h5]
  try simp only [qB, Yu, Bool.and_eq_true, Bool.and_eq_false_iff] at h5
  refine Zp (QN (QC (QP (Qe (kp1 Z) ?_))))
  refine QH ?_ -- 5
  refine Qf fun K hK => Qd Z (Qb7 Z Z (hK _ _ (Qa (kp2 Z Z) ?_)))
  refine Qx Z (fun h7 => ?_) (fun h7 => ?_)
  ·try rw [h7]
   try simp only [qB, Yu, Bool.and_eq_true, Bool.and_eq_false_iff] at h7
   refine Qf fun K hK => Qd Z (Qd Z (hK _ _ (Qa (kp2 Z Z) ?_)))
   refine Qr (Qj (Zx Z Z ?_))
   first | (rw [Qbs (s := s) (by omega)]; exact ⟨rfl, rfl⟩) | (rw [ZJ (s := s) (by omega) (by assumption)]; exact ⟨rfl, rfl⟩) | (rw [Ye (s := s) (i := i) (by omega) (by simp [ZE]; omega)]; exact ⟨rfl, rfl⟩) | (rw [Qbr (s := s) (i := i) (by omega) (by omega)]; exact ⟨rfl, rfl⟩) | (rw [QcM (s := s) (i := i) hJ (by omega) hI.2.1 (by omega)]; exact ⟨rfl, rfl⟩)
  ·try rw [h7]
   try simp only [qB, Yu, Bool.and_eq_true, Bool.and_eq_false_iff] at h7
   refine Qu (Qe (kp1 Z) (Qf fun K hK => Qd Z (Qd Z (Qd Z (hK _ _ (Qa (kp2 Z Z) ?_))))))
   refine Qr (Zx Z Z ?_)
   first | (rw [Qbs (s := s) (by omega)]; exact ⟨rfl, rfl⟩) | (rw [ZJ (s := s) (by omega) (by assumption)]; exact ⟨rfl, rfl⟩) | (rw [Ye (s := s) (i := i) (by omega) (by simp [ZE]; omega)]; exact ⟨rfl, rfl⟩) | (rw [Qbr (s := s) (i := i) (by omega) (by omega)]; exact ⟨rfl, rfl⟩) | (rw [QcM (s := s) (i := i) hJ (by omega) hI.2.1 (by omega)]; exact ⟨rfl, rfl⟩)
end Go.Proofs
namespace Go.Proofs
open Go Go.Abs M3
set_option linter.unusedVariables false
set_option linter.unusedSimpArgs false
theorem YM {s : List UInt8} {pre : Bool} (hl : s.length <= 1000000) : Ok Tryd.prog 65 [.str s, .bool pre] (.bool (Xc s pre)) := by
 refine Ok.ofT Z7 Tryd.func65 Qmz (Nat.le_of_ble_eq_true Z) ?_
 show TW _ _ tf65.body _ _
 refine Qf fun K hK => Qd Z (hK _ _ (Qa (kp2 Z Z) ?_))
 refine QH ?_ -- 0
 refine Qf fun K hK => Qd Z (Qb6 Z Z (hK _ _ (Qa (kp3 Z Z Z) ?_)))
 refine Qx Z (fun h1 => ?_) (fun h1 => ?_)
 ·try rw [h1]
  try simp only [qB, Qk] at h1
  refine Qf fun K hK => Qd Z (hK _ _ (Qa (kp1 Z) ?_))
  refine Qr (Qj (Qi Z ?_))
  (repeat clear hK K); first | (simp_all [Xc]; done) | (simp [Xc, h1]; omega) | exact (Qbe (i := i) (by assumption) (by omega) (by simp [Qaz, h1])).symm | exact (X6 (i := i) (by omega) (by omega) hI.2).symm
 ·try rw [h1]
  try simp only [qB, Qk] at h1
  refine Qu (Qe (kp2 Z Z) (Qf fun K hK => Qd Z (QB (Qar (by omega)) Z Z (.inl Z) (Qd Z (hK _ _ (Qa (kp2 Z Z) ?_))))))
  refine QH ?_ -- 1
  refine Qf fun K hK => Qd Z (ZV Z Z (Qb7 Z Z (hK _ _ (Qa (kp3 Z Z Z) ?_))))
  refine Qx Z (fun h2 => ?_) (fun h2 => ?_)
  ·try rw [h2]
   try simp only [qB, Qk] at h2
   refine Qf fun K hK => Qd Z (hK _ _ (Qa (kp1 Z) ?_))
   refine Qr (Qj (Qi Z ?_))
   (repeat clear hK K); first | (simp_all [Xc]; done) | (simp [Xc, h1, h2]; omega) | exact (Qbe (i := i) (by assumption) (by omega) (by simp [Qaz, h1, h2])).symm | exact (X6 (i := i) (by omega) (by omega) hI.2).symm
  ·try rw [h2]
   try simp only [qB, Qk] at h2
   refine Qu (Qe (kp2 Z Z) ?_)
   refine QH ?_ -- 2
   refine Qf fun K hK => Qd Z (hK _ _ (Qa (kp3 Z Z Z) ?_))
   refine QK ?_
   refine Z3 (ι := Nat) (fun i => ⟨[(1, .bool pre), (5, .sl (Yg (QR s 46))), (6, .int .i64 i)], []⟩) (fun i => i <= (QR s 46).length /\ ((QR s 46).take i).all (Qaz pre) = true) (fun i => (QR s 46).length - i) 0 ?_ ?_ ?_
   ·first | exact Q0 (kp3 rfl rfl rfl) | exact Zc (l := [1, 5, 6]) (kp3 rfl rfl rfl) Qt (by simp [h1, h2]) rfl rfl
   ·exact ⟨Nat.zero_le _, rfl⟩
   intro i hI
   try dsimp only
   refine QH ?_ -- 3
   refine Qf fun K hK => Qd Z (Qd Z (ZV Z Z (Xq Z Z (hK _ _ (Qa (kp4 Z Z Z Z) ?_)))))
   refine Qx Z (fun h3 => ?_) (fun h3 => ?_)
   ·try rw [h3]
    try simp only [qB, Qk] at h3
    refine Qu (Qe (kp3 Z Z Z) ?_)
    refine QH ?_ -- 4
    refine QK ?_
    refine QH ?_ -- 5
    refine Qf fun K hK => Qd Z (Qd Z (Zk Z Z Z (by omega) (XE (by omega)) Z (QD Z Z Z (QB (Qa0 (XM (by omega) hl)) Z Z (.inr Z) (ZW Z (hK _ _ (Qa (kp4 Z Z Z Z) ?_)))))))
    refine Qx Z (fun h4 => ?_) (fun h4 => ?_)
    ·try rw [h4]
     try simp only [qB, Qk] at h4
     refine Qf fun K hK => Qd Z (hK _ _ (Qa (kp1 Z) ?_))
     refine Qr (Qj (Qw (Qj (QX (Qw (Qj (Qi Z ?_)))))))
     (repeat clear hK K); first | (simp_all [Xc]; done) | (simp [Xc, h1, h2, h3, h4]; omega) | exact (Qbe (i := i) (by assumption) (by omega) (by simp [Qaz, h1, h2, h3, h4])).symm | exact (X6 (i := i) (by omega) (by omega) hI.2).symm
    ·try rw [h4]
     try simp only [qB, Qk] at h4
     refine Qu (Qe (kp3 Z Z Z) (Qf fun K hK => Qd Z (Qd Z (Zk Z Z Z (by omega) (XE (by omega)) Z (QD Z Z Z (QB (XY (XM (by omega) hl)) Z Z (.inr Z) (Qd Z (Q5 Z Z (Q5 Z Z (Qd Z ?_))))))))))
     refine Qd Z (hK _ _ (Qa (kp4 Z Z Z Z) ?_))
     refine Qf fun K hK => Qd Z (Qd Z ?_)
     refine Qv (g := 37) Z (fun h5 => ?_) (fun h5 => ?_)
     ·try rw [h5]
      try simp only [qB, Qk] at h5
      refine Qg Z (Qd Z (Qg Z (Qd Z (Qg Z (Zk Z Z Z (by omega) (XE (by omega)) Z (Qg Z (QD Z Z Z (Qg Z (QB (XQ (XM (by omega) hl)) Z Z (.inr Z) (Qh Z Z (Qd Z ?_)))))))))))
      refine Qv (g := 44) Z (fun h6 => ?_) (fun h6 => ?_)
      ·try rw [h6]
       try simp only [qB, Qk] at h6
       refine Qg Z (Qd Z (Qg Z (ZW Z (Qh Z Z (hK _ _ (Qa (kp4 Z Z Z Z) ?_))))))
       refine Qx Z (fun h7 => ?_) (fun h7 => ?_)
       ·try rw [h7]
        try simp only [qB, Qk] at h7
        refine Qf fun K hK => Qd Z (hK _ _ (Qa (kp1 Z) ?_))
        refine Qr (Qw (Qj (QX (Qw (Qj (Qi Z ?_))))))
        (repeat clear hK K); first | (simp_all [Xc]; done) | (simp [Xc, h1, h2, h3, h4, h5, h6, h7]; omega) | exact (Qbe (i := i) (by assumption) (by omega) (by simp [Qaz, h1, h2, h3, h4, h5, h6, h7])).symm | exact (X6 (i := i) (by omega) (by omega) hI.2).symm
       ·try rw [h7]
        try simp only [qB, Qk] at h7
        refine Qu (Qm (Qe (kp3 Z Z Z) (Q6 fun K hK => Qd Z (Zy Z Z (by first | exact Qz (by omega) (by omega) | exact QJ (by omega) (by omega) | exact QT (by omega) (by omega) | rfl) (Qd Z (hK _ ?_))))))
        refine Qq (i + 1) ?_ ?_ ?_
        ·first | exact Q0 (kp3 rfl rfl rfl) | exact Zc (l := [1, 5, 6]) (kp3 rfl rfl rfl) Qt (by simp [h1, h2, h3, h4, h5, h6, h7]) rfl rfl
        ·exact ⟨by omega, QV (by omega) hI.2 (by simp [Qaz, h1, h2, h3, h4, h5, h6, h7])⟩
        ·first | omega | (simp only; omega) | (dsimp only; omega)
      ·try rw [h6]
       try simp only [qB, Qk] at h6
       refine Qs Z (Qs Z (Qh Z Z (hK _ _ (Qa (kp4 Z Z Z Z) ?_))))
       refine Zr Z (Qu (Qm (Qe (kp3 Z Z Z) (Q6 fun K hK => Qd Z (Zy Z Z (by first | exact Qz (by omega) (by omega) | exact QJ (by omega) (by omega) | exact QT (by omega) (by omega) | rfl) (Qd Z (hK _ ?_)))))))
       refine Qq (i + 1) ?_ ?_ ?_
       ·first | exact Q0 (kp3 rfl rfl rfl) | exact Zc (l := [1, 5, 6]) (kp3 rfl rfl rfl) Qt (by simp [h1, h2, h3, h4, h5, h6]) rfl rfl
       ·exact ⟨by omega, QV (by omega) hI.2 (by simp [Qaz, h1, h2, h3, h4, h5, h6])⟩
       ·first | omega | (simp only; omega) | (dsimp only; omega)
     ·try rw [h5]
      try simp only [qB, Qk] at h5
      refine Qs Z (Qs Z (Qs Z (Qs Z (Qs Z (Qh Z Z (Qd Z (Qs Z (Qs Z (Qh Z Z (hK _ _ (Qa (kp4 Z Z Z Z) ?_)))))))))))
      refine Zr Z (Qu (Qm (Qe (kp3 Z Z Z) (Q6 fun K hK => Qd Z (Zy Z Z (by first | exact Qz (by omega) (by omega) | exact QJ (by omega) (by omega) | exact QT (by omega) (by omega) | rfl) (Qd Z (hK _ ?_)))))))
      refine Qq (i + 1) ?_ ?_ ?_
      ·first | exact Q0 (kp3 rfl rfl rfl) | exact Zc (l := [1, 5, 6]) (kp3 rfl rfl rfl) Qt (by simp [h1, h2, h3, h4, h5]) rfl rfl
      ·exact ⟨by omega, QV (by omega) hI.2 (by simp [Qaz, h1, h2, h3, h4, h5])⟩
      ·first | omega | (simp only; omega) | (dsimp only; omega)
   ·try rw [h3]
    try simp only [qB, Qk] at h3
    refine Zp (QN (QC (QP (Qe (QI) (Qf fun K hK => Qd Z (hK _ _ (Qa (kp1 Z) ?_)))))))
    refine Qr (Qi Z ?_)
    (repeat clear hK K); first | (simp_all [Xc]; done) | (simp [Xc, h1, h2, h3]; omega) | exact (Qbe (i := i) (by assumption) (by omega) (by simp [Qaz, h1, h2, h3])).symm | exact (X6 (i := i) (by omega) (by omega) hI.2).symm
theorem Zm {a b c : Int} {p q : List UInt8} (hp : p.length <= 1000000) (hq : q.length <= 1000000) : Ok Tryd.prog 46 [.agg [.int .i64 a, .int .i64 b, .int .i64 c, .str p, .str q]] (.bool (XI a b c p q)) := by
 refine Ok.ofT Z7 Tryd.func46 Qmo (Nat.le_of_ble_eq_true Z) ?_
 show TW _ _ tf46.body _ _
 refine Qf fun K hK => ZP Z Z Z (Qd Z (hK _ _ (Qa (kp1 Z) ?_)))
 refine Qf fun K hK => Qn Z Z (QD Z Z Z (QB (Z9) Z Z (.inr Z) (Qd Z ?_)))
 refine Qv (g := 6) Z (fun h1 => ?_) (fun h1 => ?_)
 ·try rw [h1]
  try simp only [qB] at h1
  refine Qg Z (Qn Z Z (Qg Z (QD Z Z Z (Qg Z (QB (Z9) Z Z (.inr Z) (Qh Z Z (Qd Z ?_)))))))
  refine Qv (g := 11) Z (fun h2 => ?_) (fun h2 => ?_)
  ·try rw [h2]
   try simp only [qB] at h2
   refine Qg Z (Qn Z Z (Qg Z (QD Z Z Z (Qg Z (QB (Z9) Z Z (.inr Z) (Qh Z Z (Qd Z ?_)))))))
   refine Qv (g := 16) Z (fun h3 => ?_) (fun h3 => ?_)
   ·try rw [h3]
    try simp only [qB] at h3
    refine Qg Z (Qn Z Z (Qg Z (QD Z Z Z (Qg Z (QB (YM (by omega)) Z Z (.inr Z) (Qh Z Z (Qd Z ?_)))))))
    refine Qv (g := 21) Z (fun h4 => ?_) (fun h4 => ?_)
    ·try rw [h4]
     try simp only [qB] at h4
     refine Qg Z (Qn Z Z (Qg Z (QD Z Z Z (Qg Z (QB (YM (by omega)) Z Z (.inr Z) (Qh Z Z (Qd Z (hK _ _ (Qa (kp1 Z) ?_)))))))))
     refine Qr (Qi Z ?_)
     simp [XI, h1, h2, h3, h4]
    ·try rw [h4]
     try simp only [qB] at h4
     refine Qs Z (Qs Z (Qs Z (Qh Z Z (Qd Z (hK _ _ (Qa (kp1 Z) ?_))))))
     refine Qr (Qi Z ?_)
     simp [XI, h1, h2, h3, h4]
   ·try rw [h3]
    try simp only [qB] at h3
    refine Qs Z (Qs Z (Qs Z (Qh Z Z (Qd Z (Qs Z (Qs Z (Qs Z (Qh Z Z (Qd Z (hK _ _ (Qa (kp1 Z) ?_)))))))))))
    refine Qr (Qi Z ?_)
    simp [XI, h1, h2, h3]
  ·try rw [h2]
   try simp only [qB] at h2
   refine Qs Z (Qs Z (Qs Z (Qh Z Z (Qd Z (Qs Z (Qs Z (Qs Z (Qh Z Z (Qd Z (Qs Z (Qs Z ?_)))))))))))
   refine Qs Z (Qh Z Z (Qd Z (hK _ _ (Qa (kp1 Z) ?_))))
   refine Qr (Qi Z ?_)
   simp [XI, h1, h2]
 ·try rw [h1]
  try simp only [qB] at h1
  refine Qs Z (Qs Z (Qs Z (Qh Z Z (Qd Z (Qs Z (Qs Z (Qs Z (Qh Z Z (Qd Z (Qs Z (Qs Z ?_)))))))))))
  refine Qs Z (Qh Z Z (Qd Z (Qs Z (Qs Z (Qs Z (Qh Z Z (Qd Z (hK _ _ (Qa (kp1 Z) ?_)))))))))
  refine Qr (Qi Z ?_)
  simp [XI, h1]
theorem Qex {l : List Int} (hl : l.length <= 1000000) : Ok Tryd.prog 109 [Yk l] (.int .i64 (ZG l)) := by
 refine Ok.ofT Z7 Tryd.func109 QlN (Nat.le_of_ble_eq_true Z) ?_
 show TW _ _ tf109.body _ _
 refine Qf fun K hK => Qd Z (hK _ _ (Qa (kp1 Z) ?_))
 refine Qf fun K hK => Qd Z (hK _ _ (Qa (kp2 Z Z) ?_))
 refine QH ?_ -- 0
 refine Qf fun K hK => Qd Z (ZV Z Z (Qd Z (hK _ _ (Qa (kp4 Z Z Z Z) ?_))))
 refine QK ?_
 refine Z3 (ι := Nat) (fun i => ⟨[(3, .int .i64 0), (6, Yk l), (7, .int .i64 l.length), (8, .int .i64 i)], []⟩) (fun i => i <= l.length /\ ZG l = ZG (l.drop i)) (fun i => l.length - i) 0 ?_ ?_ ?_
 ·exact Zc (l := [3, 6, 7, 8]) (kp4 rfl rfl rfl rfl) Qt (by simp [Yk]) rfl rfl
 ·exact ⟨Nat.zero_le _, rfl⟩
 intro i hI
 try dsimp only
 refine Qf fun K hK => Xq Z Z (hK _ _ (Qa (kp5 Z Z Z Z Z) ?_))
 refine QH ?_ -- 1
 refine Qx Z (fun h1 => ?_) (fun h1 => ?_)
 ·try rw [h1]
  try simp only [qB] at h1
  refine Qu (Qe (kp4 Z Z Z Z) ?_)
  refine QH ?_ -- 2
  refine QK (Qf fun K hK => Zk Z Z Z (by omega) (QaM (by omega)) Z (QD Z Z Z (Qd Z (hK _ _ (Qa (kp5 Z Z Z Z Z) ?_)))))
  refine Qf fun K hK => Qd Z (Qd Z (Yh Z Z (hK _ _ (Qa (kp6 Z Z Z Z Z Z) ?_))))
  refine Qx Z (fun h2 => ?_) (fun h2 => ?_)
  ·try rw [h2]
   try simp only [qB] at h2
   refine Qf fun K hK => Qd Z (Qd Z (hK _ _ (Qa (kp1 Z) ?_)))
   refine Qr (Qw (Qj (QX (Qw (Qj (Qy Z ?_))))))
   first | (rw [hI.2, Qcp (by omega) (by assumption)]) | (rw [hI.2, List.drop_eq_nil_of_le (by omega)]; rfl)
  ·try rw [h2]
   try simp only [qB] at h2
   refine Qu (Qm (Qe (kp4 Z Z Z Z) (Q6 fun K hK => Zy Z Z (by first | exact Qz (by omega) (by omega) | exact QJ (by omega) (by omega) | exact QT (by omega) (by omega) | rfl) (Qd Z (hK _ ?_)))))
   refine Qq (i + 1) ?_ ?_ ?_
   ·exact Q0 (kp4 rfl rfl rfl rfl)
   ·exact ⟨by omega, by rw [hI.2, QeJ (by omega) (by assumption)]⟩
   ·first | omega | (simp only; omega) | (dsimp only; omega)
 ·try rw [h1]
  try simp only [qB] at h1
  refine Zp (QN (QC (QP (Qe (kp1 Z) (Qf fun K hK => Qd Z (Qd Z (hK _ _ (Qa (kp1 Z) ?_))))))))
  refine Qr (Qy Z ?_)
  first | (rw [hI.2, Qcp (by omega) (by assumption)]) | (rw [hI.2, List.drop_eq_nil_of_le (by omega)]; rfl)
end Go.Proofs
namespace Go.Proofs
open Go Go.Abs M3
set_option linter.unusedVariables false
set_option linter.unusedSimpArgs false
end Go.Proofs
namespace Go.Proofs
open Go Go.Abs M3
set_option linter.unusedVariables false
set_option linter.unusedSimpArgs false
theorem Y8 {s : List UInt8} (hl : s.length <= 1000000) : Ok Tryd.prog 96 [.str s] (.tup [.int .i64 (Zz s).1, .bool (Zz s).2]) := by
 refine Ok.ofT Z7 Tryd.func96 QmT (Nat.le_of_ble_eq_true Z) ?_
 show TW _ _ tf96.body _ _
 refine Qf fun K hK => Qd Z (Qd Z (hK _ _ (Qa (kp1 Z) ?_)))
 refine Qi7 (ι := Unit) (fun _u => ⟨[(0, .str s)], []⟩) (fun _u => ¬ (s = [] \/ 4 < s.length \/ (1 < s.length /\ s.head? = some 48))) ?_ ?_
 ·skip
  refine Qf fun K hK => Qd Z (Qb6 Z Z (Qd Z ?_))
  refine Qv (g := 9) Z (fun h1 => ?_) (fun h1 => ?_)
  ·try rw [h1]
   try simp only [qB, Bool.and_eq_true, Bool.and_eq_false_iff, decide_eq_true_eq] at h1
   refine Qs Z (Qs Z (Qs Z (Qh Z Z (Qd Z (Qs Z (Qs Z (Qs Z (Qs Z (QG Z (QG Z (QG Z ?_)))))))))))
   refine Qs Z (Qh Z Z (hK _ _ (Qa (kp2 Z Z) ?_)))
   refine Zh Z (Qf fun K hK => Qd Z (Qd Z (hK _ _ (Qa (kp2 Z Z) ?_))))
   refine Qr (Qai (Zx Z Z ?_))
   first | (rw [Y4 (s := s) (by first | (left; assumption) | (right; omega))]; exact ⟨rfl, rfl⟩) | (rw [ZJ (s := s) (by omega) (by assumption)]; exact ⟨rfl, rfl⟩) | (rw [Ye (s := s) (i := i) (by omega) (by simp [ZE]; omega)]; exact ⟨rfl, rfl⟩) | (rw [X8 (s := s) (i := i) hJ (by omega) hI.2.1]; exact ⟨rfl, by simp [Xr, D.fz, D.fzS, D.can, D.canS]; omega⟩)
  ·try rw [h1]
   try simp only [qB, Bool.and_eq_true, Bool.and_eq_false_iff, decide_eq_true_eq] at h1
   refine Qg Z (Qd Z (Qg Z (ZF Z (Qg Z (Qb7 Z Z (Qh Z Z (Qd Z ?_)))))))
   refine Qv (g := 14) Z (fun h2 => ?_) (fun h2 => ?_)
   ·try rw [h2]
    try simp only [qB, Bool.and_eq_true, Bool.and_eq_false_iff, decide_eq_true_eq] at h2
    refine Qs Z (Qs Z (Qs Z (Qs Z (QG Z (QG Z (QG Z (Qs Z (Qh Z Z (hK _ _ (Qa (kp2 Z Z) ?_))))))))))
    refine Zh Z (Qf fun K hK => Qd Z (Qd Z (hK _ _ (Qa (kp2 Z Z) ?_))))
    refine Qr (Qai (Zx Z Z ?_))
    first | (rw [Y4 (s := s) (by first | (left; assumption) | (right; omega))]; exact ⟨rfl, rfl⟩) | (rw [ZJ (s := s) (by omega) (by assumption)]; exact ⟨rfl, rfl⟩) | (rw [Ye (s := s) (i := i) (by omega) (by simp [ZE]; omega)]; exact ⟨rfl, rfl⟩) | (rw [X8 (s := s) (i := i) hJ (by omega) hI.2.1]; exact ⟨rfl, by simp [Xr, D.fz, D.fzS, D.can, D.canS]; omega⟩)
   ·try rw [h2]
    try simp only [qB, Bool.and_eq_true, Bool.and_eq_false_iff, decide_eq_true_eq] at h2
    refine Qg Z (Qd Z (Qg Z (ZA Z Z (by omega) (X3 (i := 0) (List.length_pos_iff.2 (by assumption))) (Qg Z (Xf Z Z (Qg Z (Qd Z ?_)))))))
    refine Qv (g := 18) Z (fun h3 => ?_) (fun h3 => ?_)
    ·try rw [h3]
     try simp only [qB, Bool.and_eq_true, Bool.and_eq_false_iff, decide_eq_true_eq] at h3
     refine Qg Z (Qd Z (Qg Z (ZF Z (Qg Z (Qb7 Z Z (Qg Z (Qh Z Z (Qh Z Z (hK _ _ (Qa (kp2 Z Z) ?_))))))))))
     refine Qx Z (fun h4 => ?_) (fun h4 => ?_)
     ·try rw [h4]
      try simp only [qB, Bool.and_eq_true, Bool.and_eq_false_iff, decide_eq_true_eq] at h4
      refine Qf fun K hK => Qd Z (Qd Z (hK _ _ (Qa (kp2 Z Z) ?_)))
      refine Qr (Qai (Zx Z Z ?_))
      first | (rw [Y4 (s := s) (by first | (left; assumption) | (right; omega))]; exact ⟨rfl, rfl⟩) | (rw [ZJ (s := s) (by omega) (by assumption)]; exact ⟨rfl, rfl⟩) | (rw [Ye (s := s) (i := i) (by omega) (by simp [ZE]; omega)]; exact ⟨rfl, rfl⟩) | (rw [X8 (s := s) (i := i) hJ (by omega) hI.2.1]; exact ⟨rfl, by simp [Xr, D.fz, D.fzS, D.can, D.canS]; omega⟩)
     ·try rw [h4]
      try simp only [qB, Bool.and_eq_true, Bool.and_eq_false_iff, decide_eq_true_eq] at h4
      refine Qu ?_
      refine XG () ?_ ?_
      ·exact Q0 (kp1 rfl)
      ·rintro (q | q | q) <;> first | (simp_all; done) | omega | exact QdU (s := s) (by omega) (by assumption) q.2
    ·try rw [h3]
     try simp only [qB, Bool.and_eq_true, Bool.and_eq_false_iff, decide_eq_true_eq] at h3
     refine Qs Z (Qs Z (Qs Z (Qg Z (Qh Z Z (Qh Z Z (hK _ _ (Qa (kp2 Z Z) ?_)))))))
     refine Zr Z (Qu ?_)
     refine XG () ?_ ?_
     ·exact Q0 (kp1 rfl)
     ·rintro (q | q | q) <;> first | (simp_all; done) | omega | exact QdU (s := s) (by omega) (by assumption) q.2
 intro _u hJ
 try dsimp only
 refine Qf fun K hK => Qd Z (hK _ _ (Qa (kp2 Z Z) ?_))
 refine QH ?_ -- 1
 refine Qf fun K hK => Qd Z (Qg1 Z Z (hK _ _ (Qa (kp2 Z Z) ?_)))
 refine QK ?_
 refine Z3 (ι := Nat) (fun i => ⟨[(4, .int .i64 (val (s.take i))), (25, .ref 25 0 0)], [(25, ⟨[], 0, QY s i, false⟩)]⟩) (fun i => i <= s.length /\ (s.take i).all ZE = true /\ s.length <= 4 /\ 0 < s.length) (fun i => s.length - i) 0 ?_ ?_ ?_
 ·exact Zc (l := [4, 25]) (lH := [25]) (kp2 rfl rfl) (Ql rfl Qt) (by simp [val]) rfl rfl
 ·exact ⟨Nat.zero_le _, rfl, Nat.le_of_not_lt fun h => hJ (.inr (.inl h)), List.length_pos_iff.2 fun h => hJ (.inl h)⟩
 intro i hI
 have hv := Qh5 (s := s.take i) hI.2.1
 have hp : 10 ^ (s.take i).length <= 10 ^ 4 := Nat.pow_le_pow_right (by omega) (by simp; omega)
 have hI1 := hI.1
 have hI3 := hI.2.2.1
 try dsimp only
 refine Qf fun K hK => ?_
 rcases Nat.lt_or_ge (i) (s).length with h5 | h5
 ·rcases Nat.lt_or_ge (((s)[i]).toNat) 128 with h6 | h6
  ·refine QfO Z Z h5 (QeD h5 h6) (Q5 Z Z (hK _ _ (Qa (kp4 Z Z Z Z) ?_)))
   refine QH ?_ -- 2
   refine Zh Z (Qu (Qe (kp3 Z Z Z) (QK (Qf fun K hK => Q5 Z Z (Qd Z (hK _ _ (Qa (kp3 Z Z Z) ?_)))))))
   refine QK (Qf fun K hK => Qd Z (QgZ Z Z (Qd Z ?_)))
   refine Qv (g := 32) Z (fun h7 => ?_) (fun h7 => ?_)
   ·try rw [h7]
    try simp only [qB, Bool.and_eq_true, Bool.and_eq_false_iff, decide_eq_true_eq] at h7
    refine Qg Z (Qd Z (Qg Z (Qi6 Z Z (Qh Z Z (Qd Z (hK _ _ (Qa (kp4 Z Z Z Z) ?_)))))))
    refine Qx Z (fun h8 => ?_) (fun h8 => ?_)
    ·try rw [h8]
     try simp only [qB, Bool.and_eq_true, Bool.and_eq_false_iff, decide_eq_true_eq] at h8
     refine Q6 fun K hK => Qd Z (Qig Z Z (by first | exact Qz (by omega) (by omega) | exact QJ (by omega) (by omega) | exact QT (by omega) (by omega) | rfl) (Qd Z (Qfk Z Z (by first | exact Qz (by omega) (by omega) | exact QJ (by omega) (by omega) | exact QT (by omega) (by omega) | rfl) (QgX Z (by first | exact Qz (by omega) (by omega) | exact QJ (by omega) (by omega) | exact QT (by omega) (by omega) | rfl) (Zy Z Z (by first | exact Qz (by omega) (by omega) | exact QJ (by omega) (by omega) | exact QT (by omega) (by omega) | rfl) (Qd Z (hK _ ?_)))))))
     refine Qm (Qm ?_)
     refine Qq (i + 1) ?_ ?_ ?_
     ·first | exact Zc (l := [4, 25]) (lH := [25]) (kp2 rfl rfl) (Ql rfl Qt) rfl rfl rfl | exact Zc (l := [4, 25]) (lH := [25]) (kp2 rfl rfl) (Ql rfl Qt) (by rw [QbZ (by omega)]; simp; omega) rfl rfl | (exfalso; omega)
     ·first | exact ⟨by omega, QV (by omega) hI.2.1 (by simp [ZE]; omega), hI.2.2⟩ | (exfalso; omega)
     ·first | omega | (simp only; omega) | (dsimp only; omega)
    ·try rw [h8]
     try simp only [qB, Bool.and_eq_true, Bool.and_eq_false_iff, decide_eq_true_eq] at h8
     refine Qf fun K hK => Qd Z (Qd Z (hK _ _ (Qa (kp2 Z Z) ?_)))
     refine Qr (Qw (Qw (QX (Qw (Qj (Zx Z Z ?_))))))
     first | (rw [Y4 (s := s) (by first | (left; assumption) | (right; omega))]; exact ⟨rfl, rfl⟩) | (rw [ZJ (s := s) (by omega) (by assumption)]; exact ⟨rfl, rfl⟩) | (rw [Ye (s := s) (i := i) (by omega) (by simp [ZE]; omega)]; exact ⟨rfl, rfl⟩) | (rw [X8 (s := s) (i := i) hJ (by omega) hI.2.1]; exact ⟨rfl, by simp [Xr, D.fz, D.fzS, D.can, D.canS]; omega⟩)
   ·try rw [h7]
    try simp only [qB, Bool.and_eq_true, Bool.and_eq_false_iff, decide_eq_true_eq] at h7
    refine Qs Z (Qs Z (Qh Z Z (Qd Z (hK _ _ (Qa (kp4 Z Z Z Z) ?_)))))
    refine Zr Z (Qf fun K hK => Qd Z (Qd Z (hK _ _ (Qa (kp2 Z Z) ?_))))
    refine Qr (Qw (Qw (QX (Qw (Qj (Zx Z Z ?_))))))
    first | (rw [Y4 (s := s) (by first | (left; assumption) | (right; omega))]; exact ⟨rfl, rfl⟩) | (rw [ZJ (s := s) (by omega) (by assumption)]; exact ⟨rfl, rfl⟩) | (rw [Ye (s := s) (i := i) (by omega) (by simp [ZE]; omega)]; exact ⟨rfl, rfl⟩) | (rw [X8 (s := s) (i := i) hJ (by omega) hI.2.1]; exact ⟨rfl, by simp [Xr, D.fz, D.fzS, D.can, D.canS]; omega⟩)
  ·obtain ⟨cwh6, nwh6, hch6, hdh6⟩ := QfS h5 h6
   refine QfO Z Z h5 hdh6 (Q5 Z Z (hK _ _ (Qa (kp4 Z Z Z Z) ?_)))
   refine QH ?_ -- 2
   refine Zh Z (Qu (Qe (kp3 Z Z Z) (QK (Qf fun K hK => Q5 Z Z (Qd Z (hK _ _ (Qa (kp3 Z Z Z) ?_)))))))
   refine QK (Qf fun K hK => Qd Z (QgZ Z Z (Qd Z ?_)))
   refine Qv (g := 32) Z (fun h9 => ?_) (fun h9 => ?_)
   ·try rw [h9]
    try simp only [qB, Bool.and_eq_true, Bool.and_eq_false_iff, decide_eq_true_eq] at h9
    refine Qg Z (Qd Z (Qg Z (Qi6 Z Z (Qh Z Z (Qd Z (hK _ _ (Qa (kp4 Z Z Z Z) ?_)))))))
    refine Qx Z (fun h10 => ?_) (fun h10 => ?_)
    ·try rw [h10]
     try simp only [qB, Bool.and_eq_true, Bool.and_eq_false_iff, decide_eq_true_eq] at h10
     refine Q6 fun K hK => Qd Z (Qig Z Z (by first | exact Qz (by omega) (by omega) | exact QJ (by omega) (by omega) | exact QT (by omega) (by omega) | rfl) (Qd Z (Qfk Z Z (by first | exact Qz (by omega) (by omega) | exact QJ (by omega) (by omega) | exact QT (by omega) (by omega) | rfl) (QgX Z (by first | exact Qz (by omega) (by omega) | exact QJ (by omega) (by omega) | exact QT (by omega) (by omega) | rfl) (Zy Z Z (by first | exact Qz (by omega) (by omega) | exact QJ (by omega) (by omega) | exact QT (by omega) (by omega) | rfl) (Qd Z (hK _ ?_)))))))
     refine Qm (Qm ?_)
     refine Qq (i + 1) ?_ ?_ ?_
     ·first | exact Zc (l := [4, 25]) (lH := [25]) (kp2 rfl rfl) (Ql rfl Qt) rfl rfl rfl | exact Zc (l := [4, 25]) (lH := [25]) (kp2 rfl rfl) (Ql rfl Qt) (by rw [QbZ (by omega)]; simp; omega) rfl rfl | (exfalso; omega)
     ·first | exact ⟨by omega, QV (by omega) hI.2.1 (by simp [ZE]; omega), hI.2.2⟩ | (exfalso; omega)
     ·first | omega | (simp only; omega) | (dsimp only; omega)
    ·try rw [h10]
     try simp only [qB, Bool.and_eq_true, Bool.and_eq_false_iff, decide_eq_true_eq] at h10
     refine Qf fun K hK => Qd Z (Qd Z (hK _ _ (Qa (kp2 Z Z) ?_)))
     refine Qr (Qw (Qw (QX (Qw (Qj (Zx Z Z ?_))))))
     first | (rw [Y4 (s := s) (by first | (left; assumption) | (right; omega))]; exact ⟨rfl, rfl⟩) | (rw [ZJ (s := s) (by omega) (by assumption)]; exact ⟨rfl, rfl⟩) | (rw [Ye (s := s) (i := i) (by omega) (by simp [ZE]; omega)]; exact ⟨rfl, rfl⟩) | (rw [X8 (s := s) (i := i) hJ (by omega) hI.2.1]; exact ⟨rfl, by simp [Xr, D.fz, D.fzS, D.can, D.canS]; omega⟩)
   ·try rw [h9]
    try simp only [qB, Bool.and_eq_true, Bool.and_eq_false_iff, decide_eq_true_eq] at h9
    refine Qs Z (Qs Z (Qh Z Z (Qd Z (hK _ _ (Qa (kp4 Z Z Z Z) ?_)))))
    refine Zr Z (Qf fun K hK => Qd Z (Qd Z (hK _ _ (Qa (kp2 Z Z) ?_))))
    refine Qr (Qw (Qw (QX (Qw (Qj (Zx Z Z ?_))))))
    first | (rw [Y4 (s := s) (by first | (left; assumption) | (right; omega))]; exact ⟨rfl, rfl⟩) | (rw [ZJ (s := s) (by omega) (by assumption)]; exact ⟨rfl, rfl⟩) | (rw [Ye (s := s) (i := i) (by omega) (by simp [ZE]; omega)]; exact ⟨rfl, rfl⟩) | (rw [X8 (s := s) (i := i) hJ (by omega) hI.2.1]; exact ⟨rfl, by simp [Xr, D.fz, D.fzS, D.can, D.canS]; omega⟩)
 ·refine Qeq Z Z (by omega) (Q5 Z Z (hK _ _ (Qa (kp4 Z Z Z Z) ?_)))
  refine QH ?_ -- 2
  refine Zr Z (Zp (QN (QC (QP (Qe (kp1 Z) (Qf fun K hK => Qd Z (Qd Z (Qi6 Z Z (Qd Z (Qd Z ?_))))))))))
  refine hK _ _ (Qa (kp2 Z Z) ?_)
  refine Qr (Zx Z Z ?_)
  first | (rw [Y4 (s := s) (by first | (left; assumption) | (right; omega))]; exact ⟨rfl, rfl⟩) | (rw [ZJ (s := s) (by omega) (by assumption)]; exact ⟨rfl, rfl⟩) | (rw [Ye (s := s) (i := i) (by omega) (by simp [ZE]; omega)]; exact ⟨rfl, rfl⟩) | (rw [X8 (s := s) (i := i) hJ (by omega) hI.2.1]; exact ⟨rfl, by simp [Xr, D.fz, D.fzS, D.can, D.canS]; omega⟩)
theorem Xa {s : List UInt8} (hl : s.length <= 1000000) : Ok Tryd.prog 81 [.str s] (.bool (QaF s)) := by
 refine Ok.ofT Z7 Tryd.func81 QmJ (Nat.le_of_ble_eq_true Z) ?_
 show TW _ _ tf81.body _ _
 refine Qf fun K hK => Qd Z (hK _ _ (Qa (kp1 Z) ?_))
 refine Qjw (Qf fun K hK => Qd Z (QB (Yy (by omega)) Z Z (.inl Z) (Qd Z (hK _ _ (Qa (kp1 Z) ?_)))))
 refine Qf fun K hK => Qd Z (ZV Z Z (Qi6 Z Z (Qd Z (hK _ _ (Qa (kp2 Z Z) ?_)))))
 refine QH ?_ -- 0
 refine Qu (Qe (kp2 Z Z) ?_)
 refine QH ?_ -- 1
 refine Qf fun K hK => Qd Z (ZV Z Z (Qd Z (hK _ _ (Qa (kp4 Z Z Z Z) ?_))))
 refine QK ?_
 refine Z3 (ι := Nat) (fun i => ⟨[(4, .bool (decide ((QR s 46).length <= 4))), (14, .sl (Yg (QR s 46))), (15, .int .i64 (QR s 46).length), (16, .int .i64 i)], []⟩) (fun i => i <= (QR s 46).length /\ ((QR s 46).take i).all XS = true) (fun i => (QR s 46).length - i) 0 ?_ ?_ ?_
 ·exact Zc (l := [4, 14, 15, 16]) (kp4 rfl rfl rfl rfl) Qt (by simp [Qk]; omega) rfl rfl
 ·exact ⟨Nat.zero_le _, rfl⟩
 intro i hI
 have sl := QcW (s := s) (c := 46)
 try dsimp only
 refine Qf fun K hK => Xq Z Z (hK _ _ (Qa (kp5 Z Z Z Z Z) ?_))
 refine QH ?_ -- 2
 refine Qx Z (fun h1 => ?_) (fun h1 => ?_)
 ·try rw [h1]
  try simp only [qB, Qk] at h1
  refine Qu (Qe (kp4 Z Z Z Z) ?_)
  refine QH ?_ -- 3
  refine QK (Qf fun K hK => Zk Z Z Z (by omega) (XE (by omega)) Z (QD Z Z Z (Qd Z (hK _ _ (Qa (kp5 Z Z Z Z Z) ?_)))))
  refine QH ?_ -- 4
  refine Qf fun K hK => Qd Z (Qb6 Z Z (Qd Z ?_))
  refine Qv (g := 22) Z (fun h2 => ?_) (fun h2 => ?_)
  ·try rw [h2]
   try simp only [qB, Qk] at h2
   refine Qs Z (Qs Z (Qs Z (Qh Z Z (hK _ _ (Qa (kp6 Z Z Z Z Z Z) ?_)))))
   refine Zh Z (Qf fun K hK => Qd Z (hK _ _ (Qa (kp1 Z) ?_)))
   refine Zp (QN (QQ (by decide) (QN (QC (QP (Qe (kp1 Z) (Qf fun K hK => Qd Z (Qd Z (hK _ _ (Qa (kp1 Z) ?_))))))))))
   refine Qr (Qi Z ?_)
   first | exact (Zg (i := i) (by omega) (Yd (by first | (left; assumption) | (right; omega)))).symm | exact (Zg (i := i) (by omega) (Yb (ZL (i := j) (by omega) (by simp [Ze]; omega)))).symm | exact (ZO (by omega) hI.2).symm
  ·try rw [h2]
   try simp only [qB, Qk] at h2
   refine Qg Z (Qd Z (Qg Z (ZF Z (Qg Z (Qb7 Z Z (Qh Z Z (hK _ _ (Qa (kp6 Z Z Z Z Z Z) ?_))))))))
   refine Qx Z (fun h3 => ?_) (fun h3 => ?_)
   ·try rw [h3]
    try simp only [qB, Qk] at h3
    refine Qf fun K hK => Qd Z (hK _ _ (Qa (kp1 Z) ?_))
    refine Zp (QN (QQ (by decide) (QN (QC (QP (Qe (kp1 Z) (Qf fun K hK => Qd Z (Qd Z (hK _ _ (Qa (kp1 Z) ?_))))))))))
    refine Qr (Qi Z ?_)
    first | exact (Zg (i := i) (by omega) (Yd (by first | (left; assumption) | (right; omega)))).symm | exact (Zg (i := i) (by omega) (Yb (ZL (i := j) (by omega) (by simp [Ze]; omega)))).symm | exact (ZO (by omega) hI.2).symm
   ·try rw [h3]
    try simp only [qB, Qk] at h3
    refine Qu (Qe (kp5 Z Z Z Z Z) (Qf fun K hK => Qd Z (Qg1 Z Z (hK _ _ (Qa (kp5 Z Z Z Z Z) ?_)))))
    refine QK ?_
    have hlt : i < (QR s 46).length := by omega
    refine Z3 (ι := Nat) (fun j => ⟨[(4, .bool (decide ((QR s 46).length <= 4))), (14, .sl (Yg (QR s 46))), (15, .int .i64 (QR s 46).length), (16, .int .i64 i), (28, .ref 28 0 0)], [(28, ⟨[], 0, QY ((QR s 46)[i]'hlt) j, false⟩)]⟩) (fun j => j <= ((QR s 46)[i]'hlt).length /\ (((QR s 46)[i]'hlt).take j).all Ze = true) (fun j => ((QR s 46)[i]'hlt).length - j) 0 ?_ ?_ ?_
    ·first | exact Zc (l := [4, 14, 15, 16, 28]) (lH := [28]) (kp5 rfl rfl rfl rfl rfl) (Ql rfl Qt) rfl rfl rfl | (exfalso; omega)
    ·exact ⟨Nat.zero_le _, rfl⟩
    intro j hJ
    have hJ1 := hJ.1
    try dsimp only
    refine Qf fun K hK => ?_
    rcases Nat.lt_or_ge (j) (((QR s 46)[i]'hlt)).length with h4 | h4
    ·rcases Nat.lt_or_ge (((((QR s 46)[i]'hlt))[j]).toNat) 128 with h5 | h5
     ·refine QfO Z Z h4 (QeD h4 h5) (Q5 Z Z (hK _ _ (Qa (kp7 Z Z Z Z Z Z Z) ?_)))
      refine QH ?_ -- 5
      refine Zh Z (Qu (Qe (kp6 Z Z Z Z Z Z) (QK (Qf fun K hK => Q5 Z Z (Qd Z (hK _ _ (Qa (kp6 Z Z Z Z Z Z) ?_)))))))
      refine Qf fun K hK => Qd Z (Xq Z Z (Qd Z ?_))
      refine Qv (g := 34) Z (fun h6 => ?_) (fun h6 => ?_)
      ·try rw [h6]
       try simp only [qB, Qk] at h6
       refine Qs Z (Qs Z (Qh Z Z (Qd Z (Qg Z (Qd Z (Qg Z (Xq Z Z (Qg Z (Qd Z ?_)))))))))
       refine Qv (g := 41) Z (fun h7 => ?_) (fun h7 => ?_)
       ·try rw [h7]
        try simp only [qB, Qk] at h7
        refine Qs Z (Qs Z (Qg Z (Qh Z Z (Qh Z Z (Qd Z (Qg Z (Qd Z (Qg Z (Yh Z Z (Qh Z Z (hK _ _ (Qa (kp6 Z Z Z Z Z Z) ?_))))))))))))
        refine Qx Z (fun h8 => ?_) (fun h8 => ?_)
        ·try rw [h8]
         try simp only [qB, Qk] at h8
         refine Qf fun K hK => Qd Z (hK _ _ (Qa (kp1 Z) ?_))
         refine Zp (QQ (by decide) (QC (QQ (by decide) (QQ (by decide) (QN (QC (QP (Qe (kp1 Z) (Qf fun K hK => Qd Z (Qd Z ?_))))))))))
         refine hK _ _ (Qa (kp1 Z) ?_)
         refine Qr (Qi Z ?_)
         first | exact (Zg (i := i) (by omega) (Yd (by first | (left; assumption) | (right; omega)))).symm | exact (Zg (i := i) (by omega) (Yb (ZL (i := j) (by omega) (by simp [Ze]; omega)))).symm | exact (ZO (by omega) hI.2).symm
        ·try rw [h8]
         try simp only [qB, Qk] at h8
         refine Qu (Qm ?_)
         refine Qq (j + 1) ?_ ?_ ?_
         ·first | exact Zc (l := [4, 14, 15, 16, 28]) (lH := [28]) (kp5 rfl rfl rfl rfl rfl) (Ql rfl Qt) rfl rfl rfl | (exfalso; omega)
         ·first | exact ⟨by omega, QV (by omega) hJ.2 (by simp [Ze]; omega)⟩ | (exfalso; omega)
         ·first | omega | (simp only; omega) | (dsimp only; omega)
       ·try rw [h7]
        try simp only [qB, Qk] at h7
        refine Qg Z (Qd Z (Qg Z (Qb7 Z Z (Qg Z (Qh Z Z (Qh Z Z (Qd Z ?_)))))))
        refine Qv (g := 46) Z (fun h9 => ?_) (fun h9 => ?_)
        ·try rw [h9]
         try simp only [qB, Qk] at h9
         refine Qg Z (Qd Z (Qg Z (Yh Z Z (Qh Z Z (hK _ _ (Qa (kp6 Z Z Z Z Z Z) ?_))))))
         refine Qx Z (fun h10 => ?_) (fun h10 => ?_)
         ·try rw [h10]
          try simp only [qB, Qk] at h10
          refine Qf fun K hK => Qd Z (hK _ _ (Qa (kp1 Z) ?_))
          refine Zp (QQ (by decide) (QC (QQ (by decide) (QQ (by decide) (QN (QC (QP (Qe (kp1 Z) (Qf fun K hK => Qd Z (Qd Z ?_))))))))))
          refine hK _ _ (Qa (kp1 Z) ?_)
          refine Qr (Qi Z ?_)
          first | exact (Zg (i := i) (by omega) (Yd (by first | (left; assumption) | (right; omega)))).symm | exact (Zg (i := i) (by omega) (Yb (ZL (i := j) (by omega) (by simp [Ze]; omega)))).symm | exact (ZO (by omega) hI.2).symm
         ·try rw [h10]
          try simp only [qB, Qk] at h10
          refine Qu (Qm ?_)
          refine Qq (j + 1) ?_ ?_ ?_
          ·first | exact Zc (l := [4, 14, 15, 16, 28]) (lH := [28]) (kp5 rfl rfl rfl rfl rfl) (Ql rfl Qt) rfl rfl rfl | (exfalso; omega)
          ·first | exact ⟨by omega, QV (by omega) hJ.2 (by simp [Ze]; omega)⟩ | (exfalso; omega)
          ·first | omega | (simp only; omega) | (dsimp only; omega)
        ·try rw [h9]
         try simp only [qB, Qk] at h9
         refine Qs Z (Qs Z (Qh Z Z (hK _ _ (Qa (kp6 Z Z Z Z Z Z) ?_))))
         refine Zr Z (Qu (Qm ?_))
         refine Qq (j + 1) ?_ ?_ ?_
         ·first | exact Zc (l := [4, 14, 15, 16, 28]) (lH := [28]) (kp5 rfl rfl rfl rfl rfl) (Ql rfl Qt) rfl rfl rfl | (exfalso; omega)
         ·first | exact ⟨by omega, QV (by omega) hJ.2 (by simp [Ze]; omega)⟩ | (exfalso; omega)
         ·first | omega | (simp only; omega) | (dsimp only; omega)
      ·try rw [h6]
       try simp only [qB, Qk] at h6
       refine Qg Z (Qd Z (Qg Z (Qb7 Z Z (Qh Z Z (Qd Z ?_)))))
       refine Qv (g := 38) Z (fun h11 => ?_) (fun h11 => ?_)
       ·try rw [h11]
        try simp only [qB, Qk] at h11
        refine Qg Z (Qd Z (Qg Z (Xq Z Z (Qg Z (Qd Z ?_)))))
        refine Qv (g := 41) Z (fun h12 => ?_) (fun h12 => ?_)
        ·try rw [h12]
         try simp only [qB, Qk] at h12
         refine Qs Z (Qs Z (Qg Z (Qh Z Z (Qh Z Z (Qd Z (Qg Z (Qd Z (Qg Z (Yh Z Z (Qh Z Z (hK _ _ (Qa (kp6 Z Z Z Z Z Z) ?_))))))))))))
         refine Qx Z (fun h13 => ?_) (fun h13 => ?_)
         ·try rw [h13]
          try simp only [qB, Qk] at h13
          refine Qf fun K hK => Qd Z (hK _ _ (Qa (kp1 Z) ?_))
          refine Zp (QQ (by decide) (QC (QQ (by decide) (QQ (by decide) (QN (QC (QP (Qe (kp1 Z) (Qf fun K hK => Qd Z (Qd Z ?_))))))))))
          refine hK _ _ (Qa (kp1 Z) ?_)
          refine Qr (Qi Z ?_)
          first | exact (Zg (i := i) (by omega) (Yd (by first | (left; assumption) | (right; omega)))).symm | exact (Zg (i := i) (by omega) (Yb (ZL (i := j) (by omega) (by simp [Ze]; omega)))).symm | exact (ZO (by omega) hI.2).symm
         ·try rw [h13]
          try simp only [qB, Qk] at h13
          refine Qu (Qm ?_)
          refine Qq (j + 1) ?_ ?_ ?_
          ·first | exact Zc (l := [4, 14, 15, 16, 28]) (lH := [28]) (kp5 rfl rfl rfl rfl rfl) (Ql rfl Qt) rfl rfl rfl | (exfalso; omega)
          ·first | exact ⟨by omega, QV (by omega) hJ.2 (by simp [Ze]; omega)⟩ | (exfalso; omega)
          ·first | omega | (simp only; omega) | (dsimp only; omega)
        ·try rw [h12]
         try simp only [qB, Qk] at h12
         refine Qg Z (Qd Z (Qg Z (Qb7 Z Z (Qg Z (Qh Z Z (Qh Z Z (Qd Z ?_)))))))
         refine Qv (g := 46) Z (fun h14 => ?_) (fun h14 => ?_)
         ·try rw [h14]
          try simp only [qB, Qk] at h14
          refine Qg Z (Qd Z (Qg Z (Yh Z Z (Qh Z Z (hK _ _ (Qa (kp6 Z Z Z Z Z Z) ?_))))))
          refine Qx Z (fun h15 => ?_) (fun h15 => ?_)
          ·try rw [h15]
           try simp only [qB, Qk] at h15
           refine Qf fun K hK => Qd Z (hK _ _ (Qa (kp1 Z) ?_))
           refine Zp (QQ (by decide) (QC (QQ (by decide) (QQ (by decide) (QN (QC (QP (Qe (kp1 Z) (Qf fun K hK => Qd Z (Qd Z ?_))))))))))
           refine hK _ _ (Qa (kp1 Z) ?_)
           refine Qr (Qi Z ?_)
           first | exact (Zg (i := i) (by omega) (Yd (by first | (left; assumption) | (right; omega)))).symm | exact (Zg (i := i) (by omega) (Yb (ZL (i := j) (by omega) (by simp [Ze]; omega)))).symm | exact (ZO (by omega) hI.2).symm
          ·try rw [h15]
           try simp only [qB, Qk] at h15
           refine Qu (Qm ?_)
           refine Qq (j + 1) ?_ ?_ ?_
           ·first | exact Zc (l := [4, 14, 15, 16, 28]) (lH := [28]) (kp5 rfl rfl rfl rfl rfl) (Ql rfl Qt) rfl rfl rfl | (exfalso; omega)
           ·first | exact ⟨by omega, QV (by omega) hJ.2 (by simp [Ze]; omega)⟩ | (exfalso; omega)
           ·first | omega | (simp only; omega) | (dsimp only; omega)
         ·try rw [h14]
          try simp only [qB, Qk] at h14
          refine Qs Z (Qs Z (Qh Z Z (hK _ _ (Qa (kp6 Z Z Z Z Z Z) ?_))))
          refine Zr Z (Qu (Qm ?_))
          refine Qq (j + 1) ?_ ?_ ?_
          ·first | exact Zc (l := [4, 14, 15, 16, 28]) (lH := [28]) (kp5 rfl rfl rfl rfl rfl) (Ql rfl Qt) rfl rfl rfl | (exfalso; omega)
          ·first | exact ⟨by omega, QV (by omega) hJ.2 (by simp [Ze]; omega)⟩ | (exfalso; omega)
          ·first | omega | (simp only; omega) | (dsimp only; omega)
       ·try rw [h11]
        try simp only [qB, Qk] at h11
        refine Qs Z (Qs Z (Qs Z (QG Z (QG Z (Qs Z (Qh Z Z (Qd Z (Qs Z (Qs Z (Qh Z Z (hK _ _ (Qa (kp6 Z Z Z Z Z Z) ?_))))))))))))
        refine Zr Z (Qu (Qm ?_))
        refine Qq (j + 1) ?_ ?_ ?_
        ·first | exact Zc (l := [4, 14, 15, 16, 28]) (lH := [28]) (kp5 rfl rfl rfl rfl rfl) (Ql rfl Qt) rfl rfl rfl | (exfalso; omega)
        ·first | exact ⟨by omega, QV (by omega) hJ.2 (by simp [Ze]; omega)⟩ | (exfalso; omega)
        ·first | omega | (simp only; omega) | (dsimp only; omega)
     ·obtain ⟨cwh5, nwh5, hch5, hdh5⟩ := QfS h4 h5
      refine QfO Z Z h4 hdh5 (Q5 Z Z (hK _ _ (Qa (kp7 Z Z Z Z Z Z Z) ?_)))
      refine QH ?_ -- 5
      refine Zh Z (Qu (Qe (kp6 Z Z Z Z Z Z) (QK (Qf fun K hK => Q5 Z Z (Qd Z (hK _ _ (Qa (kp6 Z Z Z Z Z Z) ?_)))))))
      refine Qf fun K hK => Qd Z (Xq Z Z (Qd Z ?_))
      refine Qv (g := 34) Z (fun h16 => ?_) (fun h16 => ?_)
      ·try rw [h16]
       try simp only [qB, Qk] at h16
       refine Qs Z (Qs Z (Qh Z Z (Qd Z (Qg Z (Qd Z (Qg Z (Xq Z Z (Qg Z (Qd Z ?_)))))))))
       refine Qv (g := 41) Z (fun h17 => ?_) (fun h17 => ?_)
       ·try rw [h17]
        try simp only [qB, Qk] at h17
        refine Qs Z (Qs Z (Qg Z (Qh Z Z (Qh Z Z (Qd Z (Qg Z (Qd Z (Qg Z (Yh Z Z (Qh Z Z (hK _ _ (Qa (kp6 Z Z Z Z Z Z) ?_))))))))))))
        refine Qx Z (fun h18 => ?_) (fun h18 => ?_)
        ·try rw [h18]
         try simp only [qB, Qk] at h18
         refine Qf fun K hK => Qd Z (hK _ _ (Qa (kp1 Z) ?_))
         refine Zp (QQ (by decide) (QC (QQ (by decide) (QQ (by decide) (QN (QC (QP (Qe (kp1 Z) (Qf fun K hK => Qd Z (Qd Z ?_))))))))))
         refine hK _ _ (Qa (kp1 Z) ?_)
         refine Qr (Qi Z ?_)
         first | exact (Zg (i := i) (by omega) (Yd (by first | (left; assumption) | (right; omega)))).symm | exact (Zg (i := i) (by omega) (Yb (ZL (i := j) (by omega) (by simp [Ze]; omega)))).symm | exact (ZO (by omega) hI.2).symm
        ·try rw [h18]
         try simp only [qB, Qk] at h18
         refine Qu (Qm ?_)
         refine Qq (j + 1) ?_ ?_ ?_
         ·first | exact Zc (l := [4, 14, 15, 16, 28]) (lH := [28]) (kp5 rfl rfl rfl rfl rfl) (Ql rfl Qt) rfl rfl rfl | (exfalso; omega)
         ·first | exact ⟨by omega, QV (by omega) hJ.2 (by simp [Ze]; omega)⟩ | (exfalso; omega)
         ·first | omega | (simp only; omega) | (dsimp only; omega)
       ·try rw [h17]
        try simp only [qB, Qk] at h17
        refine Qg Z (Qd Z (Qg Z (Qb7 Z Z (Qg Z (Qh Z Z (Qh Z Z (Qd Z ?_)))))))
        refine Qv (g := 46) Z (fun h19 => ?_) (fun h19 => ?_)
        ·try rw [h19]
         try simp only [qB, Qk] at h19
         refine Qg Z (Qd Z (Qg Z (Yh Z Z (Qh Z Z (hK _ _ (Qa (kp6 Z Z Z Z Z Z) ?_))))))
         refine Qx Z (fun h20 => ?_) (fun h20 => ?_)
         ·try rw [h20]
          try simp only [qB, Qk] at h20
          refine Qf fun K hK => Qd Z (hK _ _ (Qa (kp1 Z) ?_))
          refine Zp (QQ (by decide) (QC (QQ (by decide) (QQ (by decide) (QN (QC (QP (Qe (kp1 Z) (Qf fun K hK => Qd Z (Qd Z ?_))))))))))
          refine hK _ _ (Qa (kp1 Z) ?_)
          refine Qr (Qi Z ?_)
          first | exact (Zg (i := i) (by omega) (Yd (by first | (left; assumption) | (right; omega)))).symm | exact (Zg (i := i) (by omega) (Yb (ZL (i := j) (by omega) (by simp [Ze]; omega)))).symm | exact (ZO (by omega) hI.2).symm
         ·try rw [h20]
          try simp only [qB, Qk] at h20
          refine Qu (Qm ?_)
          refine Qq (j + 1) ?_ ?_ ?_
          ·first | exact Zc (l := [4, 14, 15, 16, 28]) (lH := [28]) (kp5 rfl rfl rfl rfl rfl) (Ql rfl Qt) rfl rfl rfl | (exfalso; omega)
          ·first | exact ⟨by omega, QV (by omega) hJ.2 (by simp [Ze]; omega)⟩ | (exfalso; omega)
          ·first | omega | (simp only; omega) | (dsimp only; omega)
        ·try rw [h19]
         try simp only [qB, Qk] at h19
         refine Qs Z (Qs Z (Qh Z Z (hK _ _ (Qa (kp6 Z Z Z Z Z Z) ?_))))
         refine Zr Z (Qu (Qm ?_))
         refine Qq (j + 1) ?_ ?_ ?_
         ·first | exact Zc (l := [4, 14, 15, 16, 28]) (lH := [28]) (kp5 rfl rfl rfl rfl rfl) (Ql rfl Qt) rfl rfl rfl | (exfalso; omega)
         ·first | exact ⟨by omega, QV (by omega) hJ.2 (by simp [Ze]; omega)⟩ | (exfalso; omega)
         ·first | omega | (simp only; omega) | (dsimp only; omega)
      ·try rw [h16]
       try simp only [qB, Qk] at h16
       refine Qg Z (Qd Z (Qg Z (Qb7 Z Z (Qh Z Z (Qd Z ?_)))))
       refine Qv (g := 38) Z (fun h21 => ?_) (fun h21 => ?_)
       ·try rw [h21]
        try simp only [qB, Qk] at h21
        refine Qg Z (Qd Z (Qg Z (Xq Z Z (Qg Z (Qd Z ?_)))))
        refine Qv (g := 41) Z (fun h22 => ?_) (fun h22 => ?_)
        ·try rw [h22]
         try simp only [qB, Qk] at h22
         refine Qs Z (Qs Z (Qg Z (Qh Z Z (Qh Z Z (Qd Z (Qg Z (Qd Z (Qg Z (Yh Z Z (Qh Z Z (hK _ _ (Qa (kp6 Z Z Z Z Z Z) ?_))))))))))))
         refine Qx Z (fun h23 => ?_) (fun h23 => ?_)
         ·try rw [h23]
          try simp only [qB, Qk] at h23
          refine Qf fun K hK => Qd Z (hK _ _ (Qa (kp1 Z) ?_))
          refine Zp (QQ (by decide) (QC (QQ (by decide) (QQ (by decide) (QN (QC (QP (Qe (kp1 Z) (Qf fun K hK => Qd Z (Qd Z ?_))))))))))
          refine hK _ _ (Qa (kp1 Z) ?_)
          refine Qr (Qi Z ?_)
          first | exact (Zg (i := i) (by omega) (Yd (by first | (left; assumption) | (right; omega)))).symm | exact (Zg (i := i) (by omega) (Yb (ZL (i := j) (by omega) (by simp [Ze]; omega)))).symm | exact (ZO (by omega) hI.2).symm
         ·try rw [h23]
          try simp only [qB, Qk] at h23
          refine Qu (Qm ?_)
          refine Qq (j + 1) ?_ ?_ ?_
          ·first | exact Zc (l := [4, 14, 15, 16, 28]) (lH := [28]) (kp5 rfl rfl rfl rfl rfl) (Ql rfl Qt) rfl rfl rfl | (exfalso; omega)
          ·first | exact ⟨by omega, QV (by omega) hJ.2 (by simp [Ze]; omega)⟩ | (exfalso; omega)
          ·first | omega | (simp only; omega) | (dsimp only; omega)
        ·try rw [h22]
         try simp only [qB, Qk] at h22
         refine Qg Z (Qd Z (Qg Z (Qb7 Z Z (Qg Z (Qh Z Z (Qh Z Z (Qd Z ?_)))))))
         refine Qv (g := 46) Z (fun h24 => ?_) (fun h24 => ?_)
         ·try rw [h24]
          try simp only [qB, Qk] at h24
          refine Qg Z (Qd Z (Qg Z (Yh Z Z (Qh Z Z (hK _ _ (Qa (kp6 Z Z Z Z Z Z) ?_))))))
          refine Qx Z (fun h25 => ?_) (fun h25 => ?_)
          ·try rw [h25]
           try simp only [qB, Qk] at h25
           refine Qf fun K hK => Qd Z (hK _ _ (Qa (kp1 Z) ?_))
           refine Zp (QQ (by decide) (QC (QQ (by decide) (QQ (by decide) (QN (QC (QP (Qe (kp1 Z) (Qf fun K hK => Qd Z (Qd Z ?_))))))))))
           refine hK _ _ (Qa (kp1 Z) ?_)
           refine Qr (Qi Z ?_)
           first | exact (Zg (i := i) (by omega) (Yd (by first | (left; assumption) | (right; omega)))).symm | exact (Zg (i := i) (by omega) (Yb (ZL (i := j) (by omega) (by simp [Ze]; omega)))).symm | exact (ZO (by omega) hI.2).symm
          ·try rw [h25]
           try simp only [qB, Qk] at h25
           refine Qu (Qm ?_)
           refine Qq (j + 1) ?_ ?_ ?_
           ·first | exact Zc (l := [4, 14, 15, 16, 28]) (lH := [28]) (kp5 rfl rfl rfl rfl rfl) (Ql rfl Qt) rfl rfl rfl | (exfalso; omega)
           ·first | exact ⟨by omega, QV (by omega) hJ.2 (by simp [Ze]; omega)⟩ | (exfalso; omega)
           ·first | omega | (simp only; omega) | (dsimp only; omega)
         ·try rw [h24]
          try simp only [qB, Qk] at h24
          refine Qs Z (Qs Z (Qh Z Z (hK _ _ (Qa (kp6 Z Z Z Z Z Z) ?_))))
          refine Zr Z (Qu (Qm ?_))
          refine Qq (j + 1) ?_ ?_ ?_
          ·first | exact Zc (l := [4, 14, 15, 16, 28]) (lH := [28]) (kp5 rfl rfl rfl rfl rfl) (Ql rfl Qt) rfl rfl rfl | (exfalso; omega)
          ·first | exact ⟨by omega, QV (by omega) hJ.2 (by simp [Ze]; omega)⟩ | (exfalso; omega)
          ·first | omega | (simp only; omega) | (dsimp only; omega)
       ·try rw [h21]
        try simp only [qB, Qk] at h21
        refine Qs Z (Qs Z (Qs Z (QG Z (QG Z (Qs Z (Qh Z Z (Qd Z (Qs Z (Qs Z (Qh Z Z (hK _ _ (Qa (kp6 Z Z Z Z Z Z) ?_))))))))))))
        refine Zr Z (Qu (Qm ?_))
        refine Qq (j + 1) ?_ ?_ ?_
        ·first | exact Zc (l := [4, 14, 15, 16, 28]) (lH := [28]) (kp5 rfl rfl rfl rfl rfl) (Ql rfl Qt) rfl rfl rfl | (exfalso; omega)
        ·first | exact ⟨by omega, QV (by omega) hJ.2 (by simp [Ze]; omega)⟩ | (exfalso; omega)
        ·first | omega | (simp only; omega) | (dsimp only; omega)
    ·refine Qeq Z Z (by omega) (Q5 Z Z (hK _ _ (Qa (kp7 Z Z Z Z Z Z Z) ?_)))
     refine QH ?_ -- 5
     refine Zr Z (Zp (QN (QC (QP (Qm (Qe (kp4 Z Z Z Z) (Q6 fun K hK => Zy Z Z (by first | exact Qz (by omega) (by omega) | exact QJ (by omega) (by omega) | exact QT (by omega) (by omega) | rfl) (Qd Z (hK _ ?_)))))))))
     refine Qq (i + 1) ?_ ?_ ?_
     ·exact Zc (l := [4, 14, 15, 16]) (kp4 rfl rfl rfl rfl) Qt rfl rfl rfl
     ·exact ⟨by omega, QV (by omega) hI.2 (QjX (by assumption) (by omega) (Yi (by omega) hJ.2))⟩
     ·first | omega | (simp only; omega) | (dsimp only; omega)
 ·try rw [h1]
  try simp only [qB, Qk] at h1
  refine Zp (QN (QC (QP (Qe (kp1 Z) (Qf fun K hK => Qd Z (Qd Z (hK _ _ (Qa (kp1 Z) ?_))))))))
  refine Qr (Qi Z ?_)
  first | exact (Zg (i := i) (by omega) (Yd (by first | (left; assumption) | (right; omega)))).symm | exact (Zg (i := i) (by omega) (Yb (ZL (i := j) (by omega) (by simp [Ze]; omega)))).symm | exact (ZO (by omega) hI.2).symm
end Go.Proofs
namespace Go.Proofs
open Go Go.Abs M3
set_option linter.unusedVariables false
set_option linter.unusedSimpArgs false
theorem QdH {a b : List UInt8} (ha : a.length <= 1000000) (hb : b.length <= 1000000) : Ok Tryd.prog 110 [.str a, .str b] (.int .i64 (Qfg a b)) := by
 refine Ok.ofT Z7 Tryd.func110 QlO (Nat.le_of_ble_eq_true Z) ?_
 show TW _ _ tf110.body _ _
 refine Qf fun K hK => Qd Z (hK _ _ (Qa (kp2 Z Z) ?_))
 refine Qf fun K hK => Qd Z (QB (Yj (by omega)) Z Z (.inr Z) (Qd Z (QB (Yj (by omega)) Z Z (.inr Z) (Qd Z (Qd Z (hK _ _ (Qa (kp4 Z Z Z Z) ?_)))))))
 refine QH ?_ -- 0
 refine Qf fun K hK => Qd Z (Qd Z ?_)
 refine Qv (g := 16) Z (fun h1 => ?_) (fun h1 => ?_)
 ·try rw [h1]
  try simp only [qB] at h1
  refine Qg Z (Qd Z (Qh Z Z (hK _ _ (Qa (kp5 Z Z Z Z Z) ?_))))
  refine Qx Z (fun h2 => ?_) (fun h2 => ?_)
  ·try rw [h2]
   try simp only [qB] at h2
   refine Qf fun K hK => Qd Z (QB (Y8 (by omega)) Z Z (.inr Z) (Qd Z (Q5 Z Z (Q5 Z Z (Qd Z (Qd Z (hK _ _ (Qa (kp2 Z Z) ?_))))))))
   refine Qf fun K hK => Qd Z (QB (Y8 (by omega)) Z Z (.inr Z) (Qd Z (Q5 Z Z (Q5 Z Z (Qd Z (Qd Z (hK _ _ (Qa (kp2 Z Z) ?_))))))))
   refine Qf fun K hK => Qd Z (Qd Z (QB (Q9) Z Z (.inr Z) (Qd Z (hK _ _ (Qa (kp1 Z) ?_)))))
   refine Qr (Qj (Qy Z ?_))
   (repeat clear hK K); first | (simp [Qfg, h1, h2]; done) | (simp_all [Qfg]; done)
  ·try rw [h2]
   try simp only [qB] at h2
   refine Qu (Qe (kp4 Z Z Z Z) ?_)
   refine QH ?_ -- 1
   refine Qf fun K hK => Qd Z (Qd Z (Qkt Z Z (hK _ _ (Qa (kp4 Z Z Z Z) ?_))))
   refine Qx Z (fun h3 => ?_) (fun h3 => ?_)
   ·try rw [h3]
    try simp only [qB] at h3
    refine QH ?_ -- 2
    refine Qf fun K hK => Qd Z (hK _ _ (Qa (kp1 Z) ?_))
    refine Zh Z (Qf fun K hK => Qd Z (hK _ _ (Qa (kp1 Z) ?_)))
    refine Qr (Qj (Qj (Qy Z ?_)))
    (repeat clear hK K); first | (simp [Qfg, h1, h2, h3]; done) | (simp_all [Qfg]; done)
   ·try rw [h3]
    try simp only [qB] at h3
    refine Qu (Qe (kp2 Z Z) (Qf fun K hK => Qd Z (Qd Z (QB (Yw) Z Z (.inr Z) (Qd Z (hK _ _ (Qa (kp1 Z) ?_)))))))
    refine Qr (Qy Z ?_)
    (repeat clear hK K); first | (simp [Qfg, h1, h2, h3]; done) | (simp_all [Qfg]; done)
 ·try rw [h1]
  try simp only [qB] at h1
  refine Qs Z (Qh Z Z (hK _ _ (Qa (kp5 Z Z Z Z Z) ?_)))
  refine Zr Z (Qu (Qe (kp4 Z Z Z Z) ?_))
  refine QH ?_ -- 1
  refine Qf fun K hK => Qd Z (Qd Z (Qkt Z Z (hK _ _ (Qa (kp4 Z Z Z Z) ?_))))
  refine Qx Z (fun h4 => ?_) (fun h4 => ?_)
  ·try rw [h4]
   try simp only [qB] at h4
   refine QH ?_ -- 2
   refine Qf fun K hK => Qd Z (hK _ _ (Qa (kp1 Z) ?_))
   refine Zr Z (Qu (Qe (QI) (Qf fun K hK => Qd Z (hK _ _ (Qa (kp1 Z) ?_)))))
   refine Qr (Qj (Qy Z ?_))
   (repeat clear hK K); first | (simp [Qfg, h1, h4]; done) | (simp_all [Qfg]; done)
  ·try rw [h4]
   try simp only [qB] at h4
   refine Qu (Qe (kp2 Z Z) (Qf fun K hK => Qd Z (Qd Z (QB (Yw) Z Z (.inr Z) (Qd Z (hK _ _ (Qa (kp1 Z) ?_)))))))
   refine Qr (Qy Z ?_)
   (repeat clear hK K); first | (simp [Qfg, h1, h4]; done) | (simp_all [Qfg]; done)
theorem QdG {s : List UInt8} (hl : s.length <= 1000000) : Ok Tryd.prog 80 [.str s] (.bool (Qc8 s)) := by
 refine Ok.ofT Z7 Tryd.func80 QmI (Nat.le_of_ble_eq_true Z) ?_
 show TW _ _ tf80.body _ _
 refine Qf fun K hK => Qd Z (hK _ _ (Qa (kp1 Z) ?_))
 refine QH ?_ -- 0
 refine Qf fun K hK => Qd Z (QB (Xa (by omega)) Z Z (.inr Z) (ZW Z (hK _ _ (Qa (kp2 Z Z) ?_))))
 refine Qx Z (fun h1 => ?_) (fun h1 => ?_)
 ·try rw [h1]
  try simp only [qB, Qk] at h1
  refine Qf fun K hK => Qd Z (hK _ _ (Qa (kp1 Z) ?_))
  refine Qr (Qj (Qi Z ?_))
  first | (simp [Qc8, h1]; done) | exact (QfB (i := i) (by omega) (by simp [QbK, h1])).symm | exact (Qd7 (i := i) (by assumption) (by omega) hI.2).symm
 ·try rw [h1]
  try simp only [qB, Qk] at h1
  refine Qu (Qe (kp1 Z) ?_)
  refine QH ?_ -- 1
  refine Qf fun K hK => Qd Z (QB (Yy (by omega)) Z Z (.inl Z) (ZV Z Z (Qd Z (hK _ _ (Qa (kp3 Z Z Z) ?_)))))
  refine QK ?_
  refine Z3 (ι := Nat) (fun i => ⟨[(11, .sl (Yg (QR s 46))), (12, .int .i64 (QR s 46).length), (13, .int .i64 i)], []⟩) (fun i => i <= (QR s 46).length /\ ((QR s 46).take i).all QbK = true) (fun i => (QR s 46).length - i) 0 ?_ ?_ ?_
  ·exact Zc (l := [11, 12, 13]) (kp3 rfl rfl rfl) Qt (by simp [Qk]) rfl rfl
  ·exact ⟨Nat.zero_le _, rfl⟩
  intro i hI
  have sl := QcW (s := s) (c := 46)
  try dsimp only
  refine Qf fun K hK => Xq Z Z (hK _ _ (Qa (kp4 Z Z Z Z) ?_))
  refine QH ?_ -- 2
  refine Qx Z (fun h2 => ?_) (fun h2 => ?_)
  ·try rw [h2]
   try simp only [qB, Qk] at h2
   refine Qu (Qe (kp3 Z Z Z) ?_)
   refine QH ?_ -- 3
   refine QK (Qf fun K hK => Zk Z Z Z (by omega) (XE (by omega)) Z (QD Z Z Z (Qd Z (hK _ _ (Qa (kp4 Z Z Z Z) ?_)))))
   refine Qf fun K hK => Qd Z (QB (Y8 (XM (by omega) hl)) Z Z (.inr Z) (Qd Z (Q5 Z Z (Q5 Z Z (Qd Z (Qd Z (hK _ _ (Qa (kp5 Z Z Z Z Z) ?_))))))))
   refine Qf fun K hK => Qd Z (QB (Yj (XM (by omega) hl)) Z Z (.inr Z) (Qd Z ?_))
   refine Qv (g := 24) Z (fun h3 => ?_) (fun h3 => ?_)
   ·try rw [h3]
    try simp only [qB, Qk] at h3
    refine Qg Z (Qd Z (Qg Z (ZW Z (Qh Z Z (hK _ _ (Qa (kp4 Z Z Z Z) ?_))))))
    refine Qx Z (fun h4 => ?_) (fun h4 => ?_)
    ·try rw [h4]
     try simp only [qB, Qk] at h4
     refine Qf fun K hK => Qd Z (hK _ _ (Qa (kp1 Z) ?_))
     refine Qr (Qw (Qj (QX (Qw (Qj (Qi Z ?_))))))
     first | (simp [Qc8, h1, h2, h3, h4]; done) | exact (QfB (i := i) (by omega) (by simp [QbK, h1, h2, h3, h4])).symm | exact (Qd7 (i := i) (by assumption) (by omega) hI.2).symm
    ·try rw [h4]
     try simp only [qB, Qk] at h4
     refine Qu (Qm (Qe (kp3 Z Z Z) (Q6 fun K hK => Zy Z Z (by first | exact Qz (by omega) (by omega) | exact QJ (by omega) (by omega) | exact QT (by omega) (by omega) | rfl) (Qd Z (hK _ ?_)))))
     refine Qq (i + 1) ?_ ?_ ?_
     ·exact Q0 (kp3 rfl rfl rfl)
     ·exact ⟨by omega, QV (by omega) hI.2 (by simp [QbK, h1, h2, h3, h4])⟩
     ·first | omega | (simp only; omega) | (dsimp only; omega)
   ·try rw [h3]
    try simp only [qB, Qk] at h3
    refine Qs Z (Qs Z (Qh Z Z (hK _ _ (Qa (kp4 Z Z Z Z) ?_))))
    refine Zr Z (Qu (Qm (Qe (kp3 Z Z Z) (Q6 fun K hK => Zy Z Z (by first | exact Qz (by omega) (by omega) | exact QJ (by omega) (by omega) | exact QT (by omega) (by omega) | rfl) (Qd Z (hK _ ?_))))))
    refine Qq (i + 1) ?_ ?_ ?_
    ·exact Q0 (kp3 rfl rfl rfl)
    ·exact ⟨by omega, QV (by omega) hI.2 (by simp [QbK, h1, h2, h3])⟩
    ·first | omega | (simp only; omega) | (dsimp only; omega)
  ·try rw [h2]
   try simp only [qB, Qk] at h2
   refine Zp (QN (QC (QP (Qe (QI) (Qf fun K hK => Qd Z (hK _ _ (Qa (kp1 Z) ?_)))))))
   refine Qr (Qi Z ?_)
   first | (simp [Qc8, h1, h2]; done) | exact (QfB (i := i) (by omega) (by simp [QbK, h1, h2])).symm | exact (Qd7 (i := i) (by assumption) (by omega) hI.2).symm
theorem ZQ {a b c : Int} {p q : List UInt8} (hp : p.length <= 1000000) (hq : q.length <= 1000000) : Ok Tryd.prog 60 [.agg [.int .i64 a, .int .i64 b, .int .i64 c, .str p, .str q]] (.bool (XI a b c p q)) := by
 refine Ok.ofT Z7 Tryd.func60 Qmw (Nat.le_of_ble_eq_true Z) ?_
 show TW _ _ tf60.body _ _
 refine Qf fun K hK => ZP Z Z Z (Qd Z (hK _ _ (Qa (kp1 Z) ?_)))
 refine Qf fun K hK => Qn Z Z (QD Z Z Z (QB (Y9) Z Z (.inr Z) (Qd Z ?_)))
 refine Qv (g := 6) Z (fun h1 => ?_) (fun h1 => ?_)
 ·try rw [h1]
  try simp only [qB] at h1
  refine Qg Z (Qn Z Z (Qg Z (QD Z Z Z (Qg Z (QB (Y9) Z Z (.inr Z) (Qh Z Z (Qd Z ?_)))))))
  refine Qv (g := 11) Z (fun h2 => ?_) (fun h2 => ?_)
  ·try rw [h2]
   try simp only [qB] at h2
   refine Qg Z (Qn Z Z (Qg Z (QD Z Z Z (Qg Z (QB (Y9) Z Z (.inr Z) (Qh Z Z (Qd Z ?_)))))))
   refine Qv (g := 16) Z (fun h3 => ?_) (fun h3 => ?_)
   ·try rw [h3]
    try simp only [qB] at h3
    refine Qg Z (Qn Z Z (Qg Z (QD Z Z Z (Qg Z (Qb6 Z Z (Qg Z (Qd Z ?_)))))))
    refine Qv (g := 20) Z (fun h4 => ?_) (fun h4 => ?_)
    ·try rw [h4]
     try simp only [qB] at h4
     refine Qs Z (Qs Z (Qs Z (Qg Z (Qh Z Z (Qh Z Z (Qd Z (Qg Z (Qn Z Z (Qg Z (QD Z Z Z (Qg Z ?_)))))))))))
     refine Qb6 Z Z (Qg Z (Qd Z ?_))
     refine Qv (g := 30) Z (fun h5 => ?_) (fun h5 => ?_)
     ·try rw [h5]
      try simp only [qB] at h5
      refine Qs Z (Qs Z (Qs Z (Qg Z (Qh Z Z (Qh Z Z (Qd Z (hK _ _ (Qa (kp1 Z) ?_))))))))
      refine Qr (Qi Z ?_)
      simp [XI, ZN, Z5, h1, h2, h3, h4, h5]
     ·try rw [h5]
      try simp only [qB] at h5
      refine Qg Z (Qn Z Z (Qg Z (QD Z Z Z (Qg Z (QB (Xa (by omega)) Z Z (.inr Z) (Qg Z (Qh Z Z (Qh Z Z (Qd Z (hK _ _ (Qa (kp1 Z) ?_)))))))))))
      refine Qr (Qi Z ?_)
      simp [XI, ZN, Z5, h1, h2, h3, h4, h5]
    ·try rw [h4]
     try simp only [qB] at h4
     refine Qg Z (Qn Z Z (Qg Z (QD Z Z Z (Qg Z (QB (QdG (by omega)) Z Z (.inr Z) (Qg Z (Qh Z Z (Qh Z Z (Qd Z ?_)))))))))
     refine Qv (g := 26) Z (fun h6 => ?_) (fun h6 => ?_)
     ·try rw [h6]
      try simp only [qB] at h6
      refine Qg Z (Qn Z Z (Qg Z (QD Z Z Z (Qg Z (Qb6 Z Z (Qg Z (Qd Z ?_)))))))
      refine Qv (g := 30) Z (fun h7 => ?_) (fun h7 => ?_)
      ·try rw [h7]
       try simp only [qB] at h7
       refine Qs Z (Qs Z (Qs Z (Qg Z (Qh Z Z (Qh Z Z (Qd Z (hK _ _ (Qa (kp1 Z) ?_))))))))
       refine Qr (Qi Z ?_)
       simp [XI, ZN, Z5, h1, h2, h3, h4, h6, h7]
      ·try rw [h7]
       try simp only [qB] at h7
       refine Qg Z (Qn Z Z (Qg Z (QD Z Z Z (Qg Z (QB (Xa (by omega)) Z Z (.inr Z) (Qg Z (Qh Z Z (Qh Z Z (Qd Z (hK _ _ (Qa (kp1 Z) ?_)))))))))))
       refine Qr (Qi Z ?_)
       simp [XI, ZN, Z5, h1, h2, h3, h4, h6, h7]
     ·try rw [h6]
      try simp only [qB] at h6
      refine Qs Z (Qs Z (Qs Z (Qs Z (QG Z (QG Z (QG Z (Qs Z (Qh Z Z (Qd Z (hK _ _ (Qa (kp1 Z) ?_)))))))))))
      refine Qr (Qi Z ?_)
      simp [XI, ZN, Z5, h1, h2, h3, h4, h6]
   ·try rw [h3]
    try simp only [qB] at h3
    refine Qs Z (Qs Z (Qs Z (Qs Z (QG Z (QG Z (QG Z (Qs Z (Qh Z Z (Qd Z (Qs Z (Qs Z ?_)))))))))))
    refine Qs Z (Qs Z (QG Z (QG Z (QG Z (Qs Z (Qh Z Z (Qd Z (hK _ _ (Qa (kp1 Z) ?_)))))))))
    refine Qr (Qi Z ?_)
    simp [XI, ZN, Z5, h1, h2, h3]
  ·try rw [h2]
   try simp only [qB] at h2
   refine Qs Z (Qs Z (Qs Z (Qh Z Z (Qd Z (Qs Z (Qs Z (Qs Z (Qs Z (QG Z (QG Z (QG Z ?_)))))))))))
   refine Qs Z (Qh Z Z (Qd Z (Qs Z (Qs Z (Qs Z (Qs Z (QG Z (QG Z (QG Z (Qs Z (Qh Z Z ?_)))))))))))
   refine Qd Z (hK _ _ (Qa (kp1 Z) ?_))
   refine Qr (Qi Z ?_)
   simp [XI, ZN, Z5, h1, h2]
 ·try rw [h1]
  try simp only [qB] at h1
  refine Qs Z (Qs Z (Qs Z (Qh Z Z (Qd Z (Qs Z (Qs Z (Qs Z (Qh Z Z (Qd Z (Qs Z (Qs Z ?_)))))))))))
  refine Qs Z (Qs Z (QG Z (QG Z (QG Z (Qs Z (Qh Z Z (Qd Z (Qs Z (Qs Z (Qs Z (Qs Z ?_)))))))))))
  refine QG Z (QG Z (QG Z (Qs Z (Qh Z Z (Qd Z (hK _ _ (Qa (kp1 Z) ?_)))))))
  refine Qr (Qi Z ?_)
  simp [XI, ZN, Z5, h1]
theorem Xg {a b c : Int} {p q : List UInt8} (hp : p.length <= 1000000) (hq : q.length <= 1000000) {a' b' c' : Int} {p' q' : List UInt8} (hp' : p'.length <= 1000000) (hq' : q'.length <= 1000000) : Ok Tryd.prog 105 [.agg [.int .i64 a, .int .i64 b, .int .i64 c, .str p, .str q], .agg [.int .i64 a', .int .i64 b', .int .i64 c', .str p', .str q']] (.int .i64 (QbS a b c p q a' b' c' p' q')) := by
 refine Ok.ofT Z7 Tryd.func105 QlK (Nat.le_of_ble_eq_true Z) ?_
 show TW _ _ tf105.body _ _
 refine Qf fun K hK => ZP Z Z Z (ZP Z Z Z (Qd Z (hK _ _ (Qa (kp2 Z Z) ?_))))
 refine QH ?_ -- 0
 refine Qf fun K hK => Zl (ds0 := [13, 12, 11, 10, 9, 8, 7, 6, 5, 4, 3, 2, 1, 0]) (cs := [_, _, _, _, _]) Z Z Z Z Z Z (Zj (ds0 := [12, 11, 10, 9, 8, 7, 6, 5, 4, 3, 2, 1, 0]) (ZQ (by omega) (by omega)) Z Z (.inr Z) Z Z (ZW Z (Qd Z ?_)))
 refine Qv (g := 13) Z (fun h1 => ?_) (fun h1 => ?_)
 ·try rw [h1]
  try simp only [qB, Qk] at h1
  refine Qs Z (Qs Z (Qs Z (Qh Z Z (Qd Z (Qs Z (Qs Z (Qs Z (Qs Z (Qs Z (Qh Z Z (hK _ _ (Qa (kp3 Z Z Z) ?_))))))))))))
  refine Zh Z (Qf fun K hK => Qd Z (hK _ _ (Qa (kp1 Z) ?_)))
  refine Qr (Qj (Qy Z ?_))
  first | (simp [QbS, h1]; done) | (exact (Qa5 (by assumption) (by assumption) (by assumption)).symm) | (exact Xy (by assumption) (by assumption) (by assumption)) | (exact (Yz (by assumption) (by assumption) (by assumption) (by assumption) (by assumption)).symm) | (exact (YA (by assumption) (by assumption) (by assumption) (by assumption) (by assumption)).symm) | (rw [hI.2.2, YH (by omega) (by omega) (by assumption)]) | (rw [hI.2.2, YG (by omega) (by omega) (by omega)]; simp [Qk])
 ·try rw [h1]
  try simp only [qB, Qk] at h1
  refine Qg Z (Zl (ds0 := [9, 8, 7, 6, 5, 4, 3, 2, 1, 0]) (cs := [_, _, _, _, _]) Z Z Z Z Z Z (Qg Z (Zj (ds0 := [8, 7, 6, 5, 4, 3, 2, 1, 0]) (ZQ (by omega) (by omega)) Z Z (.inr Z) Z Z (Qg Z (ZW Z (Qh Z Z (Qd Z ?_)))))))
  refine Qv (g := 18) Z (fun h2 => ?_) (fun h2 => ?_)
  ·try rw [h2]
   try simp only [qB, Qk] at h2
   refine Qs Z (Qs Z (Qs Z (Qs Z (Qs Z (Qh Z Z (hK _ _ (Qa (kp3 Z Z Z) ?_)))))))
   refine Zh Z (Qf fun K hK => Qd Z (hK _ _ (Qa (kp1 Z) ?_)))
   refine Qr (Qj (Qy Z ?_))
   first | (simp [QbS, h1, h2]; done) | (exact (Qa5 (by assumption) (by assumption) (by assumption)).symm) | (exact Xy (by assumption) (by assumption) (by assumption)) | (exact (Yz (by assumption) (by assumption) (by assumption) (by assumption) (by assumption)).symm) | (exact (YA (by assumption) (by assumption) (by assumption) (by assumption) (by assumption)).symm) | (rw [hI.2.2, YH (by omega) (by omega) (by assumption)]) | (rw [hI.2.2, YG (by omega) (by omega) (by omega)]; simp [Qk])
  ·try rw [h2]
   try simp only [qB, Qk] at h2
   refine Qg Z (Zl (ds0 := [4, 1, 0]) (cs := [_, _, _, _, _]) Z Z Z Z Z Z (Qg Z (Zj (ds0 := [1, 0]) (QaA) Z Z (.inl Z) Z Z (Qg Z (Zl (ds0 := [2, 1, 0]) (cs := [_, _, _, _, _]) Z Z Z Z Z Z (Qg Z (Zj (ds0 := [1, 0]) (QaA) Z Z (.inl Z) Z Z (Qg Z (QgY Z Z Z (Qh Z Z (hK _ _ (Qa (kp3 Z Z Z) ?_))))))))))))
   refine Qx Z (fun h3 => ?_) (fun h3 => ?_)
   ·try rw [h3]
    try simp only [qB, Qk] at h3
    refine Qf fun K hK => Qd Z (hK _ _ (Qa (kp1 Z) ?_))
    refine Qr (Qj (Qy Z ?_))
    first | (simp [QbS, h1, h2, h3]; done) | (exact (Qa5 (by assumption) (by assumption) (by assumption)).symm) | (exact Xy (by assumption) (by assumption) (by assumption)) | (exact (Yz (by assumption) (by assumption) (by assumption) (by assumption) (by assumption)).symm) | (exact (YA (by assumption) (by assumption) (by assumption) (by assumption) (by assumption)).symm) | (rw [hI.2.2, YH (by omega) (by omega) (by assumption)]) | (rw [hI.2.2, YG (by omega) (by omega) (by omega)]; simp [Qk])
   ·try rw [h3]
    try simp only [qB, Qk] at h3
    refine Qu (Qe (kp2 Z Z) ?_)
    refine QH ?_ -- 1
    refine Qf fun K hK => Qn Z Z (Zv (ds0 := [13, 2, 1, 0]) Z Z Z Z Z (Qn Z Z (Zv (ds0 := [13, 2, 1, 0]) Z Z Z Z Z (Zj (ds0 := [2, 1, 0]) (Q9) Z Z (.inr Z) Z Z (Qn Z Z (Zv (ds0 := [8, 2, 1, 0]) Z Z Z Z Z (Qn Z Z (Zv (ds0 := [8, 2, 1, 0]) Z Z Z Z Z (Zj (ds0 := [2, 1, 0]) (Q9) Z Z (.inr Z) Z Z (Qn Z Z ?_))))))))))
    refine Zv (ds0 := [3, 2, 1, 0]) Z Z Z Z Z (Qn Z Z (Zv (ds0 := [3, 2, 1, 0]) Z Z Z Z Z (Zj (ds0 := [2, 1, 0]) (Q9) Z Z (.inr Z) Z Z (Zf Z Z (Zj (ds0 := [0]) (Qex (l := [Zn a a', Zn b b', Zn c c']) (by simp)) Z Z (.inr Z) Z Z (Qd Z (hK _ _ (Qa (kp3 Z Z Z) ?_))))))))
    refine Qf fun K hK => Qd Z (Yh Z Z (hK _ _ (Qa (kp4 Z Z Z Z) ?_)))
    refine Qx Z (fun h4 => ?_) (fun h4 => ?_)
    ·try rw [h4]
     try simp only [qB, Qk] at h4
     refine Qf fun K hK => Qd Z (Qd Z (hK _ _ (Qa (kp1 Z) ?_)))
     refine Qr (Qj (Qy Z ?_))
     first | (simp [QbS, h1, h2, h3, h4]; done) | (exact (Qa5 (by assumption) (by assumption) (by assumption)).symm) | (exact Xy (by assumption) (by assumption) (by assumption)) | (exact (Yz (by assumption) (by assumption) (by assumption) (by assumption) (by assumption)).symm) | (exact (YA (by assumption) (by assumption) (by assumption) (by assumption) (by assumption)).symm) | (rw [hI.2.2, YH (by omega) (by omega) (by assumption)]) | (rw [hI.2.2, YG (by omega) (by omega) (by omega)]; simp [Qk])
    ·try rw [h4]
     try simp only [qB, Qk] at h4
     refine Qu (Qe (kp2 Z Z) ?_)
     refine QH ?_ -- 2
     refine Qf fun K hK => Qn Z Z (QD Z Z Z (Qb6 Z Z (hK _ _ (Qa (kp3 Z Z Z) ?_))))
     refine Qx Z (fun h5 => ?_) (fun h5 => ?_)
     ·try rw [h5]
      try simp only [qB, Qk] at h5
      refine Qf fun K hK => Qd Z (hK _ _ (Qa (kp1 Z) ?_))
      refine Qr (Qj (Qy Z ?_))
      first | (simp [QbS, h1, h2, h3, h4, h5]; done) | (exact (Qa5 (by assumption) (by assumption) (by assumption)).symm) | (exact Xy (by assumption) (by assumption) (by assumption)) | (exact (Yz (by assumption) (by assumption) (by assumption) (by assumption) (by assumption)).symm) | (exact (YA (by assumption) (by assumption) (by assumption) (by assumption) (by assumption)).symm) | (rw [hI.2.2, YH (by omega) (by omega) (by assumption)]) | (rw [hI.2.2, YG (by omega) (by omega) (by omega)]; simp [Qk])
     ·try rw [h5]
      try simp only [qB, Qk] at h5
      refine Qu (Qe (kp2 Z Z) ?_)
      refine QH ?_ -- 3
      refine Qf fun K hK => Qn Z Z (QD Z Z Z (Qb6 Z Z (hK _ _ (Qa (kp3 Z Z Z) ?_))))
      refine Qx Z (fun h6 => ?_) (fun h6 => ?_)
      ·try rw [h6]
       try simp only [qB, Qk] at h6
       refine Qf fun K hK => Qd Z (hK _ _ (Qa (kp1 Z) ?_))
       refine Qr (Qj (Qy Z ?_))
       first | (simp [QbS, h1, h2, h3, h4, h5, h6]; done) | (exact (Qa5 (by assumption) (by assumption) (by assumption)).symm) | (exact Xy (by assumption) (by assumption) (by assumption)) | (exact (Yz (by assumption) (by assumption) (by assumption) (by assumption) (by assumption)).symm) | (exact (YA (by assumption) (by assumption) (by assumption) (by assumption) (by assumption)).symm) | (rw [hI.2.2, YH (by omega) (by omega) (by assumption)]) | (rw [hI.2.2, YG (by omega) (by omega) (by omega)]; simp [Qk])
      ·try rw [h6]
       try simp only [qB, Qk] at h6
       refine Qu (Qe (kp2 Z Z) (Qf fun K hK => Qn Z Z (Zv (ds0 := [5, 1]) Z Z Z Z Z (Zj (ds0 := [1]) (Yy (by omega)) Z Z (.inl Z) Z Z (Qn Z Z (Zv (ds0 := [2, 0]) Z Z Z Z Z (Zj (ds0 := [0]) (Yy (by omega)) Z Z (.inl Z) Z Z (Qd Z (Qd Z (hK _ _ (Qa (kp2 Z Z) ?_)))))))))))
       refine QH ?_ -- 4
       refine Qf fun K hK => Qd Z (hK _ _ (Qa (kp3 Z Z Z) ?_))
       refine QK ?_
       refine Z3 (ι := Nat) (fun i => ⟨[(6, .sl (Yg (QR p 46))), (7, .sl (Yg (QR p' 46))), (8, .int .i64 i)], []⟩) (fun i => i <= (QR p 46).length /\ i <= (QR p' 46).length /\ QbS a b c p q a' b' c' p' q' = QgI ((QR p 46).drop i) ((QR p' 46).drop i)) (fun i => (QR p 46).length - i) 0 ?_ ?_ ?_
       ·exact Zc (l := [6, 7, 8]) (kp3 rfl rfl rfl) Qt rfl rfl rfl
       ·exact ⟨Nat.zero_le _, Nat.zero_le _, QjH (by assumption) (by assumption) (by assumption) (by assumption) (by assumption) (by assumption)⟩
       intro i hI
       have sl := QcW (s := p) (c := 46)
       try dsimp only
       refine QH ?_ -- 5
       refine Qf fun K hK => Qd Z (Qd Z (ZV Z Z (Xq Z Z (Qd Z ?_))))
       refine Qv (g := 61) Z (fun h7 => ?_) (fun h7 => ?_)
       ·try rw [h7]
        try simp only [qB, Qk] at h7
        refine Qg Z (Qd Z (Qg Z (Qd Z (Qg Z (ZV Z Z (Qg Z (Xq Z Z (Qh Z Z (hK _ _ (Qa (kp4 Z Z Z Z) ?_))))))))))
        refine Qx Z (fun h8 => ?_) (fun h8 => ?_)
        ·try rw [h8]
         try simp only [qB, Qk] at h8
         refine Qu (Qe (kp3 Z Z Z) ?_)
         refine QH ?_ -- 6
         refine QK (Qf fun K hK => Qd Z (Qd Z (Zk Z Z Z (by omega) (XE (by omega)) Z (Zv (ds0 := [1, 0]) Z Z Z Z Z (Qd Z (Qd Z (Zk Z Z Z (by omega) (XE (by omega)) Z (Zv (ds0 := [1, 0]) Z Z Z Z Z (Zj (ds0 := [0]) (QdH (XM (by omega) hp) (XM (by omega) hp')) Z Z (.inr Z) Z Z (Qd Z ?_))))))))))
         refine hK _ _ (Qa (kp4 Z Z Z Z) ?_)
         refine Qf fun K hK => Qd Z (Yh Z Z (hK _ _ (Qa (kp5 Z Z Z Z Z) ?_)))
         refine Qx Z (fun h9 => ?_) (fun h9 => ?_)
         ·try rw [h9]
          try simp only [qB, Qk] at h9
          refine Qf fun K hK => Qd Z (Qd Z (hK _ _ (Qa (kp1 Z) ?_)))
          refine Qr (Qw (Qj (QX (Qw (Qj (Qy Z ?_))))))
          first | (simp [QbS, h1, h2, h3, h4, h5, h6, h7, h8, h9]; done) | (exact (Qa5 (by assumption) (by assumption) (by assumption)).symm) | (exact Xy (by assumption) (by assumption) (by assumption)) | (exact (Yz (by assumption) (by assumption) (by assumption) (by assumption) (by assumption)).symm) | (exact (YA (by assumption) (by assumption) (by assumption) (by assumption) (by assumption)).symm) | (rw [hI.2.2, YH (by omega) (by omega) (by assumption)]) | (rw [hI.2.2, YG (by omega) (by omega) (by omega)]; simp [Qk])
         ·try rw [h9]
          try simp only [qB, Qk] at h9
          refine Qu (Qm (Qe (kp3 Z Z Z) (Q6 fun K hK => Qd Z (Zy Z Z (by first | exact Qz (by omega) (by omega) | exact QJ (by omega) (by omega) | exact QT (by omega) (by omega) | rfl) (Qd Z (hK _ ?_))))))
          refine Qq (i + 1) ?_ ?_ ?_
          ·exact Q0 (kp3 rfl rfl rfl)
          ·exact ⟨by omega, by omega, by rw [hI.2.2, QhJ (by omega) (by omega) (by assumption)]⟩
          ·first | omega | (simp only; omega) | (dsimp only; omega)
        ·try rw [h8]
         try simp only [qB, Qk] at h8
         refine Zp (QN (QC (QP (Qe (kp2 Z Z) (Qf fun K hK => Qd Z (ZV Z Z (Qd Z (ZV Z Z (QB (Q9) Z Z (.inr Z) (Qd Z ?_))))))))))
         refine hK _ _ (Qa (kp1 Z) ?_)
         refine Qr (Qy Z ?_)
         first | (simp [QbS, h1, h2, h3, h4, h5, h6, h7, h8]; done) | (exact (Qa5 (by assumption) (by assumption) (by assumption)).symm) | (exact Xy (by assumption) (by assumption) (by assumption)) | (exact (Yz (by assumption) (by assumption) (by assumption) (by assumption) (by assumption)).symm) | (exact (YA (by assumption) (by assumption) (by assumption) (by assumption) (by assumption)).symm) | (rw [hI.2.2, YH (by omega) (by omega) (by assumption)]) | (rw [hI.2.2, YG (by omega) (by omega) (by omega)]; simp [Qk])
       ·try rw [h7]
        try simp only [qB, Qk] at h7
        refine Qs Z (Qs Z (Qs Z (Qs Z (Qh Z Z (hK _ _ (Qa (kp4 Z Z Z Z) ?_))))))
        refine Zr Z (Zp (QN (QC (QP (Qe (kp2 Z Z) (Qf fun K hK => Qd Z (ZV Z Z (Qd Z (ZV Z Z (QB (Q9) Z Z (.inr Z) ?_))))))))))
        refine Qd Z (hK _ _ (Qa (kp1 Z) ?_))
        refine Qr (Qy Z ?_)
        first | (simp [QbS, h1, h2, h3, h4, h5, h6, h7]; done) | (exact (Qa5 (by assumption) (by assumption) (by assumption)).symm) | (exact Xy (by assumption) (by assumption) (by assumption)) | (exact (Yz (by assumption) (by assumption) (by assumption) (by assumption) (by assumption)).symm) | (exact (YA (by assumption) (by assumption) (by assumption) (by assumption) (by assumption)).symm) | (rw [hI.2.2, YH (by omega) (by omega) (by assumption)]) | (rw [hI.2.2, YG (by omega) (by omega) (by omega)]; simp [Qk])
theorem XW {e a b c : Int} {p q : List UInt8} {f : Bool} (hp : p.length <= 1000000) (hq : q.length <= 1000000) : Ok Tryd.prog 103 [.agg [.int .i64 e, .int .i64 a, .int .i64 b, .int .i64 c, .str p, .str q, .bool f]] (.bool (YF e a b c p q f)) := by
 refine Ok.ofT Z7 Tryd.func103 QlI (Nat.le_of_ble_eq_true Z) ?_
 show TW _ _ tf103.body _ _
 refine Qf fun K hK => ZP Z Z Z (Qd Z (hK _ _ (Qa (kp1 Z) ?_)))
 refine QH ?_ -- 0
 refine Qf fun K hK => Qn Z Z (QD Z Z Z (Xf Z Z (Qd Z ?_)))
 refine Qv (g := 6) Z (fun h1 => ?_) (fun h1 => ?_)
 ·try rw [h1]
  try simp only [qB] at h1
  refine Qs Z (Qs Z (Qs Z (Qh Z Z (hK _ _ (Qa (kp2 Z Z) ?_)))))
  refine Zh Z (Qf fun K hK => Qn Z Z (QL (cs := [_, _, _, _, _]) Z Z Z Z (Q1 Z Z (QgY Z Z Z (Qd Z ?_)))))
  refine Qv (g := 15) Z (fun h2 => ?_) (fun h2 => ?_)
  ·try rw [h2]
   try simp only [qB] at h2
   refine Qg Z (Qn Z Z (Qg Z (QD Z Z Z (Qg Z (ZW Z (Qh Z Z (Qd Z (hK _ _ (Qa (kp1 Z) ?_)))))))))
   refine Qr (Qj (Qi Z ?_))
   (repeat clear hK K); first | (simp_all [YF]; done) | (simp_all [YF]; omega)
  ·try rw [h2]
   try simp only [qB] at h2
   refine Qs Z (Qs Z (Qs Z (Qh Z Z (Qd Z (hK _ _ (Qa (kp1 Z) ?_))))))
   refine Qr (Qj (Qi Z ?_))
   (repeat clear hK K); first | (simp_all [YF]; done) | (simp_all [YF]; omega)
 ·try rw [h1]
  try simp only [qB] at h1
  refine Qg Z (Qn Z Z (Qg Z (QD Z Z Z (Qg Z (Xf Z Z (Qh Z Z (hK _ _ (Qa (kp2 Z Z) ?_))))))))
  refine Qx Z (fun h3 => ?_) (fun h3 => ?_)
  ·try rw [h3]
   try simp only [qB] at h3
   refine Qf fun K hK => Qn Z Z (QL (cs := [_, _, _, _, _]) Z Z Z Z (Q1 Z Z (QgY Z Z Z (Qd Z ?_))))
   refine Qv (g := 15) Z (fun h4 => ?_) (fun h4 => ?_)
   ·try rw [h4]
    try simp only [qB] at h4
    refine Qg Z (Qn Z Z (Qg Z (QD Z Z Z (Qg Z (ZW Z (Qh Z Z (Qd Z (hK _ _ (Qa (kp1 Z) ?_)))))))))
    refine Qr (Qj (Qi Z ?_))
    (repeat clear hK K); first | (simp_all [YF]; done) | (simp_all [YF]; omega)
   ·try rw [h4]
    try simp only [qB] at h4
    refine Qs Z (Qs Z (Qs Z (Qh Z Z (Qd Z (hK _ _ (Qa (kp1 Z) ?_))))))
    refine Qr (Qj (Qi Z ?_))
    (repeat clear hK K); first | (simp_all [YF]; done) | (simp_all [YF]; omega)
  ·try rw [h3]
   try simp only [qB] at h3
   refine Qf fun K hK => Qn Z Z (QD Z Z Z (Yh Z Z (hK _ _ (Qa (kp2 Z Z) ?_))))
   refine Qx Z (fun h5 => ?_) (fun h5 => ?_)
   ·try rw [h5]
    try simp only [qB] at h5
    refine Qf fun K hK => Qd Z (hK _ _ (Qa (kp1 Z) ?_))
    refine Qr (Qj (Qi Z ?_))
    (repeat clear hK K); first | (simp_all [YF]; done) | (simp_all [YF]; omega)
   ·try rw [h5]
    try simp only [qB] at h5
    refine Qu (Qe (kp1 Z) (Qf fun K hK => Qn Z Z (QL (cs := [_, _, _, _, _]) Z Z Z Z (QB (ZQ (by omega) (by omega)) Z Z (.inr Z) (Qd Z ?_)))))
    refine Qv (g := 26) Z (fun h6 => ?_) (fun h6 => ?_)
    ·try rw [h6]
     try simp only [qB] at h6
     refine Qg Z (Qn Z Z (Qg Z (Qn Z Z (Qg Z (QD Z Z Z (Qg Z (Qb6 Z Z (Qh Z Z (Qd Z (hK _ _ (Qa (kp1 Z) ?_)))))))))))
     refine Qr (Qi Z ?_)
     (repeat clear hK K); first | (simp_all [YF]; done) | (simp_all [YF]; omega)
    ·try rw [h6]
     try simp only [qB] at h6
     refine Qs Z (Qs Z (Qs Z (Qs Z (Qh Z Z (Qd Z (hK _ _ (Qa (kp1 Z) ?_)))))))
     refine Qr (Qi Z ?_)
     (repeat clear hK K); first | (simp_all [YF]; done) | (simp_all [YF]; omega)
theorem QaY {e a b c : Int} {p q : List UInt8} {f : Bool} (hp : p.length <= 1000000) (hq : q.length <= 1000000) {e' a' b' c' : Int} {p' q' : List UInt8} {f' : Bool} (hp' : p'.length <= 1000000) (hq' : q'.length <= 1000000) : Ok Tryd.prog 94 [.agg [.int .i64 e, .int .i64 a, .int .i64 b, .int .i64 c, .str p, .str q, .bool f], .agg [.int .i64 e', .int .i64 a', .int .i64 b', .int .i64 c', .str p', .str q', .bool f']] (.int .i64 (Xb e a b c p q f e' a' b' c' p' q' f')) := by
 refine Ok.ofT Z7 Tryd.func94 QmR (Nat.le_of_ble_eq_true Z) ?_
 show TW _ _ tf94.body _ _
 refine Qf fun K hK => ZP Z Z Z (ZP Z Z Z (Qd Z (hK _ _ (Qa (kp2 Z Z) ?_))))
 refine QH ?_ -- 0
 refine Qf fun K hK => QL (cs := [_, _, _, _, _, _, _]) Z Z Z Z (QB (XW (by omega) (by omega)) Z Z (.inr Z) (ZW Z (Qd Z ?_)))
 refine Qv (g := 9) Z (fun h1 => ?_) (fun h1 => ?_)
 ·try rw [h1]
  try simp only [qB] at h1
  refine Qs Z (Qs Z (Qs Z (Qh Z Z (hK _ _ (Qa (kp3 Z Z Z) ?_)))))
  refine Zh Z (Qf fun K hK => Qd Z (hK _ _ (Qa (kp1 Z) ?_)))
  refine Qr (Qj (Qy Z ?_))
  (repeat clear hK K); first | (simp [Xb, h1]; done) | exact (YZ (by assumption) (by assumption) (by first | (left; assumption) | (right; assumption))).symm | (simp_all [Xb]; done)
 ·try rw [h1]
  try simp only [qB] at h1
  refine Qg Z (QL (cs := [_, _, _, _, _, _, _]) Z Z Z Z (Qg Z (QB (XW (by omega) (by omega)) Z Z (.inr Z) (Qg Z (ZW Z (Qh Z Z (hK _ _ (Qa (kp3 Z Z Z) ?_))))))))
  refine Qx Z (fun h2 => ?_) (fun h2 => ?_)
  ·try rw [h2]
   try simp only [qB] at h2
   refine Qf fun K hK => Qd Z (hK _ _ (Qa (kp1 Z) ?_))
   refine Qr (Qj (Qy Z ?_))
   (repeat clear hK K); first | (simp [Xb, h1, h2]; done) | exact (YZ (by assumption) (by assumption) (by first | (left; assumption) | (right; assumption))).symm | (simp_all [Xb]; done)
  ·try rw [h2]
   try simp only [qB] at h2
   refine Qf fun K hK => Qn Z Z (QD Z Z Z (Yh Z Z (Qd Z ?_)))
   refine Qv (g := 17) Z (fun h3 => ?_) (fun h3 => ?_)
   ·try rw [h3]
    try simp only [qB] at h3
    refine Qs Z (Qs Z (Qs Z (Qh Z Z (hK _ _ (Qa (kp3 Z Z Z) ?_)))))
    refine Zh Z (Qf fun K hK => Qn Z Z (QD Z Z Z (Qn Z Z (QD Z Z Z (QB (Q9) Z Z (.inr Z) (Qd Z (hK _ _ (Qa (kp1 Z) ?_))))))))
    refine Qr (Qj (Qy Z ?_))
    (repeat clear hK K); first | (simp [Xb, h1, h2, h3]; done) | exact (YZ (by assumption) (by assumption) (by first | (left; assumption) | (right; assumption))).symm | (simp_all [Xb]; done)
   ·try rw [h3]
    try simp only [qB] at h3
    refine Qg Z (Qn Z Z (Qg Z (QD Z Z Z (Qg Z (Yh Z Z (Qh Z Z (hK _ _ (Qa (kp3 Z Z Z) ?_))))))))
    refine Qx Z (fun h4 => ?_) (fun h4 => ?_)
    ·try rw [h4]
     try simp only [qB] at h4
     refine Qf fun K hK => Qn Z Z (QD Z Z Z (Qn Z Z (QD Z Z Z (QB (Q9) Z Z (.inr Z) (Qd Z (hK _ _ (Qa (kp1 Z) ?_)))))))
     refine Qr (Qj (Qy Z ?_))
     (repeat clear hK K); first | (simp [Xb, h1, h2, h3, h4]; done) | exact (YZ (by assumption) (by assumption) (by first | (left; assumption) | (right; assumption))).symm | (simp_all [Xb]; done)
    ·try rw [h4]
     try simp only [qB] at h4
     refine Qf fun K hK => Qn Z Z (QL (cs := [_, _, _, _, _]) Z Z Z Z (Qn Z Z (QL (cs := [_, _, _, _, _]) Z Z Z Z (QB (Xg (by omega) (by omega) (by omega) (by omega)) Z Z (.inr Z) (Qd Z (hK _ _ (Qa (kp3 Z Z Z) ?_)))))))
     refine Qf fun K hK => Qd Z (Yh Z Z (hK _ _ (Qa (kp4 Z Z Z Z) ?_)))
     refine Qx Z (fun h5 => ?_) (fun h5 => ?_)
     ·try rw [h5]
      try simp only [qB] at h5
      refine Qf fun K hK => Qd Z (Qd Z (hK _ _ (Qa (kp1 Z) ?_)))
      refine Qr (Qj (Qy Z ?_))
      (repeat clear hK K); first | (simp [Xb, h1, h2, h3, h4, h5]; done) | exact (YZ (by assumption) (by assumption) (by first | (left; assumption) | (right; assumption))).symm | (simp_all [Xb]; done)
     ·try rw [h5]
      try simp only [qB] at h5
      refine Qf fun K hK => Qn Z Z (QD Z Z Z (Qn Z Z (QD Z Z Z (Qll Z Z (hK _ _ (Qa (kp2 Z Z) ?_))))))
      refine Qx Z (fun h6 => ?_) (fun h6 => ?_)
      ·try rw [h6]
       try simp only [qB] at h6
       refine Qf fun K hK => Qd Z (hK _ _ (Qa (kp1 Z) ?_))
       refine Qr (Qj (Qy Z ?_))
       (repeat clear hK K); first | (simp [Xb, h1, h2, h3, h4, h5, h6]; done) | exact (YZ (by assumption) (by assumption) (by first | (left; assumption) | (right; assumption))).symm | (simp_all [Xb]; done)
      ·try rw [h6]
       try simp only [qB] at h6
       refine Qf fun K hK => Qn Z Z (QD Z Z Z (hK _ _ (Qa (kp1 Z) ?_)))
       refine Qx Z (fun h7 => ?_) (fun h7 => ?_)
       ·try rw [h7]
        try simp only [qB] at h7
        refine Qf fun K hK => Qd Z (hK _ _ (Qa (kp1 Z) ?_))
        refine Qr (Qj (Qy Z ?_))
        (repeat clear hK K); first | (simp [Xb, h1, h2, h3, h4, h5, h6, h7]; done) | exact (YZ (by assumption) (by assumption) (by first | (left; assumption) | (right; assumption))).symm | (simp_all [Xb]; done)
       ·try rw [h7]
        try simp only [qB] at h7
        refine Qu (Qe (QI) (Qf fun K hK => Qd Z (hK _ _ (Qa (kp1 Z) ?_))))
        refine Qr (Qy Z ?_)
        (repeat clear hK K); first | (simp [Xb, h1, h2, h3, h4, h5, h6, h7]; done) | exact (YZ (by assumption) (by assumption) (by first | (left; assumption) | (right; assumption))).symm | (simp_all [Xb]; done)
theorem Qcf {e a b c : Int} {p q : List UInt8} {f : Bool} (hp : p.length <= 1000000) (hq : q.length <= 1000000) {a' b' c' : Int} {p' q' : List UInt8} (hp' : p'.length <= 1000000) (hq' : q'.length <= 1000000) : Ok Tryd.prog 98 [.agg [.int .i64 e, .int .i64 a, .int .i64 b, .int .i64 c, .str p, .str q, .bool f], .agg [.int .i64 a', .int .i64 b', .int .i64 c', .str p', .str q']] (.bool (YS e a b c p q f a' b' c' p' q')) := by
 refine Ok.ofT Z7 Tryd.func98 QmV (Nat.le_of_ble_eq_true Z) ?_
 show TW _ _ tf98.body _ _
 refine Qf fun K hK => ZP Z Z Z (ZP Z Z Z (Qd Z (hK _ _ (Qa (kp2 Z Z) ?_))))
 refine QH ?_ -- 0
 refine Qf fun K hK => QL (cs := [_, _, _, _, _, _, _]) Z Z Z Z (QB (XW (by omega) (by omega)) Z Z (.inr Z) (ZW Z (Qd Z ?_)))
 refine Qv (g := 9) Z (fun h1 => ?_) (fun h1 => ?_)
 ·try rw [h1]
  try simp only [qB] at h1
  refine Qs Z (Qs Z (Qs Z (Qh Z Z (hK _ _ (Qa (kp3 Z Z Z) ?_)))))
  refine Zh Z (Qf fun K hK => Qd Z (hK _ _ (Qa (kp1 Z) ?_)))
  refine Qr (Qj (Qi Z ?_))
  (repeat clear hK K); first | (simp [YS, h1]; done) | (simp_all [YS]; done)
 ·try rw [h1]
  try simp only [qB] at h1
  refine Qg Z (QL (cs := [_, _, _, _, _]) Z Z Z Z (Qg Z (QB (ZQ (by omega) (by omega)) Z Z (.inr Z) (Qg Z (ZW Z (Qh Z Z (hK _ _ (Qa (kp3 Z Z Z) ?_))))))))
  refine Qx Z (fun h2 => ?_) (fun h2 => ?_)
  ·try rw [h2]
   try simp only [qB] at h2
   refine Qf fun K hK => Qd Z (hK _ _ (Qa (kp1 Z) ?_))
   refine Qr (Qj (Qi Z ?_))
   (repeat clear hK K); first | (simp [YS, h1, h2]; done) | (simp_all [YS]; done)
  ·try rw [h2]
   try simp only [qB] at h2
   refine Qf fun K hK => Qn Z Z (QD Z Z Z (Yh Z Z (hK _ _ (Qa (kp3 Z Z Z) ?_))))
   refine Qx Z (fun h3 => ?_) (fun h3 => ?_)
   ·try rw [h3]
    try simp only [qB] at h3
    refine Qf fun K hK => Qn Z Z (QD Z Z Z (Xq Z Z (Qd Z (hK _ _ (Qa (kp1 Z) ?_)))))
    refine Qr (Qj (Qi Z ?_))
    (repeat clear hK K); first | (simp [YS, h1, h2, h3]; done) | (simp_all [YS]; done)
   ·try rw [h3]
    try simp only [qB] at h3
    refine Qu (Qe (kp2 Z Z) (Qf fun K hK => Qn Z Z (QL (cs := [_, _, _, _, _]) Z Z Z Z (QL (cs := [_, _, _, _, _]) Z Z Z Z (QB (Xg (by omega) (by omega) (by omega) (by omega)) Z Z (.inr Z) (Qd Z (hK _ _ (Qa (kp2 Z Z) ?_))))))))
    refine Qf fun K hK => Qd Z (Xq Z Z (Qd Z ?_))
    refine Qv (g := 26) Z (fun h4 => ?_) (fun h4 => ?_)
    ·try rw [h4]
     try simp only [qB] at h4
     refine Qs Z (Qs Z (Qs Z (QG Z (QG Z (QG Z (Qs Z (Qh Z Z (Qd Z (hK _ _ (Qa (kp1 Z) ?_))))))))))
     refine Qr (Qi Z ?_)
     (repeat clear hK K); first | (simp [YS, h1, h2, h3, h4]; done) | (simp_all [YS]; done)
    ·try rw [h4]
     try simp only [qB] at h4
     refine Qg Z (Qd Z (Qg Z (Xf Z Z (Qg Z (Qd Z ?_)))))
     refine Qv (g := 29) Z (fun h5 => ?_) (fun h5 => ?_)
     ·try rw [h5]
      try simp only [qB] at h5
      refine Qg Z (Qn Z Z (Qg Z (QD Z Z Z (Qg Z (ZW Z (Qg Z (Qh Z Z (Qh Z Z (Qd Z (hK _ _ (Qa (kp1 Z) ?_)))))))))))
      refine Qr (Qi Z ?_)
      (repeat clear hK K); first | (simp [YS, h1, h2, h3, h4, h5]; done) | (simp_all [YS]; done)
     ·try rw [h5]
      try simp only [qB] at h5
      refine Qs Z (Qs Z (Qs Z (Qg Z (Qh Z Z (Qh Z Z (Qd Z (hK _ _ (Qa (kp1 Z) ?_))))))))
      refine Qr (Qi Z ?_)
      (repeat clear hK K); first | (simp [YS, h1, h2, h3, h4, h5]; done) | (simp_all [YS]; done)
theorem QaZ {e a b c : Int} {p q : List UInt8} {f : Bool} (hp : p.length <= 1000000) (hq : q.length <= 1000000) {e' a' b' c' : Int} {p' q' : List UInt8} {f' : Bool} (hp' : p'.length <= 1000000) (hq' : q'.length <= 1000000) : Ok Tryd.prog 93 [.agg [.int .i64 e, .int .i64 a, .int .i64 b, .int .i64 c, .str p, .str q, .bool f, .int .i64 e', .int .i64 a', .int .i64 b', .int .i64 c', .str p', .str q', .bool f']] (.bool (Qc9 e a b c p q f e' a' b' c' p' q' f')) := by
 refine Ok.ofT Z7 Tryd.func93 QmQ (Nat.le_of_ble_eq_true Z) ?_
 show TW _ _ tf93.body _ _
 refine Qf fun K hK => ZP Z Z Z (Qd Z (hK _ _ (Qa (kp1 Z) ?_)))
 refine Qf fun K hK => Qn Z Z (QL (cs := [_, _, _, _, _, _, _]) Z Z Z Z (QB (XW (by omega) (by omega)) Z Z (.inr Z) (Qd Z ?_)))
 refine Qv (g := 6) Z (fun h1 => ?_) (fun h1 => ?_)
 ·try rw [h1]
  try simp only [qB] at h1
  refine Qg Z (Qn Z Z (Qg Z (QL (cs := [_, _, _, _, _, _, _]) Z Z Z Z (Qg Z (QB (XW (by omega) (by omega)) Z Z (.inr Z) (Qh Z Z (Qd Z ?_)))))))
  refine Qv (g := 11) Z (fun h2 => ?_) (fun h2 => ?_)
  ·try rw [h2]
   try simp only [qB] at h2
   refine Qg Z (Qn Z Z (Qg Z (QL (cs := [_, _, _, _, _, _, _]) Z Z Z Z (Qg Z (Qn Z Z (Qg Z (QL (cs := [_, _, _, _, _, _, _]) Z Z Z Z (Qg Z (QB (QaY (by omega) (by omega) (by omega) (by omega)) Z Z (.inr Z) (Qg Z (Xq Z Z ?_)))))))))))
   refine Qh Z Z (Qd Z (hK _ _ (Qa (kp1 Z) ?_)))
   refine Qr (Qi Z ?_)
   (repeat clear hK K); first | (simp [Qc9, h1, h2]; done) | (simp_all [Qc9]; done)
  ·try rw [h2]
   try simp only [qB] at h2
   refine Qs Z (Qs Z (Qs Z (Qs Z (Qs Z (Qs Z (Qh Z Z (Qd Z (hK _ _ (Qa (kp1 Z) ?_)))))))))
   refine Qr (Qi Z ?_)
   (repeat clear hK K); first | (simp [Qc9, h1, h2]; done) | (simp_all [Qc9]; done)
 ·try rw [h1]
  try simp only [qB] at h1
  refine Qs Z (Qs Z (Qs Z (Qh Z Z (Qd Z (Qs Z (Qs Z (Qs Z (Qs Z (Qs Z (Qs Z (Qh Z Z ?_)))))))))))
  refine Qd Z (hK _ _ (Qa (kp1 Z) ?_))
  refine Qr (Qi Z ?_)
  (repeat clear hK K); first | (simp [Qc9, h1]; done) | (simp_all [Qc9]; done)
theorem Qfn {e a b c : Int} {p q : List UInt8} {f : Bool} (hp : p.length <= 1000000) (hq : q.length <= 1000000) {e' a' b' c' : Int} {p' q' : List UInt8} {f' : Bool} (hp' : p'.length <= 1000000) (hq' : q'.length <= 1000000) {x y z : Int} {r s : List UInt8} (hr : r.length <= 1000000) (hs : s.length <= 1000000) : Ok Tryd.prog 82 [.agg [.int .i64 e, .int .i64 a, .int .i64 b, .int .i64 c, .str p, .str q, .bool f, .int .i64 e', .int .i64 a', .int .i64 b', .int .i64 c', .str p', .str q', .bool f'], .agg [.int .i64 x, .int .i64 y, .int .i64 z, .str r, .str s]] (.bool (QaE e a b c p q f e' a' b' c' p' q' f' x y z r s)) := by
 refine Ok.ofT Z7 Tryd.func82 QmK (Nat.le_of_ble_eq_true Z) ?_
 show TW _ _ tf82.body _ _
 refine Qf fun K hK => ZP Z Z Z (ZP Z Z Z (Qd Z (hK _ _ (Qa (kp2 Z Z) ?_))))
 refine Qf fun K hK => QL (cs := [_, _, _, _, _, _, _, _, _, _, _, _, _, _]) Z Z Z Z (QB (QaZ (by omega) (by omega) (by omega) (by omega)) Z Z (.inr Z) (Qd Z ?_))
 refine Qv (g := 7) Z (fun h1 => ?_) (fun h1 => ?_)
 ·try rw [h1]
  try simp only [qB] at h1
  refine Qg Z (QL (cs := [_, _, _, _, _]) Z Z Z Z (Qg Z (QB (ZQ (by omega) (by omega)) Z Z (.inr Z) (Qh Z Z (Qd Z ?_)))))
  refine Qv (g := 11) Z (fun h2 => ?_) (fun h2 => ?_)
  ·try rw [h2]
   try simp only [qB] at h2
   refine Qg Z (Qn Z Z (Qg Z (QL (cs := [_, _, _, _, _, _, _]) Z Z Z Z (Qg Z (QL (cs := [_, _, _, _, _]) Z Z Z Z (Qg Z (QB (Qcf (by omega) (by omega) (by omega) (by omega)) Z Z (.inr Z) (Qh Z Z (Qd Z ?_)))))))))
   refine Qv (g := 17) Z (fun h3 => ?_) (fun h3 => ?_)
   ·try rw [h3]
    try simp only [qB] at h3
    refine Qg Z (Qn Z Z (Qg Z (QL (cs := [_, _, _, _, _, _, _]) Z Z Z Z (Qg Z (QL (cs := [_, _, _, _, _]) Z Z Z Z (Qg Z (QB (Qcf (by omega) (by omega) (by omega) (by omega)) Z Z (.inr Z) (Qg Z (ZW Z (Qh Z Z (Qd Z ?_)))))))))))
    refine hK _ _ (Qa (kp1 Z) ?_)
    refine Qr (Qi Z ?_)
    (repeat clear hK K); first | (simp [QaE, h1, h2, h3]; done) | (simp_all [QaE]; done)
   ·try rw [h3]
    try simp only [qB] at h3
    refine Qs Z (Qs Z (Qs Z (Qs Z (Qs Z (Qh Z Z (Qd Z (hK _ _ (Qa (kp1 Z) ?_))))))))
    refine Qr (Qi Z ?_)
    (repeat clear hK K); first | (simp [QaE, h1, h2, h3]; done) | (simp_all [QaE]; done)
  ·try rw [h2]
   try simp only [qB] at h2
   refine Qs Z (Qs Z (Qs Z (Qs Z (Qh Z Z (Qd Z (Qs Z (Qs Z (Qs Z (Qs Z (Qs Z (Qh Z Z ?_)))))))))))
   refine Qd Z (hK _ _ (Qa (kp1 Z) ?_))
   refine Qr (Qi Z ?_)
   (repeat clear hK K); first | (simp [QaE, h1, h2]; done) | (simp_all [QaE]; done)
 ·try rw [h1]
  try simp only [qB] at h1
  refine Qs Z (Qs Z (Qh Z Z (Qd Z (Qs Z (Qs Z (Qs Z (Qs Z (Qh Z Z (Qd Z (Qs Z (Qs Z ?_)))))))))))
  refine Qs Z (Qs Z (Qs Z (Qh Z Z (Qd Z (hK _ _ (Qa (kp1 Z) ?_))))))
  refine Qr (Qi Z ?_)
  (repeat clear hK K); first | (simp [QaE, h1]; done) | (simp_all [QaE]; done)
end Go.Proofs
namespace M3
open Go Go.Abs
end M3
namespace M3
open Go Go.Abs
end M3
namespace M3
open Go Go.Abs
end M3
namespace M25
open Go Go.Abs M3
def QbD (a b c : Int) : Bool := decide (a = 0) && decide (b = 0) && decide (c = 0)
def YE (a b c : Int) (p q : List UInt8) (part : Int) : Option (Int × Int × Int) :=
 if XI a b c p q = false \/ part < 0 \/ 2 < part then none
 else
  let o := if part = 0 then (a + 1, 0, 0) else if part = 1 then (a, b + 1, 0) else (a, b, c + 1)
  if XI o.1 o.2.1 o.2.2 [] [] = true then some o else none
def dOV (o : Option (Int × Int × Int)) : D := .tup [.agg [.int .i64 (o.getD (0, 0, 0)).1, .int .i64 (o.getD (0, 0, 0)).2.1, .int .i64 (o.getD (0, 0, 0)).2.2, .str [], .str []], .bool o.isSome]
def Yr (a b c : Int) (p q : List UInt8) : Nat -> Option (Int × Int × Int)
 | 0 => none
 | n + 1 => if (YE a b c p q n).isSome = true then YE a b c p q n else Yr a b c p q n
def QeU (a b c : Int) (p q : List UInt8) : Option (Int × Int × Int) :=
 if XI a b c p q = false then none else if p ≠ [] then some (a, b, c) else Yr a b c p q 3
theorem Qak {a b c : Int} {p q : List UInt8} (h : XI a b c p q = true) : (0 <= a /\ a <= 9999) /\ (0 <= b /\ b <= 9999) /\ (0 <= c /\ c <= 9999) := by
 simp only [XI, Qc5, Bool.and_eq_true, decide_eq_true_eq] at h
 omega
theorem Qfm {a b c : Int} {p q : List UInt8} {m : Nat} (hm : 0 < m) (h : (YE a b c p q ((m : Int) - 1)).isSome = false) : Yr a b c p q m = Yr a b c p q (m - 1) := by
 obtain ⟨n, rfl⟩ : ∃ n, m = n + 1 := ⟨m - 1, by omega⟩
 rw [show ((n + 1 : Nat) : Int) - 1 = (n : Int) by omega] at h
 rw [Yr, if_neg (by rw [h]; simp)]; rfl
theorem Qew {a b c : Int} {p q : List UInt8} {m : Nat} (hm : 0 < m) (h : (YE a b c p q ((m : Int) - 1)).isSome = true) : Yr a b c p q m = YE a b c p q ((m : Int) - 1) := by
 obtain ⟨n, rfl⟩ : ∃ n, m = n + 1 := ⟨m - 1, by omega⟩
 rw [show ((n + 1 : Nat) : Int) - 1 = (n : Int) by omega] at h ⊢
 rw [Yr, if_pos h]
def dCu (x : Cu) : List D := [.int .i64 x.e, .int .i64 x.a, .int .i64 x.b, .int .i64 x.c, .str x.p, .str x.q, .bool x.f]
def Qiq (s : Cu × Cu) : List D := dCu s.1 ++ dCu s.2
def ZI (l : List (Cu × Cu)) : D := .sl (l.map Qiq)
def Qip (s : List (Cu × Cu) × List (Cu × Cu)) : D := .agg [ZI s.1, ZI s.2]
def Qho : Cu := ⟨-1, 0, 0, 0, [], [], false⟩
def QjS : Cu := ⟨1, 0, 0, 0, [], [], false⟩
def QcJ (a b c : Int) : Cu := if QbD a b c = true then Qho else ⟨0, a, b, c, [], [], false⟩
def Qbd (a b c : Int) : Cu := match QeU a b c [] [] with
 | none => QjS
 | some o => ⟨0, o.1, o.2.1, o.2.2, [], [], false⟩
def QcK (a b c : Int) (p q : List UInt8) : List (Cu × Cu) × List (Cu × Cu) :=
 if XI a b c p q = false then ([], []) else if p ≠ [] then ([], [(⟨0, a, b, c, p, [], false⟩, ⟨0, a, b, c, p, [], true⟩)]) else ([(QcJ a b c, Qbd a b c)], [])
def QhI (e a b c : Int) (p q : List UInt8) (f : Bool) : Bool := !decide (e = 0) || (!f && decide (p = []) && !QbD a b c)
def Cu.sm (x : Cu) : Prop := x.p.length <= 1000000 /\ x.q.length <= 1000000
def Sm (l : List (Cu × Cu)) : Prop := l.length <= 1000000 /\ ∀ s ∈ l, Cu.sm s.1 /\ Cu.sm s.2
theorem Sm.at {l : List (Cu × Cu)} (h : Sm l) {i : Nat} (hi : i < l.length) : (l[i].1.p.length <= 1000000 /\ l[i].1.q.length <= 1000000) /\ (l[i].2.p.length <= 1000000 /\ l[i].2.q.length <= 1000000) := h.2 _ (List.getElem_mem hi)
def QeV (s : Cu × Cu) : Bool := Qc9 s.1.e s.1.a s.1.b s.1.c s.1.p s.1.q s.1.f s.2.e s.2.a s.2.b s.2.c s.2.p s.2.q s.2.f
def QiN (x y : Cu) : Int := Xb x.e x.a x.b x.c x.p x.q x.f y.e y.a y.b y.c y.p y.q y.f
def Qkf (l : List (Cu × Cu)) (i : Nat) : Bool := match l[i]? with
 | none => true
 | some s => QeV s && (decide (i = 0) || match l[i - 1]? with | none => true | some r => decide (QiN r.2 s.1 < 0))
theorem Qfz {l : List (Cu × Cu)} {i : Nat} (h : i < l.length) : Qkf l i = (QeV l[i] && (decide (i = 0) || decide (QiN (l[i - 1]'(by omega)).2 l[i].1 < 0))) := by
 unfold Qkf
 rw [List.getElem?_eq_getElem h, List.getElem?_eq_getElem (show i - 1 < l.length by omega)]
theorem Qjg {l : List (Cu × Cu)} {i : Nat} (h : i < l.length) (h1 : QeV l[i] = true) (h2 : i = 0 \/ QiN (l[i - 1]'(by omega)).2 l[i].1 < 0) : Qkf l i = true := by
 rw [Qfz h, h1]; simpa using h2
theorem Qdv {l : List (Cu × Cu)} {i : Nat} (h : i < l.length) (h1 : QeV l[i] = false \/ (i ≠ 0 /\ 0 <= QiN (l[i - 1]'(by omega)).2 l[i].1)) : Qkf l i = false := by
 rw [Qfz h]
 rcases h1 with h1 | ⟨h1, h2⟩
 ·rw [h1]; rfl
 ·simp only [Bool.and_eq_false_iff, Bool.or_eq_false_iff, decide_eq_false_iff_not]
  exact .inr ⟨h1, by omega⟩
def Qc7 (l : List (Cu × Cu)) : Bool := (List.range l.length).all (Qkf l)
theorem Qan {n i : Nat} {p : Nat -> Bool} (h : i < n) (hp : p i = false) : (List.range n).all p = false := by
 rw [Bool.eq_false_iff]; intro ha
 rw [List.all_eq_true] at ha
 rw [ha i (List.mem_range.2 h)] at hp; cases hp
theorem Qgk {i : Nat} {p : Nat -> Bool} (h : (List.range i).all p = true) (hp : p i = true) : (List.range (i + 1)).all p = true := by
 rw [List.range_succ, List.all_append, h]; simp [hp]
theorem Qd8 {i : Nat} {p : Nat -> Bool} {n : Nat} (h : (List.range i).all p = true) (hn : n <= i) : (List.range n).all p = true := by
 rw [List.all_eq_true] at h ⊢
 exact fun x hx => h x (List.mem_range.2 (Nat.lt_of_lt_of_le (List.mem_range.1 hx) hn))
def Qd2 (s : Cu × Cu) (a b c : Int) (p q : List UInt8) : Bool := QaE s.1.e s.1.a s.1.b s.1.c s.1.p s.1.q s.1.f s.2.e s.2.a s.2.b s.2.c s.2.p s.2.q s.2.f a b c p q
def Qd1 (l : List (Cu × Cu)) (a b c : Int) (p q : List UInt8) : Bool := Qc7 l && l.any fun s => Qd2 s a b c p q
theorem QdR {l : List (Cu × Cu)} {a b c : Int} {p q : List UInt8} {i : Nat} (hi : l.length <= i) (h : (l.take i).any (fun s => Qd2 s a b c p q) = false) : Qd1 l a b c p q = false := by
 rw [List.take_of_length_le hi] at h; rw [Qd1, h, Bool.and_false]
theorem QdS {l : List (Cu × Cu)} {a b c : Int} {p q : List UInt8} (h : Qc7 l = false) : Qd1 l a b c p q = false := by rw [Qd1, h]; rfl
theorem QdT {l : List (Cu × Cu)} {a b c : Int} {p q : List UInt8} {i : Nat} (h : Qc7 l = true) (hi : i < l.length) (hp : Qd2 l[i] a b c p q = true) : Qd1 l a b c p q = true := by
 rw [Qd1, h, Bool.true_and]; exact List.any_eq_true.2 ⟨_, List.getElem_mem hi, hp⟩
theorem Qkx {α : Type} {s : List α} {p : α -> Bool} {i : Nat} (h : i < s.length) (ha : (s.take i).any p = false) (hp : p s[i] = false) : (s.take (i + 1)).any p = false := by
 rw [List.take_succ_eq_append_getElem h, List.any_append, ha]; simp [hp]
def Y5 (x : Cu) : Bool := QhI x.e x.a x.b x.c x.p x.q x.f
def Qfy (s : List (Cu × Cu) × List (Cu × Cu)) : Bool := Qc7 s.1 && Qc7 s.2 && s.1.all fun x => Y5 x.1 && Y5 x.2
def QgG (s : List (Cu × Cu) × List (Cu × Cu)) (a b c : Int) (p q : List UInt8) : Bool :=
 Qfy s && XI a b c p q && (if p = [] then Qd1 s.1 a b c p q else Qd1 s.2 a b c p q)
theorem QjZ {s : List (Cu × Cu) × List (Cu × Cu)} {i : Nat} (hi : i < s.1.length) (h : Y5 s.1[i].1 = false \/ Y5 s.1[i].2 = false) : Qfy s = false := by
 have : (s.1.all fun x => Y5 x.1 && Y5 x.2) = false := ZL hi (by rcases h with h | h <;> simp [h])
 rw [Qfy, this, Bool.and_false]
theorem Qk6 {i : Nat} : ((i : Int) + 1).toNat = i + 1 := by omega
theorem Qly {H : List (Nat × Box)} {S : Nat -> Bool} {k n : Nat} {b : Box} (hS : S k = true) (hb : lk H k = some b) (hp : b.pr = true) (hn : n = b.rows.length) : (D.osl k n).fz H S = .sl b.rows := by
 simp only [D.fz, D.fzS, hS, hb, if_true, hp, hn, and_self]
abbrev Qic := List (Cu × Cu) × List (Cu × Cu)
def mPl (v n : Int) : Int := if n < 1 then 0 else QhH v n
def I64 (x : Int) : Prop := -9223372036854775808 <= x /\ x <= 9223372036854775807
theorem Qfd (x : Int) : I64 (IntKind.i64.wrap x) := by
 unfold IntKind.wrap I64
 simp only [IntKind.bits, IntKind.signed, Bool.true_and]
 split
 ·rename_i h
  have := of_decide_eq_true h
  omega
 ·rename_i h
  have : ¬ (x % 2 ^ 64 >= 2 ^ (64 - 1)) := fun hh => h (decide_eq_true hh)
  omega
def QeW (h m : Int) : Int := if XD .and .i64 h m = h then 2 else if XD .and .i64 h m = 0 then 0 else 1
def Qd3 (h m : Int) : Int := if XD .andNot .i64 h m = 0 then 2 else if XD .and .i64 h m = 0 then 0 else 1
theorem QfA {i : Nat} (h : i <= 62) : 1 <= (2 : Int) ^ i /\ (2 : Int) ^ i <= 4611686018427387904 := by
 have h1 : (2 : Nat) ^ i <= 2 ^ 62 := Nat.pow_le_pow_right (by omega) h
 have h2 : 1 <= (2 : Nat) ^ i := Nat.one_le_two_pow
 have h3 : ((2 ^ i : Nat) : Int) = (2 : Int) ^ i := by simp
 rw [<- h3]
 have h4 : (2 : Nat) ^ 62 = 4611686018427387904 := by decide
 omega
structure Vr where
 a : Int
 b : Int
 c : Int
 p : List UInt8
 q : List UInt8
def dVr (v : Vr) : List D := [.int .i64 v.a, .int .i64 v.b, .int .i64 v.c, .str v.p, .str v.q]
def versions : List Vr := [⟨1, 0, 0, [], []⟩, ⟨1, 2, 0, [], []⟩, ⟨2, 0, 0, [97, 46, 49], []⟩, ⟨2, 0, 0, [], []⟩]
theorem Qbg {i : Nat} : ((i : Int) - 1).toNat = i - 1 := by omega
end M25
namespace Go.Proofs
open Go Go.Abs M3 M25
set_option linter.unusedVariables false
set_option linter.unusedSimpArgs false
theorem YL {a b c : Int} {p q : List UInt8} : Ok Tryd.prog 71 [.agg [.int .i64 a, .int .i64 b, .int .i64 c, .str p, .str q]] (.agg [.int .i64 a, .int .i64 b, .int .i64 c, .str p, .str []]) := by
 refine Ok.ofT Z7 Tryd.func71 QmA (Nat.le_of_ble_eq_true Z) ?_
 show TW _ _ tf71.body _ _
 refine Qf fun K hK => ZP Z Z Z (Zi Z (hK _ _ (Qa (kp2 Z Z) ?_)))
 refine Qf fun K hK => Qn Z Z (QS Z Z Z Z Z Z Z Z (hK _ _ (Qa (kp2 Z Z) ?_)))
 refine Qf fun K hK => QL (cs := [_, _, _, _, _]) Z Z Z Z (QS Z Z Z Z Z Z Z Z (hK _ _ (Qa (kp1 Z) ?_)))
 refine Qr (Zs (cs := [_, _, _, _, _]) Z Z Z Z ?_)
 exact rfl
theorem Qau  : Ok Tryd.prog 73 [] (.agg [.int .i64 (-1), .int .i64 0, .int .i64 0, .int .i64 0, .str [], .str [], .bool false]) := by
 refine Ok.ofT Z7 Tryd.func73 QmC (Nat.le_of_ble_eq_true Z) ?_
 show TW _ _ tf73.body _ _
 refine Qf fun K hK => Zi Z (hK _ _ (Qa (kp1 Z) ?_))
 refine Qf fun K hK => Q1 Z Z (QS Z Z Z Z Z Z Z Z (hK _ _ (Qa (kp1 Z) ?_)))
 refine Qr (Zs (cs := [_, _, _, _, _, _, _]) Z Z Z Z ?_)
 exact rfl
theorem QaJ  : Ok Tryd.prog 75 [] (.agg [.int .i64 1, .int .i64 0, .int .i64 0, .int .i64 0, .str [], .str [], .bool false]) := by
 refine Ok.ofT Z7 Tryd.func75 QmE (Nat.le_of_ble_eq_true Z) ?_
 show TW _ _ tf75.body _ _
 refine Qf fun K hK => Zi Z (hK _ _ (Qa (kp1 Z) ?_))
 refine Qf fun K hK => Q1 Z Z (QS Z Z Z Z Z Z Z Z (hK _ _ (Qa (kp1 Z) ?_)))
 refine Qr (Zs (cs := [_, _, _, _, _, _, _]) Z Z Z Z ?_)
 exact rfl
theorem ZM {a b c : Int} {p q : List UInt8} : Ok Tryd.prog 53 [.agg [.int .i64 a, .int .i64 b, .int .i64 c, .str p, .str q]] (.agg [.int .i64 0, .int .i64 a, .int .i64 b, .int .i64 c, .str p, .str [], .bool false]) := by
 refine Ok.ofT Z7 Tryd.func53 Qmr (Nat.le_of_ble_eq_true Z) ?_
 show TW _ _ tf53.body _ _
 refine Qf fun K hK => ZP Z Z Z (Zi Z (hK _ _ (Qa (kp2 Z Z) ?_)))
 refine Qf fun K hK => QL (cs := [_, _, _, _, _]) Z Z Z Z (QB (YL) Z Z (.inl Z) (Q1 Z Z (QS Z Z Z Z Z Z Z Z (hK _ _ (Qa (kp1 Z) ?_)))))
 refine Qr (Zs (cs := [_, _, _, _, _, _, _]) Z Z Z Z ?_)
 exact rfl
theorem XZ {a b c : Int} {p q : List UInt8} : Ok Tryd.prog 54 [.agg [.int .i64 a, .int .i64 b, .int .i64 c, .str p, .str q]] (.agg [.int .i64 0, .int .i64 a, .int .i64 b, .int .i64 c, .str p, .str [], .bool true]) := by
 refine Ok.ofT Z7 Tryd.func54 Qms (Nat.le_of_ble_eq_true Z) ?_
 show TW _ _ tf54.body _ _
 refine Qf fun K hK => ZP Z Z Z (Zi Z (hK _ _ (Qa (kp2 Z Z) ?_)))
 refine Qf fun K hK => QL (cs := [_, _, _, _, _]) Z Z Z Z (QB (YL) Z Z (.inl Z) (Q1 Z Z (QS Z Z Z Z Z Z Z Z (hK _ _ (Qa (kp1 Z) ?_)))))
 refine Qr (Zs (cs := [_, _, _, _, _, _, _]) Z Z Z Z ?_)
 exact rfl
theorem Qax {a b c : Int} {p q : List UInt8} : Ok Tryd.prog 72 [.agg [.int .i64 a, .int .i64 b, .int .i64 c, .str p, .str q]] (.bool (QbD a b c)) := by
 refine Ok.ofT Z7 Tryd.func72 QmB (Nat.le_of_ble_eq_true Z) ?_
 show TW _ _ tf72.body _ _
 refine Qf fun K hK => ZP Z Z Z (Qd Z (hK _ _ (Qa (kp1 Z) ?_)))
 refine Qf fun K hK => Qn Z Z (QD Z Z Z (Xf Z Z (Qd Z ?_)))
 refine Qv (g := 6) Z (fun h1 => ?_) (fun h1 => ?_)
 ·try rw [h1]
  try simp only [qB] at h1
  refine Qg Z (Qn Z Z (Qg Z (QD Z Z Z (Qg Z (Xf Z Z (Qh Z Z (Qd Z ?_)))))))
  refine Qv (g := 11) Z (fun h2 => ?_) (fun h2 => ?_)
  ·try rw [h2]
   try simp only [qB] at h2
   refine Qg Z (Qn Z Z (Qg Z (QD Z Z Z (Qg Z (Xf Z Z (Qh Z Z (Qd Z (hK _ _ (Qa (kp1 Z) ?_)))))))))
   refine Qr (Qi Z ?_)
   (repeat clear hK K); simp_all [QbD]
  ·try rw [h2]
   try simp only [qB] at h2
   refine Qs Z (Qs Z (Qs Z (Qh Z Z (Qd Z (hK _ _ (Qa (kp1 Z) ?_))))))
   refine Qr (Qi Z ?_)
   (repeat clear hK K); simp_all [QbD]
 ·try rw [h1]
  try simp only [qB] at h1
  refine Qs Z (Qs Z (Qs Z (Qh Z Z (Qd Z (Qs Z (Qs Z (Qs Z (Qh Z Z (Qd Z (hK _ _ (Qa (kp1 Z) ?_)))))))))))
  refine Qr (Qi Z ?_)
  (repeat clear hK K); simp_all [QbD]
end Go.Proofs
namespace Go.Proofs
open Go Go.Abs M3 M25
set_option linter.unusedVariables false
set_option linter.unusedSimpArgs false
theorem QaH {a b c : Int} {p q : List UInt8} (hp : p.length <= 1000000) (hq : q.length <= 1000000) {part : Int} : Ok Tryd.prog 91 [.agg [.int .i64 a, .int .i64 b, .int .i64 c, .str p, .str q], .int .i64 part] (dOV (YE a b c p q part)) := by
 refine Ok.ofT Z7 Tryd.func91 QmP (Nat.le_of_ble_eq_true Z) ?_
 show TW _ _ tf91.body _ _
 refine Qf fun K hK => ZP Z Z Z (Zi Z (Qd Z (hK _ _ (Qa (kp3 Z Z Z) ?_))))
 refine QH ?_ -- 0
 refine Qf fun K hK => QL (cs := [_, _, _, _, _]) Z Z Z Z (QB (Zm (by omega) (by omega)) Z Z (.inr Z) (ZW Z (Qd Z ?_)))
 refine Qv (g := 10) Z (fun h1 => ?_) (fun h1 => ?_)
 ·try rw [h1]
  try simp only [qB] at h1
  refine Qs Z (Qs Z (Qh Z Z (Qd Z (Qs Z (Qs Z (Qh Z Z (hK _ _ (Qa (kp4 Z Z Z Z) ?_))))))))
  refine Zh Z (Qf fun K hK => Q1 Z Z (QS Z Z Z Z Z Z Z Z (Qd Z (hK _ _ (Qa (kp2 Z Z) ?_)))))
  refine Qr (Qj (Post.eq (Ym (ds := [.int .i64 _, .int .i64 _, .int .i64 _, .str _, .str _]) (d' := .bool _) (cs := [_, _, _, _, _]) Z Z Z Z Z ⟨rfl, rfl⟩) ?_))
  (repeat clear hK K); first | (simp [YE, dOV, h1]; done) | (simp_all [YE, dOV]; done)
 ·try rw [h1]
  try simp only [qB] at h1
  refine Qg Z (Qd Z (Qg Z (Xq Z Z (Qh Z Z (Qd Z ?_)))))
  refine Qv (g := 14) Z (fun h2 => ?_) (fun h2 => ?_)
  ·try rw [h2]
   try simp only [qB] at h2
   refine Qs Z (Qs Z (Qh Z Z (hK _ _ (Qa (kp4 Z Z Z Z) ?_))))
   refine Zh Z (Qf fun K hK => Q1 Z Z (QS Z Z Z Z Z Z Z Z (Qd Z (hK _ _ (Qa (kp2 Z Z) ?_)))))
   refine Qr (Qj (Post.eq (Ym (ds := [.int .i64 _, .int .i64 _, .int .i64 _, .str _, .str _]) (d' := .bool _) (cs := [_, _, _, _, _]) Z Z Z Z Z ⟨rfl, rfl⟩) ?_))
   (repeat clear hK K); first | (simp [YE, dOV, h1, h2]; done) | (simp_all [YE, dOV]; done)
  ·try rw [h2]
   try simp only [qB] at h2
   refine Qg Z (Qd Z (Qg Z (Qb7 Z Z (Qh Z Z (hK _ _ (Qa (kp4 Z Z Z Z) ?_))))))
   refine Qx Z (fun h3 => ?_) (fun h3 => ?_)
   ·try rw [h3]
    try simp only [qB] at h3
    refine Qf fun K hK => Q1 Z Z (QS Z Z Z Z Z Z Z Z (Qd Z (hK _ _ (Qa (kp2 Z Z) ?_))))
    refine Qr (Qj (Post.eq (Ym (ds := [.int .i64 _, .int .i64 _, .int .i64 _, .str _, .str _]) (d' := .bool _) (cs := [_, _, _, _, _]) Z Z Z Z Z ⟨rfl, rfl⟩) ?_))
    (repeat clear hK K); first | (simp [YE, dOV, h1, h2, h3]; done) | (simp_all [YE, dOV]; done)
   ·try rw [h3]
    try simp only [qB] at h3
    refine Qu (Qe (kp3 Z Z Z) (Qf fun K hK => Zi Z (hK _ _ (Qa (kp4 Z Z Z Z) ?_))))
    refine QH ?_ -- 1
    refine Qf fun K hK => Qd Z (hK _ _ (Qa (kp4 Z Z Z Z) ?_))
    refine QK (Qf fun K hK => Xf Z Z (Qd Z (hK _ _ (Qa (kp5 Z Z Z Z Z) ?_))))
    refine Qx Z (fun h4 => ?_) (fun h4 => ?_)
    ·try rw [h4]
     try simp only [qB] at h4
     refine Q6 fun K hK => Qn Z Z (QD Z Z Z (Zy Z Z (Qz (by have := Qak (by simpa using h1); omega) (by have := Qak (by simpa using h1); omega)) (Q1 Z Z (QS Z Z Z Z Z Z Z Z (hK _ ?_)))))
     refine Qm (Qe (kp2 Z Z) ?_)
     refine QH ?_ -- 2
     refine Qf fun K hK => QL (cs := [_, _, _, _, _]) Z Z Z Z (QB (Zm (by simp) (by simp)) Z Z (.inr Z) (ZW Z (hK _ _ (Qa (kp3 Z Z Z) ?_))))
     refine Qx Z (fun h5 => ?_) (fun h5 => ?_)
     ·try rw [h5]
      try simp only [qB] at h5
      refine Qf fun K hK => Q1 Z Z (QS Z Z Z Z Z Z Z Z (Qd Z (hK _ _ (Qa (kp2 Z Z) ?_))))
      refine Qr (Qj (Post.eq (Ym (ds := [.int .i64 _, .int .i64 _, .int .i64 _, .str _, .str _]) (d' := .bool _) (cs := [_, _, _, _, _]) Z Z Z Z Z ⟨rfl, rfl⟩) ?_))
      (repeat clear hK K); first | (simp [YE, dOV, h1, h2, h3, h4, h5]; done) | (simp_all [YE, dOV]; done)
     ·try rw [h5]
      try simp only [qB] at h5
      refine Qu (Qe (kp2 Z Z) (Qf fun K hK => QL (cs := [_, _, _, _, _]) Z Z Z Z (QS Z Z Z Z Z Z Z Z (Qd Z (hK _ _ (Qa (kp2 Z Z) ?_))))))
      refine Qr (Post.eq (Ym (ds := [.int .i64 _, .int .i64 _, .int .i64 _, .str _, .str _]) (d' := .bool _) (cs := [_, _, _, _, _]) Z Z Z Z Z ⟨rfl, rfl⟩) ?_)
      (repeat clear hK K); first | (simp [YE, dOV, h1, h2, h3, h4, h5]; done) | (simp_all [YE, dOV]; done)
    ·try rw [h4]
     try simp only [qB] at h4
     refine Qf fun K hK => Xf Z Z (Qd Z (hK _ _ (Qa (kp4 Z Z Z Z) ?_)))
     refine Qx Z (fun h6 => ?_) (fun h6 => ?_)
     ·try rw [h6]
      try simp only [qB] at h6
      refine Q6 fun K hK => Qn Z Z (QD Z Z Z (Qn Z Z (QD Z Z Z (Zy Z Z (Qz (by have := Qak (by simpa using h1); omega) (by have := Qak (by simpa using h1); omega)) (Q1 Z Z (QS Z Z Z Z Z Z Z Z (hK _ ?_)))))))
      refine Qm (Qe (kp2 Z Z) ?_)
      refine QH ?_ -- 2
      refine Qf fun K hK => QL (cs := [_, _, _, _, _]) Z Z Z Z (QB (Zm (by simp) (by simp)) Z Z (.inr Z) (ZW Z (hK _ _ (Qa (kp3 Z Z Z) ?_))))
      refine Qx Z (fun h7 => ?_) (fun h7 => ?_)
      ·try rw [h7]
       try simp only [qB] at h7
       refine Qf fun K hK => Q1 Z Z (QS Z Z Z Z Z Z Z Z (Qd Z (hK _ _ (Qa (kp2 Z Z) ?_))))
       refine Qr (Qj (Post.eq (Ym (ds := [.int .i64 _, .int .i64 _, .int .i64 _, .str _, .str _]) (d' := .bool _) (cs := [_, _, _, _, _]) Z Z Z Z Z ⟨rfl, rfl⟩) ?_))
       (repeat clear hK K); first | (simp [YE, dOV, h1, h2, h3, h4, h6, h7]; done) | (simp_all [YE, dOV]; done)
      ·try rw [h7]
       try simp only [qB] at h7
       refine Qu (Qe (kp2 Z Z) (Qf fun K hK => QL (cs := [_, _, _, _, _]) Z Z Z Z (QS Z Z Z Z Z Z Z Z (Qd Z (hK _ _ (Qa (kp2 Z Z) ?_))))))
       refine Qr (Post.eq (Ym (ds := [.int .i64 _, .int .i64 _, .int .i64 _, .str _, .str _]) (d' := .bool _) (cs := [_, _, _, _, _]) Z Z Z Z Z ⟨rfl, rfl⟩) ?_)
       (repeat clear hK K); first | (simp [YE, dOV, h1, h2, h3, h4, h6, h7]; done) | (simp_all [YE, dOV]; done)
     ·try rw [h6]
      try simp only [qB] at h6
      refine Q6 fun K hK => Qn Z Z (QD Z Z Z (Qn Z Z (QD Z Z Z (Qn Z Z (QD Z Z Z (Zy Z Z (Qz (by have := Qak (by simpa using h1); omega) (by have := Qak (by simpa using h1); omega)) (Q1 Z Z (QS Z Z Z Z Z Z Z Z (hK _ ?_)))))))))
      refine Qm (Qe (kp2 Z Z) ?_)
      refine QH ?_ -- 2
      refine Qf fun K hK => QL (cs := [_, _, _, _, _]) Z Z Z Z (QB (Zm (by simp) (by simp)) Z Z (.inr Z) (ZW Z (hK _ _ (Qa (kp3 Z Z Z) ?_))))
      refine Qx Z (fun h8 => ?_) (fun h8 => ?_)
      ·try rw [h8]
       try simp only [qB] at h8
       refine Qf fun K hK => Q1 Z Z (QS Z Z Z Z Z Z Z Z (Qd Z (hK _ _ (Qa (kp2 Z Z) ?_))))
       refine Qr (Qj (Post.eq (Ym (ds := [.int .i64 _, .int .i64 _, .int .i64 _, .str _, .str _]) (d' := .bool _) (cs := [_, _, _, _, _]) Z Z Z Z Z ⟨rfl, rfl⟩) ?_))
       (repeat clear hK K); first | (simp [YE, dOV, h1, h2, h3, h4, h6, h8]; done) | (simp_all [YE, dOV]; done)
      ·try rw [h8]
       try simp only [qB] at h8
       refine Qu (Qe (kp2 Z Z) (Qf fun K hK => QL (cs := [_, _, _, _, _]) Z Z Z Z (QS Z Z Z Z Z Z Z Z (Qd Z (hK _ _ (Qa (kp2 Z Z) ?_))))))
       refine Qr (Post.eq (Ym (ds := [.int .i64 _, .int .i64 _, .int .i64 _, .str _, .str _]) (d' := .bool _) (cs := [_, _, _, _, _]) Z Z Z Z Z ⟨rfl, rfl⟩) ?_)
       (repeat clear hK K); first | (simp [YE, dOV, h1, h2, h3, h4, h6, h8]; done) | (simp_all [YE, dOV]; done)
theorem QaI {a b c : Int} {p q : List UInt8} (hp : p.length <= 1000000) (hq : q.length <= 1000000) : Ok Tryd.prog 74 [.agg [.int .i64 a, .int .i64 b, .int .i64 c, .str p, .str q]] (dOV (QeU a b c p q)) := by
 refine Ok.ofT Z7 Tryd.func74 QmD (Nat.le_of_ble_eq_true Z) ?_
 show TW _ _ tf74.body _ _
 refine Qf fun K hK => ZP Z Z Z (Zi Z (Qd Z (hK _ _ (Qa (kp2 Z Z) ?_))))
 refine QH ?_ -- 0
 refine Qf fun K hK => QL (cs := [_, _, _, _, _]) Z Z Z Z (QB (Zm (by omega) (by omega)) Z Z (.inr Z) (ZW Z (hK _ _ (Qa (kp3 Z Z Z) ?_))))
 refine Qx Z (fun h1 => ?_) (fun h1 => ?_)
 ·try rw [h1]
  try simp only [qB] at h1
  refine Qf fun K hK => Q1 Z Z (QS Z Z Z Z Z Z Z Z (Qd Z (hK _ _ (Qa (kp2 Z Z) ?_))))
  refine Qr (Qj (Post.eq (Ym (ds := [.int .i64 _, .int .i64 _, .int .i64 _, .str _, .str _]) (d' := .bool _) (cs := [_, _, _, _, _]) Z Z Z Z Z ⟨rfl, rfl⟩) ?_))
  simp [QeU, dOV, h1]
 ·try rw [h1]
  try simp only [qB] at h1
  refine Qu (Qe (kp2 Z Z) ?_)
  refine QH ?_ -- 1
  refine Qf fun K hK => Qn Z Z (QD Z Z Z (Qg0 Z Z (hK _ _ (Qa (kp3 Z Z Z) ?_))))
  refine Qx Z (fun h2 => ?_) (fun h2 => ?_)
  ·try rw [h2]
   try simp only [qB] at h2
   refine Qf fun K hK => Qn Z Z (QD Z Z Z (Qn Z Z (QD Z Z Z (Qn Z Z (QD Z Z Z (Q1 Z Z (QS Z Z Z Z Z Z Z Z (Qd Z (hK _ _ (Qa (kp2 Z Z) ?_))))))))))
   refine Qr (Qj (Post.eq (Ym (ds := [.int .i64 _, .int .i64 _, .int .i64 _, .str _, .str _]) (d' := .bool _) (cs := [_, _, _, _, _]) Z Z Z Z Z ⟨rfl, rfl⟩) ?_))
   simp [QeU, dOV, h1, h2]
  ·try rw [h2]
   try simp only [qB] at h2
   refine Qu (Qe (kp2 Z Z) ?_)
   refine QH ?_ -- 2
   refine Qf fun K hK => Qd Z (hK _ _ (Qa (kp3 Z Z Z) ?_))
   refine QK ?_
   refine Z3 (ι := Nat) (fun m => ⟨[(1, .ref 1 0 0), (2, .ref 2 0 0), (4, .int .i64 ((m : Int) - 1))], [(1, ⟨[[.int .i64 a, .int .i64 b, .int .i64 c, .str p, .str q]], 5, 49, true⟩), (2, ⟨[[.int .i64 0, .int .i64 0, .int .i64 0, .str [], .str []]], 5, 49, true⟩)]⟩) (fun m => m <= 3 /\ Yr a b c p q 3 = Yr a b c p q m) (fun m => m) 3 ?_ ?_ ?_
   ·exact Zc (l := [1, 2, 4]) (lH := [1, 2]) (kp3 rfl rfl rfl) (Ql rfl (Ql rfl Qt)) rfl rfl rfl
   ·exact ⟨by omega, rfl⟩
   intro m hI
   obtain ⟨hI1, hI2⟩ := hI
   try dsimp only
   refine QH ?_ -- 3
   refine Qf fun K hK => Qd Z (QgZ Z Z (hK _ _ (Qa (kp4 Z Z Z Z) ?_)))
   refine Qx Z (fun h3 => ?_) (fun h3 => ?_)
   ·try rw [h3]
    try simp only [qB] at h3
    rcases Nat.eq_zero_or_pos m with hm | hm <;> first | omega | skip
    refine Qu (Qe (kp3 Z Z Z) ?_)
    refine QH ?_ -- 4
    refine QK (Qf fun K hK => QL (cs := [_, _, _, _, _]) Z Z Z Z (Qd Z (QB (QaH (by omega) (by omega)) Z Z (.inl Z) (Qd Z (Q5 Z Z (Q5 Z Z (Zi Z (QS Z Z Z Z Z Z Z Z (Qd Z (hK _ _ (Qa (kp5 Z Z Z Z Z) ?_)))))))))))
    refine Qf fun K hK => Qd Z (hK _ _ (Qa (kp5 Z Z Z Z Z) ?_))
    refine Qx Z (fun h4 => ?_) (fun h4 => ?_)
    ·try rw [h4]
     try simp only [qB] at h4
     refine Qf fun K hK => QL (cs := [_, _, _, _, _]) Z Z Z Z (QS Z Z Z Z Z Z Z Z (Qd Z (hK _ _ (Qa (kp2 Z Z) ?_))))
     refine Qr (Qw (Qj (QX (Qw (Qj (Post.eq (Ym (ds := [.int .i64 _, .int .i64 _, .int .i64 _, .str _, .str _]) (d' := .bool _) (cs := [_, _, _, _, _]) Z Z Z Z Z ⟨rfl, rfl⟩) ?_))))))
     subst h2
     simp [QeU, dOV, h1, hI2, Qew hm h4, h4]
    ·try rw [h4]
     try simp only [qB] at h4
     refine Qu (Qm (Qe (kp3 Z Z Z) (Q6 fun K hK => Qd Z (Qfk Z Z (by first | exact Qz (by omega) (by omega) | rfl) (Qd Z (hK _ ?_))))))
     refine Qq (m - 1) ?_ ?_ ?_
     ·refine Zc (l := [1, 2, 4]) (lH := [1, 2]) (kp3 Z Z Z) (Ql Z (Ql Z Qt)) ?_ Z rfl; simp only [List.cons.injEq, Prod.mk.injEq, D.int.injEq, and_true, true_and]; omega
     ·exact ⟨by omega, by rw [hI2]; exact Qfm hm h4⟩
     ·show m - 1 < m; omega
   ·try rw [h3]
    try simp only [qB] at h3
    rcases Nat.eq_zero_or_pos m with hm | hm <;> first | omega | skip
    refine Zp (QN (QC (QP (Qe (kp1 Z) (Qf fun K hK => Q1 Z Z (QS Z Z Z Z Z Z Z Z (Qd Z (hK _ _ (Qa (kp2 Z Z) ?_)))))))))
    refine Qr (Post.eq (Ym (ds := [.int .i64 _, .int .i64 _, .int .i64 _, .str _, .str _]) (d' := .bool _) (cs := [_, _, _, _, _]) Z Z Z Z Z ⟨rfl, rfl⟩) ?_)
    subst h2
    subst hm
    have hb : Yr a b c [] q 3 = none := hI2
    simp [QeU, dOV, h1, hb]
end Go.Proofs
namespace Go.Proofs
open Go Go.Abs M3 M25
set_option linter.unusedVariables false
set_option linter.unusedSimpArgs false
theorem Qaw {a b c : Int} {p q : List UInt8} : Ok Tryd.prog 55 [.agg [.int .i64 a, .int .i64 b, .int .i64 c, .str p, .str q]] (.agg (dCu (QcJ a b c))) := by
 refine Ok.ofT Z7 Tryd.func55 Qmt (Nat.le_of_ble_eq_true Z) ?_
 show TW _ _ tf55.body _ _
 refine Qf fun K hK => ZP Z Z Z (Zi Z (hK _ _ (Qa (kp2 Z Z) ?_)))
 refine QH ?_ -- 0
 refine Qf fun K hK => QL (cs := [_, _, _, _, _]) Z Z Z Z (QB (Qax) Z Z (.inr Z) (hK _ _ (Qa (kp3 Z Z Z) ?_)))
 refine Qx Z (fun h1 => ?_) (fun h1 => ?_)
 ·try rw [h1]
  try simp only [qB] at h1
  refine Qf fun K hK => QB (Qau) Z Z (.inl Z) (QS Z Z Z Z Z Z Z Z (hK _ _ (Qa (kp1 Z) ?_)))
  refine Qr (Qj (Post.eq (Zs (ds := [.int .i64 _, .int .i64 _, .int .i64 _, .int .i64 _, .str _, .str _, .bool _]) (cs := [_, _, _, _, _, _, _]) Z Z Z Z Z) ?_))
  simp [QcJ, dCu, Qho, h1]
 ·try rw [h1]
  try simp only [qB] at h1
  refine Qu (Qe (kp2 Z Z) (Qf fun K hK => Qn Z Z (QD Z Z Z (Qn Z Z (QD Z Z Z (Qn Z Z (QD Z Z Z (Q1 Z Z (QB (ZM) Z Z (.inl Z) (QS Z Z Z Z Z Z Z Z ?_))))))))))
  refine hK _ _ (Qa (kp1 Z) ?_)
  refine Qr (Post.eq (Zs (ds := [.int .i64 _, .int .i64 _, .int .i64 _, .int .i64 _, .str _, .str _, .bool _]) (cs := [_, _, _, _, _, _, _]) Z Z Z Z Z) ?_)
  simp [QcJ, dCu, Qho, h1]
theorem X0 {a b c : Int} {p q : List UInt8} : Ok Tryd.prog 56 [.agg [.int .i64 a, .int .i64 b, .int .i64 c, .str p, .str q]] (.agg (dCu (Qbd a b c))) := by
 refine Ok.ofT Z7 Tryd.func56 Qmu (Nat.le_of_ble_eq_true Z) ?_
 show TW _ _ tf56.body _ _
 refine Qf fun K hK => ZP Z Z Z (Zi Z (hK _ _ (Qa (kp2 Z Z) ?_)))
 refine Qf fun K hK => Qn Z Z (QD Z Z Z (Qn Z Z (QD Z Z Z (Qn Z Z (QD Z Z Z (Q1 Z Z (QB (QaI (by simp) (by simp)) Z Z (.inl Z) (Qd Z (Q5 Z Z (Q5 Z Z ?_))))))))))
 refine Zi Z (QS Z Z Z Z Z Z Z Z (Qd Z (hK _ _ (Qa (kp3 Z Z Z) ?_))))
 refine QH ?_ -- 0
 refine Qf fun K hK => Qd Z (ZW Z (hK _ _ (Qa (kp3 Z Z Z) ?_)))
 refine Qx Z (fun h1 => ?_) (fun h1 => ?_)
 ·try rw [h1]
  try simp only [qB] at h1
  refine Qf fun K hK => QB (QaJ) Z Z (.inl Z) (QS Z Z Z Z Z Z Z Z (hK _ _ (Qa (kp1 Z) ?_)))
  refine Qr (Qj (Post.eq (Zs (ds := [.int .i64 _, .int .i64 _, .int .i64 _, .int .i64 _, .str _, .str _, .bool _]) (cs := [_, _, _, _, _, _, _]) Z Z Z Z Z) ?_))
  cases hn : QeU a b c [] [] <;> simp [Qbd, dCu, QjS, hn] at *
 ·try rw [h1]
  try simp only [qB] at h1
  refine Qu (Qe (kp2 Z Z) (Qf fun K hK => QL (cs := [_, _, _, _, _]) Z Z Z Z (QB (ZM) Z Z (.inl Z) (QS Z Z Z Z Z Z Z Z (hK _ _ (Qa (kp1 Z) ?_))))))
  refine Qr (Post.eq (Zs (ds := [.int .i64 _, .int .i64 _, .int .i64 _, .int .i64 _, .str _, .str _, .bool _]) (cs := [_, _, _, _, _, _, _]) Z Z Z Z Z) ?_)
  cases hn : QeU a b c [] [] <;> simp [Qbd, dCu, QjS, hn] at *
theorem QaK  : Ok Tryd.prog 48 [] (Qip ([], [])) := by
 refine Ok.ofT Z7 Tryd.func48 Qmp (Nat.le_of_ble_eq_true Z) ?_
 show TW _ _ tf48.body _ _
 refine Qf fun K hK => Zi Z (hK _ _ (Qa (kp1 Z) ?_))
 refine Qf fun K hK => Q1 Z Z (QS Z Z Z Z Z Z Z Z (hK _ _ (Qa (kp1 Z) ?_)))
 refine Qr (Post.eq (Zs (ds := [.sl _, .sl _]) (cs := [_, _]) Z Z Z Z Z) ?_)
 rfl
theorem Qav {a b c : Int} {p q : List UInt8} (hp : p.length <= 1000000) (hq : q.length <= 1000000) : Ok Tryd.prog 36 [.agg [.int .i64 a, .int .i64 b, .int .i64 c, .str p, .str q]] (Qip (QcK a b c p q)) := by
 refine Ok.ofT Z7 Tryd.func36 Qmh (Nat.le_of_ble_eq_true Z) ?_
 show TW _ _ tf36.body _ _
 refine Qf fun K hK => ZP Z Z Z (Zi Z (hK _ _ (Qa (kp2 Z Z) ?_)))
 refine QH ?_ -- 0
 refine Qf fun K hK => QL (cs := [_, _, _, _, _]) Z Z Z Z (QB (Zm (by omega) (by omega)) Z Z (.inr Z) (ZW Z (hK _ _ (Qa (kp3 Z Z Z) ?_))))
 refine Qx Z (fun h1 => ?_) (fun h1 => ?_)
 ·try rw [h1]
  try simp only [qB] at h1
  refine Qf fun K hK => QB (QaK) Z Z (.inl Z) (QS Z Z Z Z Z Z Z Z (hK _ _ (Qa (kp1 Z) ?_)))
  refine Qr (Qj (Post.eq (Zs (ds := [.sl _, .sl _]) (cs := [_, _]) Z Z Z Z Z) ?_))
  simp [QcK, Qip, ZI, Qiq, dCu, h1]
 ·try rw [h1]
  try simp only [qB] at h1
  refine Qu (Qe (kp2 Z Z) ?_)
  refine QH ?_ -- 1
  refine Qf fun K hK => Qn Z Z (QD Z Z Z (Qg0 Z Z (hK _ _ (Qa (kp3 Z Z Z) ?_))))
  refine Qx Z (fun h2 => ?_) (fun h2 => ?_)
  ·try rw [h2]
   try simp only [qB] at h2
   refine Qf fun K hK => Zl (ds0 := [6, 3, 2, 1, 0]) (cs := [_, _, _, _, _]) Z Z Z Z Z Z (Zj (ds0 := [3, 2, 1, 0]) (ZM) Z Z (.inl Z) Z Z (Zl (ds0 := [4, 3, 2, 1, 0]) (cs := [_, _, _, _, _]) Z Z Z Z Z Z (Zj (ds0 := [3, 2, 1, 0]) (XZ) Z Z (.inl Z) Z Z (Q1 Z Z (Zf Z Z (Q1 Z Z (QbM (ds0 := []) Z Z Z Z Z Z Z Z Z Z (hK _ _ (Qa (kp1 Z) ?_)))))))))
   refine Qr (Qj (Post.eq (Zs (ds := [.sl _, .sl _]) (cs := [_, _]) Z Z Z Z Z) ?_))
   simp [QcK, Qip, ZI, Qiq, dCu, h1, h2]
  ·try rw [h2]
   try simp only [qB] at h2
   refine Qu (Qe (kp2 Z Z) (Qf fun K hK => Zl (ds0 := [6, 3, 2, 1, 0]) (cs := [_, _, _, _, _]) Z Z Z Z Z Z (Zj (ds0 := [3, 2, 1, 0]) (Qaw) Z Z (.inl Z) Z Z (Zl (ds0 := [4, 3, 2, 1, 0]) (cs := [_, _, _, _, _]) Z Z Z Z Z Z (Zj (ds0 := [3, 2, 1, 0]) (X0) Z Z (.inl Z) Z Z (Q1 Z Z (Zf Z Z (Q1 Z Z (QbM (ds0 := []) Z Z Z Z Z Z Z Z Z Z (hK _ _ (Qa (kp1 Z) ?_)))))))))))
   refine Qr (Post.eq (Zs (ds := [.sl _, .sl _]) (cs := [_, _]) Z Z Z Z Z) ?_)
   subst h2
   simp [QcK, Qip, ZI, Qiq, dCu, h1]
end Go.Proofs
namespace Go.Proofs
open Go Go.Abs M3 M25
set_option linter.unusedVariables false
set_option linter.unusedSimpArgs false
end Go.Proofs
namespace Go.Proofs
open Go Go.Abs M3 M25
set_option linter.unusedVariables false
set_option linter.unusedSimpArgs false
end Go.Proofs
namespace Go.Proofs
open Go Go.Abs M3 M25
set_option linter.unusedVariables false
set_option linter.unusedSimpArgs false
end Go.Proofs
namespace Go.Proofs
open Go Go.Abs M3 M25
set_option linter.unusedVariables false
set_option linter.unusedSimpArgs false
end Go.Proofs
namespace Go.Proofs
open Go Go.Abs M3 M25
set_option linter.unusedVariables false
set_option linter.unusedSimpArgs false
end Go.Proofs
namespace Go.Proofs
open Go Go.Abs M3 M25
set_option linter.unusedVariables false
set_option linter.unusedSimpArgs false
end Go.Proofs
namespace Go.Proofs
open Go Go.Abs M3 M25
set_option linter.unusedVariables false
set_option linter.unusedSimpArgs false
end Go.Proofs
namespace Go.Proofs
open Go Go.Abs M3 M25
set_option linter.unusedVariables false
set_option linter.unusedSimpArgs false
theorem Qaq {v n : Int} (hn : n <= 9223372036854775807) (hv : I64 v) : Ok Tryd.prog 11 [.int .i64 v, .int .i64 n] (.int .i64 (mPl v n)) := by
 refine Ok.ofT Z7 Tryd.func11 Ql8 (Nat.le_of_ble_eq_true Z) ?_
 show TW _ _ tf11.body _ _
 refine Qf fun K hK => Qd Z (hK _ _ (Qa (kp2 Z Z) ?_))
 refine QH ?_ -- 0
 refine Qf fun K hK => Qd Z (Xq Z Z (hK _ _ (Qa (kp3 Z Z Z) ?_)))
 refine Qx Z (fun h1 => ?_) (fun h1 => ?_)
 ·try rw [h1]
  try simp only [qB] at h1
  refine Qf fun K hK => Qd Z (hK _ _ (Qa (kp1 Z) ?_))
  refine Qr (Qj (Qy Z ?_))
  rw [mPl, if_pos h1]
 ·try rw [h1]
  try simp only [qB] at h1
  refine Qu (Qe (kp2 Z Z) (Qf fun K hK => Qd Z (Qd Z (Qlo Z Z (by omega) (Qd Z (hK _ _ (Qa (kp2 Z Z) ?_)))))))
  refine QH ?_ -- 1
  refine Qf fun K hK => Qd Z (Xq Z Z (hK _ _ (Qa (kp3 Z Z Z) ?_)))
  refine Qx Z (fun h2 => ?_) (fun h2 => ?_)
  ·try rw [h2]
   try simp only [qB] at h2
   refine Qf fun K hK => Qd Z (Qd Z (Zy Z Z (Qz (by have := Int.lt_tmod_of_pos v (show 0 < n by omega); omega) (by have := Int.tmod_lt_of_pos v (show 0 < n by omega); omega)) (Qd Z (hK _ _ (Qa (kp1 Z) ?_)))))
   refine Qr (Qj (Qy Z ?_))
   rw [mPl, if_neg h1, QhH, if_pos h2]
  ·try rw [h2]
   try simp only [qB] at h2
   refine Qu (Qe (kp1 Z) (Qf fun K hK => Qd Z (Qd Z (hK _ _ (Qa (kp1 Z) ?_)))))
   refine Qr (Qy Z ?_)
   rw [mPl, if_neg h1, QhH, if_neg h2]
end Go.Proofs
namespace Go.Proofs
open Go Go.Abs M3 M25
set_option linter.unusedVariables false
set_option linter.unusedSimpArgs false
theorem QaG {v : Int} (h0 : 0 <= v) (h1v : v <= 61) : Ok Tryd.prog 41 [.int .i64 v] (.int .i64 (2 ^ v.toNat)) := by
 refine Ok.ofT Z7 Tryd.func41 Qmk (Nat.le_of_ble_eq_true Z) ?_
 show TW _ _ tf41.body _ _
 refine Qf fun K hK => Qd Z (hK _ _ (Qa (kp1 Z) ?_))
 refine Qf fun K hK => Qd Z (hK _ _ (Qa (kp2 Z Z) ?_))
 refine QH ?_ -- 0
 refine Qf fun K hK => Qd Z (hK _ _ (Qa (kp3 Z Z Z) ?_))
 refine QK ?_
 refine Z3 (ι := Nat) (fun i => ⟨[(0, .int .i64 v), (3, .int .i64 (2 ^ i)), (4, .int .i64 i)], []⟩) (fun i => (i : Int) <= v) (fun i => v.toNat - i) 0 ?_ ?_ ?_
 ·exact Q0 (kp3 rfl rfl rfl)
 ·exact h0
 intro i hI
 have hp := QfA (i := i + 1) (by omega)
 rw [Int.pow_succ] at hp
 try dsimp only
 refine QH ?_ -- 1
 refine Qf fun K hK => Qd Z (Qd Z (Xq Z Z (hK _ _ (Qa (kp4 Z Z Z Z) ?_))))
 refine Qx Z (fun h1 => ?_) (fun h1 => ?_)
 ·try rw [h1]
  try simp only [qB] at h1
  refine Qu (Qe (kp3 Z Z Z) ?_)
  refine QH ?_ -- 2
  refine QK (Q6 fun K hK => Qd rfl (Qig rfl rfl (Qz (by obtain ⟨p1, p2⟩ := hp; generalize (2 : Int) ^ i = z at *; omega) (by obtain ⟨p1, p2⟩ := hp; generalize (2 : Int) ^ i = z at *; omega)) (Qd rfl (hK _ ?_))))
  refine Qm (Qe (kp3 Z Z Z) (Q6 fun K hK => Qd Z (Zy Z Z (Qz (by omega) (by omega)) (Qd Z (hK _ ?_)))))
  refine Qq (i + 1) ?_ ?_ ?_
  ·exact Zc (l := [0, 3, 4]) (lH := []) (kp3 rfl rfl rfl) Qt (by rw [Int.pow_succ]; rfl) rfl rfl
  ·show ((i + 1 : Nat) : Int) <= v; omega
  ·first | omega | (simp only; omega) | (dsimp only; omega)
 ·try rw [h1]
  try simp only [qB] at h1
  refine Zp (QN (QC (QP (Qe (kp1 Z) (Qf fun K hK => Qd Z (Qd Z (hK _ _ (Qa (kp1 Z) ?_))))))))
  refine Qr (Qy Z ?_)
  rw [show v.toNat = i by omega]
theorem Qbz {h m : Int} : Ok Tryd.prog 18 [.int .i64 h, .int .i64 m] (.int .i64 (Qd3 h m)) := by
 refine Ok.ofT Z7 Tryd.func18 Qmc (Nat.le_of_ble_eq_true Z) ?_
 show TW _ _ tf18.body _ _
 refine Qf fun K hK => Qd Z (hK _ _ (Qa (kp2 Z Z) ?_))
 refine QH ?_ -- 0
 refine QK (Qf fun K hK => Qd Z (Qd Z (QfN Z Z (Xf Z Z (Qd Z (hK _ _ (Qa (kp3 Z Z Z) ?_)))))))
 refine Qx Z (fun h1 => ?_) (fun h1 => ?_)
 ·try rw [h1]
  try simp only [qB] at h1
  refine Qf fun K hK => Qd Z (hK _ _ (Qa (kp1 Z) ?_))
  refine Qr (Qw (Qj (Qy Z ?_)))
  rw [Qd3, if_pos h1]
 ·try rw [h1]
  try simp only [qB] at h1
  refine Qf fun K hK => Qd Z (Qd Z (QgW Z Z (Xf Z Z (Qd Z (hK _ _ (Qa (kp1 Z) ?_))))))
  refine Qx Z (fun h2 => ?_) (fun h2 => ?_)
  ·try rw [h2]
   try simp only [qB] at h2
   refine Qf fun K hK => Qd Z (hK _ _ (Qa (kp1 Z) ?_))
   refine Qr (Qw (Qj (Qy Z ?_)))
   rw [Qd3, if_neg h1, if_pos h2]
  ·try rw [h2]
   try simp only [qB] at h2
   refine Qu (Qm (Qe (QI) (Qf fun K hK => Qd Z (hK _ _ (Qa (kp1 Z) ?_)))))
   refine Qr (Qy Z ?_)
   rw [Qd3, if_neg h1, if_neg h2]
end Go.Proofs
namespace Go.Proofs
open Go Go.Abs M3 M25
set_option linter.unusedVariables false
set_option linter.unusedSimpArgs false
theorem Xx  : Ok Tryd.prog 52 [] (.sl (versions.map dVr)) := by
 refine Ok.ofT Z7 Tryd.func52 Qmq (Nat.le_of_ble_eq_true Z) ?_
 show TW _ _ tf52.body _ _
 refine Qf fun K hK => Qd Z (hK _ _ (Qa (QI) ?_))
 refine Qf fun K hK => Q1 Z Z (Q1 Z Z (Q1 Z Z (Q1 Z Z (Zf Z Z (Qd Z (hK _ _ (Qa (kp1 Z) ?_)))))))
 refine Qr (X9 Z ?_)
 rfl
end Go.Proofs
namespace M25
open Go Go.Abs M3
structure Qap where
 u : Int
 s : Qic
structure Qb2 where
 v : Vr
 sh : Int
 ns : List (List Qap)
 bs : List Qap
structure Qii where
 n : List UInt8
 f : List UInt8
 cs : List Qb2
abbrev QW := List Qii
def QjI (x : Qap) : List D := [.int .i64 x.u, ZI x.s.1, ZI x.s.2]
def Qhe (l : List Qap) : D := .sl (l.map QjI)
def Qjc (l : List (List Qap)) : D := .sl (l.map fun r => [Qhe r])
def Qlw (c : Qb2) : List D := [.int .i64 c.v.a, .int .i64 c.v.b, .int .i64 c.v.c, .str c.v.p, .str c.v.q, .int .i64 c.sh, Qjc c.ns, Qhe c.bs]
def QkG (l : List Qb2) : D := .sl (l.map Qlw)
def Qir (u : Qii) : List D := [.str u.n, .str u.f, QkG u.cs]
def Qdh (w : QW) : D := .agg [.sl (w.map Qir)]
structure Qc0 where
 u : Int
 m : Int
 deriving DecidableEq
structure Xv where
 u : Int
 m : Int
 l : Int
 c : Int
 deriving DecidableEq
structure RowT where
 k : Int
 u : Int
 a : Int
 b : Int
 t : List Qc0
abbrev Qce (a b : Int) : Int := XD .and .i64 a b
abbrev bor (a b : Int) : Int := XD .or .i64 a b
abbrev Qff (a b : Int) : Int := XD .andNot .i64 a b
def uAt (w : QW) (u : Int) : Option Qii := if u < 0 then none else w[u.toNat]?
theorem QcY {w : QW} {u : Int} (h0 : 0 <= u) (h : u < w.length) : uAt w u = some (w[u.toNat]'(by omega)) := by
 rw [uAt, if_neg (by omega), List.getElem?_eq_getElem (by omega)]
theorem Qef {w : QW} {u : Int} (h : u < 0 \/ (w.length : Int) <= u) : uAt w u = none := by
 unfold uAt
 split
 ·rfl
 ·rw [List.getElem?_eq_none]; omega
def Xj (w : QW) (u : Int) : Int := match uAt w u with
 | none => 0
 | some x => 2 ^ (min x.cs.length 16 + 1) - 1
theorem Qd0 {w : QW} {u : Int} (h0 : 0 <= u) (h : u < w.length) : Xj w u = 2 ^ (min (w[u.toNat]'(by omega)).cs.length 16 + 1) - 1 := by
 rw [Xj, QcY h0 h]
theorem QeT {w : QW} {u : Int} (h : u < 0 \/ (w.length : Int) <= u) : Xj w u = 0 := by rw [Xj, Qef h]
def Qjx (v : Vr) : Prop := v.p.length <= 1000000 /\ v.q.length <= 1000000
structure WSm (w : QW) : Prop where
 len : w.length <= 48
 cs : ∀ u ∈ w, u.cs.length <= 16
 vs : ∀ u ∈ w, ∀ c ∈ u.cs, Qjx c.v
 ns : ∀ u ∈ w, ∀ c ∈ u.cs, c.ns.length <= 1000 /\ c.bs.length <= 1000
 nl : ∀ u ∈ w, ∀ c ∈ u.cs, ∀ r ∈ c.ns, r.length <= 1000
 nw : ∀ u ∈ w, ∀ c ∈ u.cs, ∀ r ∈ c.ns, ∀ x ∈ r, Sm x.s.1 /\ Sm x.s.2
 bw : ∀ u ∈ w, ∀ c ∈ u.cs, ∀ x ∈ c.bs, Sm x.s.1 /\ Sm x.s.2
def Qkd (s : Qic) (v : Vr) : Bool := QgG s v.a v.b v.c v.p v.q
def Qbf (s : Qic) (l : List Qb2) : Nat -> Int
 | 0 => 0
 | n + 1 => Qbf s l n + match l[n]? with
  | some c => if Qkd s c.v = true then 2 ^ (n + 1) else 0
  | none => 0
theorem Qgh (s : Qic) (l : List Qb2) : ∀ n, 0 <= Qbf s l n /\ Qbf s l n <= 2 ^ (n + 1) - 2
 | 0 => by simp [Qbf]
 | n + 1 => by
  obtain ⟨h1, h2⟩ := Qgh s l n
  have h3 : (2 : Int) ^ (n + 1 + 1) = 2 ^ (n + 1) * 2 := Int.pow_succ ..
  have h4 : (0 : Int) < 2 ^ (n + 1) := Int.pow_pos (by omega)
  rw [Qbf, h3]
  generalize (2 : Int) ^ (n + 1) = z at *
  split
  ·split <;> omega
  ·omega
theorem QhL {s : Qic} {l : List Qb2} {i : Nat} (h : i < l.length) (hp : Qkd s l[i].v = true) : Qbf s l (i + 1) = Qbf s l i + 2 ^ (i + 1) := by
 rw [Qbf, List.getElem?_eq_getElem h]; simp only [hp, if_true]
theorem QiU {s : Qic} {l : List Qb2} {i : Nat} (h : i < l.length) (hp : Qkd s l[i].v = false) : Qbf s l (i + 1) = Qbf s l i := by
 rw [Qbf, List.getElem?_eq_getElem h]; simp only [hp, Bool.false_eq_true, if_false, Int.add_zero]
def QjV (w : QW) (x : Qap) : Int := match uAt w x.u with
 | none => 0
 | some un => Qbf x.s un.cs (min un.cs.length 16)
theorem QjW {w : QW} {x : Qap} (h0 : 0 <= x.u) (h : x.u < w.length) : QjV w x = Qbf x.s (w[x.u.toNat]'(by omega)).cs (min (w[x.u.toNat]'(by omega)).cs.length 16) := by
 rw [QjV, QcY h0 h]
theorem QiP {w : QW} {x : Qap} (h : x.u < 0 \/ (w.length : Int) <= x.u) : QjV w x = 0 := by rw [QjV, Qef h]
theorem QlD {n : Nat} (h : n <= 17) : 1 <= (2 : Int) ^ n /\ (2 : Int) ^ n <= 131072 := by
 have h1 : (2 : Nat) ^ n <= 2 ^ 17 := Nat.pow_le_pow_right (by omega) h
 have h2 : 1 <= (2 : Nat) ^ n := Nat.one_le_two_pow
 have h3 : ((2 ^ n : Nat) : Int) = (2 : Int) ^ n := by simp
 rw [<- h3]
 have h4 : (2 : Nat) ^ 17 = 131072 := by decide
 omega
def QbF (w : QW) (c : List Int) (u : Int) : Int := match uAt w u with
 | none => 0
 | some x => if (c.length : Int) <= u then 0 else if c.getD u.toNat 0 < -1 \/ ((min x.cs.length 16 : Nat) : Int) <= c.getD u.toNat 0 then 0 else 2 ^ (c.getD u.toNat 0 + 1).toNat
def Zw (m : Int) : Nat -> List Int
 | 0 => []
 | n + 1 => Zw m n ++ if Qce m (2 ^ n) = 0 then [] else [(n : Int) - 1]
def QO (m : Int) : List Int := Zw m 17
theorem Qbq (m : Int) : ∀ n, (Zw m n).length <= n
 | 0 => Nat.le_refl _
 | n + 1 => by
  have := Qbq m n
  rw [Zw, List.length_append]
  split <;> simp <;> omega
def inW (w : QW) (u : Int) : Bool := decide (0 <= u) && decide (u < w.length)
/-! ### Trails -/
def Qc6 (w : QW) (l : List Xv) (u : Int) : Int := l.foldl (fun a s => if s.u = u /\ inW w u = true then s.m else a) (Xj w u)
def QkU (l : List Xv) : Int := match l.getLast? with
 | none => 0
 | some s => s.l
def QiO (l : List Xv) (u : Int) : Bool := l.any fun s => decide (s.u = u) && decide (s.c = -1)
def QlB (w : QW) (l : List Xv) (inc : List Qc0) : Bool := inc.all fun t => decide (QeW (Qc6 w l t.u) t.m = 2)
def Qd4 (have_ : Int -> Int) : List Qc0 -> Int -> Int
 | [], at_ => at_
 | t :: r, at_ => if QeW (have_ t.u) t.m = 0 then -1 else if QeW (have_ t.u) t.m = 1 then (if 0 <= at_ then -1 else Qd4 have_ r t.u) else Qd4 have_ r at_
def QkV (w : QW) (l : List Xv) (inc : List Qc0) : Int := Qd4 (Qc6 w l) inc (-1)
def Qgp (w : QW) (l : List Xv) : Nat -> List (List Qc0) -> Int × Int
 | _, [] => (-1, -1)
 | i, x :: r => if QlB w l x = true then (i, -1) else if 0 <= QkV w l x then (i, QkV w l x) else Qgp w l (i + 1) r
def QlA (w : QW) (db : List (List Qc0)) (l : List Xv) : Int × Int := Qgp w l 0 db
end M25
namespace M25
open Go Go.Abs M3
section
variable {fr : List (Nat × D)} {H : List (Nat × Box)} {t u : Nat}
theorem Qik {k n : Nat} {b : Box} {d : D} (hb : lk H k = some b) (hp : b.pr = true) (hn : n = b.rows.length) (hd : .sl b.rows = d) : Xr ⟨fr, H⟩ (.osl k n) = d := by
 unfold Xr; rw [Qly (S := Qcb) rfl hb hp hn]; exact hd
theorem QiW {e : AExit} {k n : Nat} {b : Box} {d : D} (h : lk fr t = some (.osl k n)) (hb : lk H k = some b) (hp : b.pr = true) (hn : n = b.rows.length) (hd : .sl b.rows = d) (he : e = .ret \/ e = .normal := by first | exact .inl rfl | exact .inr rfl) : Post [.tmp t] d e ⟨fr, H⟩ :=
 X9 h (Qik hb hp hn hd) he
end
theorem Qia {n : Nat} (h : n <= 62) : IntKind.i64.wrap ((2 : Int) ^ n - 1) = 2 ^ n - 1 := by
 have := QfA h; exact Qz (by omega) (by omega)
theorem Xl {w : QW} {c : List Int} {u : Int} (h : (u < 0 \/ (w.length : Int) <= u) \/ (c.length : Int) <= u) : QbF w c u = 0 := by
 unfold QbF
 split
 ·rfl
 ·rename_i x hx
  rcases h with h | h
  ·rw [Qef h] at hx; cases hx
  ·rw [if_pos h]
theorem Xk {w : QW} {c : List Int} {u : Int} (h0 : 0 <= u) (h1 : u < w.length) (h2 : u < c.length) (h : c[u.toNat]'(by omega) < -1 \/ min (((w[u.toNat]'(by omega)).cs.length : Nat) : Int) 16 <= c[u.toNat]'(by omega)) : QbF w c u = 0 := by
 rw [QbF, QcY h0 h1]
 simp only []
 rw [if_neg (by omega), List.getD_eq_getElem?_getD, List.getElem?_eq_getElem (by omega)]
 simp only [Option.getD_some]
 rw [if_pos]
 rcases h with h | h
 ·exact .inl h
 ·right; omega
theorem X7 {w : QW} {c : List Int} {u : Int} (h0 : 0 <= u) (h1 : u < w.length) (h2 : u < c.length) (h : ¬ c[u.toNat]'(by omega) < -1) (h' : ¬ min (((w[u.toNat]'(by omega)).cs.length : Nat) : Int) 16 <= c[u.toNat]'(by omega)) : QbF w c u = 2 ^ (c[u.toNat]'(by omega) + 1).toNat := by
 rw [QbF, QcY h0 h1]
 simp only []
 rw [if_neg (by omega), List.getD_eq_getElem?_getD, List.getElem?_eq_getElem (by omega)]
 simp only [Option.getD_some]
 rw [if_neg]
 omega
theorem Ya {m : Int} {n : Nat} (h : ¬ Qce m (2 ^ n) = 0) : Zw m (n + 1) = Zw m n ++ [(n : Int) - 1] := by rw [Zw, if_neg h]
theorem YN {m : Int} {n : Nat} (h : Qce m (2 ^ n) = 0) : Zw m (n + 1) = Zw m n := by rw [Zw, if_pos h, List.append_nil]
theorem QkN {w : QW} {u : Int} (h0 : 0 <= u) (h : u < w.length) : inW w u = true := by simp [inW, h0, h]
theorem Qhy {w : QW} {u : Int} (h : u < 0 \/ (w.length : Int) <= u) : inW w u = false := by
 simp only [inW, Bool.and_eq_false_iff, decide_eq_false_iff_not]; omega
theorem Qcy {w : QW} {u : Int} : inW w u = true ↔ 0 <= u /\ u < w.length := by simp [inW]
theorem Qh2 {α : Type} {a b : List α} {i : Nat} (ha : i < a.length) (hb : i < b.length) (h : a.take i = b.take i) (he : a[i] = b[i]) : a.take (i + 1) = b.take (i + 1) := by
 rw [List.take_succ_eq_append_getElem ha, List.take_succ_eq_append_getElem hb, h, he]
theorem Qj4 {α : Type} [DecidableEq α] {a b : List α} {i : Nat} (ha : i < a.length) (hb : i < b.length) (he : ¬ a[i] = b[i]) : decide (a = b) = false := decide_eq_false fun e => he (by subst e; rfl)
end M25
namespace Go.Proofs
open Go Go.Abs M3 M25
set_option linter.unusedVariables false
set_option linter.unusedSimpArgs false
theorem Qat {m : Int} : Ok Tryd.prog 20 [.int .i64 m] (Yk (QO m)) := by
 refine Ok.ofT Z7 Tryd.func20 Qmd (Nat.le_of_ble_eq_true Z) ?_
 show TW _ _ tf20.body _ _
 refine Qf fun K hK => Qd Z (hK _ _ (Qa (kp1 Z) ?_))
 refine Qf fun K hK => Qd Z (hK _ _ (Qa (kp2 Z Z) ?_))
 refine QH ?_ -- 0
 refine Qf fun K hK => Qd Z (hK _ _ (Qa (kp3 Z Z Z) ?_))
 refine QK ?_
 refine Z3 (ι := Nat) (fun i => ⟨[(0, .int .i64 m), (3, .osl 3 (Zw m i).length), (4, .int .i64 i)], [(3, ⟨(Zw m i).map (fun x => [.int .i64 x]), 1, 3, true⟩)]⟩) (fun i => i <= 17) (fun i => 17 - i) 0 ?_ ?_ ?_
 ·exact le_trans (QcB 3 3 1 3 rfl rfl) (Zc (l := [0, 3, 4]) (lH := [3]) (kp3 rfl rfl rfl) (Ql rfl Qt) rfl rfl rfl)
 ·exact Nat.zero_le _
 intro i hI
 have hlen := Qbq m i
 try dsimp only
 refine QH ?_ -- 1
 refine Qf fun K hK => Qd Z (Qi6 Z Z (hK _ _ (Qa (kp4 Z Z Z Z) ?_)))
 refine Qx Z (fun h1 => ?_) (fun h1 => ?_)
 ·try rw [h1]
  try simp only [qB] at h1
  refine Qu (Qe (kp3 Z Z Z) ?_)
  refine QH ?_ -- 2
  refine QK (Qf fun K hK => Qd Z (Qd Z (QB (QaG (by omega) (by omega)) Z Z (.inr Z) (QgW Z Z (Yh Z Z (hK _ _ (Qa (kp4 Z Z Z Z) ?_)))))))
  refine Qx Z (fun h2 => ?_) (fun h2 => ?_)
  ·try rw [h2]
   try simp only [qB] at h2
   refine Q6 fun K hK => Qd Z (Qd Z (Qfk Z Z (by first | exact Qz (by omega) (by omega) | rfl) (Zf Z Z (Qb5 Z Z (fun _ h => Qfa Z Z Z h) Z (by simp) Z Z Z (by simp; omega) (by simp; omega) (Qd Z (hK _ ?_))))))
   refine Qm (Qe (kp3 Z Z Z) (Q6 fun K hK => Qd Z (Zy Z Z (by first | exact Qz (by omega) (by omega) | rfl) (Qd Z (hK _ ?_)))))
   refine Qq (i + 1) ?_ ?_ ?_
   ·exact Zc (l := [0, 3, 4]) (lH := [3]) (kp3 rfl rfl rfl) (Ql rfl Qt) (by first | (rw [Ya (m := m) (n := i) h2]; done) | (rw [Ya (m := m) (n := i) h2]; rfl) | (rw [Ya (m := m) (n := i) h2, List.length_append]; rfl) | (simp [Ya (m := m) (n := i) h2]; done) | (simp [Ya (m := m) (n := i) h2]; omega) | rfl) (by first | (rw [Ya (m := m) (n := i) h2]; done) | (rw [Ya (m := m) (n := i) h2]; rfl) | (rw [Ya (m := m) (n := i) h2, List.map_append]; rfl) | (simp [Ya (m := m) (n := i) h2]; done) | rfl) rfl
   ·omega
   ·first | omega | (simp only; omega) | (dsimp only; omega)
  ·try rw [h2]
   try simp only [qB] at h2
   refine Qu (Qm (Qe (kp3 Z Z Z) (Q6 fun K hK => Qd Z (Zy Z Z (by first | exact Qz (by omega) (by omega) | rfl) (Qd Z (hK _ ?_))))))
   refine Qq (i + 1) ?_ ?_ ?_
   ·exact Zc (l := [0, 3, 4]) (lH := [3]) (kp3 rfl rfl rfl) (Ql rfl Qt) (by first | (rw [YN (m := m) (n := i) h2]; done) | (rw [YN (m := m) (n := i) h2]; rfl) | (rw [YN (m := m) (n := i) h2, List.length_append]; rfl) | (simp [YN (m := m) (n := i) h2]; done) | (simp [YN (m := m) (n := i) h2]; omega) | rfl) (by first | (rw [YN (m := m) (n := i) h2]; done) | (rw [YN (m := m) (n := i) h2]; rfl) | (rw [YN (m := m) (n := i) h2, List.map_append]; rfl) | (simp [YN (m := m) (n := i) h2]; done) | rfl) rfl
   ·omega
   ·first | omega | (simp only; omega) | (dsimp only; omega)
 ·try rw [h1]
  try simp only [qB] at h1
  refine Zp (QN (QC (QP (Qe (kp1 Z) (Qf fun K hK => Qd Z (Qd Z (hK _ _ (Qa (kp1 Z) ?_))))))))
  refine Qr ?_
  exact QiW rfl rfl rfl (by simp) (by rw [QO, show (17 : Nat) = i by omega]; rfl)
end Go.Proofs
namespace M25
open Go Go.Abs M3
end M25
namespace M25
open Go Go.Abs M3
/-! ### Bits of numbers -/
theorem Qej (e : Int) : IntKind.i64.wrap e = (BitVec.ofInt 64 e).toInt := by
 have hb : (BitVec.ofInt 64 e).toInt = if e % 18446744073709551616 < 9223372036854775808 then e % 18446744073709551616 else e % 18446744073709551616 - 18446744073709551616 := by
  rw [BitVec.toInt_ofInt]; rfl
 rw [hb]
 unfold IntKind.wrap
 simp only [IntKind.bits, IntKind.signed, Bool.true_and]
 split
 ·rename_i h
  have := of_decide_eq_true h
  split <;> omega
 ·rename_i h
  have : ¬ (e % 2 ^ 64 >= 2 ^ (64 - 1)) := fun hh => h (decide_eq_true hh)
  split <;> omega
theorem QaO (b : BitVec 64) : BitVec.ofInt 64 (b.toNat : Int) = b := by
 rw [BitVec.ofInt_natCast, BitVec.ofNat_toNat, BitVec.setWidth_eq]
theorem QkC (x y : Int) : BitVec.ofInt 64 (Qce x y) = BitVec.ofInt 64 x &&& BitVec.ofInt 64 y := by
 show BitVec.ofInt 64 (IntKind.i64.wrap ((BitVec.ofInt 64 x &&& BitVec.ofInt 64 y).toNat : Int)) = _
 rw [Qej, BitVec.ofInt_toInt, QaO]
theorem Qlv (x y : Int) : BitVec.ofInt 64 (bor x y) = BitVec.ofInt 64 x ||| BitVec.ofInt 64 y := by
 show BitVec.ofInt 64 (IntKind.i64.wrap ((BitVec.ofInt 64 x ||| BitVec.ofInt 64 y).toNat : Int)) = _
 rw [Qej, BitVec.ofInt_toInt, QaO]
theorem QkD (x y : Int) : BitVec.ofInt 64 (Qff x y) = BitVec.ofInt 64 x &&& ~~~ BitVec.ofInt 64 y := by
 show BitVec.ofInt 64 (IntKind.i64.wrap ((BitVec.ofInt 64 x &&& ~~~ BitVec.ofInt 64 y).toNat : Int)) = _
 rw [Qej, BitVec.ofInt_toInt, QaO]
theorem QiI {x : Int} (h : I64 x) : IntKind.i64.wrap x = x := Qz h.1 h.2
theorem Qi9 {x : Int} (h : I64 x) : (BitVec.ofInt 64 x).toInt = x := by rw [<- Qej, QiI h]
theorem QjO (x y : Int) : I64 (Qce x y) := Qfd _
theorem QkL (x y : Int) : I64 (bor x y) := Qfd _
def tb (x : Int) (i : Nat) : Bool := (BitVec.ofInt 64 x).getLsbD i
theorem Qk4 (x y : Int) (i : Nat) : tb (Qce x y) i = (tb x i && tb y i) := by rw [tb, QkC, BitVec.getLsbD_and]; rfl
theorem QlG (x y : Int) (i : Nat) : tb (bor x y) i = (tb x i || tb y i) := by rw [tb, Qlv, BitVec.getLsbD_or]; rfl
theorem Qk5 (x y : Int) {i : Nat} : tb (Qff x y) i = (tb x i && !tb y i) := by
 rw [tb, QkD, BitVec.getLsbD_and, BitVec.getLsbD_not]
 by_cases h : i < 64
 ·simp [h, tb]
 ·simp [tb, BitVec.getLsbD_of_ge _ i (by omega : 64 <= i)]
theorem Qh3 (x : Int) {i : Nat} (h : 64 <= i) : tb x i = false := BitVec.getLsbD_of_ge _ i h
theorem Qjl {x y : Int} (hx : I64 x) (hy : I64 y) (h : ∀ i, tb x i = tb y i) : x = y := by
 rw [<- Qi9 hx, <- Qi9 hy]
 congr 1
 exact BitVec.eq_of_getLsbD_eq fun i _ => h i
theorem Qh4 (i : Nat) : tb 0 i = false := by
 show (BitVec.ofInt 64 0).getLsbD i = false
 rw [show BitVec.ofInt 64 0 = 0#64 from rfl, BitVec.getLsbD_zero]
theorem Qfv {x : Int} (hx : I64 x) : x = 0 ↔ ∀ i, tb x i = false := by
 constructor
 ·rintro rfl i; exact Qh4 i
 ·intro h; exact Qjl hx ⟨by omega, by omega⟩ fun i => by rw [h i, Qh4]
theorem Qgr (n : Nat) {i : Nat} (h : i < 64) : tb (n : Int) i = n.testBit i := by
 rw [tb, BitVec.ofInt_natCast, BitVec.getLsbD_ofNat]; simp [h]
theorem Qgs {k : Nat} (hk : k < 64) (i : Nat) : tb ((2 : Int) ^ k) i = decide (i = k) := by
 have e : ((2 ^ k : Nat) : Int) = (2 : Int) ^ k := by simp
 by_cases h : i < 64
 ·rw [<- e, Qgr _ h, Nat.testBit_two_pow]
  exact decide_eq_decide.2 eq_comm
 ·rw [Qh3 _ (by omega)]; exact (decide_eq_false (by omega)).symm
theorem Qij {x m : Int} : Qce x m = 0 ↔ ∀ i, tb x i = true -> tb m i = false := by
 rw [Qfv (QjO x m)]
 refine forall_congr' fun i => ?_
 rw [Qk4]; cases tb x i <;> cases tb m i <;> simp
def Lo (x : Int) : Prop := 0 <= x /\ x < 131072
theorem Qin {x : Int} {k : Nat} (hk : k < 64) : Qce x (2 ^ k) = 0 ↔ tb x k = false := by
 rw [Qij]
 constructor
 ·intro h
  cases hx : tb x k
  ·rfl
  ·have := h k hx; rw [Qgs hk] at this; simp at this
 ·intro h i hi
  rw [Qgs hk]
  by_cases e : i = k
  ·subst e; rw [h] at hi; cases hi
  ·exact decide_eq_false e
end M25
namespace M25
open Go Go.Abs M3
/-! ### Trails: the loops' laws -/
theorem Qhp {w : QW} {u : Int} : Xj w u = 0 ↔ inW w u = false := by
 constructor
 ·intro h
  cases hw : inW w u
  ·rfl
  ·rw [Qcy] at hw
   rw [Qd0 hw.1 hw.2] at h
   have h2 : 2 <= (2 : Int) ^ (min (w[u.toNat]'(by omega)).cs.length 16 + 1) := by
    rw [Int.pow_succ]
    have := QlD (n := min (w[u.toNat]'(by omega)).cs.length 16) (by omega)
    omega
   omega
 ·intro h
  refine QeT (Classical.byContradiction fun hn => ?_)
  rw [QkN (by omega) (by omega)] at h; cases h
def Qkp (w : QW) (l : List Xv) : Prop := ∀ s ∈ l, Lo s.m
end M25
namespace M25
open Go Go.Abs M3
theorem Qib {v : Int} (h : (v + 1).toNat <= 61) : IntKind.i64.wrap ((1 : Int) * 2 ^ min (v + 1).toNat IntKind.i64.bits) = 2 ^ (v + 1).toNat := by
 rw [show min (v + 1).toNat IntKind.i64.bits = (v + 1).toNat from by simp only [IntKind.bits]; omega, Int.one_mul]
 have := QfA (i := (v + 1).toNat) (by omega)
 exact Qz (by omega) (by omega)
end M25
namespace Go.Proofs
open Go Go.Abs M3 M25
set_option linter.unusedVariables false
set_option linter.unusedSimpArgs false
theorem Qaf {v : Int} (h0 : -1 <= v) (h1v : v <= 60) : Ok Tryd.prog 40 [.int .i64 v] (.int .i64 (2 ^ (v + 1).toNat)) := by
 refine Ok.ofT Z7 Tryd.func40 Qmj (Nat.le_of_ble_eq_true Z) ?_
 show TW _ _ tf40.body _ _
 refine Qf fun K hK => Qd Z (hK _ _ (Qa (kp1 Z) ?_))
 refine Qf fun K hK => Qd Z (Zy Z Z (by first | exact Qz (by omega) (by omega) | rfl) (Qlp Z Z (by omega) (Qib (by omega)) (Qd Z (hK _ _ (Qa (kp1 Z) ?_)))))
 refine Qr (Qy Z ?_)
 rfl
theorem Qdd {w : QW} (hw : WSm w) {u : Int} : Ok Tryd.prog 39 [Qdh w, .int .i64 u] (.bool (inW w u)) := by
 refine Ok.ofT Z7 Tryd.func39 Qmi (Nat.le_of_ble_eq_true Z) ?_
 show TW _ _ tf39.body _ _
 refine Qf fun K hK => ZP Z Z Z (Qd Z (hK _ _ (Qa (kp2 Z Z) ?_)))
 refine Qf fun K hK => Qd Z (QgZ Z Z (Qd Z ?_))
 refine Qv (g := 7) Z (fun h1 => ?_) (fun h1 => ?_)
 ·try rw [h1]
  try simp only [qA] at h1
  refine Qg Z (Qd Z (Qg Z (Qn Z Z (Qg Z (QD Z Z Z (Qg Z ?_))))))
  first | refine ZV rfl YB ?_ | refine ZV rfl rfl ?_
  refine Qg Z (Xq Z Z (Qh Z Z (Qd Z (hK _ _ (Qa (kp1 Z) ?_)))))
  refine Qr (Qi Z ?_)
  first | rfl | (rw [Qhy (by omega)]; done) | (rw [inW, decide_eq_true h1, Bool.true_and])
 ·try rw [h1]
  try simp only [qA] at h1
  refine Qs Z (Qs Z (Qs Z (Qs Z (Qs Z (Qh Z Z (Qd Z (hK _ _ (Qa (kp1 Z) ?_))))))))
  refine Qr (Qi Z ?_)
  first | rfl | (rw [Qhy (by omega)]; done) | (rw [inW, decide_eq_true h1, Bool.true_and])
theorem Qci {w : QW} (hw : WSm w) {u : Int} : Ok Tryd.prog 13 [Qdh w, .int .i64 u] (.int .i64 (Xj w u)) := by
 refine Ok.ofT Z7 Tryd.func13 Ql9 (Nat.le_of_ble_eq_true Z) ?_
 show TW _ _ tf13.body _ _
 refine Qf fun K hK => ZP Z Z Z (Qd Z (hK _ _ (Qa (kp2 Z Z) ?_)))
 refine QH ?_ -- 0
 refine Qf fun K hK => QL (cs := [_]) Z Z Z Z (Qd Z (QB (Qdd hw) Z Z (.inr Z) (ZW Z (hK _ _ (Qa (kp3 Z Z Z) ?_)))))
 refine Qx Z (fun h1 => ?_) (fun h1 => ?_)
 ·try rw [h1]
  try simp only [qA] at h1
  try have h1b := Qcy.1 h1
  refine Qf fun K hK => Qd Z (hK _ _ (Qa (kp1 Z) ?_))
  refine Qr (Qj (Qy Z ?_))
  rw [Qhp.2 h1]
 ·try rw [h1]
  try simp only [qA] at h1
  try have h1b := Qcy.1 h1
  refine Qu (Qe (kp2 Z Z) (Qf fun K hK => Qn Z Z (QD Z Z Z (Qd Z (Zk Z Z Z (by omega) (Y0 (by omega) (by omega)) Z (Xu Z Z (QD Z Z Z ?_)))))))
  first | refine ZV rfl YB ?_ | refine ZV rfl rfl ?_
  refine QB (Qaf (by omega) (by have := hw.cs _ (List.getElem_mem (show u.toNat < w.length by omega)); omega)) Z Z (.inr Z) (Qfk Z Z (Qia (by have := hw.cs _ (List.getElem_mem (show u.toNat < w.length by omega)); omega)) (Qd Z (hK _ _ (Qa (kp1 Z) ?_))))
  refine Qr (Qy Z ?_)
  rw [Qd0 h1b.1 h1b.2, show min (w[u.toNat]'(by omega)).cs.length 16 = (w[u.toNat]'(by omega)).cs.length from Nat.min_eq_left (hw.cs _ (List.getElem_mem _)), Qk6]
end Go.Proofs
namespace M25
open Go Go.Abs M3
/-! ### prop: what is left of each unit, scans -/
structure Qko (w : QW) (db : List (List Qc0)) (l : List Xv) (a : Nat) (k : Nat) : Prop where
  ha : a < db.length
  hk : k < db[a].length
  eq : QlA w db l = ((a : Int), db[a][k].u)
  one : QeW (Qc6 w l db[a][k].u) db[a][k].m = 1
  two : ∀ j, ∀ hj : j < db[a].length, j ≠ k -> QeW (Qc6 w l db[a][j].u) db[a][j].m = 2
def Ql4 (w : QW) (l : List Xv) (t : Qc0) (c : Int) : Xv := ⟨t.u, Qff (Qc6 w l t.u) t.m, QkU l, c⟩
end M25
namespace M25
open Go Go.Abs M3
/-! ### Sets that are made: moderate sizes -/
def SmN (n : Nat) (l : List (Cu × Cu)) : Prop := l.length <= n /\ ∀ s ∈ l, Cu.sm s.1 /\ Cu.sm s.2
theorem SmN.sm {n : Nat} {l : List (Cu × Cu)} (h : SmN n l) (hn : n <= 1000000) : Sm l := ⟨Nat.le_trans h.1 hn, h.2⟩
theorem SmN.nil (n : Nat) : SmN n [] := ⟨Nat.zero_le _, by simp⟩
def QlT (n : Nat) (s : Qic) : Prop := SmN n s.1 /\ SmN n s.2
theorem QbY (e a b c : Int) (f : Bool) : Cu.sm ⟨e, a, b, c, [], [], f⟩ := ⟨Nat.zero_le _, Nat.zero_le _⟩
theorem QiB {a b c : Int} {p q : List UInt8} (hp : p.length <= 1000000) : QlT 1 (QcK a b c p q) := by
 unfold QcK
 split
 ·exact ⟨SmN.nil _, SmN.nil _⟩
 ·split
  ·refine ⟨SmN.nil _, ⟨Nat.le_refl _, fun s hs => ?_⟩⟩
   simp only [List.mem_singleton] at hs; subst hs
   exact ⟨⟨hp, Nat.zero_le _⟩, ⟨hp, Nat.zero_le _⟩⟩
  ·refine ⟨⟨Nat.le_refl _, fun s hs => ?_⟩, SmN.nil _⟩
   simp only [List.mem_singleton] at hs; subst hs
   constructor
   ·unfold QcJ; split
    ·exact QbY ..
    ·exact QbY ..
   ·unfold Qbd; split
    ·exact QbY ..
    ·exact QbY ..
def Qlq (s : Qic) : Prop := QlT 600000 s
structure CR where
 v : Vr
 x : D
 y : D
 z : D
def dCR (r : CR) : List D := [.int .i64 r.v.a, .int .i64 r.v.b, .int .i64 r.v.c, .str r.v.p, .str r.v.q, r.x, r.y, r.z]
structure UR where
 n : List UInt8
 f : List UInt8
 k : Nat
 cs : List CR
def dUR (u : UR) : List D := [.str u.n, .str u.f, .osl u.k u.cs.length]
structure Fam (H : List (Nat × Box)) (kg ku eu ec : Nat) (us : List UR) : Prop where
 ne : ku ≠ kg
 u : ∃ pr, lk H ku = some ⟨us.map dUR, 3, eu, pr⟩
 c : ∀ y ∈ us, y.k ≠ kg /\ ∃ pr, lk H y.k = some ⟨y.cs.map dCR, 8, ec, pr⟩
 v : ∀ y ∈ us, y.cs.length <= 16 /\ ∀ z ∈ y.cs, Qjx z.v
end M25
namespace M25
open Go Go.Abs M3
/-! ### The boxes of a world under way -/
def Qi5 (us : List UR) : Prop := ∀ j, ∀ h : j < us.length, us[j].k = 500001 + j
def zr (v : Vr) (sh : Int) : CR := ⟨v, .int .i64 sh, .fsl [], .fsl []⟩
def Qkm (u : UR) : Prop := u.cs.length <= 4 /\ ∀ z ∈ u.cs, ∃ v sh, z = zr v sh /\ Qjx v
section
variable {l : List Nat} {fr fr1 fr' : List (Nat × D)} {B : List (Nat × Box)} {kg eg eu ec : Nat} {L : List Int} {J : Int} {us : List UR}
end
def v0 : Vr := ⟨0, 0, 0, [], []⟩
structure UnitsIn (us : List UR) : Prop where
 keys : Qi5 us
 fresh : ∀ u ∈ us, Qkm u
 first : ∃ z rest, us = ⟨[], [], 500001, [z]⟩ :: rest
end M25
namespace M25
open Go Go.Abs M3
/-! ### A world under way: one candidate after the other is filled -/
section
variable {us : List UR} {eu ec eg : Nat} {L : List Int} {J : Int} {b4 : Box}
end
/-! ### Filled candidates -/
def Qkw (n : Nat) (x : Qap) : Prop := 0 <= x.u /\ x.u < n /\ Qlq x.s
structure Qi4 (n : Nat) (c : Qb2) : Prop where
 v : Qjx c.v
 nl : c.ns.length <= 10
 nr : ∀ r ∈ c.ns, r.length <= 2 /\ ∀ x ∈ r, Qkw n x
 bl : c.bs.length <= 1
 bw : ∀ x ∈ c.bs, Qkw n x
def Ql3 (c : Qb2) : CR := ⟨c.v, .int .i64 c.sh, Qjc c.ns, Qhe c.bs⟩
def Qlj (n : Nat) (z : CR) : Prop := ∃ c, z = Ql3 c /\ Qi4 n c
def Qkl (z : CR) : Prop := ∃ v sh, z = zr v sh /\ Qjx v
structure Prog (n : Nat) (us : List UR) (i k : Nat) : Prop where
 keys : Qi5 us
 len : us.length = n /\ 2 <= n /\ n <= 11
 cl : ∀ u ∈ us, u.cs.length <= 4
 done : ∀ j, ∀ hj : j < us.length, ∀ m, ∀ hm : m < us[j].cs.length, (j < i \/ (j = i /\ m < k)) -> Qlj n us[j].cs[m]
 fresh : ∀ j, ∀ hj : j < us.length, ∀ m, ∀ hm : m < us[j].cs.length, ¬ (j < i \/ (j = i /\ m < k)) -> Qkl us[j].cs[m]
structure WMade (w : QW) : Prop where
 sm : WSm w
 len : 2 <= w.length /\ w.length <= 11
 cs : ∀ u ∈ w, u.cs.length <= 4
 cand : ∀ u ∈ w, ∀ c ∈ u.cs, Qi4 w.length c
end M25
namespace M25
open Go Go.Abs M3
/-! ### Trails that may be -/
end M25
namespace M25
open Go Go.Abs M3
/-! ### What every program says -/
/-! ### A world's facts, and more -/
end M25
namespace M25
open Go Go.Abs M3
/-! ### Powers of two -/
/-! ### Steps that may be: the program's -/
/-! ### Deciding -/
end M25
namespace M25
open Go Go.Abs M3
/-! ### Back, Sure, When -/
/-! ### What valid trails are -/
/-! ### Levels -/
end M25
namespace M25
open Go Go.Abs M3
/-! ### The first row of lefts -/
end M25
namespace M25
open Go Go.Abs M3
/-! ### When, QgN by QgN -/
/-! ### The QlF world -/
end M25
namespace M25
open Go Go.Abs M3
/-! ### What a run is: steps, one open after the other -/
inductive Qg3 (w : QW) (db : List (List Qc0)) : List Xv -> List Xv -> Prop
 | nil (l : List Xv) : Qg3 w db l l
 | cons {l x : List Xv} (a k : Nat) (ho : Qko w db l a k) (h : Qg3 w db (l ++ [Ql4 w l ((db[a]'ho.ha)[k]'ho.hk) a]) x) : Qg3 w db l x
section
variable {w : QW} {db : List (List Qc0)}
def Below (w : QW) (b l : List Xv) : Prop := ∀ u i, tb (Qc6 w b u) i = true -> tb (Qc6 w l u) i = true
theorem Below.refl (l : List Xv) : Below w l l := fun _ _ h => h
/-! ### Sound: a choice stays -/
end
end M25
namespace M25
open Go Go.Abs M3
end M25
namespace M25
open Go Go.Abs M3
/-! ### More of runs -/
end M25
namespace M25
open Go Go.Abs M3
/-! ### The facts in another order -/
end M25
namespace M25
open Go Go.Abs M3
/-! ### How long a run is -/
structure Good (w : QW) (l : List Xv) : Prop where
 p : Qkp w l
 nz : ∀ u, inW w u = true -> Qc6 w l u ≠ 0
 le : ∀ u i, tb (Qc6 w l u) i = true -> tb (Xj w u) i = true
end M25
namespace M25
open Go Go.Abs M3
/-! ### Masks are of values that there are -/
/-! ### Each QgN of a run -/
end M25
namespace M25
open Go Go.Abs M3
end M25
namespace M25
open Go Go.Abs M3
/-! ### Derive again -/
/-! ### Sure, and what holds -/
end M25
namespace M25
open Go Go.Abs M3
/-! ### The choice that a trail has decided -/
end M25
namespace Go.Proofs
open Go Go.Abs M3 M25
set_option linter.unusedVariables false
set_option linter.unusedSimpArgs false
theorem Z8 {a b : List Int} (ha : a.length <= 10000000) : Ok Tryd.prog 22 [Yk a, Yk b] (.bool (decide (a = b))) := by
 refine Ok.ofT Z7 Tryd.func22 Qmf (Nat.le_of_ble_eq_true Z) ?_
 show TW _ _ tf22.body _ _
 refine Qf fun K hK => Qd Z (hK _ _ (Qa (kp2 Z Z) ?_))
 refine QH ?_ -- 0
 refine Qf fun K hK => Qd Z ?_
 first | refine ZV rfl YB ?_ | refine ZV rfl rfl ?_
 refine Qd Z ?_
 first | refine ZV rfl YB ?_ | refine ZV rfl rfl ?_
 refine Yh Z Z (hK _ _ (Qa (kp3 Z Z Z) ?_))
 refine Qx Z (fun h1 => ?_) (fun h1 => ?_)
 ·try rw [h1]
  try simp only [qA] at h1
  refine Qf fun K hK => Qd Z (hK _ _ (Qa (kp1 Z) ?_))
  refine Qr (Qj (Qi Z ?_))
  rw [decide_eq_false fun e => h1 (by rw [e])]
 ·try rw [h1]
  try simp only [qA] at h1
  refine Qu (Qe (kp2 Z Z) ?_)
  refine QH ?_ -- 1
  refine Qf fun K hK => Qd Z (hK _ _ (Qa (kp3 Z Z Z) ?_))
  refine QK ?_
  refine Z3 (ι := Nat) (fun i => ⟨[(0, Yk a), (1, Yk b), (5, .int .i64 i)], []⟩) (fun i => i <= a.length /\ a.take i = b.take i) (fun i => a.length - i) 0 ?_ ?_ ?_
  ·exact Q0 (kp3 rfl rfl rfl)
  ·exact ⟨Nat.zero_le _, by simp⟩
  intro i hI
  try dsimp only
  refine QH ?_ -- 2
  refine Qf fun K hK => Qd Z (Qd Z ?_)
  first | refine ZV rfl YB ?_ | refine ZV rfl rfl ?_
  refine Xq Z Z (hK _ _ (Qa (kp4 Z Z Z Z) ?_))
  refine Qx Z (fun h2 => ?_) (fun h2 => ?_)
  ·try rw [h2]
   try simp only [qA] at h2
   refine Qu (Qe (kp3 Z Z Z) ?_)
   refine QH ?_ -- 3
   refine QK (Qf fun K hK => Qd Z (Qd Z (Zk Z Z Z (by omega) (QaM (by omega)) Z (Zv (ds0 := [0]) Z Z Z Z Z (Qd Z (Qd Z (Zk Z Z Z (by omega) (QaM (by omega)) Z (Zv (ds0 := [0]) Z Z Z Z Z ?_))))))))
   first | refine Yh rfl rfl ?_ | refine Qg0 rfl rfl ?_
   refine hK _ _ (Qa (kp4 Z Z Z Z) ?_)
   refine Qx Z (fun h3 => ?_) (fun h3 => ?_)
   ·try rw [h3]
    try simp only [qA] at h3
    refine Qf fun K hK => Qd Z (hK _ _ (Qa (kp1 Z) ?_))
    refine Qr (Qw (Qj (QX (Qw (Qj (Qi Z ?_))))))
    rw [Qj4 (i := i) (by omega) (by omega) h3]
   ·try rw [h3]
    try simp only [qA] at h3
    refine Qu (Qm (Qe (kp3 Z Z Z) (Q6 fun K hK => Qd Z (Zy Z Z (by first | exact Qz (by omega) (by omega) | exact QJ (by omega) (by omega) | exact QT (by omega) (by omega) | rfl) (Qd Z (hK _ ?_))))))
    refine Qq (i + 1) ?_ ?_ ?_
    ·exact Q0 (kp3 rfl rfl rfl)
    ·exact ⟨by omega, Qh2 (by omega) (by omega) hI.2 h3⟩
    ·first | omega | (simp only; omega) | (dsimp only; omega)
  ·try rw [h2]
   try simp only [qA] at h2
   refine Zp (QN (QC (QP (Qe (QI) (Qf fun K hK => Qd Z (hK _ _ (Qa (kp1 Z) ?_)))))))
   refine Qr (Qi Z ?_)
   rw [List.take_of_length_le (by omega), List.take_of_length_le (by omega)] at hI; exact (decide_eq_true hI.2).symm
end Go.Proofs
namespace Go.Proofs
open Go Go.Abs M3 M25
set_option linter.unusedVariables false
set_option linter.unusedSimpArgs false
end Go.Proofs
namespace Go.Proofs
open Go Go.Abs M3 M25
set_option linter.unusedVariables false
set_option linter.unusedSimpArgs false
end Go.Proofs
namespace Go.Proofs
open Go Go.Abs M3 M25
set_option linter.unusedVariables false
set_option linter.unusedSimpArgs false
end Go.Proofs
namespace Go.Proofs
open Go Go.Abs M3 M25
set_option linter.unusedVariables false
set_option linter.unusedSimpArgs false
end Go.Proofs
namespace Go.Proofs
open Go Go.Abs M3 M25
set_option linter.unusedVariables false
set_option linter.unusedSimpArgs false
end Go.Proofs
namespace M25
open Go Go.Abs M3
/-! ### One without terms -/
end M25
namespace M25
open M3
def Y2 (e a b c : Int) (p q : List UInt8) (f : Bool) : Bool := !decide (e = 0) || (!f && decide (p = []) && !(decide (a = 0) && (decide (b = 0) && (decide (c = 0) && (decide (p = []) && (decide (q = []) && true))))))
def Z2 (x : Cu) : Bool := Y2 x.e x.a x.b x.c x.p x.q x.f
theorem Qja {e a b c : Int} {p q : List UInt8} {f : Bool} (h : YF e a b c p q f = true) : q = [] := by
 unfold YF at h
 split at h
 ·simp at h; exact h.2
 ·simp at h; exact h.1.2.2.2.2.2
theorem Qbm {x : Cu} (h : x.q = []) : Z2 x = Y5 x := by
 rw [Z2, Y5, Y2, QhI, QbD, h]
 cases decide (x.e = 0) <;> cases x.f <;> cases hp : decide (x.p = []) <;> cases decide (x.a = 0) <;> cases decide (x.b = 0) <;> cases decide (x.c = 0) <;> simp_all
theorem Qbk {x : Cu} (h : Y5 x = true) : Z2 x = true := by
 rw [Y5, QhI, QbD] at h
 rw [Z2, Y2]
 revert h
 cases decide (x.e = 0) <;> cases x.f <;> cases hp : decide (x.p = []) <;> cases decide (x.a = 0) <;> cases decide (x.b = 0) <;> cases decide (x.c = 0) <;> simp
theorem QkW {l : List (Cu × Cu)} (h : Qc7 l = true) {s : Cu × Cu} (hs : s ∈ l) : s.1.q = [] /\ s.2.q = [] := by
 obtain ⟨i, hi, rfl⟩ := List.mem_iff_getElem.1 hs
 have := List.all_eq_true.1 h i (List.mem_range.2 hi)
 rw [Qfz hi, Bool.and_eq_true] at this
 have h1 := this.1
 simp only [QeV, Qc9, Bool.and_eq_true] at h1
 exact ⟨Qja h1.1.1, Qja h1.1.2⟩
theorem QbU {s : List (Cu × Cu) × List (Cu × Cu)} {i : Nat} (hi : s.1.length <= i) (h : (s.1.take i).all (fun x => Z2 x.1 && Z2 x.2) = true) : Qfy s = (Qc7 s.1 && Qc7 s.2) := by
 rw [List.take_of_length_le hi] at h
 rw [Qfy]
 cases h1 : Qc7 s.1 with
 | false => rfl
 | true =>
  have : (s.1.all fun x => Y5 x.1 && Y5 x.2) = true := by
   rw [List.all_eq_true] at h ⊢
   intro x hx
   obtain ⟨q1, q2⟩ := QkW h1 hx
   rw [<- Qbm q1, <- Qbm q2]
   exact h x hx
  rw [this, Bool.true_and, Bool.and_true]
theorem Y3 {s : List (Cu × Cu) × List (Cu × Cu)} {i : Nat} (hi : i < s.1.length) (h : Z2 s.1[i].1 = false \/ Z2 s.1[i].2 = false) : Qfy s = false :=
 QjZ hi (h.imp (fun h => by cases e : Y5 s.1[i].1 with
  | false => rfl
  | true => rw [Qbk e] at h; cases h) (fun h => by cases e : Y5 s.1[i].2 with
  | false => rfl
  | true => rw [Qbk e] at h; cases h))
end M25
namespace Go.Abs
open Go
/-! ### Cells told otherwise -/
theorem CellsC.setW {g : Gh} {c : Array Value} {d d' : D} (hd : d'.isCell = true) (himp : ∀ v, RepS g d v -> RepS g d' v) : ∀ {off : Nat} {row : List D} {j : Nat}, CellsC g c off row -> row[j]? = some d -> CellsC g c off (row.set j d')
 | _, [], j, _, h => by simp at h
 | off, x :: row, 0, hc, h => by
  simp at h; subst h
  simp only [List.set_cons_zero, CellsC] at hc ⊢
  obtain ⟨⟨h1, y, h2, h3⟩, h4⟩ := hc
  exact ⟨⟨hd, y, h2, himp y h3⟩, h4⟩
 | off, x :: row, j + 1, hc, h => by
  simp only [List.set_cons_succ, CellsC] at hc ⊢
  exact ⟨hc.1, CellsC.setW hd himp hc.2 (by simpa using h)⟩
theorem RowsC.setW {g : Gh} {c : Array Value} {d d' : D} (hd : d'.isCell = true) (himp : ∀ v, RepS g d v -> RepS g d' v) : ∀ {off : Nat} {rows : List (List D)} {i j : Nat} {row : List D}, RowsC g c off rows -> rows[i]? = some row -> row[j]? = some d -> RowsC g c off (rows.set i (row.set j d'))
 | _, [], i, _, _, _, h, _ => by simp at h
 | off, r :: rows, 0, j, row, hc, h, hj => by
  simp at h; subst h
  simp only [List.set_cons_zero, RowsC, List.length_set] at hc ⊢
  exact ⟨CellsC.setW hd himp hc.1 hj, hc.2⟩
 | off, r :: rows, i + 1, j, row, hc, h, hj => by
  simp only [List.set_cons_succ, RowsC] at hc ⊢
  exact ⟨hc.1, RowsC.setW hd himp hc.2 (by simpa using h) hj⟩
section
variable {fr : List (Nat × D)} {H : List (Nat × Box)}
theorem QhF (k esz et : Nat) (hk : lk H k = none) : St.le ⟨fr, H⟩ ⟨fr, (k, ⟨[], esz, et, true⟩) :: H⟩ := fun E g a w r =>
 let ⟨g', _, _, r'⟩ := r.allocEmpty (esz := esz) (et := et) (t := k) hk
 ⟨g', r'⟩
theorem QiR {rows : List (List D)} {row : List D} {d' : D} {i j : Nat} (hrow : rows[i]? = some row) {r : List D} (hr : r ∈ rows.set i (row.set j d')) {x : D} (hx : x ∈ r) : x = d' \/ ∃ r0 ∈ rows, x ∈ r0 := by
 rcases List.mem_or_eq_of_mem_set hr with h | rfl
 ·exact .inr ⟨r, h, hx⟩
 ·rcases List.mem_or_eq_of_mem_set hx with h | rfl
  ·exact .inr ⟨row, List.mem_of_getElem? hrow, h⟩
  ·exact .inl rfl
theorem Qgb {kk i j : Nat} {b : Box} {row : List D} {d : D} (d' : D) (pr' : Bool) (hb : lk H kk = some b) (hrow : b.rows[i]? = some row) (hj : row[j]? = some d) (hd : d'.isCell = true) (himp : ∀ (g : Gh) v, RepS g d v -> RepS g d' v)
  (hs : ∀ x ∈ d'.sid, (lk H x).isSome = true) (hpr : pr' = true -> ∀ r ∈ b.rows.set i (row.set j d'), ∀ x ∈ r, x.sid = []) :
  St.le ⟨fr, H⟩ ⟨fr, (kk, { b with rows := b.rows.set i (row.set j d'), pr := pr' }) :: H⟩ := fun E g a w r => by
 have hsome : ∀ k, (lk ((kk, ({ b with rows := b.rows.set i (row.set j d'), pr := pr' } : Box)) :: H) k).isSome = (lk H k).isSome := fun k => by
  rw [Qp]; split
  ·rename_i e; subst e; rw [hb]; rfl
  ·rfl
 refine ⟨g, r.nt, r.df, r.fr, fun t x h k hk => (hsome k).trans (r.wfF t x h k hk), fun k b' h x hx => (hsome x).trans ?_, fun k b' h => ?_, fun k k' b1 b2 B e e' h1 h2 => ?_, r.kr, r.ext, r.kx, fun k hk => let ⟨h1, h2, h3, h4⟩ := r.kp k hk; ⟨h1, h2, h3, (hsome k).trans h4⟩⟩
 ·rw [Qp] at h
  split at h
  ·cases h
   simp only [Box.ids] at hx
   split at hx
   ·cases hx
   ·obtain ⟨r0, hr0, hx⟩ := List.mem_flatMap.1 hx
    obtain ⟨y, hy, hxy⟩ := List.mem_flatMap.1 hx
    rcases QiR hrow hr0 hy with e | ⟨r1, h1, h2⟩
    ·rw [e] at hxy; exact hs x hxy
    ·exact r.wfB kk b hb r1 h1 y h2 x hxy
  ·exact r.wfH k b' h x hx
 ·rw [Qp] at h
  split at h
  ·rename_i e; subst e; cases h
   obtain ⟨h1, h2, h3⟩ := r.bx kk b hb
   refine ⟨fun r0 hr0 => ?_, hpr, ?_⟩
   ·rcases List.mem_or_eq_of_mem_set hr0 with h | rfl
    ·exact h1 r0 h
    ·rw [List.length_set]; exact h1 row (List.mem_of_getElem? hrow)
   ·rcases h3 with ⟨h3, _⟩ | ⟨h3, B, c, q1, q2, q3, q4, q5⟩
    ·rw [h3] at hrow; simp at hrow
    ·exact .inr ⟨fun h => h3 (by simpa using congrArg List.length h), B, c, q1, q2, q3, RowsC.setW hd (himp g) q4 hrow hj, q5⟩
  ·exact r.bx k b' h
 ·have hx : ∀ k b', lk ((kk, ({ b with rows := b.rows.set i (row.set j d'), pr := pr' } : Box)) :: H) k = some b' -> ∃ b0, lk H k = some b0 := fun k b' h => by
   have := hsome k
   rw [h] at this
   exact Option.isSome_iff_exists.1 this.symm
  obtain ⟨_, h1⟩ := hx k b1 h1
  obtain ⟨_, h2⟩ := hx k' b2 h2
  exact r.inj k k' _ _ B e e' h1 h2
theorem QhM {k : Nat} (g : Gh) (v : Value) (h : RepS g (.fsl []) v) : RepS g (.osl k 0) v := by
 simp only [RepS, RepP] at h
 obtain ⟨a, rfl, _⟩ := h
 exact ⟨a, 0, rfl, Nat.le_refl _, .inl ⟨rfl, rfl⟩⟩
end
end Go.Abs
namespace Go.Abs
abbrev gD : D := .ptr [.int .i64 0, .int .i64 0, .int .i64 0, .str [], .str []]
end Go.Abs
namespace Go.Proofs
open Go Go.Abs M3 M25
set_option linter.unusedVariables false
set_option linter.unusedSimpArgs false
theorem Qcg {l : List (Cu × Cu)} (hl : Sm l) : Ok Tryd.prog 78 [ZI l] (.bool (Qc7 l)) := by
 refine Ok.ofT Z7 Tryd.func78 QmG (Nat.le_of_ble_eq_true Z) ?_
 show TW _ _ tf78.body _ _
 have hn := hl.1
 refine Qf fun K hK => Qd Z (hK _ _ (Qa (kp1 Z) ?_))
 refine QH ?_ -- 0
 refine Qf fun K hK => Qd Z (ZV Z Z (Qd Z (hK _ _ (Qa (kp4 Z Z Z Z) ?_))))
 refine QK ?_
 refine Z3 (ι := Nat) (fun i => ⟨[(0, ZI l), (5, ZI l), (6, .int .i64 l.length), (7, .int .i64 i)], []⟩) (fun i => i <= l.length /\ (List.range i).all (Qkf l) = true) (fun i => l.length - i) 0 ?_ ?_ ?_
 ·exact Zc (l := [0, 5, 6, 7]) (kp4 rfl rfl rfl rfl) Qt (by simp [ZI, List.length_map]) rfl rfl
 ·exact ⟨Nat.zero_le _, rfl⟩
 intro i hI
 try dsimp only
 refine Qf fun K hK => Xq Z Z (hK _ _ (Qa (kp5 Z Z Z Z Z) ?_))
 refine QH ?_ -- 1
 refine Qx Z (fun h1 => ?_) (fun h1 => ?_)
 ·try rw [h1]
  try simp only [qA] at h1
  refine Qu (Qe (kp4 Z Z Z Z) ?_)
  refine QH ?_ -- 2
  refine QK (Qf fun K hK => Qd Z (Zk Z Z Z (by omega) (QaM (by omega)) Z (QL (cs := [_, _, _, _, _, _, _, _, _, _, _, _, _, _]) Z Z Z Z (Zi Z (Qd Z (QS Z Z Z Z Z Z Z Z (hK _ _ (Qa (kp6 Z Z Z Z Z Z) ?_))))))))
  refine Qf fun K hK => Zl (ds0 := [17, 16, 15, 14, 13, 12, 11, 10, 9, 8, 7, 6, 5, 4, 3, 2, 1, 0]) (cs := [_, _, _, _, _, _, _, _, _, _, _, _, _, _]) Z Z Z Z Z Z (Zj (ds0 := [16, 15, 14, 13, 12, 11, 10, 9, 8, 7, 6, 5, 4, 3, 2, 1, 0]) (QaZ (hl.at (i := i) (by omega)).1.1 (hl.at (i := i) (by omega)).1.2 (hl.at (i := i) (by omega)).2.1 (hl.at (i := i) (by omega)).2.2) Z Z (.inr Z) Z Z (ZW Z (Qd Z ?_)))
  refine Qv (g := 15) Z (fun h2 => ?_) (fun h2 => ?_)
  ·try rw [h2]
   try simp only [qA] at h2
   refine Qs Z (Qs Z (Qs Z (QG Z (QG Z (QG Z (QG Z (QG Z (QG Z (QG Z (QG Z (QG Z ?_)))))))))))
   refine QG Z (Qs Z (Qh Z Z (hK _ _ (Qa (kp5 Z Z Z Z Z) ?_))))
   refine Zh Z (Qf fun K hK => Qd Z (hK _ _ (Qa (kp1 Z) ?_)))
   refine Qr (Qw (Qj (QX (Qw (Qj (Qi Z ?_))))))
   first
    | exact (Qd8 hI.2 (by omega)).symm
    | exact (Qan (i := i) (by omega) (Qdv (by omega) (.inl h2))).symm
    | (simp only [Qbg] at *; exact (Qan (i := i) (by omega) (Qdv (by omega) (.inr ⟨by omega, h4⟩))).symm)
  ·try rw [h2]
   try simp only [qA] at h2
   refine Qg Z (Qd Z (Qg Z (Qb7 Z Z (Qg Z (Qd Z ?_)))))
   refine Qv (g := 18) Z (fun h3 => ?_) (fun h3 => ?_)
   ·try rw [h3]
    try simp only [qA] at h3
    refine Qg Z (Qd Z (Qg Z (Qd Z (Qg Z (Qfk Z Z (by first | exact Qz (by omega) (by omega) | exact QJ (by omega) (by omega) | exact QT (by omega) (by omega) | rfl) (Qg Z (Zk Z Z Z (by omega) (Y0 (by omega) (by omega)) Z (Qg Z (Xu Z Z (Qg Z (Zl (ds0 := [3, 2, 1, 0]) (cs := [_, _, _, _, _, _, _]) Z Z Z Z Z Z ?_)))))))))))
    refine Qg Z (Qn Z Z (Qg Z (Zl (ds0 := [3, 2, 1, 0]) (cs := [_, _, _, _, _, _, _]) Z Z Z Z Z Z (Qg Z (Zj (ds0 := [2, 1, 0]) (QaY (hl.at (i := ((i : Int) - 1).toNat) (by omega)).2.1 (hl.at (i := ((i : Int) - 1).toNat) (by omega)).2.2 (hl.at (i := i) (by omega)).1.1 (hl.at (i := i) (by omega)).1.2) Z Z (.inr Z) Z Z (Qg Z (QgZ Z Z (Qg Z (Qh Z Z (Qh Z Z (hK _ _ (Qa (kp5 Z Z Z Z Z) ?_))))))))))))
    refine Qx Z (fun h4 => ?_) (fun h4 => ?_)
    ·try rw [h4]
     try simp only [qA] at h4
     refine Qf fun K hK => Qd Z (hK _ _ (Qa (kp1 Z) ?_))
     refine Qr (Qw (Qj (QX (Qw (Qj (Qi Z ?_))))))
     first
      | exact (Qd8 hI.2 (by omega)).symm
      | exact (Qan (i := i) (by omega) (Qdv (by omega) (.inl h2))).symm
      | (simp only [Qbg] at *; exact (Qan (i := i) (by omega) (Qdv (by omega) (.inr ⟨by omega, h4⟩))).symm)
    ·try rw [h4]
     try simp only [qA] at h4
     refine Qu (Qm (Qe (kp4 Z Z Z Z) (Q6 fun K hK => Zy Z Z (by first | exact Qz (by omega) (by omega) | exact QJ (by omega) (by omega) | exact QT (by omega) (by omega) | rfl) (Qd Z (hK _ ?_)))))
     refine Qq (i + 1) ?_ ?_ ?_
     ·exact Zc (l := [0, 5, 6, 7]) (lH := []) (kp4 rfl rfl rfl rfl) Qt rfl rfl rfl
     ·exact ⟨by omega, Qgk hI.2 (Qjg (by omega) h2 (by first | exact .inl (by omega) | (simp only [Qbg] at *; exact .inr (Int.not_le.1 h4))))⟩
     ·first | omega | (simp only; omega) | (dsimp only; omega)
   ·try rw [h3]
    try simp only [qA] at h3
    refine Qs Z (Qs Z (Qs Z (Qs Z (Qs Z (Qs Z (Qs Z (Qs Z (Qs Z (Qs Z (Qg Z (Qh Z Z ?_)))))))))))
    refine Qh Z Z (hK _ _ (Qa (kp5 Z Z Z Z Z) ?_))
    refine Zr Z (Qu (Qm (Qe (kp4 Z Z Z Z) (Q6 fun K hK => Zy Z Z (by first | exact Qz (by omega) (by omega) | exact QJ (by omega) (by omega) | exact QT (by omega) (by omega) | rfl) (Qd Z (hK _ ?_))))))
    refine Qq (i + 1) ?_ ?_ ?_
    ·exact Zc (l := [0, 5, 6, 7]) (lH := []) (kp4 rfl rfl rfl rfl) Qt rfl rfl rfl
    ·exact ⟨by omega, Qgk hI.2 (Qjg (by omega) h2 (by first | exact .inl (by omega) | (simp only [Qbg] at *; exact .inr (Int.not_le.1 h4))))⟩
    ·first | omega | (simp only; omega) | (dsimp only; omega)
 ·try rw [h1]
  try simp only [qA] at h1
  refine Zp (QN (QC (QP (Qe (QI) (Qf fun K hK => Qd Z (hK _ _ (Qa (kp1 Z) ?_)))))))
  refine Qr (Qi Z ?_)
  first
   | exact (Qd8 hI.2 (by omega)).symm
   | exact (Qan (i := i) (by omega) (Qdv (by omega) (.inl h2))).symm
   | (simp only [Qbg] at *; exact (Qan (i := i) (by omega) (Qdv (by omega) (.inr ⟨by omega, h4⟩))).symm)
theorem Qey {l : List (Cu × Cu)} (hl : Sm l) {a b c : Int} {p q : List UInt8} (hp : p.length <= 1000000) (hq : q.length <= 1000000) : Ok Tryd.prog 61 [ZI l, .agg [.int .i64 a, .int .i64 b, .int .i64 c, .str p, .str q]] (.bool (Qd1 l a b c p q)) := by
 refine Ok.ofT Z7 Tryd.func61 Qmx (Nat.le_of_ble_eq_true Z) ?_
 show TW _ _ tf61.body _ _
 have hn := hl.1
 refine Qf fun K hK => ZP Z Z Z (Qd Z (hK _ _ (Qa (kp2 Z Z) ?_)))
 refine QH ?_ -- 0
 refine Qf fun K hK => Qd Z (QB (Qcg hl) Z Z (.inr Z) (ZW Z (hK _ _ (Qa (kp3 Z Z Z) ?_))))
 refine Qx Z (fun h1 => ?_) (fun h1 => ?_)
 ·try rw [h1]
  try simp only [qA] at h1
  refine Qf fun K hK => Qd Z (hK _ _ (Qa (kp1 Z) ?_))
  refine Qr (Qj (Qi Z ?_))
  first
   | exact (QdR (i := i) (by omega) hI.2).symm
   | exact (QdS h1).symm
   | exact (QdT h1 (i := i) (by omega) h3).symm
 ·try rw [h1]
  try simp only [qA] at h1
  refine Qu (Qe (kp2 Z Z) ?_)
  refine QH ?_ -- 1
  refine Qf fun K hK => Qd Z (ZV Z Z (Qd Z (hK _ _ (Qa (kp4 Z Z Z Z) ?_))))
  refine QK ?_
  refine Z3 (ι := Nat) (fun i => ⟨[(3, .ref 3 0 0), (10, ZI l), (11, .int .i64 l.length), (12, .int .i64 i)], [(3, ⟨[[.int .i64 a, .int .i64 b, .int .i64 c, .str p, .str q]], 5, 49, true⟩)]⟩) (fun i => i <= l.length /\ (l.take i).any (fun s => Qd2 s a b c p q) = false) (fun i => l.length - i) 0 ?_ ?_ ?_
  ·exact Zc (l := [3, 10, 11, 12]) (lH := [3]) (kp4 rfl rfl rfl rfl) (Ql rfl Qt) (by simp [ZI, List.length_map]) rfl rfl
  ·exact ⟨Nat.zero_le _, by simp⟩
  intro i hI
  try dsimp only
  refine Qf fun K hK => Xq Z Z (hK _ _ (Qa (kp5 Z Z Z Z Z) ?_))
  refine QH ?_ -- 2
  refine Qx Z (fun h2 => ?_) (fun h2 => ?_)
  ·try rw [h2]
   try simp only [qA] at h2
   refine Qu (Qe (kp4 Z Z Z Z) ?_)
   refine QH ?_ -- 3
   refine QK (Qf fun K hK => Zk Z Z Z (by omega) (QaM (by omega)) Z (QL (cs := [_, _, _, _, _, _, _, _, _, _, _, _, _, _]) Z Z Z Z (Zi Z (QS Z Z Z Z Z Z Z Z (hK _ _ (Qa (kp5 Z Z Z Z Z) ?_))))))
   refine Qf fun K hK => QL (cs := [_, _, _, _, _, _, _, _, _, _, _, _, _, _]) Z Z Z Z (QL (cs := [_, _, _, _, _]) Z Z Z Z (QB (Qfn (hl.at (i := i) (by omega)).1.1 (hl.at (i := i) (by omega)).1.2 (hl.at (i := i) (by omega)).2.1 (hl.at (i := i) (by omega)).2.2 hp hq) Z Z (.inr Z) (hK _ _ (Qa (kp5 Z Z Z Z Z) ?_))))
   refine Qx Z (fun h3 => ?_) (fun h3 => ?_)
   ·try rw [h3]
    try simp only [qA] at h3
    refine Qf fun K hK => Qd Z (hK _ _ (Qa (kp1 Z) ?_))
    refine Qr (Qw (Qj (QX (Qw (Qj (Qi Z ?_))))))
    first
     | exact (QdR (i := i) (by omega) hI.2).symm
     | exact (QdS h1).symm
     | exact (QdT h1 (i := i) (by omega) h3).symm
   ·try rw [h3]
    try simp only [qA] at h3
    refine Qu (Qm (Qe (kp4 Z Z Z Z) (Q6 fun K hK => Zy Z Z (by first | exact Qz (by omega) (by omega) | exact QJ (by omega) (by omega) | exact QT (by omega) (by omega) | rfl) (Qd Z (hK _ ?_)))))
    refine Qq (i + 1) ?_ ?_ ?_
    ·exact Zc (l := [3, 10, 11, 12]) (lH := [3]) (kp4 rfl rfl rfl rfl) (Ql rfl Qt) rfl rfl rfl
    ·exact ⟨by omega, Qkx (by omega) hI.2 h3⟩
    ·first | omega | (simp only; omega) | (dsimp only; omega)
  ·try rw [h2]
   try simp only [qA] at h2
   refine Zp (QN (QC (QP (Qe (QI) (Qf fun K hK => Qd Z (hK _ _ (Qa (kp1 Z) ?_)))))))
   refine Qr (Qi Z ?_)
   first
    | exact (QdR (i := i) (by omega) hI.2).symm
    | exact (QdS h1).symm
    | exact (QdT h1 (i := i) (by omega) h3).symm
theorem Qa1 {e a b c : Int} {p q : List UInt8} {f : Bool} : Ok Tryd.prog 77 [.agg [.int .i64 e, .int .i64 a, .int .i64 b, .int .i64 c, .str p, .str q, .bool f], gD] (.bool (Y2 e a b c p q f)) := by
 refine Ok.ofTG (ds := [.agg [.int .i64 e, .int .i64 a, .int .i64 b, .int .i64 c, .str p, .str q, .bool f]]) (dg := gD) Z7 Tryd.func77 QmF (Nat.le_of_ble_eq_true Z) ?_
 show TW _ _ tf77.body _ _
 refine Qf fun K hK => ZP Z Z Z (Qd Z (hK _ _ (Qa (kp2 Z Z) ?_)))
 refine Qf fun K hK => Qn Z Z (QD Z Z Z (Yh Z Z (Qd Z ?_)))
 refine Qv (g := 6) Z (fun h1 => ?_) (fun h1 => ?_)
 ·try rw [h1]
  try simp only [qB] at h1
  refine Qs Z (Qs Z (Qs Z (Qs Z (QG Z (QG Z (QG Z (QG Z (Qs Z (Qs Z (QG Z (QG Z ?_)))))))))))
  refine QG Z (QG Z (Qs Z (Qh Z Z (Qd Z (hK _ _ (Qa (kp1 Z) ?_))))))
  refine Qr (Qi Z ?_)
  (repeat clear hK K); simp_all [Y2]
 ·try rw [h1]
  try simp only [qB] at h1
  refine Qg Z (Qn Z Z (Qg Z (QD Z Z Z (Qg Z (ZW Z (Qg Z (Qd Z ?_)))))))
  refine Qv (g := 10) Z (fun h2 => ?_) (fun h2 => ?_)
  ·try rw [h2]
   try simp only [qB] at h2
   refine Qg Z (Qn Z Z (Qg Z (Qn Z Z (Qg Z (QD Z Z Z (Qg Z (Qb6 Z Z (Qg Z (Qh Z Z (Qg Z (Qd Z ?_)))))))))))
   refine Qv (g := 16) Z (fun h3 => ?_) (fun h3 => ?_)
   ·try rw [h3]
    try simp only [qB] at h3
    refine Qg Z (Qn Z Z (Qg Z (QL (cs := [_, _, _, _, _]) Z Z Z Z (Qg Z (QL (cs := [_, _, _, _, _]) Z Z Z Z (Qg Z (Qkr Z Z Z (Qg Z (Qh Z Z (Qh Z Z (Qd Z ?_)))))))))))
    refine hK _ _ (Qa (kp1 Z) ?_)
    refine Qr (Qi Z ?_)
    (repeat clear hK K); simp_all [Y2]
   ·try rw [h3]
    try simp only [qB] at h3
    refine Qs Z (Qs Z (Qs Z (Qs Z (Qg Z (Qh Z Z (Qh Z Z (Qd Z (hK _ _ (Qa (kp1 Z) ?_)))))))))
    refine Qr (Qi Z ?_)
    (repeat clear hK K); simp_all [Y2]
  ·try rw [h2]
   try simp only [qB] at h2
   refine Qs Z (Qs Z (Qs Z (Qs Z (Qg Z (Qh Z Z (Qg Z (Qd Z (Qs Z (Qs Z (Qs Z (Qs Z ?_)))))))))))
   refine Qg Z (Qh Z Z (Qh Z Z (Qd Z (hK _ _ (Qa (kp1 Z) ?_)))))
   refine Qr (Qi Z ?_)
   (repeat clear hK K); simp_all [Y2]
end Go.Proofs
