/- Part 5 of the means of the proof: a verified evaluator and contracts of functions. -/
import Derived.Test.YtggcpapoljmiaaaGreatDoorC4
import Derived.KernelRfl
import Derived.Test.YtggcpapoljmiaaaGreatDoorProg
set_option maxRecDepth 4000
set_option maxHeartbeats 4000000
set_option linter.unusedSimpArgs false
set_option linter.unusedVariables false
set_option linter.unusedSectionVars false
namespace Go.Proofs
open Go Go.Abs
set_option maxRecDepth 100000
def LZ (P:Program) (nt:Nat) (b:Bool):Code->Option y7
 | .skip=>some .skip
 | .label _=>some .skip
 | .region _ ops draw=>if draw&&b then(Ql P nt ops ops.toList).map .ba else(Ql P nt ops ops.toList).map (.region draw)
 | .seq x y=>match LZ P nt b x,LZ P nt b y with
  |some x',some y'=>some (.seq x' y')
  |_,_=>none
 | .cond c x y=>match Qi c,LZ P nt b x,LZ P nt b y with
  |some c',some x',some y'=>some (.cond c' x' y')
  |_,_,_=>none
 | .block id x=>(LZ P nt b x).map (.block id)
 | .loop x=>(LZ P nt b x).map .loop
 | .scope x=>(LZ P nt b x).map .scope
 | .exit id=>some (.exit id)
 | .ret=>some .ret
 | .rangeFunc g ps az y=>(Qka nt g ps.toList az (LZ P nt b y)).map λt=>.l8 t.1 t.2.1 t.2.2.1 t.2.2.2
 |_=>none
def QtF (P:Program) (b:Bool) (fn:Func):Option a6:=
 match fn.body,Zn P fn.results.toList with
 |some c,some rs=>(LZ P fn.ntmps b c).map λx=>tfN ⟨fn.ntmps,rs,x⟩
 |_,_=>none
@[cbv_eval] theorem nbeq (a b:Nat):Nat.beq a b=decide (a=b):=by rw[Bool.eq_iff_iff];simp[Nat.beq_eq]
@[cbv_eval] theorem nblt (a b:Nat):Nat.blt a b=decide (a<b):=by rw[Bool.eq_iff_iff];simp[Nat.blt_eq]
abbrev TT (b:Bool) (f:Func):={t:a6 // QtF Tryz.prog b f=some t}
theorem tfol:Tryz.prog.follows .mixedOrders=true:=by kernel_rfl
end Go.Proofs
