/- Part 3 of the means of the proof: a verified abstract evaluator and contracts of functions. It states nothing of the claim by itself. -/
import Derived.Test.YtggcpapoljmiaaaGreatDoorB2
set_option maxRecDepth 4000
set_option maxHeartbeats 1000000
set_option linter.unusedSimpArgs false
set_option linter.unusedVariables false
set_option linter.unusedSectionVars false
namespace Go.Abs
open Go
variable {a:AS} {d:D} {s:St} {v:Vl} {ν:List Int}
mutual
def Qau (a:AS):Vl->Tp->Bool
 | .ty t2,t=>t2.le t
 | .nn k x o,t=>match t with
  | .i k2 lo hi=>decide (k=k2)&&(Ju a.cs 0 lo x o&&Ju a.cs x o 0 hi)
  |_=>false
 | .bf _ _,t=>match t with
  | .b=>true
  |_=>false
 | .ss x o,t=>match t with
  | .s n=>Ju a.cs x o 0 n
  |_=>false
 | .ll row x o,t=>match t with
  | .l row2 n=>(Ju a.cs x o 0 0||Tp.pb row row2)&&Ju a.cs x o 0 n
  |_=>false
 | .fl rows,t=>match t with
  | .l row n=>Nat.ble rows.length n&&L7 a rows row
  |_=>false
 | .fx rows,t=>match t with
  | .l row n=>Nat.ble rows.length n&&L7 a rows row
  |_=>false
 | .ei k lo hi _,t=>match t with
  | .i k2 lo2 hi2=>decide (k=k2)&&(decide (lo2<=lo)&&decide (hi<=hi2))
  |_=>false
 |_,_=>false
def QeU (a:AS):List Vl->List Tp->Bool
 |[],ts=>match ts with
  |[]=>true
  |_=>false
 |v::vs,ts=>match ts with
  |t::ts=>Qau a v t&&QeU a vs ts
  |_=>false
def L7 (a:AS):List (List Vl)->List Tp->Bool
 |[],_=>true
 |r::rs,ts=>QeU a r ts&&L7 a rs ts
end
section
variable {ν:List Int} {a:AS} {s:St} (h:a.ok ν s)
include h
mutual
theorem Qcw:∀{v:Vl} {t:Tp} {d:D},Qau a v t=true->v.has ν d->t.has d
 | .ty t2,t,d,C,hv=>Tp.xb C hv
 | .nn k x o,t,d,C,hv=>by
  unfold Qau at C;split at C;simp only[QEm,decide_eq_true_eq]at C;obtain⟨n,rfl,G⟩:=hv;obtain⟨rfl,M,O⟩:=C;exact⟨n,rfl,QX h.cs M (XJ h.z _) G,QX h.cs O G (XJ h.z _)⟩
  grind
 | .bf _ _,t,d,C,hv=>by
  unfold Qau at C;split at C;obtain⟨b,rfl,_⟩:=hv;exact⟨b,rfl⟩
  grind
 | .ss x o,t,d,C,hv=>by
  unfold Qau at C;split at C;obtain⟨l,rfl,G⟩:=hv;have:=QX h.cs C G (XJ h.z _);exact⟨l,rfl,Wa⟩
  grind
 | .ll row x o,t,d,C,hv=>by
  unfold Qau at C;split at C;simp only[QEm,QFu]at C;obtain⟨rows,h0,G,M⟩:=hv;have:=QX h.cs C.2 G (XJ h.z _);refine⟨rows,h0,Wa,λr hr=>?_⟩;rcases C.1 with q |q
  have:=QX h.cs q G (XJ h.z _)
  grind
  grind [Tp.w7]
  grind
 | .fl rows,t,d,C,hv=>by
  unfold Qau at C;split at C;simp only[QEm]at C;obtain⟨rs,rfl,G⟩:=hv;obtain⟨M,O⟩:=KB C.2 G;exact⟨rs,.inr rfl,by simp_all,M⟩
  grind
 | .fx rows,t,d,C,hv=>by
  unfold Qau at C;split at C;simp only[QEm]at C;obtain⟨rs,hd,G⟩:=hv;obtain⟨M,O⟩:=KB C.2 G;exact⟨rs,hd,by simp_all,M⟩
  grind
 | .ei k lo hi tt,t,d,C,hv=>by
  unfold Qau at C;split at C;simp only[QEm,decide_eq_true_eq]at C;obtain⟨n,rfl,G,_⟩:=hv;obtain⟨rfl,M,O⟩:=C;exact⟨n,rfl,Wa,Wa⟩
  grind
 | .tp _ _,_,_,C,_=>by cases C
 | .pv _,_,_,C,_=>by cases C
 | .ii _,_,_,C,_=>by cases C
 | .ld _ _ _ _ _,_,_,C,_=>by cases C
 | .lf _ _ _,_,_,C,_=>by cases C
 | .oo _ _ _,_,_,C,_=>by cases C
 | .rr _ _,_,_,C,_=>by cases C
 | .qq _ _ _ _,_,_,C,_=>by cases C
 | .pp _,_,_,C,_=>by cases C
 | .aa _,_,_,C,_=>by cases C
 | .uu _,_,_,C,_=>by cases C
 | .dd _,_,_,C,_=>by cases C
theorem L6:∀{vs:List Vl} {ts:List Tp} {ds:List D},QeU a vs ts=true->Vl.a5 ν vs ds->Tp.n6 ts ds
 |[],ts,ds,hf,hd=>by
  grind [QeU,Vl.a5,Tp.n6]
 |v::vs,ts,ds,hf,hd=>by
  unfold QeU at hf;split at hf;simp only[QEm]at hf;obtain⟨d,r,rfl,G,C⟩:=hd;exact⟨d,r,rfl,Qcw hf.1 G,L6 hf.2 C⟩
  grind
theorem KB:∀{rows:List (List Vl)} {ts:List Tp} {rs:List (List D)},L7 a rows ts=true->Vl.v7 ν rows rs->(∀r∈rs,Tp.n6 ts r)/\rs.length=rows.length
 |[],ts,rs,hf,hd=>by
  simp only[Vl.v7]at hd;grind
 |v::vs,ts,rs,hf,hd=>by
  simp only[L7,QEm]at hf;obtain⟨d,r,rfl,G,C⟩:=hd;obtain⟨T,O⟩:=KB hf.2 C;have M:=L6 hf.1 G
  grind
end
end
theorem Pb {t:Tp} (h:a.ok ν s) (G:Qau a v t=true) (C:v.has ν d):t.has d:=Qcw h G C
theorem Qa0 (h:a.ok ν s) {vs:List Vl} {ts:List Tp} {ds:List D} (C:QeU a vs ts=true) (hd:Vl.a5 ν vs ds):Tp.n6 ts ds:=L6 h C hd
mutual
def QzV (a:AS):Vl->Option Tp
 | .ty t=>some t
 | .nn k x o=>(match bdN a x o with
  |some (l,h)=>some (.i k l h)
  |none=>none)
 | .bf _ _=>some .b
 | .ss x o=>(match bdN a x o with
  |some (_,h)=>some (.s h.toNat)
  |none=>none)
 | .ll row x o=>(match bdN a x o with
  |some (_,h)=>some (.l row h.toNat)
  |none=>none)
 | .fl rows=>(match rows with
  |[]=>some (.l [] 0)
  |_=>(match QmB a rows with
   |some r=>some (.l r rows.length)
   |none=>none))
 | .fx rows=>(match rows with
  |[]=>some (.l [] 0)
  |_=>(match QmB a rows with
   |some r=>some (.l r rows.length)
   |none=>none))
 |_=>none
def Qq2 (a:AS):List Vl->Option (List Tp)
 |[]=>some []
 |v::vs=>match QzV a v,Qq2 a vs with
  |some t,some ts=>some (t::ts)
  |_,_=>none
def QmB (a:AS):List (List Vl)->Option (List Tp)
 |[]=>none
 |q::qs=>match Qq2 a q with
  |some r=>(match QmB a qs with
   |some r2=>Tp.ig r r2
   |none=>(match qs with
    |[]=>some r
    |_=>none))
  |none=>none
end
def Qje (a:AS):Vl->Option (List Tp × Nat × Int × AS)
 | .fl rows=>(match rows with
  |[]=>some ([],0,0,a)
  |_=>(match QmB a rows with
   |some r=>if L7 a rows r=true then some (r,0,rows.length,a)else none
   |none=>none))
 | .fx rows=>(match rows with
  |[]=>some ([],0,0,a)
  |_=>(match QmB a rows with
   |some r=>if L7 a rows r=true then some (r,0,rows.length,a)else none
   |none=>none))
 | .ld row hx ho lx lo=>some (row,a.nx,0,a.sym ((0,a.nx,0)::(match lbC a.cs fuC lx with
  |some m=>[(a.nx,hx,ho - (m+lo))]
  |none=>[])))
 | .lf row x o=>some (row,x,o,a)
 |v=>toL a v
theorem Xs {a':AS} {row:List Tp} {x:Nat} {o:Int} (h:a.ok ν s) (he:Qje a v=some (row,x,o,a')) (M:v.has ν d):∃e rows,isL d rows/\k7 (ν++e) x o rows.length/\(∀r∈rows,Tp.n6 row r)/\a'.ok (ν++e) s:=by
 unfold Qje at he;split at he;split at he;cases he
 obtain⟨rs,rfl,hr⟩:=M;simp only[Vl.v7]at hr;subst hr;exact⟨[],[],.inr rfl,by rw[QEN];exact XJ h.z _,(λr hr=>by grind),by grind⟩
 split at he;split at he;rename_i U;cases he
 obtain⟨rs,rfl,hr⟩:=M;obtain⟨G,C⟩:=KB h U hr;exact⟨[],rs,.inr rfl,by rw[QEN,C];exact XJ h.z _,G,by grind⟩
 grind
 grind
 split at he;cases he
 obtain⟨rs,hd,hr⟩:=M;simp only[Vl.v7]at hr;subst hr;exact⟨[],[],hd,by rw[QEN];exact XJ h.z _,(λr hr=>by grind),by grind⟩
 split at he;split at he;rename_i U;cases he
 obtain⟨rs,hd,hr⟩:=M;obtain⟨G,C⟩:=KB h U hr;exact⟨[],rs,hd,by rw[QEN,C];exact XJ h.z _,G,by grind⟩
 grind
 grind
 rename_i V hx ho lx lo;cases he
 obtain⟨rows,hd,⟨m,n,G,C,h3⟩,h4⟩:=M;have T:=h.new (rows.length:Int);refine⟨[(rows.length:Int)],rows,hd,⟨_,T,Wa⟩,h4,h.sym _ λc O=>?_⟩;have z:=Kr [(rows.length:Int)] h.z;rcases QEk.1 O with rfl |O
 exact⟨0,_,z,T,by simp⟩;split at O;rename_i q e1;have O:=QEr.1 O;subst O;obtain⟨v,q1,q2⟩:=G;obtain⟨w,Y,q4⟩:=C;have:=G7 h.cs h.z e1 Y;exact⟨_,v,T,Kr _ q1,by grind⟩
 grind
 cases he
 obtain⟨rows,rfl,G,C⟩:=M;exact⟨[],rows,.inr rfl,G.ext [],C,by grind⟩
 grind [QiD]
end Go.Abs
namespace Go.Abs
open Go
variable {d:D} {v:Vl} {ν:List Int}
section
variable {ν:List Int}
theorem YH:∀{vs:List Vl} {ds:List D},Vl.a5 ν vs ds->ds.length=vs.length
 |[],ds,h=>by grind [Vl.a5]
 |v::vs,ds,h=>by obtain⟨d,r,rfl,_,h⟩:=h;simp[YH h]
theorem K1:∀{vs:List Vl} {ds:List D} {i:Nat} {v:Vl},Vl.a5 ν vs ds->vs[i]?=some v->∃d,ds[i]?=some d/\v.has ν d
 |[],ds,i,v,h,hi=>by grind
 |x::vs,ds,i,v,h,hi=>by
  obtain⟨d,r,rfl,C,h⟩:=h;cases i with
  |zero=>grind
  |succ i=>simp only[List.getElem?_cons_succ]at hi ⊢;exact K1 h hi
theorem HO:∀{vs:List Vl} {ds:List D} (n:Nat),Vl.a5 ν vs ds->Vl.a5 ν (vs.drop n) (ds.drop n)
 |vs,ds,0,h=>h
 |[],ds,n+1,h=>by grind [Vl.a5]
 |v::vs,ds,n+1,h=>by obtain⟨d,r,rfl,_,h⟩:=h;exact HO n h
theorem JE:∀{vs:List Vl} {ds:List D} (n:Nat),Vl.a5 ν vs ds->Vl.a5 ν (vs.take n) (ds.take n)
 |vs,ds,0,h=>by rfl
 |[],ds,n+1,h=>by grind [Vl.a5]
 |v::vs,ds,n+1,h=>by obtain⟨d,r,rfl,C,h⟩:=h;exact⟨d,_,rfl,C,JE n h⟩
theorem N7:∀{vs ws:List Vl} {ds es:List D},Vl.a5 ν vs ds->Vl.a5 ν ws es->Vl.a5 ν (vs++ws) (ds++es)
 |[],ws,ds,es,h,h2=>by grind [Vl.a5]
 |v::vs,ws,ds,es,h,h2=>by obtain⟨d,r,rfl,C,h⟩:=h;exact⟨d,_,rfl,C,N7 h h2⟩
theorem Dg:∀{ts:List Tp} {ds:List D},Tp.n6 ts ds->Vl.a5 ν (ts.map Vl.ty) ds
 |[],ds,h=>h
 |t::ts,ds,h=>by obtain⟨d,r,rfl,C,h⟩:=h;exact⟨d,r,rfl,C,Dg h⟩
theorem QcG (z:ν[0]?=some 0):∀(ds:List D),Vl.a5 ν (ds.map cVl) ds
 |[]=>rfl
 |d::ds=>⟨d,ds,rfl,CJ z d,QcG z ds⟩
theorem N9:∀{ts:List Tp} {ds:List D} (n:Nat),Tp.n6 ts ds->Tp.n6 (ts.drop n) (ds.drop n)
 |ts,ds,0,h=>h
 |[],ds,n+1,h=>by grind [Tp.n6]
 |v::vs,ds,n+1,h=>by obtain⟨d,r,rfl,_,h⟩:=h;exact N9 n h
theorem Bo:∀{ts:List Tp} {ds:List D} (n:Nat),Tp.n6 ts ds->Tp.n6 (ts.take n) (ds.take n)
 |ts,ds,0,h=>by rfl
 |[],ds,n+1,h=>by grind [Tp.n6]
 |v::vs,ds,n+1,h=>by obtain⟨d,r,rfl,C,h⟩:=h;exact⟨d,_,rfl,C,Bo n h⟩
theorem Bm {vs:List Vl} {ds:List D} (h:Vl.a5 ν vs ds) (C:vs.head?=some v):∃d,ds.head?=some d/\v.has ν d:=by
 cases vs with
 |nil=>grind
 |cons x vs=>obtain⟨d,r,rfl,G,_⟩:=h;grind
end
def Qrr:Vl->Option (List Vl)
 | .aa cs=>some cs
 | .ty t=>some [.ty t]
 | .nn k x o=>some [.nn k x o]
 | .ii k=>some [.ii k]
 | .bf t f=>some [.bf t f]
 | .ss x o=>some [.ss x o]
 | .ll r x o=>some [.ll r x o]
 | .fl r=>some [.fl r]
 | .fx r=>some [.fx r]
 | .lf r x o=>some [.lf r x o]
 | .pv r=>some [.pv r]
 | .oo k x o=>some [.oo k x o]
 | .rr k o=>some [.rr k o]
 | .qq k x o j=>some [.qq k x o j]
 | .pp c=>some [.pp c]
 |_=>none
theorem Qlj {t:Tp} (h:t.has d):d.cells=some [d]:=by
 cases t<;>simp only[Tp.has]at h<;>obtain⟨_,h⟩:=h
 obtain⟨rfl,_⟩:=h;rfl;subst h;rfl;obtain⟨rfl,_⟩:=h;rfl;obtain⟨_,rfl⟩:=h;rfl;obtain⟨h,_⟩:=h;rcases h with rfl |rfl<;>rfl
 obtain⟨h,_⟩:=h;rcases h with rfl |rfl<;>rfl
theorem L1 {cs:List Vl} (G:Qrr v=some cs) (h:v.has ν d):∃ds,d.cells=some ds/\Vl.a5 ν cs ds:=by
 have one:∀{v:Vl},v.has ν d->d.cells=some [d]->∃ds,d.cells=some ds/\Vl.a5 ν [v] ds:=λh e=>⟨[d],e,d,[],rfl,h,rfl⟩;cases v<;>simp only[Qrr,QEl,reduceCtorEq]at G<;>subst G
 case aa=>obtain⟨ds,rfl,h⟩:=h;exact⟨ds,rfl,h⟩
 case ty=>exact one h (Qlj h)
 case nn=>have C:=h;obtain⟨n,rfl,_⟩:=C;exact one h rfl
 case ii=>have C:=h;obtain⟨n,rfl⟩:=C;exact one h rfl
 case bf=>have C:=h;obtain⟨n,rfl,_⟩:=C;exact one h rfl
 case ss=>have C:=h;obtain⟨n,rfl,_⟩:=C;exact one h rfl
 case ll=>have C:=h;obtain⟨n,C,_⟩:=C;rcases C with rfl |rfl<;>exact one h rfl
 case fl=>have C:=h;obtain⟨n,rfl,_⟩:=C;exact one h rfl
 case lf=>have C:=h;obtain⟨n,rfl,_⟩:=C;exact one h rfl
 case oo=>have C:=h;obtain⟨n,rfl,_⟩:=C;exact one h rfl
 case rr=>have C:=h;simp only[Vl.has]at C;subst C;exact one h rfl
 case qq=>have C:=h;obtain⟨n,rfl,_⟩:=C;exact one h rfl
 case pp=>have C:=h;obtain⟨n,rfl,_⟩:=C;exact one h rfl
 case pv=>have C:=h;obtain⟨n,rfl,_⟩:=C;exact one h rfl
 case fx=>have C:=h;obtain⟨n,C,_⟩:=C;rcases C with rfl |rfl<;>exact one h rfl
def Ql7:Vl->Option IntKind
 | .nn k _ _=>some k
 | .ii k=>some k
 | .ty (.i k _ _)=>some k
 |_=>none
theorem Di {k:IntKind} (h:v.has ν d) (hk:Ql7 v=some k):∃n,d=.int k n:=by
 unfold Ql7 at hk;split at hk<;>cases hk;obtain⟨n,h,_⟩:=h;grind;trivial;obtain⟨n,h,_⟩:=h;grind
def QeS:Vl->Bool
 | .bf _ _=>true
 | .ty .b=>true
 |_=>false
theorem Gb (h:v.has ν d) (hk:QeS v=true):∃b,d=.bool b:=by
 unfold QeS at hk;split at hk;obtain⟨n,h,_⟩:=h;grind;trivial
 grind
def QqS:Vl->Bool
 | .ss _ _=>true
 | .ty (.s _)=>true
 | .ty (.c _)=>true
 |_=>false
theorem D6 (h:v.has ν d) (hk:QqS v=true):∃l,d=.str l:=by
 unfold QqS at hk;split at hk;obtain⟨n,h,_⟩:=h;grind;obtain⟨n,h,_⟩:=h;grind;obtain⟨n,_,h⟩:=h;grind
 grind
def anyB:Vl:=.bf [] []
theorem Nq (b:Bool):anyB.has ν (.bool b):=⟨b,rfl,λ_=>ZF,λ_=>ZF⟩
def Qrv:List Nat->List Vl->List Vl->Bool
 |[],[],[]=>true
 |0::ks,v::vs,w::ws=>(match Ql7 v,Ql7 w with
  |some k,some j=>decide (k=j)
  |_,_=>false)&&Qrv ks vs ws
 |1::ks,v::vs,w::ws=>(QeS v&&QeS w)&&Qrv ks vs ws
 |2::ks,v::vs,w::ws=>(QqS v&&QqS w)&&Qrv ks vs ws
 |_,_,_=>false
theorem L4 {ν:List Int}:∀{ks:List Nat} {vs ws:List Vl} {xs ys:List D},Qrv ks vs ws=true->Vl.a5 ν vs xs->Vl.a5 ν ws ys->∃b,Fz ks xs ys=some b
 |ks,vs,ws,xs,ys,h,hx,C=>by
  unfold Qrv at h;split at h;simp only[Vl.a5]at hx C;subst hx C;trivial;obtain⟨d,r,rfl,M,hx⟩:=hx;obtain⟨e,q,rfl,G,C⟩:=C;simp only[QEm]at h;obtain⟨b,hb⟩:=L4 h.2 hx C;have hk:=h.1;split at hk;rename_i k j e1 e2;obtain⟨m,rfl⟩:=Di M e1;obtain⟨n,rfl⟩:=Di G e2;exact⟨decide (m=n)&&b,by simp_all [Fz]⟩
  grind
  obtain⟨d,r,rfl,M,hx⟩:=hx;obtain⟨e,q,rfl,G,C⟩:=C;simp only[QEm]at h;obtain⟨b,hb⟩:=L4 h.2 hx C;obtain⟨m,rfl⟩:=Gb M h.1.1;obtain⟨n,rfl⟩:=Gb G h.1.2
  grind [Fz]
  obtain⟨d,r,rfl,M,hx⟩:=hx;obtain⟨e,q,rfl,G,C⟩:=C;simp only[QEm]at h;obtain⟨b,hb⟩:=L4 h.2 hx C;obtain⟨m,rfl⟩:=D6 M h.1.1;obtain⟨n,rfl⟩:=D6 G h.1.2
  grind [Fz]
  grind
variable {a a':AS} {bt:Bool} {e:D} {op:BinOp} {p q:Vl} {s:St}
abbrev b8 (ν:List Int) (a':AS) (s:St) (v:Vl) (op:s6):Prop:=∃e d,a'.ok (ν++e) s/\v.has (ν++e) d/\∀(P:Program) (dr:Bool) (dst:Option Nat) (k:St->Prop),k (s.apply dst d none)->step P dr op dst s k
theorem b8.same {op:s6} (h:a.ok ν s) (C:v.has ν d) (G:∀(P:Program) (dr:Bool) (dst:Option Nat) (k:St->Prop),k (s.apply dst d none)->step P dr op dst s k):b8 ν a s v op:=⟨[],d,by grind,C.ext [],G⟩
theorem b8.more {e:List Int} {op:s6} (h:b8 (ν++e) a s v op):b8 ν a s v op:=by
 grind
theorem b8.ic {op:s6} {W:(D->Prop)->Prop} (h:ma ν a s v W) (C:∀(P:Program) (dr:Bool) (dst:Option Nat) (k:St->Prop),W (λd=>k (s.apply dst d none))->step P dr op dst s k):b8 ν a s v op:=by
 grind
def Qnk (cs:List Cn):Bool:=cs.any λc=>Nat.beq c.1 0&&(Nat.beq c.2.1 0&&decide (c.2.2<0))
theorem RR {cs:List Cn} (z:ν[0]?=some 0) (h:Qnk cs=true):¬k8 ν cs:=λC=>by
 simp only[Qnk,QFy,QEm,decide_eq_true_eq]at h;obtain⟨c,G,Y,V,U⟩:=h;obtain⟨a,b,T,O,M⟩:=C c G
 grind [Nat.eq_of_beq_eq_true]
def QcP:Vl->Option Bool
 | .bf t f=>if Qnk f=true then some true else if Qnk t=true then some false else none
 |_=>none
theorem SD {b:Bool} (z:ν[0]?=some 0) (h:v.has ν d) (hk:QcP v=some b):d=.bool b:=by
 unfold QcP at hk;split at hk;obtain⟨c,rfl,G,C⟩:=h;split at hk;rename_i e;cases hk
 cases c
 exact absurd (C rfl) (RR z e);rfl;split at hk;rename_i e;cases hk
 cases c
 rfl;exact absurd (G rfl) (RR z e)
 grind
 grind
def Qla (a:AS) (x:Nat) (o:Int) (y:Nat) (u:Int):Nat × Int × AS:=
 if Nat.beq y 0=true then(x,o+u,a)
 else if Nat.beq x 0=true then(y,o+u,a)
 else(a.nx,0,a.sym ((match bdN a y u with
  |some (l,h)=>[(a.nx,x,o+h),(x,a.nx, -(o+l))]
  |none=>[])++(match bdN a x o with
  |some (l,h)=>[(a.nx,y,u+h),(y,a.nx, -(u+l))]
  |none=>[])))
theorem QbD {x y:Nat} {o u m n:Int} (h:a.ok ν s) (hm:k7 ν x o m) (M:k7 ν y u n):∃e,k7 (ν++e) (Qla a x o y u).1 (Qla a x o y u).2.1 (m+n)/\(Qla a x o y u).2.2.ok (ν++e) s:=by
 unfold Qla;split;rename_i e;have:=QFG e;subst this;obtain⟨w,G,rfl⟩:=M;rw[h.z]at G;cases G;obtain⟨v,O,rfl⟩:=hm;exact⟨[],⟨v,by grind,by grind⟩,by grind⟩;split;rename_i e;have:=QFG e;subst this;obtain⟨w,G,rfl⟩:=hm;rw[h.z]at G;cases G;obtain⟨v,O,rfl⟩:=M;exact⟨[],⟨v,by grind,by grind⟩,by grind⟩;have hw:=h.new (m+n);obtain⟨v,O,e2⟩:=hm.ext [m+n];obtain⟨w,T,U⟩:=M.ext [m+n];refine⟨[m+n],⟨_,hw,(Int.add_zero _).symm⟩,h.sym _ (k8.app ?_ ?_)⟩;split;rename_i l hi e;have b:=Xz h e M;intro c C;simp only[QEk,QEj,or_false]at C;rcases C with rfl |rfl
 exact⟨_,_,hw,O,by grind⟩;exact⟨_,_,O,hw,by grind⟩;exact ZF;split;rename_i l hi e;have b:=Xz h e hm;intro c C;simp only[QEk,QEj,or_false]at C;rcases C with rfl |rfl
 exact⟨_,_,hw,T,by grind⟩;exact⟨_,_,T,hw,by grind⟩;exact ZF
def Qno (a:AS) (op:BinOp) (bt:Bool) (p q:Vl):Option (AS × Vl):=
 match toN a p with
 |some (k,x,o,a1)=>match toN a1 q with
  |some (j,y,u,a2)=>if Pe op=true\/k=j then QwA a2 op k x o y u else none
  |none=>none
 |none=>if QqS p=true/\QqS q=true then(match op with
   | .add=>match gf a p with
    |some (x,o,a1)=>match gf a1 q with
     |some (y,u,a2)=>match bdN a2 x o,bdN a2 y u with
      |some (_,h1),some (_,h2)=>if h1+h2<=9223372036854775807 then some ((Qla a2 x o y u).2.2,.ss (Qla a2 x o y u).1 (Qla a2 x o y u).2.1)else none
      |_,_=>none
     |none=>none
    |none=>none
   | .eql | .neq | .lss | .leq | .gtr | .geq=>some (a,anyB)
   |_=>none)
  else if QeS p=true/\QeS q=true/\bt=true then(match op with
   | .eql | .neq=>some (a,anyB)
   |_=>none)
  else none
theorem Qjw (h:a.ok ν s) (he:Qno a op bt p q=some (a',v)) (hp:p.has ν d) (G:q.has ν e):ma ν a' s v (Qfo op bt d e):=by
 unfold Qno at he;split at he;rename_i k x o a1 e1;split at he;rename_i j y u a2 e2;split at he;rename_i C;obtain⟨f1,m,rfl,V,U⟩:=Z7 h e1 hp;obtain⟨f2,n,rfl,h3,h4⟩:=Z7 U e2 (G.ext f1);obtain⟨f3,r,h5,h6,h7⟩:=Qnt h4 he (V.ext f2) h3;refine⟨f1++(f2++f3),r,by grind,by grind,λkk hk=>⟨C,h7 kk hk⟩⟩
 grind
 grind
 split at he
 ·rename_i C;obtain⟨l1,rfl⟩:=D6 hp C.1;obtain⟨l2,rfl⟩:=D6 G C.2;cases op<;>simp only[reduceCtorEq]at he
  case add=>
   split at he;rename_i x o a1 e1;split at he;rename_i y u a2 e2;split at he;rename_i _ V _ U b1 b2;split at he;rename_i hh;cases he
   obtain⟨f1,m,em,T,Y⟩:=JI h e1 hp;cases em
   obtain⟨f2,n,en,O,M⟩:=JI Y e2 (G.ext f1);cases en
   have c1:=Xz M b1 (T.ext f2);have c2:=Xz M b2 O;obtain⟨f3,q5,q6⟩:=QbD M (T.ext f2) O;refine⟨f1++(f2++f3),.str (l1++l2),by grind,⟨_,rfl, ?_⟩,λkk hk=>⟨Wa,hk⟩⟩
   grind
   grind
   grind
   grind
   grind
  all_goals (cases he;exact ma.same h (Nq _) λkk hk=>hk)
 split at he
 ·rename_i C;obtain⟨b1,rfl⟩:=Gb hp C.1;obtain⟨b2,rfl⟩:=Gb G C.2.1;cases op<;>simp only[reduceCtorEq]at he
  all_goals (cases he;exact ma.same h (Nq _) λkk hk=>⟨C.2.2,hk⟩)
 grind
def QxW (op:BinOp) (p q:Vl):Option Vl:=
 match op,p,q with
 | .add,.ty (.c l),.ty (.c m)=>if Nat.ble (l.length*m.length) 40=true/\(l.all λx=>m.all λy=>Nat.ble (x.length+y.length) 100000)=true then some (.ty (.c (l.flatMap λx=>m.map λy=>x++y)))else none
 | .eql,.ty (.c l),.ty (.c m)=>if(l.all λx=>!m.contains x)=true then some (.bf [Qfk] [])else(match l,m with
   |[x],[y]=>if x=y then some (.bf [] [Qfk])else none
   |_,_=>none)
 | .neq,.ty (.c l),.ty (.c m)=>if(l.all λx=>!m.contains x)=true then some (.bf [] [Qfk])else(match l,m with
   |[x],[y]=>if x=y then some (.bf [Qfk] [])else none
   |_,_=>none)
 | .eql,.ei k _ _ tt,.nn j 0 0=>if k=j then some (.bf tt [])else none
 | .neq,.ei k _ _ tt,.nn j 0 0=>if k=j then some (.bf [] tt)else none
 |_,_,_=>none
theorem QqW (h:a.ok ν s) (he:QxW op p q=some v) (hp:p.has ν d) (T:q.has ν e):ma ν a s v (Qfo op bt d e):=by
 have M:(Vl.bf [] [Qfk]).has ν (.bool true):=⟨true,rfl,λ_=>ZF,λh=>by cases h⟩;have O:(Vl.bf [Qfk] []).has ν (.bool false):=⟨false,rfl,(λh=>by cases h),λ_=>ZF⟩;unfold QxW at he;split at he;rename_i l m;split at he;rename_i Y;cases he
 obtain⟨x,hx,rfl⟩:=hp;obtain⟨y,G,rfl⟩:=T;have hb:=QEi (QEs.1 (QEs.1 Y.2 x hx) y G);exact ma.same h (d:=.str (x++y)) ⟨_,QEp.2 ⟨x,hx,QEw.2 ⟨y,G,rfl⟩⟩,rfl⟩ λkk hk=>⟨Wa,hk⟩
 grind
 rename_i l m;obtain⟨x,hx,rfl⟩:=hp;obtain⟨y,G,rfl⟩:=T;split at he;rename_i Y;cases he
 have V:¬x=y:=λe=>by grind
 exact ma.same h O λkk hk=>by show kk (.bool (decide (x=y)));grind
 split at he;split at he;rename_i e;cases he
 cases QEr.1 hx;cases QEr.1 G;subst e
 exact ma.same h M λkk hk=>by show kk (.bool (decide (x=x)));grind
 grind
 grind
 rename_i l m;obtain⟨x,hx,rfl⟩:=hp;obtain⟨y,G,rfl⟩:=T;split at he;rename_i Y;cases he
 have V:¬x=y:=λe=>by grind
 exact ma.same h M λkk hk=>by show kk (.bool (!decide (x=y)));grind
 split at he;split at he;rename_i e;cases he
 cases QEr.1 hx;cases QEr.1 G;subst e
 exact ma.same h O λkk hk=>by show kk (.bool (!decide (x=x)));grind
 grind
 grind
 split at he;rename_i hk;cases he
 obtain⟨n,rfl,_,h1⟩:=hp;obtain⟨m,rfl,hm⟩:=T;have hm:m=0:=by obtain⟨z,U,q2⟩:=hm;rw[h.z]at U;grind
 subst hm;exact ma.same h (d:=.bool (decide (n=0))) ⟨_,rfl,λq=>h1 (of_decide_eq_true q),λ_=>ZF⟩ λkk C=>⟨.inr hk,C⟩
 grind
 split at he;rename_i hk;cases he
 obtain⟨n,rfl,_,h1⟩:=hp;obtain⟨m,rfl,hm⟩:=T;have hm:m=0:=by obtain⟨z,U,q2⟩:=hm;rw[h.z]at U;grind
 subst hm;exact ma.same h (d:=.bool (!decide (n=0))) ⟨_,rfl,λ_=>ZF,λq=>h1 (of_decide_eq_true Wc)⟩ λkk C=>⟨.inr hk,C⟩
 grind
 grind
def Qwy (a:AS) (op:BinOp) (bt:Bool) (p q:Vl):Option (AS × Vl):=
 match QxW op p q with
 |some v=>some (a,v)
 |none=>Qno a op bt p q
theorem Qnp (h:a.ok ν s) (he:Qwy a op bt p q=some (a',v)) (hp:p.has ν d) (C:q.has ν e):ma ν a' s v (Qfo op bt d e):=by
 unfold Qwy at he;split at he;rename_i w e1;cases he
 exact QqW h e1 hp C
 grind [Qjw]
end Go.Abs
namespace Go.Abs
open Go
variable {a a':AS} {d e:D} {i p v:Vl} {n o:Int} {s:St} {x:Nat} {ν:List Int}
def Qxb (a:AS):Vl->Option (AS × Vl)
 | .oo k x o=>some (a,.nn .i64 x o)
 | .fl rows=>some (a,.nn .i64 0 rows.length)
 |v=>match Qje a v with
  |some (_,x,o,a1)=>some (a1,.nn .i64 x o)
  |none=>none
theorem SA {ν:List Int}:∀{vs:List (List Vl)} {rs:List (List D)},Vl.v7 ν vs rs->rs.length=vs.length
 |[],rs,h=>by grind [Vl.v7]
 |v::vs,rs,h=>by obtain⟨d,r,rfl,_,h⟩:=h;simp[SA h]
theorem Qoo (h:a.ok ν s) (he:Qxb a p=some (a',v)) (hp:p.has ν d):∃e n,QgQ d=some n/\a'.ok (ν++e) s/\v.has (ν++e) (.int .i64 n):=by
 have same:∀{n:Int} {x:Nat} {o:Int},QgQ d=some n->k7 ν x o n->∃e n,QgQ d=some n/\a.ok (ν++e) s/\(Vl.nn .i64 x o).has (ν++e) (.int .i64 n):=λ{n x o} C G=>⟨[],n,C,by grind,n,rfl,G.ext []⟩;unfold Qxb at he;split at he;cases he
 obtain⟨n,rfl,C⟩:=hp;exact same rfl C;cases he
 obtain⟨rs,rfl,C⟩:=hp;exact same (n:=(rs.length:Int)) rfl (by rw[SA C];exact XJ h.z _)
 split at he;rename_i e1;cases he
 obtain⟨f1,rows,h0,C,_,G⟩:=Xs h e1 hp;exact⟨f1,rows.length,by rcases h0 with rfl |rfl<;>rfl,G,rows.length,rfl,C⟩
 grind
def QuM (a:AS) (k:IntKind) (x:Nat) (o:Int) (y:Nat) (u:Int):AS × Vl:=
 match bdN a x o,bdN a y u with
 |some (l1,h1),some (l2,h2)=>SS a k (min l1 l2) (min h1 h2) [(a.nx,x,o),(a.nx,y,u)]
 |_,_=>(a,.ii k)
def QuL (a:AS) (k:IntKind) (x:Nat) (o:Int) (y:Nat) (u:Int):AS × Vl:=
 match bdN a x o,bdN a y u with
 |some (l1,h1),some (l2,h2)=>SS a k (max l1 l2) (max h1 h2) [(x,a.nx, -o),(y,a.nx, -u)]
 |_,_=>(a,.ii k)
section
variable {ν:List Int} {a:AS} {s:St} (h:a.ok ν s) {k:IntKind} {x y:Nat} {o u m n:Int}
include h
theorem QoB (hm:k7 ν x o m) (C:k7 ν y u n):ma ν (QuM a k x o y u).1 s (QuM a k x o y u).2 (λkk=>kk (.int k (min m n))):=by
 unfold QuM;split;rename_i l1 h1 l2 Y e1 e2;have b1:=Xz h e1 hm;have b2:=Xz h e2 C;refine Z4 h Wa Wa (λc G=>?_) λkk q=>q;obtain⟨v,T,V⟩:=hm.ext [min m n];obtain⟨w,O,U⟩:=C.ext [min m n];have M:=h.new (min m n);simp only[QEk,QEj,or_false]at G;rcases G with rfl |rfl
 exact⟨_,_,M,T,by grind⟩;exact⟨_,_,M,O,by grind⟩;exact ma.same h ⟨_,rfl⟩ λkk q=>q
theorem QoA (hm:k7 ν x o m) (C:k7 ν y u n):ma ν (QuL a k x o y u).1 s (QuL a k x o y u).2 (λkk=>kk (.int k (max m n))):=by
 unfold QuL;split;rename_i l1 h1 l2 Y e1 e2;have b1:=Xz h e1 hm;have b2:=Xz h e2 C;refine Z4 h Wa Wa (λc G=>?_) λkk q=>q;obtain⟨v,T,V⟩:=hm.ext [max m n];obtain⟨w,O,U⟩:=C.ext [max m n];have M:=h.new (max m n);simp only[QEk,QEj,or_false]at G;rcases G with rfl |rfl
 exact⟨_,_,T,M,by grind⟩;exact⟨_,_,O,M,by grind⟩;exact ma.same h ⟨_,rfl⟩ λkk q=>q
end
def atA (a:AS):Vl->Option (List Vl)
 | .pp cells=>some (cells.map Vl.ty)
 | .pv cells=>some cells
 | .rr k off=>match lk a.H k with
  |some (.cc cells _ _)=>some (cells.drop off)
  |_=>none
 | .qq k x o off=>match lk a.H k with
  |some (.ww row y u _ _)=>if Ju a.cs 0 0 x o=true/\Ju a.cs x (o+1) y u=true then some ((row.drop off).map Vl.ty)else none
  |_=>none
 |_=>none
theorem Qb0 {cs:List Vl} (h:a.ok ν s) (he:atA a p=some cs) (hp:p.has ν d):∃ds,s.md d=some ds/\Vl.a5 ν cs ds:=by
 unfold atA at he;split at he;cases he
 obtain⟨ds,rfl,C⟩:=hp;exact⟨ds,rfl,Dg C⟩;cases he
 obtain⟨ds,rfl,C⟩:=hp;exact⟨ds,rfl,C⟩;split at he;rename_i e1;cases he
 obtain⟨b,hb,C⟩:=RL.get h.H e1;obtain⟨ds,rfl,G⟩:=C
 (repeat clear hK K);simp_all [Vl.has,St.md,HO]
 grind
 split at he;rename_i e1;split at he;rename_i M;cases he
 obtain⟨b,hb,C⟩:=RL.get h.H e1;obtain⟨rows,rfl,G,T⟩:=C;obtain⟨i,rfl,O⟩:=hp;have U:=QX h.cs M.2 (show k7 ν _ _ ((i:Int)+1) from let⟨v,w1,w2⟩:=O;⟨v,w1,Wa⟩) G
 have hi:i<rows.length:=Wa;refine⟨(rows[i]).drop _,by grind [St.md],Dg (N9 _ (T _ (QEn hi)))⟩
 all_goals grind
def Qta (a:AS) (agg:Bool) (sz:Nat) (p:Vl):Option Vl:=
 match atA a p with
 |some cs=>match agg with
  |true=>if Nat.ble sz cs.length=true then some (.aa (cs.take sz))else none
  |false=>cs.head?
 |none=>none
def Qzq:Vl->Nat->Int->Option (List Vl)
 | .fx rows,x,o=>if Nat.beq x 0=true then rows[o.toNat]? else none
 |_,_,_=>none
theorem Bp {ν:List Int}:∀{vs:List (List Vl)} {rs:List (List D)} {i:Nat} {v:List Vl},Vl.v7 ν vs rs->vs[i]?=some v->∃r,rs[i]?=some r/\Vl.a5 ν v r
 |[],rs,i,v,h,hi=>by grind
 |w::vs,rs,0,v,h,hi=>by
  obtain⟨r,q,rfl,G,C⟩:=h
  grind
 |w::vs,rs,i+1,v,h,hi=>by
  obtain⟨r,q,rfl,G,C⟩:=h;rw[List.getElem?_cons_succ]at hi ⊢;exact Bp C hi
def Qw6 (a:AS) (l0:Nat) (p i:Vl):Option (AS × Vl):=
 match toN a i with
 |some (_,x,o,a1)=>if Ju a1.cs 0 0 x o=true then(match p with
   | .oo k y u=>(match lk a1.H k with
    |some (.ww row z w e _)=>if Ju a1.cs x (o+1) y u=true/\Nat.beq e l0=true/\Nat.beq y z=true/\decide (u=w)=true then some (a1,.qq k x o 0)else none
    |_=>none)
   |p=>(match Qzq p x o with
    |some row=>if Nat.beq row.length l0=true then some (a1,.pv row)else none
    |none=>(match Qje a1 p with
     |some (row,y,u,a2)=>if Ju a2.cs x (o+1) y u=true/\Nat.beq row.length l0=true then some (a2,.pp row)else none
     |none=>none)))else none
 |none=>none
theorem k7.up (h:k7 ν x o n) (c:Int):k7 ν x (o+c) (n+c):=let⟨v,h1,h2⟩:=h;⟨v,h1,Wa⟩
theorem k7.inj {m:Int} (h:k7 ν x o n) (C:k7 ν x o m):n=m:=by
 obtain⟨v,M,rfl⟩:=h;obtain⟨w,G,rfl⟩:=C
 grind
theorem Qod {l0:Nat} (h:a.ok ν s) (he:Qw6 a l0 p i=some (a',v)) (hp:p.has ν d) (hi:i.has ν e):ma ν a' s v (QcM s l0 e d):=by
 unfold Qw6 at he;split at he;rename_i k0 x o a1 e1;obtain⟨f1,n,rfl,O,C⟩:=Z7 h e1 hi;split at he;rename_i h0;have n0:=QX C.cs h0 (XJ C.z 0) O;split at he;rename_i k y u;split at he;rename_i row z w ee et e2;split at he;rename_i G;cases he
 obtain⟨b,hb,V⟩:=RL.get C.H e2;obtain⟨rows,rfl,M,U⟩:=V;obtain⟨m,rfl,h4⟩:=hp;have T:=h4.ext f1;have e5:=QFG G.2.2.1;have e6:=of_decide_eq_true G.2.2.2;subst e5 e6;have e7:=k7.inj T M;have e8:=QX C.cs G.1 (O.up 1) T;refine⟨f1,.ref k n.toNat 0,C,⟨n.toNat,rfl,by grind⟩,λkk hk=>⟨_,hb,by grind,n0,Wa,QFG G.2.1,hk⟩⟩
 grind
 grind
 rename_i pv _;split at he;rename_i row e2;split at he;rename_i G;cases he
 unfold Qzq at e2;split at e2;split at e2;rename_i hx;rw[QFG hx]at O;have hn:n=o:=k7.inj O (XJ C.z o);subst hn;obtain⟨rs,hd,V⟩:=hp;obtain⟨r,M,U⟩:=Bp V e2;refine⟨f1,.ptr r,C,⟨r,rfl,U.ext f1⟩,λkk hk=>?_⟩;have key:S4 rs n l0 λrow=>kk (.ptr row):=⟨r,n0,M,by rw[YH U];simp_all,hk⟩
 rcases hd with rfl |rfl<;>exact key
 grind
 grind
 grind
 split at he;rename_i row y u a2 e2;split at he;rename_i G;cases he
 obtain⟨f2,rows,hd,V,M,U⟩:=Xs C e2 (hp.ext f1);have e8:=QX U.cs G.1 ((O.ext f2).up 1) V;have Y:n.toNat<rows.length:=Wa;refine⟨f1++f2,.ptr rows[n.toNat],by grind,⟨_,rfl,M _ (QEn Y)⟩,λkk hk=>?_⟩;have key:S4 rows n l0 λrow=>kk (.ptr row):=⟨rows[n.toNat],n0,by simp, ?_,hk⟩;rcases hd with rfl |rfl<;>exact key
 rw[Tp.vc (M _ (QEn Y))];simp_all
 all_goals grind
def Qw7 (a:AS) (p i:Vl):Option (AS × Vl):=
 match toN a i with
 |some (_,x,o,a1)=>(match gf a1 p with
  |some (y,u,a2)=>if Ju a2.cs 0 0 x o=true/\Ju a2.cs x (o+1) y u=true then some (SS a2 .u8 0 255 [])else none
  |none=>none)
 |none=>none
theorem Qoe (h:a.ok ν s) (he:Qw7 a p i=some (a',v)) (hp:p.has ν d) (hi:i.has ν e):ma ν a' s v (Mc e d):=by
 unfold Qw7 at he;split at he;rename_i k0 x o a1 e1;obtain⟨f1,n,rfl,M,U⟩:=Z7 h e1 hi;split at he;rename_i y u a2 e2;split at he;rename_i O;have G:=QFD he;obtain⟨f2,l,rfl,V,C⟩:=JI U e2 (hp.ext f1);have n0:=QX C.cs O.1 (XJ C.z 0) (M.ext f2);have e8:=QX C.cs O.2 ((M.ext f2).up 1) V;have Y:n.toNat<l.length:=Wa;have hc:l[n.toNat].toNat<=255:=by have:=l[n.toNat].toNat_lt;omega
 obtain⟨f3,dd,w1,w2,T⟩:=Z4 C (k:=.u8) (lo:=0) (hi:=255) (r:=l[n.toNat].toNat) (cs:=[]) Wa Wa ZF (W:=λkk=>kk (.int .u8 l[n.toNat].toNat)) λkk q=>q;rw[G]at w1 w2;exact⟨f1++(f2++f3),dd,by grind,by grind,λkk hk=>⟨l[n.toNat],n0,by simp,T kk hk⟩⟩
 all_goals grind
end Go.Abs
namespace Go.Abs
open Go
variable {a a':AS} {d:D} {l0 hx lx:Nat} {hi lo:Option y5} {ho m n:Int} {p v:Vl} {s:St} {x:y5} {ν:List Int}
def bdA (a:AS) (x:Option y5) (dx:Nat) (d0:Int):Option (Nat × Int × AS):=
 match x with
 |none=>some (dx,d0,a)
 |some y=>match evA a y with
  |some v=>(match toN a v with
   |some (_,x,o,a1)=>some (x,o,a1)
   |none=>none)
  |none=>none
theorem RU {x:Option y5} {C z:Nat} {d0 o:Int} {df:Nat} (h:a.ok ν s) (he:bdA a x C d0=some (z,o,a')) (hd:k7 ν C d0 df):∃e n,s.kb x df=some n/\k7 (ν++e) z o n/\a'.ok (ν++e) s:=by
 unfold bdA at he;split at he;cases he
 exact⟨[],df,rfl,hd.ext [],by grind⟩;split at he;rename_i v G;split at he;rename_i e1;cases he
 obtain⟨d,U,M⟩:=Q4 h G;obtain⟨f,n,rfl,T,O⟩:=Z7 h e1 M
 grind [St.kb]
 grind
 grind
def QaR (a:AS) (hx:Nat) (ho:Int) (lx:Nat) (lo:Int):Nat × Int × AS:=
 if Nat.beq lx 0=true then(hx,ho - lo,a)
 else if Nat.beq hx lx=true then(0,ho - lo,a)
 else(a.nx,0,a.sym [(0,a.nx,0),(a.nx,hx,match lbC a.cs fuC lx with
  |some m=>ho - (m+lo)
  |none=>ho)])
theorem QaS {lo:Int} (h:a.ok ν s) (hm:k7 ν hx ho m) (M:k7 ν lx lo n) (h0:0<=n) (hle:n<=m):∃e,k7 (ν++e) (QaR a hx ho lx lo).1 (QaR a hx ho lx lo).2.1 (m - n)/\(QaR a hx ho lx lo).2.2.ok (ν++e) s:=by
 unfold QaR;split;rename_i e;have:=QFG e;subst this;obtain⟨w,C,rfl⟩:=M;rw[h.z]at C;cases C;obtain⟨v,G,rfl⟩:=hm;exact⟨[],⟨v,by grind,by grind⟩,by grind⟩;split;rename_i e;have:=QFG e;subst this;obtain⟨w,C,rfl⟩:=M;obtain⟨v,G,rfl⟩:=hm;rw[C]at G;cases G;exact⟨[],⟨0,by rw[QEN];exact h.z,by grind⟩,by grind⟩
 have hw:=h.new (m - n);obtain⟨v,G,e2⟩:=hm.ext [m - n];refine⟨[m - n],⟨_,hw,(Int.add_zero _).symm⟩,h.sym _ λc O=>?_⟩;have z:=Kr [m - n] h.z;simp only[QEk,QEj,or_false]at O;rcases O with rfl |rfl
 exact⟨0,_,z,hw,by grind⟩;refine⟨_,_,hw,G, ?_⟩;simp only;split;rename_i q e;obtain⟨w,C,e1⟩:=M;have:=G7 h.cs h.z e C;omega;omega
def QuE (a:AS) (row:List Tp) (hx:Nat) (ho:Int) (lx:Nat) (lo:Int):AS × Vl:=
 if Nat.beq lx 0=true\/Nat.beq hx lx=true then((QaR a hx ho lx lo).2.2,.ll row (QaR a hx ho lx lo).1 (QaR a hx ho lx lo).2.1)else(a,.ld row hx ho lx lo)
theorem QnR {row:List Tp} {lo:Int} {rows:List (List D)} (h:a.ok ν s) (hm:k7 ν hx ho m) (C:k7 ν lx lo n) (h0:0<=n) (hle:n<=m) (G:(rows.length:Int)=m - n) (hr:∀r∈rows,Tp.n6 row r):∃e,(QuE a row hx ho lx lo).1.ok (ν++e) s/\(QuE a row hx ho lx lo).2.has (ν++e) (.sl rows):=by
 unfold QuE;split;obtain⟨e,w1,w2⟩:=QaS h hm C h0 hle;exact⟨e,w2,rows,.inl rfl,by grind,hr⟩;exact⟨[],by grind,rows,.inl rfl,⟨m,n,hm.ext [],C.ext [],G⟩,hr⟩
def QxG (a:AS) (l0:Nat) (p:Vl) (lo hi:Option y5):Option (AS × Vl):=
 match Qje a p with
 |some (row,y,u,a1)=>(match bdA a1 lo 0 0 with
  |some (lx,lo',a2)=>(match bdA a2 hi y u with
   |some (hx,ho,a3)=>if Ju a3.cs 0 0 lx lo'=true/\Ju a3.cs lx lo' hx ho=true/\Ju a3.cs hx ho y u=true/\(Nat.beq row.length l0||(Nat.beq y 0&&decide (u=0)))=true then
     some (QuE a3 row hx ho lx lo')else none
   |none=>none)
  |none=>none)
 |none=>none
theorem Qpv (h:a.ok ν s) (he:QxG a l0 p lo hi=some (a',v)) (hx:s.ev x=some d) (hp:p.has ν d):b8 ν a' s v (.slice l0 x lo hi none):=by
 unfold QxG at he;split at he;rename_i row y u a1 e1;split at he;rename_i lx lo' a2 e2;split at he;rename_i hx' ho a3 e3;split at he;rename_i M;have he:=QFD he;obtain⟨f1,rows,hd,V,Y,U⟩:=Xs h e1 hp;obtain⟨f2,l,q4,T,q6⟩:=RU (df:=0) U e2 (XJ U.z 0);obtain⟨f3,m,q7,O,G⟩:=RU (df:=rows.length) q6 e3 (V.ext f2);have c1:=QX G.cs M.1 (XJ G.z 0) (T.ext f3);have c2:=QX G.cs M.2.1 (T.ext f3) O;have c3:=QX G.cs M.2.2.1 O ((V.ext f2).ext f3);have e:((((rows.take m.toNat).drop l.toNat).length:Nat):Int)=m - l:=by grind
 obtain⟨f4,w2,w1⟩:=QnR (row:=row) (rows:=(rows.take m.toNat).drop l.toNat) G O (T.ext f3) c1 c2 e λr hr=>Y r (QEC (QEL hr));rw[he]at w1 w2;refine⟨f1++(f2++(f3++f4)),.sl ((rows.take m.toNat).drop l.toNat),by grind,by grind,λP dr dst k hk=>.inl ⟨_,hx,rows,by rcases hd with rfl |rfl<;>rfl,l,q4,m,q7,c1,c2,c3,λr hr=>?_,hk⟩⟩
 have C:=M.2.2.2;simp only[QFu,QEm,decide_eq_true_eq]at C;rcases C with e |⟨e,rfl⟩
 rw[Tp.vc (Y r hr)];simp_all;have e:=QFG e;subst e;have e2:=k7.inj V (XJ U.z 0)
 all_goals grind
def QxH (a:AS) (l0:Nat) (p:Vl) (hi m:y5):Option (AS × Vl):=
 match Qje a p with
 |some (row,y,u,a1)=>(match bdA a1 (some hi) 0 0 with
  |some (hx,ho,a2)=>(match bdA a2 (some m) 0 0 with
   |some (mx,mo,a3)=>if Nat.beq hx mx=true/\decide (ho=mo)=true/\Ju a3.cs 0 0 hx ho=true/\Ju a3.cs hx ho y u=true/\Nat.beq row.length l0=true then some (a3,.lf row hx ho)else none
   |none=>none)
  |none=>none)
 |none=>none
theorem Qpw {hi m:y5} (h:a.ok ν s) (he:QxH a l0 p hi m=some (a',v)) (hx:s.ev x=some d) (hp:p.has ν d):b8 ν a' s v (.slice l0 x none (some hi) (some m)):=by
 unfold QxH at he;split at he;rename_i row y u a1 e1;split at he;rename_i hx' ho a2 e2;split at he;rename_i mx mo a3 e3;split at he;rename_i C;cases he
 obtain⟨f1,rows,hd,q1,U,T⟩:=Xs h e1 hp;obtain⟨f2,l,Y,V,O⟩:=RU (df:=0) T e2 (XJ T.z 0);obtain⟨f3,k,q7,M,G⟩:=RU (df:=0) O e3 (XJ O.z 0);have e4:=QFG C.1;have e5:=of_decide_eq_true C.2.1;subst e4 e5;have e6:l=k:=k7.inj (V.ext f3) M;subst e6;have c2:=QX G.cs C.2.2.1 (XJ G.z 0) M;have c3:=QX G.cs C.2.2.2.1 M ((q1.ext f2).ext f3);have hl:∀r∈rows,r.length=l0:=λr hr=>by rw[Tp.vc (U r hr)];simp_all
 have e:(((rows.take l.toNat).length:Nat):Int)=l:=by grind
 refine⟨f1++(f2++f3),.u7 (rows.take l.toNat),by grind,⟨_,rfl,by grind,λr hr=>U r (QEC hr)⟩,λP dr dst kk hk=>.inl ⟨_,hx,rows,by rcases hd with rfl |rfl<;>rfl,0,rfl,l,Y, ?_⟩⟩
 trivial
 all_goals grind
def QxI (a:AS) (p:Vl) (lo hi:Option y5):Option (AS × Vl):=
 match gf a p with
 |some (y,u,a1)=>(match bdA a1 lo 0 0 with
  |some (lx,lo',a2)=>(match bdA a2 hi y u with
   |some (hx,ho,a3)=>if Ju a3.cs 0 0 lx lo'=true/\Ju a3.cs lx lo' hx ho=true/\Ju a3.cs hx ho y u=true then
     some ((QaR a3 hx ho lx lo').2.2,.ss (QaR a3 hx ho lx lo').1 (QaR a3 hx ho lx lo').2.1)else none
   |none=>none)
  |none=>none)
 |none=>none
theorem Qpx (h:a.ok ν s) (he:QxI a p lo hi=some (a',v)) (hx:s.ev x=some d) (hp:p.has ν d):b8 ν a' s v (.o8 x lo hi):=by
 unfold QxI at he;split at he;rename_i y u a1 e1;split at he;rename_i lx lo' a2 e2;split at he;rename_i hx' ho a3 e3;split at he;rename_i O;cases he
 obtain⟨f1,c,rfl,U,T⟩:=JI h e1 hp;obtain⟨f2,l,q4,M,q6⟩:=RU (df:=0) T e2 (XJ T.z 0);obtain⟨f3,m,q7,G,C⟩:=RU (df:=c.length) q6 e3 (U.ext f2);have Y:=QX C.cs O.1 (XJ C.z 0) (M.ext f3);have V:=QX C.cs O.2.1 (M.ext f3) G;have c3:=QX C.cs O.2.2 G ((U.ext f2).ext f3);obtain⟨f4,w1,w2⟩:=QaS C G (M.ext f3) Y V;refine⟨f1++(f2++(f3++f4)),.str ((c.take m.toNat).drop l.toNat),by grind,⟨_,rfl, ?_⟩,λP dr dst k hk=>⟨_,hx,c,rfl,l,q4,m,q7,Y,V,c3,hk⟩⟩
 all_goals grind
def BR (a:AS):List (Nat × Nat × y5)->List Vl->Option (List Vl)
 |[],vs=>some vs
 |(off,size,x)::r,vs=>match evA a x with
  |some v=>(match Qrr v with
   |some cs=>if cs.length=size/\off+size<=vs.length then BR a r (vs.take off++cs++vs.drop (off+size))else none
   |none=>none)
  |none=>none
theorem BS {ν:List Int} {a:AS} {s:St} (h:a.ok ν s):∀{parts:List (Nat × Nat × y5)} {vs ws:List Vl} {ds:List D},BR a parts vs=some ws->Vl.a5 ν vs ds->∃C es,X1 s parts=some C/\Sj ds C=some es/\Vl.a5 ν ws es
 |[],vs,ws,ds,he,hv=>by simp only[BR,QEl]at he;subst he;exact⟨[],ds,rfl,rfl,hv⟩
 |(off,size,x)::r,vs,ws,ds,he,hv=>by
  simp only[BR]at he;split at he;rename_i v e1;split at he;rename_i cs e2;split at he;rename_i T;obtain⟨d,h1,M⟩:=Q4 h e1;obtain⟨O,h3,G⟩:=L1 e2 M;have l1:=YH G;have l2:=YH hv;obtain⟨C,es,Y,V,U⟩:=BS h he (N7 (N7 (JE off hv) G) (HO (off+size) hv))
  (repeat clear hK K);simp_all [X1,Sj]
  grind
  grind
  grind
def QuG (a:AS) (off:Nat):Vl->Option Vl
 | .pp cells=>if off<=cells.length then some (.pp (cells.drop off))else none
 | .pv cells=>if off<=cells.length then some (.pv (cells.drop off))else none
 | .rr k j=>match lk a.H k with
  |some _=>some (.rr k (j+off))
  |none=>none
 | .qq k x o j=>match lk a.H k with
  |some _=>some (.qq k x o (j+off))
  |none=>none
 |_=>none
theorem QfZ {off:Nat} (h:a.ok ν s) (he:QuG a off p=some v) (hp:p.has ν d):∃e,v.has ν e/\∀kk:D->Prop,kk e->PE s off d kk:=by
 unfold QuG at he;split at he;split at he;rename_i G;cases he
 obtain⟨ds,rfl,C⟩:=hp;exact⟨_,⟨_,rfl,N9 off C⟩,λkk hk=>⟨by grind [Tp.vc],hk⟩⟩
 grind
 split at he;rename_i G;cases he
 obtain⟨ds,rfl,C⟩:=hp;exact⟨_,⟨_,rfl,HO off C⟩,λkk hk=>⟨by grind [YH],hk⟩⟩
 grind
 split at he;rename_i e1;cases he
 obtain⟨b,hb,_⟩:=RL.get h.H e1;simp only[Vl.has]at hp;subst hp;exact⟨_,rfl,λkk hk=>⟨by grind,hk⟩⟩
 grind
 split at he;rename_i e1;cases he
 obtain⟨b,hb,_⟩:=RL.get h.H e1;obtain⟨i,rfl,C⟩:=hp;exact⟨_,⟨i,rfl,C⟩,λkk hk=>⟨by grind,hk⟩⟩
 grind
 grind
variable {e:D} {i:Vl}
def Vl.y4:Vl->List Nat
 | .oo k _ _=>[k]
 | .rr k _=>[k]
 | .qq k _ _ _=>[k]
 | .dd d=>d.y4
 |_=>[]
def Vl.ids:Vl->List Nat
 | .aa cs=>cs.flatMap Vl.y4
 | .tp cs _=>cs.flatMap Vl.y4
 | .dd d=>d.ids
 |v=>v.y4
theorem Vl.bc (h:v.has ν d):d.y4=v.y4:=by
 cases v<;>simp only[Vl.y4]
 case ty=>exact Tp.y4 h
 case nn=>obtain⟨n,rfl,_⟩:=h;rfl
 case ii=>obtain⟨n,rfl⟩:=h;rfl
 case bf=>obtain⟨n,rfl,_⟩:=h;rfl
 case ss=>obtain⟨n,rfl,_⟩:=h;rfl
 case ll=>obtain⟨n,h,_⟩:=h;rcases h with rfl |rfl<;>rfl
 case ld=>obtain⟨n,h,_⟩:=h;rcases h with rfl |rfl<;>rfl
 case fx=>obtain⟨n,h,_⟩:=h;rcases h with rfl |rfl<;>rfl
 case fl=>obtain⟨n,rfl,_⟩:=h;rfl
 case lf=>obtain⟨n,rfl,_⟩:=h;rfl
 case oo=>obtain⟨n,rfl,_⟩:=h;rfl
 case rr=>simp only[Vl.has]at h;subst h;rfl
 case qq=>obtain⟨n,rfl,_⟩:=h;rfl
 case pp=>obtain⟨n,rfl,_⟩:=h;rfl
 case pv=>obtain⟨n,rfl,_⟩:=h;rfl
 case aa=>obtain⟨n,rfl,_⟩:=h;rfl
 case uu=>obtain⟨n,rfl,_⟩:=h;rfl
 case ei=>obtain⟨n,rfl,_⟩:=h;rfl
 case tp=>obtain⟨n,m,rfl,_⟩:=h;rfl
 grind [Vl.has]
theorem NH {ν:List Int}:∀{vs:List Vl} {ds:List D},Vl.a5 ν vs ds->ds.flatMap D.y4=vs.flatMap Vl.y4
 |[],ds,h=>by grind [Vl.a5]
 |v::vs,ds,h=>by
  obtain⟨d,r,rfl,C,h⟩:=h;rw[QEM,QEM,Vl.bc C,NH h]
theorem LK {ν:List Int}:∀{vs:List Vl} {ds:List D},Vl.a5 ν vs ds->(ds.all λd=>d.y4.isEmpty)=vs.all λv=>v.y4.isEmpty
 |[],ds,h=>by grind [Vl.a5]
 |v::vs,ds,h=>by
  obtain⟨d,r,rfl,C,h⟩:=h;rw[QFk,QFk,Vl.bc C,LK h]
theorem Vl.j8 (h:v.has ν d):d.ids=v.ids:=by
 have key:∀{d:D},d.ids=d.y4->v.has ν d->v.ids=v.y4->d.ids=v.ids:=λe h e2=>by grind [Vl.bc]
 cases v
 case ty=>exact key ((Tp.ids h).trans (Tp.y4 h).symm) h rfl
 case nn=>have C:=h;obtain⟨n,rfl,_⟩:=C;rfl
 case ii=>have C:=h;obtain⟨n,rfl⟩:=C;rfl
 case bf=>have C:=h;obtain⟨n,rfl,_⟩:=C;rfl
 case ss=>have C:=h;obtain⟨n,rfl,_⟩:=C;rfl
 case ll=>have C:=h;obtain⟨n,C,_⟩:=C;rcases C with rfl |rfl<;>exact key rfl h rfl
 case ld=>have C:=h;obtain⟨n,C,_⟩:=C;rcases C with rfl |rfl<;>exact key rfl h rfl
 case fx=>have C:=h;obtain⟨n,C,_⟩:=C;rcases C with rfl |rfl<;>exact key rfl h rfl
 case fl=>have C:=h;obtain⟨n,rfl,_⟩:=C;rfl
 case lf=>have C:=h;obtain⟨n,rfl,_⟩:=C;rfl
 case oo=>have C:=h;obtain⟨n,rfl,_⟩:=C;rfl
 case rr=>have C:=h;simp only[Vl.has]at C;subst C;rfl
 case qq=>have C:=h;obtain⟨n,rfl,_⟩:=C;rfl
 case pp=>have C:=h;obtain⟨n,rfl,_⟩:=C;rfl
 case pv=>have C:=h;obtain⟨n,rfl,_⟩:=C;rfl
 case aa=>obtain⟨ds,rfl,h⟩:=h;exact NH h
 case uu=>have C:=h;obtain⟨n,rfl,_⟩:=C;rfl
 case ei=>have C:=h;obtain⟨n,rfl,_⟩:=C;rfl
 case tp=>obtain⟨ds,m,rfl,h,_⟩:=h;exact NH h
 case dd=>simp only[Vl.has]at h;subst h;rfl
def jnT:List Vl->Option Tp
 |[]=>none
 |[.ty t]=>some t
 |[.nn k 0 o]=>some (.i k o o)
 |[.bf _ _]=>some .b
 |v::r=>match v,jnT r with
  | .ty (.c l),some (.c m)=>some (.c (l++m))
  | .nn k 0 o,some (.i j lo hi)=>some (.i j (min lo o) (max hi o))
  | .bf _ _,some .b=>some .b
  |_,_=>none
def elA (a:AS) (len:Nat) (cells:List Vl) (i:Vl):Option (AS × Vl):=
 match toN a i with
 |some (_,x,o,a1)=>if Ju a1.cs 0 0 x o=true/\Ju a1.cs x (o+1) 0 len=true/\Nat.ble len cells.length=true then(if Nat.beq x 0=true then(match cells[o.toNat]? with
   |some v=>some (a1,v)
   |none=>none)else(match jnT cells with
   |some t=>if(cells.all λv=>Qau a1 v t)=true then some (a1,.ty t)else none
   |none=>none))else none
 |none=>none
theorem Qsz {len:Nat} {cells:List Vl} {ds:List D} (h:a.ok ν s) (he:elA a len cells i=some (a',v)) (O:Vl.a5 ν cells ds) (hi:i.has ν e):∃f n d,e=.int (match e with | .int k _=>k |_=>.i64) n/\0<=n/\n<len/\ds[n.toNat]?=some d/\a'.ok (ν++f) s/\v.has (ν++f) d:=by
 unfold elA at he;split at he;rename_i k x o a1 e1;split at he;rename_i M;split at he;rename_i hx;split at he;rename_i v0 e2;cases he
 obtain⟨f,n,rfl,G,C⟩:=Z7 h e1 hi;have c0:=QX C.cs M.1 (XJ C.z 0) G;have c1:=QX C.cs M.2.1 (G.up 1) (XJ C.z len);rw[QFG hx]at G;have V:n=o:=k7.inj G (XJ C.z o);subst V;obtain⟨d,U,T⟩:=K1 (O.ext f) e2
 grind
 grind
 split at he;rename_i t e2;split at he;rename_i Y;cases he
 obtain⟨f,n,rfl,G,C⟩:=Z7 h e1 hi;have c0:=QX C.cs M.1 (XJ C.z 0) G;have c1:=QX C.cs M.2.1 (G.up 1) (XJ C.z len);have cl:=QEi M.2.2;have hl:=YH O;have hb:n.toNat<cells.length:=Wa;obtain⟨d,U,T⟩:=K1 (O.ext f) (QE8 hb);exact⟨f,n,d,rfl,c0,Wa,U,C,Pb C (QEs.1 Y _ (QEn hb)) T⟩
 all_goals grind
def Qwu (a:AS) (len l0:Nat) (p i:Vl):Option (AS × Vl):=
 match toN a i with
 |some (_,x,o,a1)=>if Nat.beq x 0=true/\0<=o/\o<len then(match QuG a1 (o.toNat*l0) p with
   |some v=>some (a1,v)
   |none=>none)else none
 |none=>none
theorem Qnj {len l0:Nat} {p:Vl} (h:a.ok ν s) (he:Qwu a len l0 p i=some (a',v)) (hp:p.has ν d) (hi:i.has ν e):∃f q,a'.ok (ν++f) s/\v.has (ν++f) q/\∀kk:D->Prop,kk q->Qzh s len l0 e d kk:=by
 unfold Qwu at he;split at he;rename_i k x o V e1;split at he;rename_i C;split at he;rename_i v0 e2;cases he
 obtain⟨f,n,rfl,M,G⟩:=Z7 h e1 hi;rw[QFG C.1]at M;have O:n=o:=k7.inj M (XJ G.z o);subst O;obtain⟨q,U,T⟩:=QfZ G e2 (hp.ext f);exact⟨f,q,G,U,λkk hk=>⟨C.2.1,C.2.2,T kk hk⟩⟩
 all_goals grind
def Qex (a:AS) (l0:Nat):List y5->Option (List (List Vl))
 |[]=>some []
 |x::r=>match evA a x with
  |some v=>(match Qrr v with
   |some cs=>if Nat.beq cs.length l0=true then(match Qex a l0 r with
     |some q=>some (cs::q)
     |none=>none)else none
   |none=>none)
  |none=>none
theorem DO {ν:List Int} {a:AS} {s:St} (h:a.ok ν s) {l0:Nat}:∀{parts:List y5} {vs:List (List Vl)},Qex a l0 parts=some vs->∃rs,XB s l0 parts=some rs/\Vl.v7 ν vs rs
 |[],vs,he=>by simp only[Qex,QEl]at he;subst he;exact⟨[],rfl,rfl⟩
 |x::r,vs,he=>by
  simp only[Qex]at he;split at he;rename_i v e1;split at he;rename_i cs e2;split at he;rename_i Y;split at he;rename_i q V;cases he
  obtain⟨d,U,T⟩:=Q4 h e1;obtain⟨ds,O,C⟩:=L1 e2 T;obtain⟨rs,M,G⟩:=DO h V;exact⟨ds::rs,by simp only[XB,U,M,O];rw[if_pos (by rw[YH C];simp_all)],ds,rs,rfl,C,G⟩
  grind
  grind
  grind
  grind
theorem QbU {ν:List Int}:∀{vs:List (List Vl)} {rs:List (List D)},Vl.v7 ν vs rs->(rs.all λr=>r.all λd=>d.y4.isEmpty)=vs.all λr=>r.all λv=>v.y4.isEmpty
 |[],rs,h=>by grind [Vl.v7]
 |v::vs,rs,h=>by
  obtain⟨d,r,rfl,C,h⟩:=h;rw[QFk,QFk,LK C,QbU h]
theorem CI:∀{rows:List (List D)},(∀r∈rows,Tp.n6 [.i .u8 0 255] r)->∃l,HE rows=some l/\l.length=rows.length
 |[],_=>⟨[],rfl,rfl⟩
 |r::rows,h=>by
  obtain⟨l,O,M⟩:=CI (rows:=rows) λq G=>h q (QFr _ G);obtain⟨d,q,rfl,⟨n,rfl,_⟩,C⟩:=h r Wd;simp only[Tp.n6]at C;subst C
  grind [HE]
def Qum (a:AS) (op:s6):Option (AS × Vl):=
 match op with
 | .wb x=>match evA a x with
  |some v=>some (a,v)
  |none=>none
 | .pick c x y=>match evA a c with
  |some cv=>(match QcP cv with
   |some true=>(match evA a x with
    |some v=>some (a,v)
    |none=>none)
   |some false=>(match evA a y with
    |some v=>some (a,v)
    |none=>none)
   |none=>(match evA a x,evA a y with
    |some v,some w=>if QeS cv=true/\QeS v=true/\QeS w=true then some (a,anyB)else none
    |_,_=>none))
  |none=>none
 | .build zero parts=>match BR a parts (zero.map cVl)with
  |some vs=>some (a,.aa vs)
  |none=>none
 | .buildSlice l0 _ parts=>match Qex a l0 parts with
  |some rows=>if(rows.all λr=>r.all λv=>v.y4.isEmpty)=true then some (a,.fl rows)else none
  |none=>none
 | .load agg sz x=>match evA a x with
  |some p=>(match Qta a agg sz p with
   |some v=>some (a,v)
   |none=>none)
  |none=>none
 | .nilCheck x=>match evA a x with
  |some (.rr k o)=>some (a,.rr k o)
  |some (.pp c)=>some (a,.pp c)
  |some (.pv c)=>some (a,.pv c)
  |_=>none
 | .bin op bt x y=>match evA a x,evA a y with
  |some p,some q=>Qwy a op bt p q
  |_,_=>none
 | .eqs _ ks x y=>match evA a x,evA a y with
  |some (.aa vs),some (.aa ws)=>if Qrv ks vs ws=true then some (a,anyB)else none
  |_,_=>none
 | .un op x=>match evA a x,op with
  |some (.bf t f),.not=>some (a,.bf f t)
  |some (.ty .b),.not=>some (a,anyB)
  |some v,.neg=>(match toN a v with
   |some (k,x,o,a1)=>some (QqT a1 k 0 0 x o)
   |none=>none)
  |_,_=>none
 | .conv kk x=>match evA a x with
  |some p=>(match toN a p with
   |some (_,x,o,a1)=>some (QoD a1 kk x o)
   |none=>none)
  |none=>none
 | .ba true x=>match evA a x with
  |some p=>(match gf a p with
   |some (x,o,a1)=>some (a1,.ll [.i .u8 0 255] x o)
   |none=>none)
  |none=>none
 | .ba false x=>match evA a x with
  |some p=>(match Qje a p with
   |some (row,x,o,a1)=>if Tp.pb row [.i .u8 0 255]=true/\Ju a1.cs 0 0 x o=true then some (a1,.ss x o)else none
   |none=>none)
  |none=>none
 | .slice l0 x lo hi mx=>match evA a x,mx with
  |some p,none=>QxG a l0 p lo hi
  |some p,some m=>(match lo,hi with
   |none,some h=>QxH a l0 p h m
   |_,_=>none)
  |none,_=>none
 | .o8 x lo hi=>match evA a x with
  |some p=>QxI a p lo hi
  |none=>none
 | .fieldAddr off x=>match evA a x with
  |some p=>(match QuG a off p with
   |some v=>some (a,v)
   |none=>none)
  |none=>none
 | .field agg off sz x=>match evA a x with
  |some (.aa cells)=>(match agg with
   |true=>if Nat.ble (off+sz) cells.length=true then some (a,.aa ((cells.drop off).take sz))else none
   |false=>(match cells[off]? with
    |some v=>some (a,v)
    |none=>none))
  |_=>none
 | .indexAddr l0 x i=>match evA a i,evA a x with
  |some n,some p=>Qw6 a l0 p n
  |_,_=>none
 | .y8 x i=>match evA a i,evA a x with
  |some n,some p=>Qw7 a p n
  |_,_=>none
 | .x8 agg len l0 x i=>match agg,l0,evA a i,evA a x with
  |false,1,some n,some (.aa cells)=>elA a len cells n
  |_,_,_,_=>none
 | .r8 len l0 x i=>match evA a i,evA a x with
  |some n,some p=>Qwu a len l0 p n
  |_,_=>none
 | .extract i x=>match evA a x with
  |some (.uu vs)=>(match vs[i]? with
   |some v=>some (a,v)
   |none=>none)
  |some (.tp cs w)=>(match i with
   |0=>some (a,.aa cs)
   |1=>some (a,w)
   |_=>none)
  |_=>none
 | .len x=>match evA a x with
  |some p=>Qxb a p
  |none=>none
 | .z9 x=>match evA a x with
  |some p=>(match gf a p with
   |some (x,o,a1)=>some (a1,.nn .i64 x o)
   |none=>none)
  |none=>none
 | .min x y=>match evA a x,evA a y with
  |some p,some q=>(match toN a p with
   |some (k,x,o,a1)=>(match toN a1 q with
    |some (_,y,u,a2)=>some (QuM a2 k x o y u)
    |none=>none)
   |none=>none)
  |_,_=>none
 | .max x y=>match evA a x,evA a y with
  |some p,some q=>(match toN a p with
   |some (k,x,o,a1)=>(match toN a1 q with
    |some (_,y,u,a2)=>some (QuL a2 k x o y u)
    |none=>none)
   |none=>none)
  |_,_=>none
 |_=>none
theorem Qn9 {vs:List Vl} {ds:List D} (h:Vl.a5 ν vs ds) (off sz:Nat):Vl.a5 ν ((vs.drop off).take sz) ((ds.drop off).take sz):=JE sz (HO off h)
theorem Qq7 {a a':AS} {s:St} {op:s6} {v:Vl} (h:a.ok ν s) (he:Qum a op=some (a',v)):b8 ν a' s v op:=by
 cases op<;>simp only[Qum,reduceCtorEq]at he
 case wb x=>
  split at he;rename_i w e1;cases he
  obtain⟨d,G,C⟩:=Q4 h e1;exact b8.same h C λP dr dst k hk=>⟨d,G,hk⟩
  grind
 case pick c x y=>
  split at he;rename_i cv e1;obtain⟨cd,G,C⟩:=Q4 h e1;split at he;rename_i hk;have hc:=SD h.z C hk;subst hc;split at he;rename_i w e2;cases he
  obtain⟨d,M,O⟩:=Q4 h e2;exact b8.same h O λP dr dst k hk=>⟨_,G,true,rfl,d,M,hk⟩
  grind
  rename_i hk;have hc:=SD h.z C hk;subst hc;split at he;rename_i w e2;cases he
  obtain⟨d,M,O⟩:=Q4 h e2;exact b8.same h O λP dr dst k hk=>⟨_,G,false,rfl,d,M,hk⟩
  grind
  split at he;rename_i w w2 e2 Y;split at he;rename_i V;cases he
  obtain⟨b,rfl⟩:=Gb C V.1;obtain⟨d,M,O⟩:=Q4 h e2;obtain⟨d2,h5,h6⟩:=Q4 h Y;obtain⟨b1,rfl⟩:=Gb O V.2.1;obtain⟨b2,rfl⟩:=Gb h6 V.2.2;refine b8.same h (Nq (if b=true then b1 else b2)) λP dr dst k hk=>⟨_,G,b,rfl,.bool (if b=true then b1 else b2), ?_,hk⟩
  grind
  grind
  grind
  grind
 case build zero parts=>
  split at he;rename_i vs e1;cases he
  obtain⟨qs,es,G,C,M⟩:=BS h e1 (QcG h.z zero);exact b8.same h ⟨es,rfl,M⟩ λP dr dst k hk=>⟨qs,G,es,C,hk⟩
  grind
 case buildSlice l0 et parts=>
  split at he;rename_i rows e1;split at he;rename_i V;cases he
  obtain⟨rs,G,C⟩:=DO h e1;exact b8.same h ⟨rs,rfl,C⟩ λP dr dst k hk=>.inr ⟨rs,G,by grind [QbU],hk⟩
  grind
  grind
 case load agg sz x=>
  split at he;rename_i p e1;split at he;rename_i w e2;cases he
  obtain⟨d,G,C⟩:=Q4 h e1;unfold Qta at e2;split at e2;rename_i cs Y;obtain⟨ds,M,O⟩:=Qb0 h Y C;split at e2;split at e2;rename_i V;cases e2
  exact b8.same h ⟨_,rfl,JE sz O⟩ λP dr dst k hk=>⟨d,G,ds,M,by rw[YH O];simp_all,hk⟩
  grind
  obtain⟨d2,h5,h6⟩:=Bm O e2;exact b8.same h h6 λP dr dst k hk=>⟨d,G,ds,M,d2,h5,hk⟩
  grind
  grind
  grind
 case nilCheck x=>
  split at he;rename_i e1;cases he
  obtain⟨d,G,C⟩:=Q4 h e1;have U:=C;simp only[Vl.has]at U;subst U;exact b8.same h C λP dr dst k hk=>⟨_,G,rfl,hk⟩;rename_i e1;cases he
  obtain⟨d,G,C⟩:=Q4 h e1;have U:=C;obtain⟨ds,rfl,_⟩:=U;exact b8.same h C λP dr dst k hk=>⟨_,G,rfl,hk⟩;rename_i e1;cases he
  obtain⟨d,G,C⟩:=Q4 h e1;have U:=C;obtain⟨ds,rfl,_⟩:=U;exact b8.same h C λP dr dst k hk=>⟨_,G,rfl,hk⟩
  grind
 case bin op bt x y=>
  split at he;rename_i p q e1 e2;obtain⟨d,G,C⟩:=Q4 h e1;obtain⟨e,M,O⟩:=Q4 h e2;exact b8.ic (Qnp h he C O) λP dr dst k hk=>⟨d,G,e,M,hk⟩
  grind
 case eqs neg ks x y=>
  split at he;rename_i vs ws e1 e2;split at he;rename_i V;cases he
  obtain⟨d,G,xs,rfl,C⟩:=Q4 h e1;obtain⟨e,M,ys,rfl,O⟩:=Q4 h e2;obtain⟨b,hb⟩:=L4 V C O;exact b8.same h (Nq _) λP dr dst k hk=>⟨_,G,_,M,xs,rfl,ys,rfl,b,hb,hk⟩
  grind
  grind
 case un op x=>
  split at he;rename_i e1;cases he
  obtain⟨d,G,b,rfl,C,M⟩:=Q4 h e1;refine b8.same h (d:=.bool (!b)) ⟨!b,rfl,λe=>M Wc,λe=>C Wc⟩ λP dr dst k hk=>⟨_,G,hk⟩;rename_i e1;cases he
  obtain⟨d,G,b,rfl⟩:=Q4 h e1;exact b8.same h (Nq (!b)) λP dr dst k hk=>⟨_,G,hk⟩;rename_i p _ _ e1;split at he;rename_i k0 x0 o a1 e2;have T:=QFD he;obtain⟨d,G,C⟩:=Q4 h e1;obtain⟨f,n,rfl,M,O⟩:=Z7 h e2 C;have:=Qif (k:=k0) O (XJ O.z 0) M;rw[T]at this;exact b8.more (b8.ic this λP dr dst k hk=>⟨_,G,hk⟩)
  grind
  grind
 case ba sb x=>
  cases sb
  simp only[Qum]at he;split at he;rename_i p e1;split at he;rename_i row x0 o a1 e2;split at he;rename_i V;cases he
  obtain⟨d,G,C⟩:=Q4 h e1;obtain⟨f,rows,hd,M,O,h5⟩:=Xs h e2 C;have h6:∀r∈rows,Tp.n6 [.i .u8 0 255] r:=λr hr=>Tp.w7 V.1 (O r hr);obtain⟨l,h7,h8⟩:=CI h6;have hl:∀r∈rows,r.length=1:=λr hr=>Tp.vc (h6 r hr);refine⟨f,.str l,h5,⟨l,rfl,by grind⟩,λP dr dst k hk=>⟨d,G, ?_⟩⟩;rcases hd with rfl |rfl<;>exact⟨hl,l,h7,hk⟩
  grind
  grind
  grind
  simp only[Qum]at he;split at he;rename_i p e1;split at he;rename_i x0 o a1 e2;cases he
  obtain⟨d,G,C⟩:=Q4 h e1;obtain⟨f,l,rfl,M,O⟩:=JI h e2 C;refine⟨f,.sl (l.map QaI),O,⟨_,.inl rfl,by grind,λr hr=>?_⟩,λP dr dst k hk=>⟨_,G,l,rfl,hk⟩⟩;obtain⟨c,_,rfl⟩:=QEw.1 hr;exact⟨_,[],rfl,⟨_,rfl,Wa,by have:=c.toNat_lt;omega⟩,rfl⟩
  grind
  grind
 case conv kk x=>
  split at he;rename_i p e1;split at he;rename_i k0 x0 o a1 e2;have T:=QFD he;obtain⟨d,G,C⟩:=Q4 h e1;obtain⟨f,n,rfl,M,O⟩:=Z7 h e2 C;have:=Dw (k:=kk) (W:=λq=>q (.int kk (kk.wrap n))) O M λq hq=>hq;rw[T]at this;exact b8.more (b8.ic this λP dr dst k hk=>⟨_,G,_,rfl,hk⟩)
  grind
  grind
 case slice l0 x lo hi mx=>
  grind [Q4,Qpv,Qpw]
 case o8 x lo hi=>
  grind [Q4,Qpx]
 case fieldAddr off x=>
  split at he;rename_i p e1;split at he;rename_i w e2;cases he
  obtain⟨d,G,C⟩:=Q4 h e1;obtain⟨e,M,O⟩:=QfZ h e2 C;exact b8.same h M λP dr dst k hk=>⟨d,G,O _ hk⟩
  grind
  grind
 case field agg off sz x=>
  split at he;rename_i cells e1;obtain⟨d,G,ds,rfl,C⟩:=Q4 h e1;split at he;split at he;rename_i V;cases he
  exact b8.same h ⟨_,rfl,Qn9 C off sz⟩ λP dr dst k hk=>⟨_,G,ds,rfl,by rw[YH C];simp_all,hk⟩
  grind
  split at he;rename_i w e2;cases he
  obtain⟨d2,M,O⟩:=K1 C e2;exact b8.same h O λP dr dst k hk=>⟨_,G,ds,rfl,d2,M,hk⟩
  grind
  grind
 case indexAddr l0 x i=>
  split at he;rename_i n p e1 e2;obtain⟨d,G,C⟩:=Q4 h e1;obtain⟨e,M,O⟩:=Q4 h e2;exact b8.ic (Qod h he O C) λP dr dst k hk=>⟨d,G,e,M,hk⟩
  grind
 case y8 x i=>
  split at he;rename_i n p e1 e2;obtain⟨d,G,C⟩:=Q4 h e1;obtain⟨e,M,O⟩:=Q4 h e2;exact b8.ic (Qoe h he O C) λP dr dst k hk=>⟨d,G,e,M,hk⟩
  grind
 case x8 agg len l0 x i=>
  split at he;rename_i n cells e1 e2;obtain⟨d,G,C⟩:=Q4 h e1;obtain⟨e,M,ds,rfl,O⟩:=Q4 h e2;obtain⟨f,m,q,r1,r2,r3,r4,r5,r6⟩:=Qsz h he O C;exact⟨f,q,r5,r6,λP dr dst k hk=>⟨d,G,m,by rw[r1];rfl,_,M,ds,rfl,r2,r3,q,by grind,hk⟩⟩
  grind
 case r8 len l0 x i=>
  split at he;rename_i n p e1 e2;obtain⟨d,G,C⟩:=Q4 h e1;obtain⟨e,M,O⟩:=Q4 h e2;obtain⟨f,q,r1,r2,r3⟩:=Qnj h he O C;exact⟨f,q,r1,r2,λP dr dst k hk=>⟨d,G,e,M,r3 _ hk⟩⟩
  grind
 case extract i x=>
  split at he;rename_i vs e1;split at he;rename_i w e2;cases he
  obtain⟨d,G,ds,rfl,C⟩:=Q4 h e1;obtain⟨d2,M,O⟩:=K1 C e2;exact b8.same h O λP dr dst k hk=>⟨_,G,ds,rfl,d2,M,hk⟩
  grind
  rename_i cs w e1;obtain⟨d,G,ds,d2,rfl,C,M⟩:=Q4 h e1;split at he;cases he
  exact b8.same h (d:=.agg ds) ⟨_,rfl,C⟩ λP dr dst k hk=>⟨_,G,_,rfl,_,rfl,hk⟩;cases he
  exact b8.same h (d:=d2) M λP dr dst k hk=>⟨_,G,_,rfl,_,rfl,hk⟩
  grind
  grind
 case len x=>
  split at he;rename_i p e1;obtain⟨d,G,C⟩:=Q4 h e1;obtain⟨f,n,M,O,h5⟩:=Qoo h he C;exact⟨f,_,O,h5,λP dr dst k hk=>⟨d,G,n,M,hk⟩⟩
  grind
 case z9 x=>
  split at he;rename_i p e1;split at he;rename_i e2;cases he
  obtain⟨d,G,C⟩:=Q4 h e1;obtain⟨f,l,rfl,M,O⟩:=JI h e2 C;exact⟨f,.int .i64 l.length,O,⟨_,rfl,M⟩,λP dr dst k hk=>⟨_,G,l,rfl,hk⟩⟩
  grind
  grind
 case min x y=>
  split at he;rename_i p q e1 e2;split at he;rename_i k x o a1 Y;split at he;rename_i k2 y u a2 e4;have T:=QFD he;obtain⟨d,G,C⟩:=Q4 h e1;obtain⟨e,M,O⟩:=Q4 h e2;obtain⟨f1,m,rfl,q1,q2⟩:=Z7 h Y C;obtain⟨f2,n,rfl,q3,q4⟩:=Z7 q2 e4 (O.ext f1);have:=QoB (k:=k) q4 (q1.ext f2) q3;rw[T]at this;exact b8.more (b8.more (b8.ic this λP dr dst kk hk=>⟨_,G,_,M,hk⟩))
  grind
  grind
  grind
 case max x y=>
  split at he;rename_i p q e1 e2;split at he;rename_i k x o a1 Y;split at he;rename_i k2 y u a2 e4;have T:=QFD he;obtain⟨d,G,C⟩:=Q4 h e1;obtain⟨e,M,O⟩:=Q4 h e2;obtain⟨f1,m,rfl,q1,q2⟩:=Z7 h Y C;obtain⟨f2,n,rfl,q3,q4⟩:=Z7 q2 e4 (O.ext f1);have:=QoA (k:=k) q4 (q1.ext f2) q3;rw[T]at this;exact b8.more (b8.more (b8.ic this λP dr dst kk hk=>⟨_,G,_,M,hk⟩))
  grind
  grind
  grind
variable {b:Bx} {dst:Option Nat} {k:Nat} {op:s6} {x:x4}
def Vl.n4 (k:Nat):Vl->Vl
 | .oo j x o=>if j=k then .dd .top else .oo j x o
 | .rr j off=>if j=k then .dd .top else .rr j off
 | .qq j x o off=>if j=k then .dd .top else .qq j x o off
 | .aa cs=>if k∈cs.flatMap Vl.y4 then .dd .top else .aa cs
 | .tp cs w=>if k∈cs.flatMap Vl.y4 then .dd .top else .tp cs w
 | .dd d=>.dd (d.n4 k)
 |v=>v
theorem Vl.dc (h:v.has ν d):(v.n4 k).has ν (d.n4 k):=by
 cases v<;>simp only[Vl.n4]
 case ty=>
  have:=Tp.y4 h
  have e:d.n4 k=d:=by
   rename_i t;cases t<;>simp only[Vl.has,Tp.has]at h<;>obtain⟨_,h⟩:=h;obtain⟨rfl,_⟩:=h;rfl;subst h;rfl;obtain⟨rfl,_⟩:=h;rfl;obtain⟨_,rfl⟩:=h;rfl;obtain⟨h,_⟩:=h;rcases h with rfl |rfl<;>rfl
   obtain⟨h,_⟩:=h;rcases h with rfl |rfl<;>rfl
  grind
 case nn=>have C:=h;obtain⟨n,rfl,_⟩:=C;exact h
 case ii=>have C:=h;obtain⟨n,rfl⟩:=C;exact h
 case bf=>have C:=h;obtain⟨n,rfl,_⟩:=C;exact h
 case ss=>have C:=h;obtain⟨n,rfl,_⟩:=C;exact h
 case ll=>have C:=h;obtain⟨n,C,_⟩:=C;rcases C with rfl |rfl<;>exact h
 case ld=>have C:=h;obtain⟨n,C,_⟩:=C;rcases C with rfl |rfl<;>exact h
 case fx=>have C:=h;obtain⟨n,C,_⟩:=C;rcases C with rfl |rfl<;>exact h
 case fl=>have C:=h;obtain⟨n,rfl,_⟩:=C;exact h
 case lf=>have C:=h;obtain⟨n,rfl,_⟩:=C;exact h
 case oo=>
  have C:=h;obtain⟨n,rfl,_⟩:=C;simp only[D.n4];split;rfl;omega
 case rr=>
  grind [Vl.has,D.n4]
 case qq=>
  have C:=h;obtain⟨n,rfl,_⟩:=C;simp only[D.n4];split;rfl;omega
 case pp=>have C:=h;obtain⟨n,rfl,_⟩:=C;exact h
 case pv=>have C:=h;obtain⟨n,rfl,_⟩:=C;exact h
 case aa=>
  have C:=h;obtain⟨ds,rfl,G⟩:=C;simp only[D.n4,NH G];split;rfl;omega
 case uu=>have C:=h;obtain⟨n,rfl,_⟩:=C;exact h
 case ei=>have C:=h;obtain⟨n,rfl,_⟩:=C;exact h
 case tp=>
  have C:=h;obtain⟨ds,m,rfl,G,_⟩:=C;simp only[D.n4,NH G];split;rfl;omega
 grind [Vl.has]
def Vl.s7 (k:Nat):Vl->Vl
 | .oo j x o=>if j=k then .dd .z7 else .oo j x o
 | .rr j off=>if j=k then .dd .z7 else .rr j off
 | .qq j x o off=>if j=k then .dd .z7 else .qq j x o off
 | .dd d=>.dd (d.s7 k)
 |v=>v
theorem Vl.xe (h:v.has ν d):(v.s7 k).has ν (d.s7 k):=by
 cases v<;>simp only[Vl.s7]
 case ty=>
  have e:d.s7 k=d:=by
   rename_i t;cases t<;>simp only[Vl.has,Tp.has]at h<;>obtain⟨_,h⟩:=h;obtain⟨rfl,_⟩:=h;rfl;subst h;rfl;obtain⟨rfl,_⟩:=h;rfl;obtain⟨_,rfl⟩:=h;rfl;obtain⟨h,_⟩:=h;rcases h with rfl |rfl<;>rfl
   obtain⟨h,_⟩:=h;rcases h with rfl |rfl<;>rfl
  grind
 case nn=>have C:=h;obtain⟨n,rfl,_⟩:=C;exact h
 case ii=>have C:=h;obtain⟨n,rfl⟩:=C;exact h
 case bf=>have C:=h;obtain⟨n,rfl,_⟩:=C;exact h
 case ss=>have C:=h;obtain⟨n,rfl,_⟩:=C;exact h
 case ll=>have C:=h;obtain⟨n,C,_⟩:=C;rcases C with rfl |rfl<;>exact h
 case ld=>have C:=h;obtain⟨n,C,_⟩:=C;rcases C with rfl |rfl<;>exact h
 case fx=>have C:=h;obtain⟨n,C,_⟩:=C;rcases C with rfl |rfl<;>exact h
 case fl=>have C:=h;obtain⟨n,rfl,_⟩:=C;exact h
 case lf=>have C:=h;obtain⟨n,rfl,_⟩:=C;exact h
 case oo=>
  have C:=h;obtain⟨n,rfl,_⟩:=C;simp only[D.s7];split;rfl;omega
 case rr=>
  grind [Vl.has,D.s7]
 case qq=>
  have C:=h;obtain⟨n,rfl,_⟩:=C;simp only[D.s7];split;rfl;omega
 case pp=>have C:=h;obtain⟨n,rfl,_⟩:=C;exact h
 case pv=>have C:=h;obtain⟨n,rfl,_⟩:=C;exact h
 case aa=>have C:=h;obtain⟨ds,rfl,G⟩:=C;exact h
 case uu=>have C:=h;obtain⟨n,rfl,_⟩:=C;exact h
 case ei=>have C:=h;obtain⟨n,rfl,_⟩:=C;exact h
 case tp=>have C:=h;obtain⟨n,m,rfl,_⟩:=C;exact h
 grind [Vl.has]
theorem N8 {ν:List Int} {f:Vl->Vl} {g:D->D} (C:∀v d,v.has ν d->(f v).has ν (g d)):∀{vs:List Vl} {ds:List D},Vl.a5 ν vs ds->Vl.a5 ν (vs.map f) (ds.map g)
 |[],ds,h=>by grind [Vl.a5]
 |v::vs,ds,h=>by obtain⟨d,r,rfl,G,h⟩:=h;exact⟨_,_,rfl,C _ _ G,N8 C h⟩
def Bx.n4 (k:Nat):Bx->Bx
 | .cc cells et true=>.cc cells et true
 | .cc cells et false=>.cc (cells.map (Vl.s7 k)) et false
 |b=>b
theorem Bx.dc (h:b.has ν x):(b.n4 k).has ν (x.n4 k):=by
 cases b with
 |cc cells et pr=>
  obtain⟨ds,rfl,C⟩:=h;cases pr
  exact⟨ds.map (D.s7 k),by simp[x4.n4],N8 (λv d h=>Vl.xe h) C⟩;exact⟨ds,rfl,C⟩
 |ww row x o l0 et=>
  have G:=h;obtain⟨rows,rfl,C⟩:=G;exact h
theorem RL.map {α β:Type} {R:α->β->Prop} {f:α->α} {g:β->β} (C:∀a b,R a b->R (f a) (g b)):∀{l:List (Nat × α)} {m:List (Nat × β)},RL R l m->RL R (l.map λp=>(p.1,f p.2)) (m.map λp=>(p.1,g p.2))
 |[],m,h=>by grind [RL]
 |p::l,m,h=>by obtain⟨b,r,rfl,M,G⟩:=h;exact⟨_,_,rfl,C _ _ M,RL.map C G⟩
def AS.n4 (k:Nat) (a:AS):AS:=⟨a.fr.map λp=>(p.1,p.2.n4 k),a.H.map λp=>(p.1,p.2.n4 k),a.cs,a.nx⟩
theorem AS.ok.n4 {ν:List Int} {a:AS} {s:St} (h:a.ok ν s) (k:Nat):(a.n4 k).ok ν (s.n4 k):=
 ⟨RL.map (λv d h=>Vl.dc h) h.fr,RL.map (λv d h=>Bx.dc h) h.H,h.cs,h.nx,h.z⟩
def QdT (a:AS) (t:Nat) (b:Bx):AS:=⟨a.fr,(t,b)::a.H,a.cs,a.nx⟩
theorem LJ (h:a.ok ν s) {t:Nat} (hb:b.has ν x):(QdT a t b).ok ν ⟨s.fr,(t,x)::s.H⟩:=⟨h.fr,⟨x,s.H,rfl,hb,h.H⟩,h.cs,h.nx,h.z⟩
abbrev lb (ν:List Int) (a':AS) (s:St) (dr:Bool) (op:s6) (dst:Option Nat):Prop:=∃e s',a'.ok (ν++e) s'/\∀(P:Program) (k:St->Prop),k s'->step P dr op dst s k
theorem lb.ri (h:b8 ν a s v op) (dr:Bool) (dst:Option Nat):lb ν (Cw a dst v) s dr op dst:=by
 obtain⟨e,d,M,G,C⟩:=h;exact⟨e,_,X9 M G,λP k hk=>C P dr dst k hk⟩
theorem lb.same {s':St} {dr:Bool} (h:a.ok ν s') (hk:∀(P:Program) (k:St->Prop),k s'->step P dr op dst s k):lb ν a s dr op dst:=⟨[],s',by grind,hk⟩
def bxA (a:AS) (dst:Option Nat) (et:Nat) (cs:List Vl):Option AS:=
 match dst with
 |some t=>(match lk a.H t with
  |none=>some (Cw (QdT a t (.cc cs et (cs.all λv=>v.y4.isEmpty))) (some t) (.rr t 0))
  |some _=>none)
 |none=>none
theorem QlP {a':AS} {et:Nat} {cs:List Vl} {ds:List D} (h:a.ok ν s) (he:bxA a dst et cs=some a') (hd:Vl.a5 ν cs ds):∃t,dst=some t/\lk s.H t=none/\a'.ok ν (s.apply dst (.ref t 0 0) (some (QeT et ds))):=by
 unfold bxA at he;split at he;rename_i t;split at he;rename_i e1;cases he
 refine⟨t,rfl,RL.get_none h.H e1, ?_⟩;have hb:(Bx.cc cs et (cs.all λv=>v.y4.isEmpty)).has ν (QeT et ds):=⟨ds,by rw[<- LK hd];rfl,hd⟩
 exact X9 (d:=.ref t 0 0) (dst:=some t) (LJ h hb) rfl
 grind
 grind
def QxV (a:AS) (sz:Nat) (p v:Vl):Option AS:=
 match Qrr v with
 |none=>none
 |some cs=>if Nat.beq cs.length sz=true then(match p with
   | .rr k off=>(match lk a.H k with
    |some (.cc cells et pr)=>if Nat.ble (off+sz) cells.length=true then some (QdT a k (.cc (cells.take off++cs++cells.drop (off+cs.length)) et (pr&&cs.all λv=>v.y4.isEmpty)))else none
    |_=>none)
   | .qq k x o off=>(match lk a.H k with
    |some (.ww row y u l0 et)=>if Ju a.cs x (o+1) y u=true/\Nat.ble (off+sz) row.length=true/\QeU a cs ((row.drop off).take sz)=true then some (QdT a k (.ww row y u l0 et))else none
    |_=>none)
   |_=>none)else none
variable {x:Nat} {o:Int} {r:List Tp} {ys:List (List D)}
theorem FB:∀{ts us:List Tp} {ds es:List D},Tp.n6 ts ds->Tp.n6 us es->Tp.n6 (ts++us) (ds++es)
 |[],us,ds,es,h,h2=>by grind [Tp.n6]
 |t::ts,us,ds,es,h,h2=>by obtain⟨d,r,rfl,C,h⟩:=h;exact⟨d,_,rfl,C,FB h h2⟩
theorem QqR {sz:Nat} {p:Vl} {x y:y5} {q:D} {dr:Bool} {dst:Option Nat} (h:a.ok ν s) (he:QxV a sz p v=some a') (hx:s.ev x=some d) (hp:p.has ν d) (hy:s.ev y=some q) (hv:v.has ν q):lb ν (Cw a' dst (.dd .undef)) s dr (.store sz x y) dst:=by
 unfold QxV at he;split at he
 grind
 rename_i cs e0;obtain⟨C,hc,T⟩:=L1 e0 hv;have hcl:=YH T;split at he;rename_i U;have U:=QFG U;split at he;rename_i k off;split at he;rename_i cells et pr e1;split at he;rename_i hb;have hb:=QEi hb;cases he
 obtain⟨b,M,ds,rfl,O⟩:=RL.get h.H e1;have hdl:=YH O;simp only[Vl.has]at hp;subst hp;refine lb.same (s':=St.apply ⟨s.fr,(k,⟨[setRow ds off C],ds.length,et,pr&&C.all λd=>d.y4.isEmpty⟩)::s.H⟩ dst .undef none) (X9 (LJ h ?_) rfl) λP kk hk=>⟨_,hx,_,M,ds,rfl,q,hy,C,hc,Wa,Wa,hk⟩;refine⟨setRow ds off C, ?_, ?_⟩
 grind [LK,setRow]
 have:=N7 (N7 (JE off O) T) (HO (off+cs.length) O);rw[<- hcl]at this ⊢;trivial
 grind
 grind
 rename_i k x0 o off;split at he;rename_i row y0 u l0 et e1;split at he;rename_i hh;cases he
 obtain⟨b,M,rows,rfl,h1,h2⟩:=RL.get h.H e1;obtain⟨i,rfl,h3⟩:=hp;have hi:=QX h.cs hh.1 (h3.up 1) h1;have hi':i<rows.length:=Wa;have hoff:=QEi hh.2.1;have Y:=Qa0 h hh.2.2 T;have G:=h2 _ (QEn hi');have hrl:=Tp.vc G
 have hnew:Tp.n6 row (setRow rows[i] off C):=by
  have:=FB (FB (Bo off G) Y) (N9 (off+sz) G);rw[show row.take off++(row.drop off).take sz++row.drop (off+sz)=row by grind [List.take_append_drop]]at this;rw[show off+sz=off+C.length by omega]at this;trivial
 have V:(C.all λd=>d.y4.isEmpty)=true:=by
  grind [Tp.qf]
 refine lb.same (s':=St.apply ⟨s.fr,(k,⟨rows.set i (setRow rows[i] off C),l0,et,true&&C.all λd=>d.y4.isEmpty⟩)::s.H⟩ dst .undef none) (X9 (LJ h ?_) rfl) λP kk hk=>⟨_,hx,_,M,rows[i],by simp,q,hy,C,hc,Wa,Wa,hk⟩;refine⟨_,by rw[V];rfl,by grind,λr hr=>?_⟩
 all_goals grind
theorem QgP:∀{r q:List Tp},Tp.pb r q=true->r.length=q.length
 |[],q,h=>by
  grind [Tp.pb]
 |t::r,q,h=>by
  simp only[Tp.pb]at h;split at h;simp only[QEm]at h;simp[QgP h.2]
  grind
def QxN (a:AS) (l0:Nat) (v:Vl):Option (List Tp × Nat × Int × AS):=
 match v with
 | .oo k x o=>(match lk a.H k with
  |some (.ww r y u e _)=>if Nat.beq e l0=true/\Nat.beq r.length l0=true/\Nat.beq x y=true/\decide (o=u)=true then some (r,x,o,a)else none
  |_=>none)
 |v=>(match Qje a v with
  |some (r,x,o,a1)=>if Nat.beq r.length l0=true then some (r,x,o,a1)else if Ju a1.cs x o 0 0=true then some (List.replicate l0 .b,0,0,a1)else none
  |none=>none)
abbrev Qwo (ν:List Int) (a':AS) (s:St) (l0:Nat) (d:D) (r:List Tp) (x:Nat) (o:Int):Prop:=r.length=l0/\∃e ys,k7 (ν++e) x o (ys.length:Nat)/\(∀y∈ys,Tp.n6 r y)/\a'.ok (ν++e) s/\∀kk:List (List D)->Bool->Prop,kk ys true->D3 s l0 d kk
theorem QqO (h:a.ok ν s) (he:QxN a l0 v=some (r,x,o,a')) (T:v.has ν d):Qwo ν a' s l0 d r x o:=by
 unfold QxN at he;split at he;rename_i k Y o0;split at he;rename_i r0 y u e0 et e1;split at he;rename_i C;obtain⟨b,hb,rows,rfl,M,O⟩:=RL.get h.H e1;obtain⟨n,rfl,G⟩:=T;cases he
 have U:=QFG C.2.2.1;have e6:=of_decide_eq_true C.2.2.2;subst U e6;have e7:=k7.inj G M;exact⟨QFG C.2.1,[],rows,by grind,O,by grind,λkk hk=>⟨_,hb,by grind,QFG C.1,hk⟩⟩
 grind
 grind
 split at he;rename_i r0 Y o0 a1 e1;split at he;rename_i C;cases he
 obtain⟨f,rows,hd,M,O,G⟩:=Xs h e1 T;have hl:=QFG C;refine⟨hl,f,rows,M,O,G,λkk hk=>?_⟩;have key:(∀r∈rows,r.length=l0)/\kk rows true:=⟨λy V=>by grind [Tp.vc],hk⟩;rcases hd with rfl |rfl<;>exact key
 split at he;rename_i C;cases he
 obtain⟨f,rows,hd,M,O,G⟩:=Xs h e1 T;have e4:=QX G.cs C M (XJ G.z 0);have U:rows=[]:=QEV Wa;subst U;refine⟨List.length_replicate,f,[],XJ G.z 0,(λy V=>by grind),G,λkk hk=>?_⟩;have key:(∀r∈([]:List (List D)),r.length=l0)/\kk [] true:=⟨(λy V=>by grind),hk⟩;rcases hd with rfl |rfl<;>exact key
 grind
 grind
def QqM (a:AS) (l0:Nat) (row:Option (List Tp)) (v:Vl):Option (List Tp × Nat × Int × AS):=
 match v with
 | .fl rows=>(match row with
  |some r=>if(rows.all λq=>QeU a q r)=true/\Nat.beq r.length l0=true then some (r,0,(rows.length:Int),a)else none
  |none=>(match QmB a rows with
   |some r=>if(rows.all λq=>QeU a q r)=true/\Nat.beq r.length l0=true then some (r,0,(rows.length:Int),a)else none
   |none=>none))
 |v=>(match QxN a l0 v with
  |some (r,x,o,a1)=>(match row with
   |none=>some (r,x,o,a1)
   |some q=>if Tp.pb r q=true\/(Nat.beq q.length l0=true/\Nat.beq x 0=true/\decide (o=0)=true)then some (q,x,o,a1)else none)
  |none=>none)
theorem Qcv {ν:List Int} {a:AS} {s:St} (h:a.ok ν s) {r:List Tp}:∀{vs:List (List Vl)} {rs:List (List D)},(vs.all λq=>QeU a q r)=true->Vl.v7 ν vs rs->∀x∈rs,Tp.n6 r x
 |[],rs,_,hd=>by grind [Vl.v7]
 |v::vs,rs,hf,hd=>by
  obtain⟨d,q,rfl,G,C⟩:=hd;simp only[QFk,QEm]at hf;intro x hx;rcases QEk.1 hx with rfl |hx
  grind [Qa0]
  exact Qcv h hf.2 C x hx
theorem QqN {rows:List (List Vl)} (h:a.ok ν s) (O:(rows.all λq=>QeU a q r)=true) (C:Nat.beq r.length l0=true) (M:(Vl.fl rows).has ν d):Qwo ν a s l0 d r 0 rows.length:=by
 obtain⟨rs,rfl,G⟩:=M;have T:=Qcv h O G;have C:=QFG C;exact⟨C,[],rs,by rw[QEN,SA G];exact XJ h.z _,T,by grind,λkk hk=>⟨λy U=>by grind [Tp.vc],hk⟩⟩
theorem D2 {row:Option (List Tp)} (h:a.ok ν s) (he:QqM a l0 row v=some (r,x,o,a')) (G:v.has ν d):(∀q,row=some q->r=q)/\Qwo ν a' s l0 d r x o:=by
 unfold QqM at he;split at he
 grind [QqN]
 split at he;rename_i r0 V o0 a1 e1;have T:=QqO h e1 G;split at he
 grind
 split at he;rename_i q C;cases he
 obtain⟨h2,f,ys,O,h4,M,h6⟩:=T;rcases C with C |⟨Y,hx,ho⟩
 grind [QgP,Tp.w7]
 have e2:=QFG hx;have U:=of_decide_eq_true ho;subst e2 U;have e4:=k7.inj O (XJ M.z 0)
 grind [Nat.eq_of_beq_eq_true]
 grind
 grind
def FQ (a:AS) (q:Vl) (x:Nat) (o:Int) (y:Nat) (u:Int):Nat × Int × AS:=
 match q with
 | .ld _ hx ho lx lo=>if Nat.beq lx x=true then(hx,o+ho - lo,a)else Qla a x o y u
 |_=>Qla a x o y u
theorem QqP {rows:List (List D)} (hd:isL d rows) (h:∀kk:List (List D)->Bool->Prop,kk ys true->D3 s l0 d kk):rows=ys:=by
 have:=h (λy _=>y=ys) rfl;rcases hd with rfl |rfl<;>exact this.2
theorem QbM {f:List Int} {M:St} {q:Vl} {y:Nat} {u n:Int} (h:a.ok (ν++f) s) (T:q.has ν d) (O:∀kk:List (List D)->Bool->Prop,kk ys true->D3 M l0 d kk) (hm:k7 (ν++f) x o n) (hn:k7 (ν++f) y u (ys.length:Nat)):∃e,k7 (ν++f++e) (FQ a q x o y u).1 (FQ a q x o y u).2.1 (n+(ys.length:Nat))/\(FQ a q x o y u).2.2.ok (ν++f++e) s:=by
 unfold FQ;split;rename_i row hx ho lx lo;split;rename_i e;have e:=QFG e;subst e;obtain⟨rows,hd,⟨a1,b1,V,U,h3⟩,_⟩:=T;have:=QqP hd O;subst this;obtain⟨v,w1,w2⟩:=V.ext f;obtain⟨v2,G,w4⟩:=U.ext f;obtain⟨v3,C,Y⟩:=hm;rw[G]at C;cases C;exact⟨[],k7.ext [] (show k7 (ν++f) hx (o+ho - lo) (n+(rows.length:Nat)) from⟨v,w1,Wa⟩),by grind⟩
 grind [QbD]
 grind [QbD]
variable {bytes et t:Nat} {q:Vl} {rows:List (List D)} {y:y5}
def Sn (a:AS) (x:Nat) (o:Int) (bytes:Nat):Bool:=
 match bdN a x o with
 |some (_,hi)=>decide (hi*(bytes:Int)<=140737488355328)&&decide (hi<=4611686018427387904)
 |none=>false
theorem G1 {n:Nat} (h:a.ok ν s) (C:Sn a x o bytes=true) (G:k7 ν x o n):n*bytes<=140737488355328/\n<=4611686018427387904:=by
 unfold Sn at C;split at C;rename_i l hi e;simp only[QEm,decide_eq_true_eq]at C;have b:=Xz h e G;have M:(n:Int)*bytes<=hi*bytes:=Int.mul_le_mul_of_nonneg_right b.2 Wa;omega
 grind
theorem GN (h:a.ok ν s) {row:List Tp} (C:k7 ν x o (rows.length:Nat)) (hr:∀r∈rows,Tp.n6 row r):(QdT a t (.ww row x o l0 et)).ok ν ⟨s.fr,(t,⟨rows,l0,et,true⟩)::s.H⟩:=LJ h ⟨rows,rfl,C,hr⟩
def QxM (a:AS) (l0:Nat) (r:List Tp) (q:Vl) (emp:Bool):List Tp:=
 match QqM a l0 none q with
 |some (r2,_,_,_)=>(match emp with
  |true=>r2
  |false=>(Tp.ig r r2).getD r)
 |none=>r
theorem QfU {r r2:List Tp} (z:ν[0]?=some 0) (h:(Tp.pb r r2||(Nat.beq x 0&&decide (o=0)))=true) (C:k7 ν x o (rows.length:Nat)) (hr:∀y∈rows,Tp.n6 r y):∀y∈rows,Tp.n6 r2 y:=by
 simp only[QFu,QEm,decide_eq_true_eq]at h;rcases h with h |⟨e,rfl⟩
 grind [Tp.w7]
 have e:=QFG e;subst e;have e2:=k7.inj C (XJ z 0)
 grind
def Qws (a:AS) (dr:Bool) (l0 et bytes t:Nat) (p q:Vl):Option AS:=
 match p with
 | .fl []=>(match QqM a l0 none q with
  |some (r,x,o,a1)=>(match lk a1.H t with
   |none=>if Sn a1 x o bytes=true then some (Cw (QdT a1 t (.ww r x o l0 et)) (some t) (.oo t x o))else none
   |some _=>none)
  |none=>none)
 | .lf row x o=>(match QqM a l0 (some (QxM a l0 row q (Nat.beq x 0&&decide (o=0)))) q with
  |some (r2,sx,so,a1)=>(match lk a1.H t with
   |none=>if Sn (FQ a1 q x o sx so).2.2 (FQ a1 q x o sx so).1 (FQ a1 q x o sx so).2.1 bytes=true/\(Tp.pb row r2||(Nat.beq x 0&&decide (o=0)))=true/\Nat.beq row.length l0=true/\Ju a1.cs 0 1 sx so=true then
     some (Cw (QdT (FQ a1 q x o sx so).2.2 t (.ww r2 (FQ a1 q x o sx so).1 (FQ a1 q x o sx so).2.1 l0 et)) (some t) (.oo t (FQ a1 q x o sx so).1 (FQ a1 q x o sx so).2.1))else none
   |some _=>none)
  |none=>none)
 | .oo k x o=>(match lk a.H k with
  |some (.ww r y u e et2)=>if dr=false/\Nat.ble (k+1) 1000000=true/\Nat.beq e l0=true/\Nat.beq et2 et=true/\Nat.beq x y=true/\decide (o=u)=true then(match QqM a l0 (some (QxM a l0 r q (Nat.beq x 0&&decide (o=0)))) q with
    |some (r2,sx,so,a1)=>if Sn (FQ a1 q x o sx so).2.2 (FQ a1 q x o sx so).1 (FQ a1 q x o sx so).2.1 bytes=true/\(Tp.pb r r2||(Nat.beq x 0&&decide (o=0)))=true then
      some (Cw (QdT ((FQ a1 q x o sx so).2.2.n4 k) k (.ww r2 (FQ a1 q x o sx so).1 (FQ a1 q x o sx so).2.1 l0 et)) (some t) (.oo k (FQ a1 q x o sx so).1 (FQ a1 q x o sx so).2.1))else none
    |none=>none)else none
  |_=>none)
 |_=>none
theorem Qnf {dr:Bool} {x:y5} (h:a.ok ν s) (he:Qws a dr l0 et bytes t p q=some a') (hx:s.ev x=some d) (hp:p.has ν d) (C:s.ev y=some e) (hq:q.has ν e):lb ν a' s dr (.append l0 et bytes x y) (some t):=by
 have hy':=C;unfold Qws at he;split at he;split at he;rename_i r Y o a1 e1;split at he;rename_i e2;split at he;rename_i T;cases he
 obtain⟨_,hl,f,ys,V,h2,M,U⟩:=D2 h e1 hq;obtain⟨rs,rfl,hr⟩:=hp;simp only[Vl.v7]at hr;subst hr;obtain⟨b1,b2⟩:=G1 M T V;have hn:=RL.get_none M.H e2;refine⟨f,s.apply (some t) (.u4 t (0+ys.length)) (some ⟨[]++ys,l0,et,true⟩), ?_,λP k hk=>⟨_,hx,_,C,U _ ⟨t,rfl,hn,.inl rfl,(λr hr=>by grind),by grind,by grind,hk⟩⟩⟩;refine X9 (dst:=some t) (d:=.u4 t (0+ys.length)) (GN M V h2) ⟨_,rfl, ?_⟩
 grind
 grind
 grind
 grind
 rename_i row Y o;split at he;rename_i r2 sx so a1 e2;split at he;rename_i e3;split at he;rename_i O;cases he
 obtain⟨T,hle,hel,hne⟩:=O;obtain⟨_,hl,f,ys,V,h2,M,U⟩:=D2 h e2 hq;obtain⟨rows,rfl,h5,h6⟩:=hp;have hn:lk s.H t=none:=RL.get_none M.H e3;obtain⟨f2,w1,w2⟩:=QbM M hq U (h5.ext f) V;have G:k7 (ν++f++f2) (FQ a1 q Y o sx so).1 (FQ a1 q Y o sx so).2.1 ((rows.length+ys.length:Nat):Int):=by grind
 obtain⟨b1,b2⟩:=G1 w2 T G;have C:ys≠[]:=λe=>by subst e;have:=QX M.cs hne (XJ M.z 1) V;grind
 refine⟨f++f2,s.apply (some t) (.u4 t (rows.length+ys.length)) (some ⟨rows++ys,l0,et,true⟩), ?_,λP k hk=>⟨_,hx,_,hy',U _ ⟨t,rfl,hn,.inr C,(λr hr=>by rw[Tp.vc (h6 r hr)];simp_all),b1,b2,hk⟩⟩⟩
 rw[<- QFa];refine X9 (dst:=some t) (d:=.u4 t (rows.length+ys.length)) (GN (rows:=rows++ys) w2 Wc λy C=>?_) ⟨_,rfl,G⟩;rcases QEt.1 C with C |C
 exact QfU h.z hle h5 h6 y C
 grind
 grind
 grind
 grind
 rename_i k Y o;split at he;rename_i r y0 u e0 et2 e1;split at he;rename_i O;split at he;rename_i r2 sx so a1 e2;split at he;rename_i T;cases he
 obtain⟨T,hle⟩:=T;obtain⟨_,hl,f,ys,V,h2,M,U⟩:=D2 h e2 hq;obtain⟨b,hb,rows,rfl,h5,h6⟩:=RL.get h.H e1;obtain⟨n,rfl,h7⟩:=hp;have q1:=QFG O.2.2.2.2.1;have q2:=of_decide_eq_true O.2.2.2.2.2;subst q1 q2;have q3:=k7.inj h7 h5;have q3:n=rows.length:=Wa;subst q3;have q4:=QFG O.2.2.1;have q5:=QFG O.2.2.2.1;subst q4 q5;obtain⟨f2,w1,w2⟩:=QbM M hq U (h5.ext f) V;have G:k7 (ν++f++f2) (FQ a1 q Y o sx so).1 (FQ a1 q Y o sx so).2.1 ((rows.length+ys.length:Nat):Int):=by grind
 obtain⟨b1,b2⟩:=G1 w2 T G;refine⟨f++f2,St.apply ⟨(s.n4 k).fr,(k,⟨rows++ys,e0,et2,true⟩)::(s.n4 k).H⟩ (some t) (.u4 k (rows.length+ys.length)) none, ?_,λP kk hk=>⟨_,hx,_,C,U _ ⟨O.1,QEi O.2.1,_,hb,rfl,rfl,rfl,.inl rfl,b1,b2,hk⟩⟩⟩;rw[<- QFa];refine X9 (dst:=some t) (d:=.u4 k (rows.length+ys.length)) (GN (rows:=rows++ys) (w2.n4 k) Wc λy C=>?_) ⟨_,rfl,G⟩;rcases QEt.1 C with C |C
 exact QfU h.z hle h5 h6 y C
 all_goals grind
def mkA (a:AS) (l0 et bytes:Nat) (zero:List D) (t:Nat) (p q:Vl):Option AS:=
 match toN a p with
 |some (_,x,o,a1)=>(match q with
  | .nn _ y u=>if Nat.beq x y=true/\decide (o=u)=true/\Ju a1.cs 0 0 x o=true/\Sn a1 x o bytes=true then(match Qq2 a1 (zero.map cVl),lk a1.H t with
    |some r,none=>if QeU a1 (zero.map cVl) r=true then some (Cw (QdT a1 t (.ww r x o l0 et)) (some t) (.oo t x o))else none
    |_,_=>none)else none
  |_=>none)
 |none=>none
theorem Qte {dr:Bool} {zero:List D} {x:y5} (h:a.ok ν s) (he:mkA a l0 et bytes zero t p q=some a') (hx:s.ev x=some d) (hp:p.has ν d) (hy:s.ev y=some e) (hq:q.has ν e):lb ν a' s dr (.makeSlice l0 et bytes zero x y) (some t):=by
 unfold mkA at he;split at he;rename_i k0 T o a1 e1;split at he;rename_i k1 y0 u;split at he;rename_i M;split at he;rename_i r e2 e3;split at he;rename_i hf;cases he
 obtain⟨f,n,rfl,O,C⟩:=Z7 h e1 hp;obtain⟨m,rfl,h3⟩:=hq;have Y:=QFG M.1;have V:=of_decide_eq_true M.2.1;subst Y V;have U:=k7.inj O (h3.ext f);subst U;have n0:=QX C.cs M.2.2.1 (XJ C.z 0) O;have hnn:((n.toNat:Nat):Int)=n:=Int.toNat_of_nonneg n0;have G:k7 (ν++f) T o (n.toNat:Nat):=by grind
 obtain⟨b1,b2⟩:=G1 C M.2.2.2 G;have hz:=Qa0 C hf (QcG C.z zero);refine⟨f,s.apply (some t) (.u4 t n.toNat) (some ⟨List.replicate n.toNat zero,l0,et,true⟩), ?_,λP k hk=>⟨_,hx,_,hy,t,rfl,RL.get_none C.H e3,rfl,n0,Wa,b2,hk⟩⟩;refine X9 (dst:=some t) (d:=.u4 t n.toNat) (GN (rows:=List.replicate n.toNat zero) C Wc λr hr=>?_) ⟨_,rfl,G⟩
 all_goals grind
def opA (a:AS) (dr:Bool) (op:s6) (dst:Option Nat):Option AS:=
 match op with
 | .alloc et cells=>bxA a dst et (cells.map cVl)
 | .box et x=>(match evA a x with
  |some v=>(match Qrr v with
   |some cs=>bxA a dst et cs
   |none=>none)
  |none=>none)
 | .store sz x v=>(match evA a x,evA a v with
  |some p,some q=>(match QxV a sz p q with
   |some a1=>some (Cw a1 dst (.dd .undef))
   |none=>none)
  |_,_=>none)
 | .append l0 et bytes x y=>(match evA a x,evA a y,dst with
  |some p,some q,some t=>Qws a dr l0 et bytes t p q
  |_,_,_=>none)
 | .makeSlice l0 et bytes zero x y=>(match evA a x,evA a y,dst with
  |some p,some q,some t=>mkA a l0 et bytes zero t p q
  |_,_,_=>none)
 |op=>(match Qum a op with
  |some (a1,v)=>some (Cw a1 dst v)
  |none=>none)
theorem Qhk {dr:Bool} {op:s6} {dst:Option Nat} (h:a.ok ν s) (he:opA a dr op dst=some a'):lb ν a' s dr op dst:=by
 unfold opA at he;split at he;rename_i et cells;obtain⟨t,rfl,G,C⟩:=QlP h he (QcG h.z cells);exact lb.same C λP k hk=>⟨t,rfl,G,hk⟩;rename_i et x;split at he;rename_i v e1;split at he;rename_i cs e2;obtain⟨d,G,C⟩:=Q4 h e1;obtain⟨ds,O,M⟩:=L1 e2 C;obtain⟨t,rfl,U,T⟩:=QlP h he M;exact lb.same T λP k hk=>⟨t,rfl,d,G,ds,O,U,hk⟩
 grind
 grind
 split at he;rename_i p q e1 e2;split at he;rename_i Y V;cases he
 obtain⟨d,G,C⟩:=Q4 h e1;obtain⟨e,O,M⟩:=Q4 h e2;exact QqR h V G C O M
 grind
 grind
 grind [Q4,Qnf]
 split at he;rename_i p q t e1 e2;obtain⟨d,G,C⟩:=Q4 h e1;obtain⟨e,O,M⟩:=Q4 h e2;exact Qte h he G C O M
 grind
 split at he;rename_i Y v e1;cases he
 exact lb.ri (Qq7 h e1) dr dst
 grind
end Go.Abs
namespace Go.Abs
open Go
abbrev Sg:=List (Nat × Int)
def Sg.at (σ:Sg) (x:Nat):Nat × Int:=σ.getD x (0,0)
def Cn.sub (σ:Sg) (c:Cn):Cn:=((σ.at c.1).1,(σ.at c.2.1).1,c.2.2+(σ.at c.2.1).2 - (σ.at c.1).2)
mutual
def Vl.sub (σ:Sg):Vl->Vl
 | .ty t=>.ty t
 | .nn k x o=>.nn k (σ.at x).1 ((σ.at x).2+o)
 | .ii k=>.ii k
 | .bf t f=>.bf (t.map (Cn.sub σ)) (f.map (Cn.sub σ))
 | .ss x o=>.ss (σ.at x).1 ((σ.at x).2+o)
 | .ll row x o=>.ll row (σ.at x).1 ((σ.at x).2+o)
 | .ld row hx ho lx lo=>.ld row (σ.at hx).1 ((σ.at hx).2+ho) (σ.at lx).1 ((σ.at lx).2+lo)
 | .fl rows=>.fl (Vl.ue σ rows)
 | .oo k x o=>.oo k (σ.at x).1 ((σ.at x).2+o)
 | .rr k off=>.rr k off
 | .qq k x o off=>.qq k (σ.at x).1 ((σ.at x).2+o) off
 | .pp c=>.pp c
 | .pv c=>.pv (Vl.yd σ c)
 | .fx rows=>.fx (Vl.ue σ rows)
 | .lf row x o=>.lf row (σ.at x).1 ((σ.at x).2+o)
 | .aa cs=>.aa (Vl.yd σ cs)
 | .uu cs=>.uu (Vl.yd σ cs)
 | .ei k lo hi tt=>.ei k lo hi (tt.map (Cn.sub σ))
 | .tp cs w=>.tp (Vl.yd σ cs) (w.sub σ)
 | .dd d=>.dd d
def Vl.yd (σ:Sg):List Vl->List Vl
 |[]=>[]
 |v::vs=>v.sub σ::Vl.yd σ vs
def Vl.ue (σ:Sg):List (List Vl)->List (List Vl)
 |[]=>[]
 |v::vs=>Vl.yd σ v::Vl.ue σ vs
end
def Sg.ok (ν μ:List Int) (σ:Sg):Prop:=∀x n,μ[x]?=some n->k7 ν (σ.at x).1 (σ.at x).2 n
section
variable {ν μ:List Int} {σ:Sg} (hσ:σ.ok ν μ)
include hσ
theorem k7.sub {x:Nat} {o n:Int} (h:k7 μ x o n):k7 ν (σ.at x).1 ((σ.at x).2+o) n:=by
 obtain⟨v,G,rfl⟩:=h;obtain⟨w,C,M⟩:=hσ x v G;exact⟨w,C,Wa⟩
theorem k8.sub {cs:List Cn} (h:k8 μ cs):k8 ν (cs.map (Cn.sub σ)):=λc G=>by
 obtain⟨c0,C,rfl⟩:=QEw.1 G;obtain⟨a,b,U,T,h3⟩:=h c0 C;obtain⟨v,O,Y⟩:=hσ _ _ U;obtain⟨w,M,V⟩:=hσ _ _ T;exact⟨v,w,O,M,by grind [Cn.sub]⟩
mutual
theorem Vl.ga:∀{v:Vl} {d:D},v.has μ d->(v.sub σ).has ν d
 | .ty t,d,h=>h
 | .nn k x o,d,h=>let⟨n,h1,h2⟩:=h;⟨n,h1,h2.sub hσ⟩
 | .ii k,d,h=>h
 | .bf t f,d,h=>let⟨b,h1,h2,h3⟩:=h;⟨b,h1,λq=>(h2 q).sub hσ,λq=>(h3 q).sub hσ⟩
 | .ss x o,d,h=>let⟨n,h1,h2⟩:=h;⟨n,h1,h2.sub hσ⟩
 | .ll row x o,d,h=>let⟨n,h1,h2,h3⟩:=h;⟨n,h1,h2.sub hσ,h3⟩
 | .ld row hx ho lx lo,d,h=>let⟨n,h1,⟨a,b,h4,h5,h6⟩,h3⟩:=h;⟨n,h1,⟨a,b,h4.sub hσ,h5.sub hσ,h6⟩,h3⟩
 | .fl rows,d,h=>let⟨n,h1,h2⟩:=h;⟨n,h1,Vl.jc h2⟩
 | .oo k x o,d,h=>let⟨n,h1,h2⟩:=h;⟨n,h1,h2.sub hσ⟩
 | .rr k off,d,h=>h
 | .qq k x o off,d,h=>let⟨n,h1,h2⟩:=h;⟨n,h1,h2.sub hσ⟩
 | .pp c,d,h=>h
 | .pv c,d,h=>let⟨n,h1,h2⟩:=h;⟨n,h1,Vl.sa h2⟩
 | .fx c,d,h=>let⟨n,h1,h2⟩:=h;⟨n,h1,Vl.jc h2⟩
 | .lf row x o,d,h=>let⟨n,h1,h2,h3⟩:=h;⟨n,h1,h2.sub hσ,h3⟩
 | .aa cs,d,h=>let⟨n,h1,h2⟩:=h;⟨n,h1,Vl.sa h2⟩
 | .uu cs,d,h=>let⟨n,h1,h2⟩:=h;⟨n,h1,Vl.sa h2⟩
 | .ei k lo hi tt,d,h=>let⟨n,h1,h2,h3⟩:=h;⟨n,h1,h2,λq=>(h3 q).sub hσ⟩
 | .tp cs w,d,h=>let⟨n,m,h1,h2,h3⟩:=h;⟨n,m,h1,Vl.sa h2,Vl.ga h3⟩
 | .dd d2,d,h=>h
theorem Vl.sa:∀{vs:List Vl} {ds:List D},Vl.a5 μ vs ds->Vl.a5 ν (Vl.yd σ vs) ds
 |[],ds,h=>h
 |v::vs,ds,h=>let⟨d,r,h1,h2,h3⟩:=h;⟨d,r,h1,Vl.ga h2,Vl.sa h3⟩
theorem Vl.jc:∀{vs:List (List Vl)} {ds:List (List D)},Vl.v7 μ vs ds->Vl.v7 ν (Vl.ue σ vs) ds
 |[],ds,h=>h
 |v::vs,ds,h=>let⟨d,r,h1,h2,h3⟩:=h;⟨d,r,h1,Vl.sa h2,Vl.jc h3⟩
end
end
structure Ct where
 az:List Vl
 nx:Nat
 cs:List Cn
 rv:Vl
 mx:Nat
 rc:List Cn
def Ct.ok (P:Program) (f:Nat) (c:Ct):Prop:=∀(μ:List Int) (ds:List D),μ.length=c.nx->μ[0]?=some 0->k8 μ c.cs->Vl.a5 μ c.az ds->∃e d,(μ++e).length=c.mx/\k8 (μ++e) c.rc/\c.rv.has (μ++e) d/\Ok P f ds d
def Qng (a:AS):Vl->Option Vl
 | .ty t=>some (.ty t)
 | .nn k x o=>some (.nn k x o)
 | .ii k=>some (.ii k)
 | .bf t f=>some (.bf t f)
 | .ss x o=>some (.ss x o)
 | .ll row x o=>some (.ll row x o)
 | .ld row hx ho lx lo=>some (.ld row hx ho lx lo)
 | .lf row x o=>some (.ll row x o)
 | .fl rows=>some (.fx rows)
 | .fx rows=>some (.fx rows)
 | .ei k lo hi _=>some (.ty (.i k lo hi))
 | .oo k x o=>(match lk a.H k with
  |some (.ww row y u _ _)=>if Nat.beq x y=true/\decide (o=u)=true then some (.ll row x o)else none
  |_=>none)
 |_=>none
end Go.Abs
namespace Go.Abs
open Go
variable {a:AS} {d:D} {s:St} {v w:Vl} {ν:List Int}
theorem Qui {t:Tp} (h:t.has d) (H:QEf):t.has ((d.x7 H Jt).x6)/\(d.fz H Jt).can=(d.x7 H Jt).x6:=by
 cases t<;>simp only[Tp.has]at h<;>obtain⟨x,h⟩:=h
 obtain⟨rfl,C⟩:=h;exact⟨⟨_,rfl,C⟩,rfl⟩;subst h;exact⟨⟨_,rfl⟩,rfl⟩;obtain⟨rfl,C⟩:=h;exact⟨⟨_,rfl,C⟩,rfl⟩;obtain⟨C,rfl⟩:=h;exact⟨⟨_,C,rfl⟩,rfl⟩;obtain⟨h,C⟩:=h;rcases h with rfl |rfl<;>exact⟨⟨_,.inl rfl,C⟩,rfl⟩
 obtain⟨h,C⟩:=h;rcases h with rfl |rfl<;>exact⟨⟨_,.inl rfl,C⟩,rfl⟩
theorem RN (h:a.ok ν s) (he:Qng a v=some w) (C:v.has ν d):w.has ν ((d.x7 s.H Jt).x6)/\(d.fz s.H Jt).can=(d.x7 s.H Jt).x6:=by
 unfold Qng at he;split at he;cases he;exact Qui C _;cases he;have M:=C;obtain⟨n,rfl,_⟩:=M;trivial;cases he;have M:=C;obtain⟨n,rfl⟩:=M;trivial;cases he;have M:=C;obtain⟨n,rfl,_⟩:=M;trivial;cases he;have M:=C;obtain⟨n,rfl,_⟩:=M;trivial;cases he;obtain⟨rows,h0,G⟩:=C;rcases h0 with rfl |rfl<;>exact⟨⟨rows,.inl rfl,G⟩,rfl⟩
 cases he;obtain⟨rows,h0,G⟩:=C;rcases h0 with rfl |rfl<;>exact⟨⟨rows,.inl rfl,G⟩,rfl⟩
 cases he;obtain⟨rows,rfl,G⟩:=C;exact⟨⟨rows,.inl rfl,G⟩,rfl⟩
 cases he;obtain⟨rs,rfl,hr⟩:=C;exact⟨⟨rs,.inl rfl,hr⟩,rfl⟩
 cases he;obtain⟨rs,hd,hr⟩:=C;rcases hd with rfl |rfl<;>exact⟨⟨rs,.inl rfl,hr⟩,rfl⟩
 cases he;obtain⟨n,rfl,G,_⟩:=C;exact⟨⟨n,rfl,G⟩,rfl⟩
 rename_i k x o;split at he;rename_i row y u l0 et e1;split at he;rename_i O;cases he
 obtain⟨b,hb,rows,rfl,G,U⟩:=RL.get h.H e1;obtain⟨n,rfl,T⟩:=C;have e5:=QFG O.1;have Y:=of_decide_eq_true O.2;subst e5 Y;have e7:=k7.inj T G;have V:n=rows.length:=Wa;subst V;have key:(D.u4 k rows.length).x7 s.H Jt=.sl rows:=by grind [D.x7,Jt]
 refine⟨?_, ?_⟩;rw[key];exact⟨rows,.inl rfl,G,U⟩;show((D.u4 k rows.length).x7 s.H Jt).can=_;rw[key];rfl
 all_goals grind
def Qr0 (a:AS):List Vl->Option (List Vl)
 |[]=>some []
 |v::vs=>match Qng a v,Qr0 a vs with
  |some w,some ws=>some (w::ws)
  |_,_=>none
theorem Qff {ν:List Int} {a:AS} {s:St} (h:a.ok ν s):∀{vs ws:List Vl} {ds:List D},Qr0 a vs=some ws->Vl.a5 ν vs ds->Vl.a5 ν ws (ds.map λd=>(d.x7 s.H Jt).x6)
 |[],ws,ds,he,hv=>by
  grind [Qr0,Vl.a5]
 |v::vs,ws,ds,he,hv=>by
  simp only[Qr0]at he;split at he;rename_i w C e1 e2;cases he
  obtain⟨d,r,rfl,M,G⟩:=hv;exact⟨_,_,rfl,(RN h e1 M).1,Qff h e2 G⟩
  grind
def QlL (a:AS) (v:Vl):Option Vl:=
 match v with
 | .aa cs=>(match Qr0 a cs with
  |some ws=>some (.aa ws)
  |none=>none)
 |v=>Qng a v
theorem MX (h:a.ok ν s) (he:QlL a v=some w) (C:v.has ν d):w.has ν (XX s d):=by
 unfold QlL at he;split at he;split at he;rename_i ws e1;cases he
 obtain⟨ds,rfl,G⟩:=C;refine⟨_,rfl, ?_⟩;have:=Qff h e1 G;rw[QFH];trivial
 grind
 obtain⟨G,M⟩:=RN h he C
 grind [XX]
def Qfg (a:AS):List y5->Option (List Vl)
 |[]=>some []
 |x::r=>match evA a x with
  |some v=>(match QlL a v,Qfg a r with
   |some w,some ws=>some (w::ws)
   |_,_=>none)
  |none=>none
theorem QbZ {ν:List Int} {a:AS} {s:St} (h:a.ok ν s):∀{xs:List y5} {ws:List Vl},Qfg a xs=some ws->∃ds,Zh s xs=some ds/\Vl.a5 ν ws (ds.map (XX s))
 |[],ws,he=>by simp only[Qfg,QEl]at he;subst he;exact⟨[],rfl,rfl⟩
 |x::r,ws,he=>by
  simp only[Qfg]at he;split at he;rename_i v e1;split at he;rename_i w C e2 O;cases he
  obtain⟨d,U,M⟩:=Q4 h e1;obtain⟨ds,T,G⟩:=QbZ h O;exact⟨d::ds,by grind [Zh],_,_,rfl,MX h e2 M,G⟩
  grind
  grind
def QuH (a:AS):List Vl->List Vl->Bool
 |[],[]=>true
 |v::vs,.ty t::ps=>Qau a v t&&QuH a vs ps
 |_,_=>false
def Qj6 (a:AS):List (List Vl)->List (List Vl)->Bool
 |[],[]=>true
 |r::rs,p::ps=>QuH a r p&&Qj6 a rs ps
 |_,_=>false
theorem Qf9 {ν μ:List Int} {a:AS} {s:St} (h:a.ok ν s):∀{vs ps:List Vl} {ds:List D},QuH a vs ps=true->Vl.a5 ν vs ds->Vl.a5 μ ps ds
 |[],[],_,_,hv=>hv
 |v::vs,p::ps,ds,hf,hv=>by
  obtain⟨d,r,rfl,G,C⟩:=hv;cases p with
  |ty t=>
   simp only[QuH,QEm]at hf;exact⟨d,r,rfl,Pb h hf.1 G,Qf9 h hf.2 C⟩
  |_=>trivial
 |[],_::_,_,hf,_=>by trivial
 |_::_,[],_,hf,_=>by trivial
theorem Qcx {ν μ:List Int} {a:AS} {s:St} (h:a.ok ν s):∀{rs ps:List (List Vl)} {ds:List (List D)},Qj6 a rs ps=true->Vl.v7 ν rs ds->Vl.v7 μ ps ds
 |[],[],_,_,hv=>hv
 |v::vs,p::ps,ds,hf,hv=>by
  obtain⟨d,r,rfl,G,C⟩:=hv;simp only[Qj6,QEm]at hf;exact⟨d,r,rfl,Qf9 h hf.1 G,Qcx h hf.2 C⟩
 |[],_::_,_,hf,_=>by trivial
 |_::_,[],_,hf,_=>by trivial
def mtV (a:AS) (σ:Sg) (v p:Vl):Option (Sg × AS):=
 match p with
 | .ty t=>if Qau a v t=true then some (σ,a)else none
 | .nn k x o=>if Nat.beq x σ.length=true/\decide (o=0)=true then(match toN a v with
   |some (k2,y,u,a1)=>if k=k2 then some (σ++[(y,u)],a1)else none
   |none=>none)else none
 | .ii k=>if Ql7 v=some k then some (σ,a)else none
 | .ss x o=>if Nat.beq x σ.length=true/\decide (o=0)=true then(match gf a v with
   |some (y,u,a1)=>some (σ++[(y,u)],a1)
   |none=>none)else none
 | .ll row x o=>if Nat.beq x σ.length=true/\decide (o=0)=true then(match Qje a v with
   |some (r,y,u,a1)=>if Tp.pb r row=true\/(Nat.beq y 0=true/\decide (u<=0)=true)then some (σ++[(y,u)],a1)else none
   |none=>none)else none
 | .fx ps=>(match v with
  | .fx rows=>if Qj6 a rows ps=true then some (σ,a)else none
  |_=>none)
 |_=>none
def Sg.y7 (ν:List Int):List Int->Sg->Prop
 |[],σ=>σ=[]
 |n::μ,σ=>∃p τ,σ=p::τ/\k7 ν p.1 p.2 n/\Sg.y7 ν μ τ
theorem Jw {ν:List Int} (e:List Int):∀{μ:List Int} {σ:Sg},Sg.y7 ν μ σ->Sg.y7 (ν++e) μ σ
 |[],σ,h=>h
 |n::μ,σ,h=>let⟨p,τ,h1,h2,h3⟩:=h;⟨p,τ,h1,h2.ext e,Jw e h3⟩
theorem XK {ν:List Int}:∀{μ:List Int} {σ:Sg},Sg.y7 ν μ σ->μ.length=σ.length
 |[],σ,h=>by grind [Sg.y7]
 |n::μ,σ,h=>by obtain⟨p,τ,rfl,_,h⟩:=h;simp[XK h]
theorem Hb {ν:List Int}:∀{μ ρ:List Int} {σ τ:Sg},Sg.y7 ν μ σ->Sg.y7 ν ρ τ->Sg.y7 ν (μ++ρ) (σ++τ)
 |[],ρ,σ,τ,h,h2=>by grind [Sg.y7]
 |n::μ,ρ,σ,τ,h,h2=>by obtain⟨p,q,rfl,C,h⟩:=h;exact⟨p,q++τ,rfl,C,Hb h h2⟩
theorem Gu {ν:List Int}:∀{μ:List Int} {σ:Sg},Sg.y7 ν μ σ->σ.ok ν μ
 |[],σ,h=>by intro x n hx;grind
 |n::μ,σ,h=>by
  obtain⟨p,τ,rfl,C,h⟩:=h;intro x m hx;cases x with
  |zero=>simp only[List.getElem?_cons_zero,QEl]at hx;subst hx;exact C
  |succ x=>simp only[List.getElem?_cons_succ]at hx;exact Gu h x m hx
theorem Qmk {a':AS} {σ τ:Sg} {p:Vl} {μ:List Int} (h:a.ok ν s) (he:mtV a σ v p=some (τ,a')) (C:v.has ν d) (hm:Sg.y7 ν μ σ):∃e ρ,a'.ok (ν++e) s/\Sg.y7 (ν++e) (μ++ρ) τ/\p.has (μ++ρ) d:=by
 have hl:=XK hm;have new:∀{e:List Int} {y:Nat} {u n:Int},k7 (ν++e) y u n->Sg.y7 (ν++e) (μ++[n]) (σ++[(y,u)]):=λC=>Hb (Jw _ hm) ⟨_,[],rfl,C,rfl⟩;have M:∀(n:Int) {x:Nat} {o:Int},x=σ.length->o=0->k7 (μ++[n]) x o n:=λn x o hx ho=>⟨n,by grind,Wa⟩;unfold mtV at he;split at he;split at he;rename_i U;cases he
 exact⟨[],[],by grind,by grind,Pb h U C⟩
 grind
 split at he;rename_i G;split at he;rename_i k2 y u Y e1;split at he;rename_i hk;cases he
 obtain⟨f,n,rfl,O,T⟩:=Z7 h e1 C;exact⟨f,[n],T,new O,by subst hk;exact⟨n,rfl,M n (QFG G.1) (of_decide_eq_true G.2)⟩⟩
 grind
 grind
 grind
 split at he;rename_i hk;cases he
 exact⟨[],[],by grind,by grind,Di C hk⟩
 grind
 split at he;rename_i G;split at he;rename_i y u Y e1;cases he
 obtain⟨f,l,rfl,O,T⟩:=JI h e1 C;exact⟨f,[(l.length:Int)],T,new O,l,rfl,M _ (QFG G.1) (of_decide_eq_true G.2)⟩
 grind
 grind
 split at he;rename_i G;split at he;rename_i r y u Y e1;split at he;rename_i hr;cases he
 obtain⟨f,rows,hd,O,T,V⟩:=Xs h e1 C;refine⟨f,[(rows.length:Int)],V,new O,rows,hd,M _ (QFG G.1) (of_decide_eq_true G.2),λq hq=>?_⟩;rcases hr with hr |⟨hr,hu⟩
 grind [Tp.w7]
 have hy:=QFG hr;subst hy;have:=k7.inj O ⟨0,V.z,rfl⟩
 grind
 grind
 grind
 grind
 split at he;split at he;rename_i U;cases he
 obtain⟨rs,hd,hr⟩:=C;exact⟨[],[],by grind,by grind,rs,hd,Qcx h U hr⟩
 all_goals grind
def mtL (a:AS) (σ:Sg):List Vl->List Vl->Option (Sg × AS)
 |[],[]=>some (σ,a)
 |v::vs,p::ps=>match mtV a σ v p with
  |some (σ1,a1)=>mtL a1 σ1 vs ps
  |none=>none
 |_,_=>none
theorem Qmj {s:St}:∀{vs ps:List Vl} {ν μ:List Int} {a a':AS} {σ τ:Sg} {ds:List D},a.ok ν s->mtL a σ vs ps=some (τ,a')->Vl.a5 ν vs ds->Sg.y7 ν μ σ->∃e ρ,a'.ok (ν++e) s/\Sg.y7 (ν++e) (μ++ρ) τ/\Vl.a5 (μ++ρ) ps ds
 |[],[],ν,μ,a,a',σ,τ,ds,h,he,hv,hm=>by
  simp only[mtL,QEl,QFe]at he;obtain⟨rfl,rfl⟩:=he;exact⟨[],[],by grind,by grind,hv⟩
 |v::vs,p::ps,ν,μ,a,a',σ,τ,ds,h,he,hv,hm=>by
  simp only[mtL]at he;split at he;rename_i σ1 a1 e1;obtain⟨d,r,rfl,T,O⟩:=hv;obtain⟨f,ρ,M,G,C⟩:=Qmk h e1 T hm;obtain⟨f2,ρ2,Y,V,U⟩:=Qmj M he (O.ext f) G;exact⟨f++f2,ρ++ρ2,by grind,by grind,d,r,rfl,by rw[<- QFa];exact C.ext ρ2,by grind⟩
  grind
 |[],_::_,ν,μ,a,a',σ,τ,ds,h,he,hv,hm=>by cases he
 |_::_,[],ν,μ,a,a',σ,τ,ds,h,he,hv,hm=>by cases he
def mtG (a:AS) (σ:Sg) (v p:Vl):Option (Sg × AS):=
 match p with
 | .aa ps=>(match v with
  | .aa vs=>mtL a σ vs ps
  |_=>none)
 |p=>mtV a σ v p
theorem Qtg {a a':AS} {s:St} {σ τ:Sg} {p:Vl} {μ:List Int} (h:a.ok ν s) (he:mtG a σ v p=some (τ,a')) (C:v.has ν d) (hm:Sg.y7 ν μ σ):∃e ρ,a'.ok (ν++e) s/\Sg.y7 (ν++e) (μ++ρ) τ/\p.has (μ++ρ) d:=by
 unfold mtG at he;split at he;split at he;obtain⟨ds,rfl,T⟩:=C;obtain⟨f,ρ,O,M,G⟩:=Qmj h he T hm;exact⟨f,ρ,O,M,ds,rfl,G⟩
 grind
 grind [Qmk]
def Qth (a:AS) (σ:Sg):List Vl->List Vl->Option (Sg × AS)
 |[],[]=>some (σ,a)
 |v::vs,p::ps=>match mtG a σ v p with
  |some (σ1,a1)=>Qth a1 σ1 vs ps
  |none=>none
 |_,_=>none
theorem Qg5 {s:St}:∀{vs ps:List Vl} {ν μ:List Int} {a a':AS} {σ τ:Sg} {ds:List D},a.ok ν s->Qth a σ vs ps=some (τ,a')->Vl.a5 ν vs ds->Sg.y7 ν μ σ->∃e ρ,a'.ok (ν++e) s/\Sg.y7 (ν++e) (μ++ρ) τ/\Vl.a5 (μ++ρ) ps ds
 |[],[],ν,μ,a,a',σ,τ,ds,h,he,hv,hm=>by
  simp only[Qth,QEl,QFe]at he;obtain⟨rfl,rfl⟩:=he;exact⟨[],[],by grind,by grind,hv⟩
 |v::vs,p::ps,ν,μ,a,a',σ,τ,ds,h,he,hv,hm=>by
  simp only[Qth]at he;split at he;rename_i σ1 a1 e1;obtain⟨d,r,rfl,T,O⟩:=hv;obtain⟨f,ρ,M,G,C⟩:=Qtg h e1 T hm;obtain⟨f2,ρ2,Y,V,U⟩:=Qg5 M he (O.ext f) G;exact⟨f++f2,ρ++ρ2,by grind,by grind,d,r,rfl,by rw[<- QFa];exact C.ext ρ2,by grind⟩
  grind
 |[],_::_,ν,μ,a,a',σ,τ,ds,h,he,hv,hm=>by cases he
 |_::_,[],ν,μ,a,a',σ,τ,ds,h,he,hv,hm=>by cases he
def QhH:Vl->Bool
 | .ty _ | .nn _ _ _ | .ii _ | .bf _ _ | .ss _ _ | .ll _ _ _ | .ld _ _ _ _ _ | .lf _ _ _ | .fl _ | .fx _=>true
 |_=>false
def Qxu:Vl->Bool
 | .aa cs=>cs.all QhH
 |v=>QhH v
theorem Qdc (h:v.has ν d) (hp:QhH v=true):d.own=false/\d.pure=true:=by
 have C:∀{t:Tp} {d:D},t.has d->d.own=false/\d.pure=true:=λ{t d} h=>by
  cases t<;>simp only[Tp.has]at h<;>obtain⟨_,h⟩:=h
  obtain⟨rfl,_⟩:=h;trivial;subst h;trivial;obtain⟨rfl,_⟩:=h;trivial;obtain⟨_,rfl⟩:=h;trivial;obtain⟨h,_⟩:=h;rcases h with rfl |rfl<;>exact⟨rfl,rfl⟩
  obtain⟨h,_⟩:=h;rcases h with rfl |rfl<;>exact⟨rfl,rfl⟩
 unfold QhH at hp;split at hp;exact C h;obtain⟨n,rfl,_⟩:=h;trivial;obtain⟨n,rfl⟩:=h;trivial;obtain⟨n,rfl,_⟩:=h;trivial;obtain⟨n,rfl,_⟩:=h;trivial;obtain⟨n,h,_⟩:=h;rcases h with rfl |rfl<;>exact⟨rfl,rfl⟩
 obtain⟨n,h,_⟩:=h;rcases h with rfl |rfl<;>exact⟨rfl,rfl⟩
 obtain⟨n,rfl,_⟩:=h;trivial;obtain⟨n,rfl,_⟩:=h;trivial;obtain⟨n,h,_⟩:=h;rcases h with rfl |rfl<;>exact⟨rfl,rfl⟩
 grind
theorem QhF {ν:List Int}:∀{vs:List Vl} {ds:List D},Vl.a5 ν vs ds->vs.all QhH=true->(ds.all λd=>!d.own)=true
 |[],ds,h,hp=>by grind [Vl.a5]
 |v::vs,ds,h,hp=>by
  obtain⟨d,r,rfl,G,C⟩:=h;simp only[QFk,QEm]at hp;rw[QFk,(Qdc G hp.1).1,QhF C hp.2];rfl
theorem Qo7 (h:v.has ν d) (hp:Qxu v=true):d.pure=true:=by
 unfold Qxu at hp;split at hp;obtain⟨ds,rfl,C⟩:=h;exact QhF C hp;exact(Qdc h hp).2
def Qxt (a:AS) (xs:List y5):Bool:=xs.all λx=>match evA a x with
 |some v=>Qxu v
 |none=>false
theorem QhG {ν:List Int} {a:AS} {s:St} (h:a.ok ν s):∀{xs:List y5} {ds:List D},Qxt a xs=true->Zh s xs=some ds->ds.all D.pure=true
 |[],ds,hp,he=>by grind [Zh]
 |x::r,ds,hp,he=>by
  simp only[Qxt,QFk,QEm]at hp;simp only[Zh]at he;split at he;rename_i d ds2 e1 e2;cases he
  have C:=hp.1;split at C;rename_i v O;obtain⟨d2,G,M⟩:=Q4 h O;rw[e1]at G;cases G;rw[QFk,Qo7 M C,QhG h hp.2 e2];rfl
  grind
  grind
def Qga:Vl->Bool
 | .ty (.i _ _ _) | .ty .b | .ty (.s _) | .ty (.c _) | .nn _ _ _ | .ii _ | .bf _ _ | .ss _ _=>true
 |_=>false
def QuI:Vl->Bool
 | .uu vs=>vs.all Qga
 |v=>Qga v
theorem Qcy (h:v.has ν d) (hp:Qga v=true):d.v9=true/\d.flat=true:=by
 unfold Qga at hp;split at hp;obtain⟨n,rfl,_⟩:=h;trivial;obtain⟨n,rfl⟩:=h;trivial;obtain⟨n,rfl,_⟩:=h;trivial;obtain⟨n,_,rfl⟩:=h;trivial;obtain⟨n,rfl,_⟩:=h;trivial;obtain⟨n,rfl⟩:=h;trivial;obtain⟨n,rfl,_⟩:=h;trivial;obtain⟨n,rfl,_⟩:=h;trivial
 grind
theorem Qn6 (h:v.has ν d) (hp:QuI v=true):d.flat=true:=by
 unfold QuI at hp;split at hp;rename_i vs;obtain⟨ds,rfl,C⟩:=h
 have key:∀{vs:List Vl} {ds:List D},Vl.a5 ν vs ds->vs.all Qga=true->ds.all D.v9=true:=by
  intro vs
  induction vs with
  |nil=>grind [Vl.a5]
  |cons v vs ih=>
   intro ds h hp;obtain⟨d,r,rfl,C,G⟩:=h;simp only[QFk,QEm]at hp
   grind [Qcy]
 exact key C hp;exact(Qcy h hp).2
def Qja (n k:Nat):Sg:=(List.range k).map λi=>(n+i,0)
def Qq4 (a:AS) (pu:Bool) (ws:List Vl) (c:Ct):Option (AS × Vl):=
 match Qth a [(0,0)] ws c.az with
 |some (σ,a1)=>if Nat.beq σ.length c.nx=true/\Nat.ble c.nx c.mx=true/\(c.cs.all λk=>(Nat.ble (k.1+1) c.nx&&Nat.ble (k.2.1+1) c.nx)&&QnW a1.cs (k.sub σ).1 (k.sub σ).2.1 (k.sub σ).2.2)=true/\(pu||QuI c.rv)=true then
   some (⟨a1.fr,a1.H,c.rc.map (Cn.sub (σ++Qja a1.nx (c.mx - c.nx)))++a1.cs,a1.nx+(c.mx - c.nx)⟩,c.rv.sub (σ++Qja a1.nx (c.mx - c.nx)))else none
 |none=>none
variable {P:Program} {a':AS} {ds:List D} {ts:List Tp}
theorem Qhd (n k:Nat):Qja n (k+1)=(n,0)::Qja (n+1) k:=by
 unfold Qja;rw[List.range_succ_eq_map,QEW,QFH];refine congr (congrArg List.cons ?_) (QFq λi _=>?_);rfl
 grind
theorem HZ:∀{e ν:List Int},Sg.y7 (ν++e) e (Qja ν.length e.length)
 |[],ν=>rfl
 |n::e,ν=>by
  rw[QEZ,Qhd];refine⟨_,_,rfl,⟨n,by simp,(Int.add_zero _).symm⟩, ?_⟩;have:=HZ (e:=e) (ν:=ν++[n])
  grind
theorem Qli {f:Nat} {pu:Bool} {ws:List Vl} {c:Ct} {v:Vl} (h:a.ok ν s) (hc:c.ok P f) (he:Qq4 a pu ws c=some (a',v)) (hw:Vl.a5 ν ws ds):∃e d,a'.ok (ν++e) s/\v.has (ν++e) d/\Ok P f ds d/\(pu=true\/d.flat=true):=by
 unfold Qq4 at he;split at he;rename_i σ a1 e1;split at he;rename_i M;cases he
 obtain⟨g,ρ,O,Y,h3⟩:=Qg5 (μ:=[0]) h e1 hw ⟨_,[],rfl,XJ h.z 0,rfl⟩;have hσ:=Gu Y;have hl:=XK Y;have hnx:=QFG M.1;have hmx:=QEi M.2.1
 have V:k8 ([0]++ρ) c.cs:=λk hk=>by
  have:=QEs.1 M.2.2.1 k hk;simp only[QEm]at this;obtain⟨⟨b1,b2⟩,b3⟩:=this;have b1:=QEi b1;have b2:=QEi b2;have i1:k.1<([0]++ρ).length:=Wa;have i2:k.2.1<([0]++ρ).length:=Wa;have g1:([0]++ρ)[k.1]?=some (([0]++ρ)[k.1]):=QE8 i1;have g2:([0]++ρ)[k.2.1]?=some (([0]++ρ)[k.2.1]):=QE8 i2;obtain⟨x,q1,q2⟩:=hσ _ _ g1;obtain⟨y,q3,q4⟩:=hσ _ _ g2;obtain⟨z,q5,q6⟩:=HM O.cs b3 q1;have C:(ν++g)[(σ.at k.2.1).1]?=some z:=q5;rw[q3]at C;cases C;have q6':x<=y+(k.2.2+(σ.at k.2.1).2 - (σ.at k.1).2):=q6;exact⟨_,_,g1,g2,Wa⟩
 obtain⟨e,d,w1,w2,w3,w4⟩:=hc ([0]++ρ) ds Wa rfl V h3
 have U:e.length=c.mx - c.nx:=by
  grind
 have T:Sg.y7 (ν++g++e) ([0]++ρ++e) (σ++Qja a1.nx (c.mx - c.nx)):=by
  refine Hb (Jw e Y) ?_;rw[<- U,<- O.nx];exact HZ
 have G:=Gu T;have hva:=Vl.ga G w3;refine⟨g++e,d, ?_,by grind,w4, ?_⟩;rw[<- QFa];exact O.ext e Wa ((w2.sub G).app (O.cs.ext e));have:=M.2.2.2;simp only[QFu]at this
 grind [Qn6]
 grind
 grind
structure Zc where
 az:List Vl
 nx:Nat
 cs:List Cn
 bs:List (Nat × Bx)
 rv:Vl
 mx:Nat
 rc:List Cn
 rb:List (Nat × Bx)
def Zc.ok (P:Program) (f:Nat) (c:Zc):Prop:=∀(μ:List Int) (ds:List D) (H:QEf),μ.length=c.nx->μ[0]?=some 0->k8 μ c.cs->Vl.a5 μ c.az ds->RL (Bx.has μ) c.bs H->
 ∃e d H',(μ++e).length=c.mx/\k8 (μ++e) c.rc/\c.rv.has (μ++e) d/\RL (Bx.has (μ++e)) c.rb H'/\o7 P f ds H d H'
structure Tb where
 f:Nat->List Ct
 ow:List Nat
 z:Nat->List Zc:=λ_=>[]
def Tb.ok (P:Program) (tb:Tb):Prop:=∀f,∀c∈tb.f f,c.ok P f
def Tb.fg (P:Program) (tb:Tb):Prop:=∀f,∀c∈tb.z f,c.ok P f
def Qry {α β:Type} (g:α->Option β):List α->Option β
 |[]=>none
 |x::l=>match g x with
  |some y=>some y
  |none=>Qry g l
theorem P9 {α β:Type} {g:α->Option β}:∀{l:List α} {y:β},Qry g l=some y->∃x∈l,g x=some y
 |[],y,h=>by cases h
 |x::l,y,h=>by
  simp only[Qry]at h;split at h
  grind
  obtain⟨w,G,C⟩:=P9 h;grind
def QuW (tb:Tb):Option Nat->Option Nat
 |some t=>if tb.ow.contains t=true then some t else none
 |none=>none
theorem T3 {s:St} {l0:Nat}:∀{xs:List y5} {rs:List (List D)},XB s l0 xs=some rs->rs.length=xs.length
 |[],rs,h=>by grind [XB]
 |x::xs,rs,h=>by
  simp only[XB]at h;split at h;rename_i d ds e1 e2;split at h;split at h;cases h;simp[T3 e2]
  grind
  grind
  grind
theorem Qki (h:Tp.n6 ts ds):(ds.all λd=>d.y4.isEmpty)=true:=QEs.2 λd hd=>by grind [Tp.qf]
theorem Qpu (h:Tp.n6 ts ds) {k:Nat}:∀d∈ds,k∉d.y4:=λd hd=>by grind [Tp.qf]
def QnS (a:AS) (dr:Bool) (l0:Nat) (p:Vl) (lo:Option y5) (t:Nat):Option AS:=
 match p with
 | .oo k x o=>(match lk a.H k with
  |some (.ww r y u e et2)=>if dr=false/\Nat.ble (k+1) 1000000=true/\Nat.beq e l0=true/\Nat.beq l0 0=false/\Nat.beq x y=true/\decide (o=u)=true then(match bdA a lo 0 0 with
    |some (lx,l,a1)=>if Ju a1.cs 0 0 lx l=true/\Ju a1.cs lx l x o=true then
      some (Cw (QdT ((QaR a1 x o lx l).2.2.n4 k) k (.ww r (QaR a1 x o lx l).1 (QaR a1 x o lx l).2.1 l0 et2)) (some t) (.oo k (QaR a1 x o lx l).1 (QaR a1 x o lx l).2.1))else none
    |none=>none)else none
  |_=>none)
 |_=>none
theorem QjW {dr:Bool} {l0 t:Nat} {p:Vl} {x:y5} {lo:Option y5} {d:D} (h:a.ok ν s) (he:QnS a dr l0 p lo t=some a') (hx:s.ev x=some d) (hp:p.has ν d):lb ν a' s dr (.slice l0 x lo none none) (some t):=by
 unfold QnS at he;split at he;rename_i k x0 o;split at he;rename_i r y0 u e0 O e1;split at he;rename_i C;split at he;rename_i lx l a1 e2;split at he;rename_i U;cases he
 obtain⟨b,hb,rows,rfl,M,V⟩:=RL.get h.H e1;obtain⟨n,rfl,h7⟩:=hp;obtain⟨f,m,w1,w2,G⟩:=RU (df:=0) h e2 (XJ h.z 0);have q1:=QFG C.2.2.2.2.1;have q2:=of_decide_eq_true C.2.2.2.2.2;subst q1 q2;have T:=k7.inj h7 M;have T:n=rows.length:=Wa;subst T;have q4:=QFG C.2.2.1;subst q4;have q5:e0≠0:=λe=>by grind
 have c1:=QX G.cs U.1 (XJ G.z 0) w2;have Y:=QX G.cs U.2 w2 (M.ext f);obtain⟨f2,v1,v2⟩:=QaS G (M.ext f) w2 c1 Y;have hl:((rows.drop m.toNat).length:Int)=rows.length - m:=by grind
 refine⟨f++f2,St.apply ⟨(s.n4 k).fr,(k,⟨rows.drop m.toNat,e0,O,true⟩)::(s.n4 k).H⟩ (some t) (.u4 k (rows.length - m.toNat)) none, ?_,λP kk hk=>.inr (.inr (.inr ⟨C.1,rfl,m,w1,_,hx,_,hb,QEi C.2.1,rfl,rfl,q5,λr0 hr d hd=>Qpu (V r0 hr) d hd,c1,Y,rfl,hk⟩))⟩;rw[<- QFa];refine X9 (dst:=some t) (d:=.u4 k (rows.length - m.toNat)) (GN (rows:=rows.drop m.toNat) (v2.n4 k) Wc λy hy=>V y (QEL hy)) ⟨_,rfl, ?_⟩
 all_goals grind
def opC (tb:Tb) (a:AS) (dr:Bool) (op:s6) (dst:Option Nat):Option AS:=
 match op with
 | .call f args=>(match Qfg a args with
  |some ws=>(match Qry (Qq4 a (Qxt a args) ws) (tb.f f)with
   |some (a1,v)=>some (Cw a1 dst v)
   |none=>none)
  |none=>none)
 | .buildSlice l0 et parts=>(match QuW tb dst with
  |some t=>(match Qex a l0 parts with
   |some rows=>(match QmB a rows,lk a.H t with
    |some r,none=>if L7 a rows r=true then some (Cw (QdT a t (.ww r 0 rows.length l0 et)) (some t) (.oo t 0 rows.length))else none
    |_,_=>none)
   |none=>none)
  |none=>opA a dr (.buildSlice l0 et parts) dst)
 | .slice l0 x lo none none=>(match QuW tb dst,evA a x with
  |some t,some p=>QnS a dr l0 p lo t
  |_,_=>opA a dr (.slice l0 x lo none none) dst)
 |op=>opA a dr op dst
theorem Qtx {tb:Tb} (O:tb.ok P) {dr:Bool} {op:s6} {dst:Option Nat} (h:a.ok ν s) (he:opC tb a dr op dst=some a'):∃e s',a'.ok (ν++e) s'/\∀k:St->Prop,k s'->step P dr op dst s k:=by
 unfold opC at he;split at he;rename_i f args;split at he;rename_i ws e1;split at he;rename_i a1 v e2;cases he
 obtain⟨c,hc,U⟩:=P9 e2;obtain⟨ds,M,T⟩:=QbZ h e1;obtain⟨e,d,G,C,h5,h6⟩:=Qli h (O f c hc) U T;refine⟨e,_,X9 G C,λk hk=>⟨ds,M,d,h5, ?_,hk⟩⟩
 grind [QhG]
 grind
 grind
 rename_i l0 et parts;split at he;rename_i t e0;split at he;rename_i rows e1;split at he;rename_i r e2 U;split at he;rename_i hf;cases he
 have V:dst=some t:=by
  unfold QuW at e0
  grind
 subst V;obtain⟨rs,M,T⟩:=DO h e1;obtain⟨G,C⟩:=KB h hf T;have hl:rs.length=parts.length:=T3 M;have Y:=RL.get_none h.H U;have hp:(rs.all λr=>r.all λd=>d.y4.isEmpty)=true:=QEs.2 λr hr=>Qki (G r hr);refine⟨[],s.apply (some t) (.u4 t parts.length) (some ⟨rs,l0,et,rs.all λr=>r.all λd=>d.y4.isEmpty⟩), ?_,λk hk=>.inl ⟨t,rfl,rs,M,Y,hk⟩⟩;rw[QEN,hp];refine X9 (dst:=some t) (d:=.u4 t parts.length) (GN (rows:=rs) h (by rw[C];exact XJ h.z _) G) ⟨_,rfl, ?_⟩
 rw[<- hl,C];exact XJ h.z _
 grind
 grind
 grind
 grind [Qhk]
 split at he;rename_i t p e0 e1
 have V:dst=some t:=by
  unfold QuW at e0
  grind
 grind [Q4,QjW]
 grind [Qhk]
 grind [Qhk]
variable {cs:List Cn} {d:Dr}
inductive DA where
 |fixed
 |drawn (R W:List (Nat × List Nat))
def DA.dr:DA->Bool
 | .fixed=>false
 | .drawn _ _=>true
def DA.ok:DA->Nat->List Nat->List Nat->Bool
 | .fixed,_,_,_=>true
 | .drawn R W,n,p,q=>CZ n p W&&CZ n q R&&CZ n q W
def DA.nx:DA->List Nat->List Nat->List Nat->DA
 | .fixed,_,_,_=>.fixed
 | .drawn R W,ds,p,q=>.drawn (p.map (·,ds)++R) (q.map (·,ds)++W)
def DA.of:Bool->DA
 |false=>.fixed
 |true=>.drawn [] []
def DA.is:DA->Dr->Prop
 | .fixed,d=>d=.fixed
 | .drawn R W,d=>∃H0,d=.drawn H0 R W
theorem DA.zc (b:Bool) (H:QEf):(DA.of b).is (Dr.of H b):=by
 cases b
 rfl;exact⟨H,rfl⟩
theorem DA.kf {a:DA} (h:a.is d) (n:Nat) (p q:List Nat):d.ok n p q=a.ok n p q/\d.dr=a.dr:=by
 cases a with
 |fixed=>simp only[DA.is]at h;subst h;trivial
 |drawn R W=>obtain⟨H0,rfl⟩:=h;trivial
theorem DA.mg {a:DA} (h:a.is d) (ds p q:List Nat):(a.nx ds p q).is (d.nx ds p q):=by
 cases a with
 |fixed=>simp only[DA.is]at h;subst h;rfl
 |drawn R W=>obtain⟨H0,rfl⟩:=h;exact⟨H0,rfl⟩
def Qs0 (a:AS) (x:y5):List Nat:=match evA a x with
 |some v=>v.ids
 |none=>[]
theorem QgD (h:a.ok ν s) (x:y5):QeV (s.ev x)=Qs0 a x:=by
 unfold Qs0;split;rename_i v e;obtain⟨d,G,C⟩:=Q4 h e;rw[G];exact Vl.j8 C;rename_i e;cases x with
 |s t=>rw[show s.ev (.s t)=none from RL.get_none h.fr e];rfl
 |c d=>cases e
def pkA (op:s6) (a:AS):List Nat:=op.ca.flatMap (Qs0 a)
def wkA (op:s6) (a:AS):List Nat:=match op with
 | .store _ x _=>Qs0 a x
 |_=>[]
theorem QtC (h:a.ok ν s) (op:s6):pk op s=pkA op a/\wk op s=wkA op a:=by
 constructor;unfold pk pkA;have:(λx=>QeV (s.ev x))=Qs0 a:=funext λx=>QgD h x
 grind
 cases op<;>first |rfl |exact QgD h _
def Qjd (t:Nat) (v:Vl):List (Nat × Vl)->List (Nat × Vl)
 |[]=>[]
 |p::l=>if p.1=t then(t,v)::l else p::Qjd t v l
theorem Ht {ν:List Int} {t:Nat} {v:Vl} {d:D} (C:v.has ν d):∀{l:List (Nat × Vl)} {m:QEg},RL (Vl.has ν) l m->lk m t=some d->RL (Vl.has ν) (Qjd t v l) m
 |[],m,h,hd=>h
 |p::l,m,h,hd=>by
  obtain⟨b,r,rfl,M,G⟩:=h;unfold Qjd;rw[Qz]at hd;split;rename_i e;rw[if_pos e]at hd;cases hd;exact⟨_,r,by rw[e],C,G⟩;rename_i e;rw[if_neg e]at hd;exact⟨b,r,rfl,M,Ht C G hd⟩
def noF (a:AS) (cs:List Cn):Bool:=Qnk cs||cs.any λk=>ent a.cs fuC k.2.1 k.1 (-k.2.2 - 1)
theorem Qtn (h:a.ok ν s) (C:noF a cs=true):¬k8 ν cs:=λG=>by
 simp only[noF,QFu,QFy]at C;rcases C with q |⟨k,hk,q⟩
 exact RR h.z q G;obtain⟨x,y,V,M,U⟩:=G k hk;obtain⟨z,T,O⟩:=N1 h.cs q M
 grind
def cB (b:Bool):Vl:=if b=true then .bf [] [Qfk]else .bf [Qfk] []
theorem Qjy (b:Bool):(cB b).has ν (.bool b):=by
 cases b
 exact⟨false,rfl,λh=>(by cases h),λ_=>ZF⟩;exact⟨true,rfl,λ_=>ZF,λh=>(by cases h)⟩
def QuD (c d:Cn):Bool:=Nat.beq c.1 d.1&&(Nat.beq c.2.1 d.2.1&&decide (c.2.2=d.2.2))
def QmM (a:AS) (t:Option Nat) (b:Bool) (cs:List Cn):List (Bool × AS):=
 if noF a cs=true then[]else[(b,⟨match t with
  |some t=>Qjd t (cB b) a.fr
  |none=>a.fr,a.H,cs.filter (λc=>!a.cs.any (QuD c))++a.cs,a.nx⟩)]
theorem QiW (h:a.ok ν s) {t:Option Nat} {b:Bool} (C:∀u,t=some u->lk s.fr u=some (.bool b)) (G:k8 ν cs):∃a',(b,a')∈QmM a t b cs/\a'.ok ν s:=by
 unfold QmM;split
 grind [Qtn]
 refine⟨_,QEr.2 rfl,⟨?_,h.H,k8.app (λc hm=>G c (QFF.1 hm).1) h.cs,h.nx,h.z⟩⟩;cases t with
 |none=>exact h.fr
 |some u=>exact Ht (Qjy b) h.fr (C u rfl)
def QbC:y5->Option Nat
 | .s t=>some t
 | .c _=>none
def spl (a:AS) (x:y5):Option (List (Bool × AS)):=
 match evA a x with
 |some (.bf tt ff)=>some (QmM a (QbC x) true tt++QmM a (QbC x) false ff)
 |some (.ty .b)=>some (QmM a (QbC x) true []++QmM a (QbC x) false [])
 |_=>none
theorem QdC (h:a.ok ν s) {x:y5} {l:List (Bool × AS)} (he:spl a x=some l):∃b a',(b,a')∈l/\s.ev x=some (.bool b)/\a'.ok ν s:=by
 have key:∀{b:Bool} {C M:List Cn},s.ev x=some (.bool b)->(b=true->k8 ν C)->(b=false->k8 ν M)->∃b a',(b,a')∈QmM a (QbC x) true C++QmM a (QbC x) false M/\s.ev x=some (.bool b)/\a'.ok ν s:=λ{b C M} hx G T=>by
  have O:∀u,QbC x=some u->lk s.fr u=some (.bool b):=λu hu=>by
   cases x with
   |s t=>cases hu;exact hx
   |c d=>cases hu
  cases b
  obtain⟨a',V,U⟩:=QiW h O (T rfl)
  grind
  obtain⟨a',V,U⟩:=QiW h O (G rfl)
  grind
 unfold spl at he;split at he;rename_i C M e1;cases he
 obtain⟨d,G,b,rfl,T,Y⟩:=Q4 h e1
 grind
 rename_i e1;cases he
 obtain⟨d,G,b,rfl⟩:=Q4 h e1;exact key G (λ_=>ZF) λ_=>ZF
 grind
variable {d:D} {dst:Option Nat} {op:s6}
def Qd0 {α β:Type} (f:α->Option (List β)):List α->Option (List β)
 |[]=>some []
 |x::l=>match f x,Qd0 f l with
  |some a,some b=>some (a++b)
  |_,_=>none
theorem X0 {α β:Type} {f:α->Option (List β)}:∀{l:List α} {r:List β} {x:α},Qd0 f l=some r->x∈l->∃q,f x=some q/\∀y∈q,y∈r
 |[],r,x,h,hx=>by grind
 |z::l,r,x,h,hx=>by
  simp only[Qd0]at h;split at h;rename_i a b e1 e2;cases h
  rcases QEk.1 hx with rfl |hx
  grind
  obtain⟨q,G,C⟩:=X0 e2 hx
  grind
  grind
def Qwg:Option Vl->Bool
 |some (.dd .undef)=>true
 |_=>false
theorem QiM {l:List (Nat × Vl)} {m:QEg} {t:Nat} (h:RL (Vl.has ν) l m) (hu:Qwg (lk l t)=true):lk m t=some .undef:=by
 unfold Qwg at hu;split at hu;rename_i e;obtain⟨d,G,C⟩:=RL.get h e
 grind [Vl.has]
 grind
def efA (a:AS) (dr:Bool) (op:s6) (dst:Option Nat):Option (AS × List Nat × List Nat):=
 match dr,op,dst with
 |true,.append l0 et bytes x y,some t=>(match evA a x with
  |some (.oo k z o)=>(match evA a y,lk a.H k,lk a.H t with
   |some q,some (.ww r u w e et2),none=>if Nat.ble (k+1) 1000000=true/\Nat.ble (t+1) 1000000=true/\Nat.beq e l0=true/\Nat.beq et2 et=true/\Nat.beq z u=true/\decide (o=w)=true/\q.ids.contains k=false then(match QqM a l0 (some (QxM a l0 r q (Nat.beq z 0&&decide (o=0)))) q with
     |some (r2,sx,so,a1)=>if Sn (FQ a1 q z o sx so).2.2 (FQ a1 q z o sx so).1 (FQ a1 q z o sx so).2.1 bytes=true/\(Tp.pb r r2||(Nat.beq z 0&&decide (o=0)))=true then
       some (Cw (QdT (QdT (FQ a1 q z o sx so).2.2 k (.ww [] 0 0 0 0)) t (.ww r2 (FQ a1 q z o sx so).1 (FQ a1 q z o sx so).2.1 l0 et)) (some t) (.oo t (FQ a1 q z o sx so).1 (FQ a1 q z o sx so).2.1),k::q.ids,[k])else none
     |none=>none)else none
   |_,_,_=>none)
  |_=>none)
 |_,_,_=>none
theorem Qt7 {l0:Nat} {e:D} {ys:List (List D)} (h:∀kk:List (List D)->Bool->Prop,kk ys true->D3 s l0 e kk):s.src l0 e ys true:=by
 have:=h (λy p=>y=ys/\p=true) ⟨rfl,rfl⟩;unfold D3 at this;unfold St.src;split at this
 grind
 grind
 obtain⟨b,hb,O,M,G,C⟩:=this;grind
 grind
theorem Qsy {B:Nat->Prop} {a':AS} {dr:Bool} {p q:List Nat} (h:a.ok ν s) (he:efA a dr op dst=some (a',p,q)):∃e d ef,EF P B op dst s p q d ef/\a'.ok (ν++e) (s.s8 dst d ef)/\∀r,N0 op dst r=YV dst.toList r:=by
 unfold efA at he;split at he;rename_i l0 et bytes x y t;split at he;rename_i k z o e1;split at he;rename_i q r u w e G e2 e3 e4;split at he;rename_i M;split at he;rename_i r2 Y so a1 e5;split at he;rename_i U;cases he
 obtain⟨U,hle⟩:=U;obtain⟨d1,hx,n,rfl,h7⟩:=Q4 h e1;obtain⟨d2,O,T⟩:=Q4 h e2;obtain⟨_,hl,f,ys,h1,h2,h3,h4⟩:=D2 h e5 T;obtain⟨b,hb,rows,rfl,V,h6⟩:=RL.get h.H e3;have q1:=QFG M.2.2.2.2.1;have q2:=of_decide_eq_true M.2.2.2.2.2.1;subst q1 q2;have q3:=k7.inj h7 V;have q3:n=rows.length:=Wa;subst q3;have q4:=QFG M.2.2.1;have q5:=QFG M.2.2.2.1;subst q4 q5;obtain⟨f2,w1,w2⟩:=QbM h3 T h4 (V.ext f) h1;have C:k7 (ν++f++f2) (FQ a1 q z o Y so).1 (FQ a1 q z o Y so).2.1 ((rows.length+ys.length:Nat):Int):=by grind
 obtain⟨b1,b2⟩:=G1 w2 U C;have hid:=Vl.j8 T;refine⟨f++f2,.u4 t (rows.length+ys.length),[(t,⟨rows++ys,e,G,true&&true⟩),(k,Yn)],⟨t,k,rows.length,⟨rows,e,G,true⟩,d2,ys,true,rfl,hx,QEi M.1,RL.get_none h.H e4,QEi M.2.1,hb,rfl,rfl,rfl,O, ?_,Qt7 h4,b1,b2,by grind,rfl,rfl,rfl⟩, ?_,λ_=>rfl⟩
 grind
 rw[<- QFa];have g0:=GN (t:=k) (l0:=0) (et:=0) (row:=[]) (x:=0) (o:=0) (rows:=[]) w2 (XJ w2.z _) (λr hr=>by grind);have g1:=GN (t:=t) (l0:=e) (et:=G) (row:=r2) (rows:=rows++ys) g0 (by rw[QEY];exact C) (λy O=>(QEt.1 O).elim (λq=>QfU h.z hle V h6 y q) (h2 y))
 exact X9 (dst:=some t) (d:=.u4 t (rows.length+ys.length)) g1 ⟨_,rfl,C⟩
 all_goals grind
def Qty (a:AS):Vl->AS × Vl
 | .ty t=>(match t with
  | .i k lo hi=>(a.sym [(0,a.nx, -lo),(a.nx,0,hi)],.nn k a.nx 0)
  | .l row n=>(a.sym [(0,a.nx,0),(a.nx,0,(n:Int))],.ll row a.nx 0)
  | .s n=>(a.sym [(0,a.nx,0),(a.nx,0,(n:Int))],.ss a.nx 0)
  |t=>(a,.ty t))
 |v=>(a,v)
theorem QbE (h:a.ok ν s) {lo hi n:Int} (O:lo<=n) (M:n<=hi):(a.sym [(0,a.nx, -lo),(a.nx,0,hi)]).ok (ν++[n]) s/\k7 (ν++[n]) a.nx 0 n:=by
 have C:=h.new n;refine⟨h.sym n λc G=>?_,n,C,Wa⟩;have z:=Kr [n] h.z;simp only[QEk,QEj,or_false]at G;rcases G with rfl |rfl
 exact⟨0,n,z,C,by grind⟩;exact⟨n,0,C,z,by grind⟩
theorem Qhu (h:a.ok ν s) (O:v.has ν d):∃e,(Qty a v).1.ok (ν++e) s/\(Qty a v).2.has (ν++e) d:=by
 have same:∃e,a.ok (ν++e) s/\v.has (ν++e) d:=⟨[],by grind,by grind⟩;unfold Qty;split;split;obtain⟨n,rfl,M,T⟩:=O;obtain⟨G,C⟩:=QbE h M T;exact⟨[n],G,n,rfl,C⟩;obtain⟨rows,h0,M,T⟩:=O;obtain⟨G,C⟩:=QbE h (lo:=0) (hi:=_) (n:=(rows.length:Int)) Wa (Int.ofNat_le.2 M);exact⟨_,G,rows,h0,C,T⟩;obtain⟨l,rfl,M⟩:=O;obtain⟨G,C⟩:=QbE h (lo:=0) (hi:=_) (n:=(l.length:Int)) Wa (Int.ofNat_le.2 M);exact⟨_,G,l,rfl,C⟩;omega;omega
def Qtz:AS->List Vl->AS × List Vl
 |a,[]=>(a,[])
 |a,v::vs=>match Qty a v with
  |(a1,w)=>match Qtz a1 vs with
   |(a2,ws)=>(a2,w::ws)
theorem Qbo {s:St}:∀{vs:List Vl} {ν:List Int} {a:AS} {ds:List D},a.ok ν s->Vl.a5 ν vs ds->∃e,(Qtz a vs).1.ok (ν++e) s/\Vl.a5 (ν++e) (Qtz a vs).2 ds
 |[],ν,a,ds,h,hv=>⟨[],by rw[QEN];exact h,by trivial⟩
 |v::vs,ν,a,ds,h,hv=>by
  obtain⟨d,r,rfl,U,T⟩:=hv;obtain⟨e,O,M⟩:=Qhu h U;obtain⟨e2,G,C⟩:=Qbo O (T.ext e);exact⟨e++e2,by rw[<- QFa];exact G,d,r,rfl,by rw[<- QFa];exact M.ext e2,by rw[<- QFa];exact C⟩
def QuV (a:AS):Vl->AS × Vl
 | .aa cs=>match Qtz a cs with
  |(a1,ws)=>(a1,.aa ws)
 |v=>Qty a v
theorem QoW (h:a.ok ν s) (C:v.has ν d):∃e,(QuV a v).1.ok (ν++e) s/\(QuV a v).2.has (ν++e) d:=by
 unfold QuV;split;obtain⟨ds,rfl,O⟩:=C;obtain⟨e,M,G⟩:=Qbo h O;exact⟨e,M,ds,rfl,G⟩
 grind [Qhu]
def QuU (a:AS) (dst:Option Nat):AS:=
 match dst with
 |none=>a
 |some t=>match lk a.fr t with
  |none=>a
  |some v=>match QuV a v with
   |(a1,w)=>⟨Qjd t w a1.fr,a1.H,a1.cs,a1.nx⟩
theorem Qhv (h:a.ok ν s) (dst:Option Nat):∃e,(QuU a dst).ok (ν++e) s:=by
 have same:∃e,a.ok (ν++e) s:=⟨[],by grind⟩;unfold QuU;split;omega;rename_i t;split;omega;rename_i v e1;obtain⟨d,O,M⟩:=RL.get h.fr e1;obtain⟨e,C,G⟩:=QoW h M;exact⟨e,Ht G C.fr O,C.H,C.cs,C.nx,C.z⟩
def QzH:Vl->Option (Nat × Nat)
 | .rr k off=>some (k,off)
 | .qq k _ _ off=>some (k,off)
 | .dd d=>(match d with
  | .ref k _ off=>some (k,off)
  |_=>none)
 |_=>none
def QzI:D->Option (Nat × Nat)
 | .ref k _ off=>some (k,off)
 |_=>none
theorem Qpe (h:v.has ν d):QzI d=QzH v:=by
 cases v
 case ty t=>
  have:=Tp.y4 h;cases d<;>first |rfl |(trivial)
 case rr=>simp only[Vl.has]at h;subst h;rfl
 case qq=>obtain⟨n,rfl,_⟩:=h;rfl
 case dd d2=>simp only[Vl.has]at h;subst h;rfl
 case ll=>obtain⟨_,h |h,_⟩:=h<;>subst h<;>rfl
 case ld=>obtain⟨_,h |h,_⟩:=h<;>subst h<;>rfl
 case fx=>obtain⟨_,h |h,_⟩:=h<;>subst h<;>rfl
 case tp=>obtain⟨_,_,rfl,_⟩:=h;rfl
 all_goals (obtain⟨_,rfl,_⟩:=h;rfl)
def Qu0 (a:AS) (x:y5):Option (Nat × Nat):=
 match evA a x with
 |some v=>QzH v
 |none=>none
def Qu1 (s:St) (x:y5):Option (Nat × Nat):=
 match s.ev x with
 |some d=>QzI d
 |none=>none
theorem QhM (h:a.ok ν s) (x:y5):Qu1 s x=Qu0 a x:=by
 unfold Qu1 Qu0;cases e:evA a x with
 |some v=>
  grind [Q4,Qpe]
 |none=>
  cases x with
  |s t=>rw[show s.ev (.s t)=none from RL.get_none h.fr e]
  |c d=>cases e
def QrF (w:Bool) (op:s6) (a:AS) (p:List Nat):List Nat:=
 match w,op,p with
 |true,.load agg sz x,k0::p0=>(match Qu0 a x with
  |some (k,off)=>if Nat.ble 1000000 k=true then(2*k+1)::R5 k off (if agg=true then sz else 1)else GK (.load agg sz x) (k0::p0)
  |none=>GK (.load agg sz x) (k0::p0))
 |_,op,p=>GK op p
def QrG (w:Bool) (op:s6) (a:AS) (q:List Nat):List Nat:=
 match w,op,q with
 |true,.store sz x v,k0::q0=>(match Qu0 a x with
  |some (k,off)=>if Nat.ble 1000000 k=true then Hy (.store sz x v) (k0::q0)++R5 k off sz else Hy (.store sz x v) (k0::q0)
  |none=>Hy (.store sz x v) (k0::q0))
 |_,op,q=>Hy op q
theorem Cd (h:a.ok ν s) (w:Bool) (op:s6) (p:List Nat):tkR w op s p=QrF w op a p:=by
 cases w
 rfl;cases op<;>cases p<;>try rfl
 rename_i agg sz x k0 p0;have e:=QhM h x;simp only[tkR,cR,QrF,<- e,Qu1];cases s.ev x with
 |none=>rfl
 |some d=>cases d<;>rfl
theorem Cf (h:a.ok ν s) (w:Bool) (op:s6) (p:List Nat):tkW w op s p=QrG w op a p:=by
 cases w
 rfl;cases op<;>cases p<;>try rfl
 rename_i sz x v k0 p0;have e:=QhM h x;simp only[tkW,cW,QrG,<- e,Qu1];cases s.ev x with
 |none=>rfl
 |some d=>cases d<;>rfl
def QuO (tb:Tb) (w:Bool) (dr:DA) (op:s6) (dst:Option Nat) (r:List u3) (a:AS):Option (DA × AS):=
 match efA a dr.dr op dst with
 |some (a1,p,q)=>if dr.ok r.length (QrF w op a p) (QrG w op a q)=true then some (dr.nx (YV dst.toList r) (QrF w op a p) (QrG w op a q),QuU a1 dst)else none
 |none=>if dr.ok r.length (QrF w op a (pkA op a)) (QrG w op a (wkA op a))=true then(match opC tb a dr.dr op dst with
   |some a1=>some (dr.nx (Sa w op dst r) (QrF w op a (pkA op a)) (QrG w op a (wkA op a)),QuU a1 dst)
   |none=>none)else none
theorem Qhi {tb:Tb} (U:tb.ok P) {w:Bool} {r:List u3} {dr M:DA} {G:Dr} {Y:AS} (hd:dr.is G) (h:a.ok ν s) (he:QuO tb w dr op dst r a=some (M,Y)):∃e s1 C,M.is C/\Y.ok (ν++e) s1/\∀F:Dr->St->Prop,F C s1->QuP P w G op dst r s F:=by
 unfold QuO at he;split at he;rename_i a2 p q e1;split at he;rename_i V;cases he
 obtain⟨e,d,ef,T,O,h3⟩:=Qsy (P:=P) (B:=G.B) h e1;obtain⟨e2,O⟩:=Qhv O dst;refine⟨e++e2,_,_,DA.mg hd _ _ _,by rw[<- QFa];exact O,λF hF=>.inr ⟨p,q,d,ef,T, ?_,h3 r, ?_⟩⟩
 grind [DA.kf,Cd,Cf]
 grind [Cd,Cf]
 grind
 split at he;rename_i V;split at he;rename_i a2 e1;cases he
 obtain⟨f,s1,T,O⟩:=Qtx U h e1;obtain⟨f2,T⟩:=Qhv T dst;obtain⟨p1,p2⟩:=QtC h op;refine⟨f++f2,s1,_,DA.mg hd _ _ _,by grind,λF hF=>.inl ⟨?_, ?_⟩⟩
 grind [DA.kf,Cd,Cf]
 rw[(DA.kf hd 0 [] []).2,p1,p2,Cd h,Cf h];grind
 grind
 grind
def spN (a:AS) (x:y5):List AS:=
 match x with
 | .s t=>(match lk a.fr t with
  |some (.nn k y o)=>if Nat.beq y 0=true then[a]else(match bdN a y o with
   |some (lo,hi)=>if hi - lo<16 then(List.range (hi - lo+1).toNat).map λ(i:Nat)=>⟨Qjd t (.nn k 0 (lo+i)) a.fr,a.H,(y,0,lo+i - o)::(0,y,o - (lo+i))::a.cs,a.nx⟩else[a]
   |none=>[a])
  |some (.ty (.i k lo hi))=>if hi - lo<16 then(List.range (hi - lo+1).toNat).map λ(i:Nat)=>⟨Qjd t (.nn k 0 (lo+i)) a.fr,a.H,a.cs,a.nx⟩else[a]
  |_=>[a])
 | .c _=>[a]
theorem Qt4 (h:a.ok ν s) (x:y5):∃a'∈spN a x,a'.ok ν s:=by
 have same:∃a'∈[a],a'.ok ν s:=⟨a,by simp,h⟩;unfold spN;split;rename_i t;split;rename_i k y o e1;split;omega;split;rename_i lo hi e2;split;obtain⟨d,G,n,rfl,C⟩:=RL.get h.fr e1;have hb:=Xz h e2 C;refine⟨_,QEw.2 ⟨(n - lo).toNat,QEE.2 Wa,rfl⟩,⟨?_,h.H, ?_,h.nx,h.z⟩⟩;exact Ht (v:=.nn k 0 (lo+((n - lo).toNat:Nat))) (d:=.int k n) ⟨n,rfl,0,h.z,Wa⟩ h.fr G;obtain⟨v,M,T⟩:=C;refine k8.app (a:=[_,_]) (λc O=>?_) h.cs;simp only[QEk,QEj,or_false]at O;rcases O with rfl |rfl
 exact⟨v,0,M,h.z,by grind⟩;exact⟨0,v,h.z,M,by grind⟩;omega;omega;rename_i k lo hi e1;split;obtain⟨d,G,n,rfl,C,U⟩:=RL.get h.fr e1;refine⟨_,QEw.2 ⟨(n - lo).toNat,QEE.2 Wa,rfl⟩,⟨?_,h.H,h.cs,h.nx,h.z⟩⟩;exact Ht (v:=.nn k 0 (lo+((n - lo).toNat:Nat))) (d:=.int k n) ⟨n,rfl,0,h.z,Wa⟩ h.fr G;omega;omega;omega
def QuY (op:s6) (a:AS):List AS:=
 match op with
 | .r8 _ _ _ i=>spN a i
 | .wb (.s t)=>(match lk a.fr t with
  |some (.bf tt _)=>if(tt.any λc=>Nat.beq c.1 0&&(Nat.beq c.2.1 0&&decide (c.2.2=7)))=true then(match spl a (.s t)with
   |some l=>l.map Prod.snd
   |none=>[a])else[a]
  |_=>[a])
 |_=>[a]
theorem QhD (h:a.ok ν s) (op:s6):∃a'∈QuY op a,a'.ok ν s:=by
 unfold QuY;split;exact Qt4 h _;split;split;split;rename_i l e;obtain⟨b,a',G,_,C⟩:=QdC h e
 all_goals grind
def Qdt (tb:Tb) (w:Bool):DA->List u3->AS->Option (List AS)
 |_,[],a=>some [a]
 |dr,⟨dst,op,none⟩::r,a=>Qd0 (λa0=>(match QuO tb w dr op dst r a0 with
   |some (dr1,a1)=>Qdt tb w dr1 r a1
   |none=>none)) (QuY op a)
 |dr,⟨dst,op,some (t,b)⟩::r,a=>if Qwg (lk a.fr t)=true then Qdt tb w dr r (Cw a dst (.dd .undef))else(match spl a (.s t)with
   |some l=>Qd0 (λ(p:Bool × AS)=>if p.1=b then Qd0 (λa0=>(match QuO tb w dr op dst r a0 with
     |some (dr1,a1)=>Qdt tb w dr1 r a1
     |none=>none)) (QuY op p.2)else Qdt tb w dr r (Cw p.2 dst (.dd .undef))) l
   |none=>none)
theorem Hv {P:Program} {tb:Tb} (C:tb.ok P) {w:Bool}:∀{ops:List u3} {dr:DA} {G:Dr} {a:AS} {outs:List AS} {ν:List Int} {s:St},dr.is G->a.ok ν s->Qdt tb w dr ops a=some outs->∃a'∈outs,∃e s',a'.ok (ν++e) s'/\∀K:St->Prop,K s'->Qey P w G ops K s
 |[],dr,G,a,outs,ν,s,hd,h,he=>by
  simp only[Qdt,QEl]at he;subst he;exact⟨a,by simp,[],s,by grind,λK hK=>by cases w<;>exact hK⟩
 |⟨dst,op,none⟩::r,dr,G,a,outs,ν,s,hd,h,he=>by
  simp only[Qdt]at he;obtain⟨a0,T,h0⟩:=QhD h op;obtain⟨q0,he,M⟩:=X0 he T;split at he;rename_i dr1 a1 e1;obtain⟨f,s1,drc1,U,V,h2⟩:=Qhi (P:=P) C hd h0 e1;obtain⟨a',ha,e,s',h3,h4⟩:=Hv C U V he;exact⟨a',M _ ha,f++e,s',by grind,λK hK=>DS (h2 (λdr s=>Qey P w dr r K s) (h4 K hK))⟩
  grind
 |⟨dst,op,some (t,b)⟩::r,dr,G,a,outs,ν,s,hd,h,he=>by
  simp only[Qdt]at he;have no:∀{a1:AS},a1.ok ν s->(Cw a1 dst (.dd .undef)).ok ν (s.apply dst .undef none):=λV=>X9 V rfl;split at he;rename_i hu;have hl:=QiM h.fr hu;obtain⟨a',ha,e,s',h3,h4⟩:=Hv C hd (no h) he
  grind [Qh0]
  split at he;rename_i l e1;obtain⟨c,a1,hm,hx,V⟩:=QdC h e1;obtain⟨q,O,Y⟩:=X0 he hm;have hx:lk s.fr t=some (.bool c):=hx;simp only at O;split at O;rename_i hc;subst hc;obtain⟨a0,T,h0⟩:=QhD V op;obtain⟨q0,O,M⟩:=X0 O T;split at O;rename_i dr1 a2 e2;obtain⟨f,s1,drc1,U,h2,h3⟩:=Qhi (P:=P) C hd h0 e2;obtain⟨a',ha,e,s',h4,h5⟩:=Hv C U h2 O;exact⟨a',Y _ (M _ ha),f++e,s',by grind,λK hK=>DR hx (h3 (λdr s=>Qey P w dr r K s) (h5 K hK))⟩
  grind
  rename_i hc;obtain⟨a',ha,e,s',h4,h5⟩:=Hv C hd (no V) O
  grind [Qbw]
  grind
def KN {α:Type}:List Nat->List (Nat × α)->List (Nat × α)
 |[],_=>[]
 |t::ts,l=>match lk l t with
  |some d=>(t,d)::KN ts l
  |none=>KN ts l
theorem Dk {ν:List Int} {l:List (Nat × Vl)} {m:QEg} (h:RL (Vl.has ν) l m):∀ts:List Nat,RL (Vl.has ν) (KN ts l) (Zf ts m)
 |[]=>rfl
 |t::ts=>by
  have C:=Dk h ts;unfold KN Zf;split;rename_i v e;obtain⟨d,M,G⟩:=RL.get h e;rw[M];exact⟨d,_,rfl,G,C⟩
  grind [RL.get_none]
theorem SC {ν:List Int} {l:List (Nat × Bx)} {m:QEf} (h:RL (Bx.has ν) l m):∀ts:List Nat,RL (Bx.has ν) (KN ts l) (Yj ts m)
 |[]=>rfl
 |t::ts=>by
  have C:=SC h ts;unfold KN Yj;split;rename_i v e;obtain⟨d,M,G⟩:=RL.get h e;rw[M];exact⟨d,_,rfl,G,C⟩
  grind [RL.get_none]
def Bx.ids:Bx->List Nat
 | .cc cells _ pr=>if pr=true then[]else cells.flatMap Vl.y4
 | .ww _ _ _ _ _=>[]
theorem Bx.j8 {b:Bx} {x:x4} (h:b.has ν x):x.ids=b.ids:=by
 cases b with
 |cc cells et pr=>
  obtain⟨ds,rfl,C⟩:=h;cases pr
  simp only[x4.ids,Bx.ids,QEq,if_false,QEM,List.flatMap_nil,QEN];exact NH C;rfl
 |ww row x o l0 et=>obtain⟨rows,rfl,_⟩:=h;rfl
theorem RL.isSome {α β:Type} {R:α->β->Prop} {l:List (Nat × α)} {m:List (Nat × β)} (h:RL R l m) (t:Nat):(lk m t).isSome=(lk l t).isSome:=by
 cases e:lk l t with
 |none=>grind [RL.get_none]
 |some a=>obtain⟨b,C,_⟩:=RL.get h e;grind
theorem RL.all {α β:Type} {R:α->β->Prop} {f:Nat->α->Bool} {g:Nat->β->Bool} (C:∀t a b,R a b->g t b=f t a):∀{l:List (Nat × α)} {m:List (Nat × β)},RL R l m->(m.all λp=>g p.1 p.2)=l.all λp=>f p.1 p.2
 |[],m,h=>by grind [RL]
 |p::l,m,h=>by
  obtain⟨b,r,rfl,M,G⟩:=h;rw[QFk,QFk,C _ _ _ M,RL.all C G]
def wfA (a:AS):Bool:=(a.fr.all λp=>p.2.ids.all λk=>(lk a.H k).isSome)&&a.H.all λp=>p.2.ids.all λk=>(lk a.H k).isSome
theorem Quv (h:a.ok ν s):wa s.H s.fr=wfA a:=by
 unfold wa wfA;have e:(λk=>(lk s.H k).isSome)=λk=>(lk a.H k).isSome:=funext λk=>RL.isSome h.H k;rw[e]
 congr 1
 exact RL.all (f:=λ_ v=>v.ids.all λk=>(lk a.H k).isSome) (g:=λ_ d=>d.ids.all λk=>(lk a.H k).isSome) (λt v d C=>by rw[Vl.j8 C]) h.fr;exact RL.all (f:=λ_ v=>v.ids.all λk=>(lk a.H k).isSome) (g:=λ_ (d:x4)=>d.ids.all λk=>(lk a.H k).isSome) (λt v d C=>by rw[Bx.j8 C]) h.H
def Qr5 (a a':AS):Bool:=a.H.all λp=>decide (p.1<1000000)||(lk a'.H p.1).isSome
theorem Qnn {ν':List Int} {a':AS} {s':St} (h:a.ok ν s) (C:a'.ok ν' s'):QeR s.H s'.H=Qr5 a a':=by
 unfold QeR Qr5;exact RL.all (f:=λt _=>decide (t<1000000)||(lk a'.H t).isSome) (g:=λt _=>decide (t<1000000)||(lk s'.H t).isSome) (λt v d G=>by rw[RL.isSome C.H]) h.H
def Qbb (l k:List Nat) (a:AS):AS:=⟨KN l a.fr,KN k a.H,a.cs,a.nx⟩
theorem Dj (h:a.ok ν s) (l k:List Nat):(Qbb l k a).ok ν ⟨Zf l s.fr,Yj k s.H⟩:=⟨Dk h.fr l,SC h.H k,h.cs,h.nx,h.z⟩
theorem QcO (h:a.ok ν s) {l k:List Nat} (hw:wfA (Qbb l k a)=true) (hb:Qr5 a (Qbb l k a)=true):s.le ⟨Zf l s.fr,Yj k s.H⟩:=by
 have C:=Dj h l k;have w:=Quv C;have b:=Qnn h C;exact QM rfl rfl rfl rfl (w.trans hw) (b.trans hb)
def Br (l:List Nat) (a:AS):AS:=⟨KN l a.fr,a.H,a.cs,a.nx⟩
theorem FC (h:a.ok ν s) (l:List Nat):(Br l a).ok ν ⟨Zf l s.fr,s.H⟩:=⟨Dk h.fr l,h.H,h.cs,h.nx,h.z⟩
variable {c:Cn} {f μ ν0:List Int} {n o:Int} {x:Nat} {σ τ:Sg}
def mtX (n0:Nat) (σ:Sg) (x:Nat) (o:Int) (y:Nat) (u:Int):Option Sg:=
 if Nat.ble (x+1) n0=true then(if Nat.beq x y=true/\decide (o=u)=true then some σ else none)
 else if Nat.beq (x - n0) σ.length=true/\decide (o=0)=true then some (σ++[(y,u)])
 else if Nat.ble (x - n0+1) σ.length=true/\Nat.beq (σ.at (x - n0)).1 y=true/\decide ((σ.at (x - n0)).2+o=u)=true then some σ else none
theorem Li {y:Nat} {u:Int} (hm:Sg.y7 (ν0++f) μ σ) (G:k7 (ν0++f) y u n) (he:mtX ν0.length σ x o y u=some τ):∃ρ,Sg.y7 (ν0++f) (μ++ρ) τ/\k7 (ν0++(μ++ρ)) x o n:=by
 have hl:=XK hm;have id:Sg.y7 (ν0++f) (μ++[]) σ:=by grind
 unfold mtX at he;split at he;rename_i hx;have hx:=QEi hx;split at he;rename_i C;cases he
 have e1:=QFG C.1;have e2:=of_decide_eq_true C.2;subst e1 e2;obtain⟨v,U,T⟩:=G;rw[QFg Wa]at U;exact⟨[],id,v,by grind,T⟩
 grind
 rename_i hx;have hx:¬x+1<=ν0.length:=λq=>hx (QFI q);split at he;rename_i C;cases he
 have e1:=QFG C.1;have e2:=of_decide_eq_true C.2;refine⟨[n],Hb hm ⟨_,[],rfl,G,rfl⟩,n, ?_,Wa⟩
 grind
 split at he;rename_i C;cases he
 have e1:=QFG C.2.1;have e2:=of_decide_eq_true C.2.2;have i1:x - ν0.length<μ.length:=by have:=QEi C.1;omega
 have g1:μ[x - ν0.length]?=some (μ[x - ν0.length]):=QE8 i1;have g2:=Gu hm _ _ g1;obtain⟨v,M,Y⟩:=g2;obtain⟨w,O,V⟩:=G;rw[e1,O]at M;cases M;refine⟨[],id,μ[x - ν0.length], ?_,Wa⟩
 grind
 grind
def S1 (n0:Nat) (σ:Sg) (x:Nat) (o:Int):Nat × Int:=if Nat.ble (x+1) n0=true then(x,o)else((σ.at (x - n0)).1,(σ.at (x - n0)).2+o)
theorem Po (hm:Sg.y7 (ν0++f) μ σ) (M:k7 (ν0++μ) x o n):k7 (ν0++f) (S1 ν0.length σ x o).1 (S1 ν0.length σ x o).2 n:=by
 obtain⟨v,C,rfl⟩:=M;unfold S1;split;rename_i hx;have hx:=QEi hx;rw[QFg Wa]at C;exact⟨v,by grind,rfl⟩;rename_i hx;have hx:¬x+1<=ν0.length:=λq=>hx (QFI q);rw[QFb Wa]at C;obtain⟨w,G,O⟩:=Gu hm _ _ C;exact⟨w,G,Wa⟩
def Qd8 (a:AS) (n0:Nat) (σ:Sg) (c:Cn):Bool:=
 (Nat.ble (c.1+1) (n0+σ.length)&&Nat.ble (c.2.1+1) (n0+σ.length))&&QnW a.cs (S1 n0 σ c.1 0).1 (S1 n0 σ c.2.1 0).1 (c.2.2+(S1 n0 σ c.2.1 0).2 - (S1 n0 σ c.1 0).2)
theorem Gc (h:a.ok (ν0++f) s) (hm:Sg.y7 (ν0++f) μ σ) (he:Qd8 a ν0.length σ c=true):c.ok (ν0++μ):=by
 simp only[Qd8,QEm]at he;obtain⟨⟨b1,b2⟩,O⟩:=he;have b1:=QEi b1;have b2:=QEi b2;have Y:=XK hm;have i1:c.1<(ν0++μ).length:=by grind
 have i2:c.2.1<(ν0++μ).length:=by grind
 have g1:(ν0++μ)[c.1]?=some ((ν0++μ)[c.1]):=QE8 i1;have g2:(ν0++μ)[c.2.1]?=some ((ν0++μ)[c.2.1]):=QE8 i2;obtain⟨x,M,V⟩:=Po hm (x:=c.1) (o:=0) ⟨_,g1,(Int.add_zero _).symm⟩;obtain⟨y,G,U⟩:=Po hm (x:=c.2.1) (o:=0) ⟨_,g2,(Int.add_zero _).symm⟩;obtain⟨z,C,T⟩:=HM h.cs O M;rw[G]at C;cases C;exact⟨_,_,g1,g2,Wa⟩
def smC (n0:Nat):Vl->Vl->Bool
 | .ty t,.ty u=>t.le u
 | .nn k x o,.nn j y u=>decide (k=j)&&(Nat.beq x y&&(decide (o=u)&&Nat.ble (x+1) n0))
 | .ss x o,.ss y u=>Nat.beq x y&&(decide (o=u)&&Nat.ble (x+1) n0)
 | .ll r x o,.ll q y u=>Tp.pb r q&&(Nat.beq x y&&(decide (o=u)&&Nat.ble (x+1) n0))
 | .bf _ _,.bf [] []=>true
 | .fl [],.fl []=>true
 |_,_=>false
def smL (n0:Nat):List Vl->List Vl->Bool
 |[],[]=>true
 |v::vs,w::ws=>smC n0 v w&&smL n0 vs ws
 |_,_=>false
def smR (n0:Nat):List (List Vl)->List (List Vl)->Bool
 |[],[]=>true
 |v::vs,w::ws=>smL n0 v w&&smR n0 vs ws
 |_,_=>false
theorem QiO (h:k7 (ν++f) x o n) (hx:x<ν.length):k7 (ν++μ) x o n:=by
 obtain⟨v,G,C⟩:=h;rw[QFg hx]at G;exact⟨v,by grind,C⟩
theorem QtT {w:Vl} (he:smC ν.length v w=true) (h:v.has (ν++f) d):w.has (ν++μ) d:=by
 unfold smC at he;split at he;exact Tp.xb he h;simp only[QEm,decide_eq_true_eq]at he;obtain⟨rfl,C,rfl,M⟩:=he;have C:=QFG C;subst C;obtain⟨n,rfl,G⟩:=h;exact⟨n,rfl,QiO G (QEi M)⟩;simp only[QEm,decide_eq_true_eq]at he;obtain⟨C,rfl,M⟩:=he;have C:=QFG C;subst C;obtain⟨n,rfl,G⟩:=h;exact⟨n,rfl,QiO G (QEi M)⟩;simp only[QEm,decide_eq_true_eq]at he;obtain⟨h0,C,rfl,M⟩:=he;have C:=QFG C;subst C;obtain⟨n,hd,G,O⟩:=h;exact⟨n,hd,QiO G (QEi M),λr hr=>Tp.w7 h0 (O r hr)⟩;obtain⟨b,rfl,_⟩:=h;exact Nq b;trivial
 grind
theorem QmD {ν f μ:List Int}:∀{vs ws:List Vl} {ds:List D},smL ν.length vs ws=true->Vl.a5 (ν++f) vs ds->Vl.a5 (ν++μ) ws ds
 |[],[],ds,_,h=>h
 |v::vs,w::ws,ds,he,h=>by
  simp only[smL,QEm]at he;obtain⟨d,r,rfl,G,C⟩:=h;exact⟨d,r,rfl,QtT he.1 G,QmD he.2 C⟩
 |[],_::_,_,he,_=>by cases he
 |_::_,[],_,he,_=>by cases he
theorem QmE {ν f μ:List Int}:∀{vs ws:List (List Vl)} {ds:List (List D)},smR ν.length vs ws=true->Vl.v7 (ν++f) vs ds->Vl.v7 (ν++μ) ws ds
 |[],[],ds,_,h=>h
 |v::vs,w::ws,ds,he,h=>by
  simp only[smR,QEm]at he;obtain⟨d,r,rfl,G,C⟩:=h;exact⟨d,r,rfl,QmD he.1 G,QmE he.2 C⟩
 |[],_::_,_,he,_=>by cases he
 |_::_,[],_,he,_=>by cases he
def QwX (n0:Nat) (cs:List Cn) (c:Cn):Bool:=(Nat.ble (c.1+1) n0&&Nat.ble (c.2.1+1) n0)&&QnW cs c.1 c.2.1 c.2.2
theorem QnX {cs:List Cn} (h:k8 (ν++f) cs) (he:QwX ν.length cs c=true):c.ok (ν++μ):=by
 simp only[QwX,QEm]at he;have b1:c.1<ν.length:=QEi he.1.1;have b2:c.2.1<ν.length:=QEi he.1.2;obtain⟨b,G,C⟩:=HM h he.2 (show(ν++f)[c.1]?=some ν[c.1] by grind);rw[QFg b2]at G;exact⟨ν[c.1],b,by grind,by grind,C⟩
def Qrw (n0:Nat) (σ:Sg) (a:AS) (t:List Cn) (c:Cn):Bool:=QwX n0 (t++a.cs) c||Qd8 ⟨a.fr,a.H,t++a.cs,a.nx⟩ n0 σ c
theorem L5 {t:List Cn} (h:a.ok (ν0++f) s) (C:k8 (ν0++f) t) (hm:Sg.y7 (ν0++f) μ σ) (he:Qrw ν0.length σ a t c=true):c.ok (ν0++μ):=by
 simp only[Qrw,QFu]at he;rcases he with q |q
 exact QnX (C.app h.cs) q;exact Gc (a:=⟨a.fr,a.H,t++a.cs,a.nx⟩) (s:=s) ⟨h.fr,h.H,C.app h.cs,h.nx,h.z⟩ hm q
def mtJ (a:AS) (n0:Nat) (σ:Sg) (v p:Vl):Option (Sg × AS):=
 match p with
 | .ty t=>if Qau a v t=true then some (σ,a)else none
 | .ii k=>if Ql7 v=some k then some (σ,a)else none
 | .nn k x o=>(match toN a v with
  |some (k2,y,u,a1)=>if k=k2 then(match mtX n0 σ x o y u with
    |some τ=>some (τ,a1)
    |none=>none)else none
  |none=>none)
 | .ss x o=>(match gf a v with
  |some (y,u,a1)=>(match mtX n0 σ x o y u with
   |some τ=>some (τ,a1)
   |none=>none)
  |none=>none)
 | .ll row x o=>(match v with
  | .fl rows=>if L7 a rows row=true then(match mtX n0 σ x o 0 rows.length with
    |some τ=>some (τ,a)
    |none=>none)else none
  |v=>(match Qje a v with
   |some (r,y,u,a1)=>if Tp.pb r row=true\/(Nat.beq y 0=true/\decide (u<=0)=true)then(match mtX n0 σ x o y u with
     |some τ=>some (τ,a1)
     |none=>none)else none
   |none=>none))
 | .oo k x o=>(match v with
  | .oo k2 y u=>if k=k2 then(match mtX n0 σ x o y u with
    |some τ=>some (τ,a)
    |none=>none)else none
  |_=>none)
 | .rr k off=>(match v with
  | .rr k2 off2=>if k=k2/\off=off2 then some (σ,a)else none
  |_=>none)
 | .pp cells=>(match v with
  | .pp c2=>if Tp.pb c2 cells=true then some (σ,a)else none
  |_=>none)
 | .bf [] []=>if QeS v=true then some (σ,a)else none
 | .bf tt ff=>(match v with
  | .bf t f=>if((Qnk t||tt.all (Qrw n0 σ a t))&&(Qnk f||ff.all (Qrw n0 σ a f)))=true then some (σ,a)else none
  |v=>if(QeS v&&(tt.all (Qrw n0 σ a [])&&ff.all (Qrw n0 σ a [])))=true then some (σ,a)else none)
 | .fl []=>(match v with
  | .fl []=>some (σ,a)
  |_=>none)
 | .fx rows=>(match v with
  | .fx rows2=>if smR n0 rows2 rows=true then some (σ,a)else none
  |_=>none)
 | .ei k lo hi tt=>(match toN a v with
  |some (k2,y,u,a1)=>if k=k2/\Ju a1.cs 0 lo y u=true/\Ju a1.cs y u 0 hi=true/\(Ju a1.cs 0 1 y u||(Ju a1.cs y u 0 (-1)||tt.all (Qd8 a1 n0 σ)))=true then some (σ,a1)else none
  |none=>none)
 |_=>none
theorem Qmi {a':AS} {p:Vl} (h:a.ok (ν0++f) s) (he:mtJ a ν0.length σ v p=some (τ,a')) (O:v.has (ν0++f) d) (hm:Sg.y7 (ν0++f) μ σ):∃e ρ,a'.ok (ν0++(f++e)) s/\Sg.y7 (ν0++(f++e)) (μ++ρ) τ/\p.has (ν0++(μ++ρ)) d:=by
 have stay:p.has (ν0++μ) d->∃e ρ,a.ok (ν0++(f++e)) s/\Sg.y7 (ν0++(f++e)) (μ++ρ) σ/\p.has (ν0++(μ++ρ)) d:=λq=>⟨[],[],by grind,by grind,by grind⟩;unfold mtJ at he;split at he;split at he;rename_i hf;cases he
 exact stay (Pb h hf O)
 grind
 split at he;rename_i hk;cases he
 exact stay (Di O hk)
 grind
 split at he;rename_i k2 y u a1 e1;split at he;rename_i hk;split at he;rename_i τ2 e2;cases he
 obtain⟨g,n,rfl,C,G⟩:=Z7 h e1 O;rw[QFa]at C G;have M:=Jw g hm;rw[QFa]at M;obtain⟨ρ,V,U⟩:=Li M C e2;exact⟨g,ρ,G,V,by subst hk;exact⟨n,rfl,U⟩⟩
 grind
 grind
 grind
 split at he;rename_i y u a1 e1;split at he;rename_i τ2 e2;cases he
 obtain⟨g,l,rfl,C,G⟩:=JI h e1 O;rw[QFa]at C G;have M:=Jw g hm;rw[QFa]at M;obtain⟨ρ,V,U⟩:=Li M C e2;exact⟨g,ρ,G,V,l,rfl,U⟩
 grind
 grind
 split at he;rename_i rows;split at he;rename_i hf;split at he;rename_i τ2 e2;cases he
 obtain⟨rs,rfl,C⟩:=O;obtain⟨G,V⟩:=KB h hf C;obtain⟨ρ,U,h5⟩:=Li hm (XJ h.z _) e2;exact⟨[],ρ,by grind,by grind,rs,.inr rfl,by grind,G⟩
 grind
 grind
 split at he;rename_i r y u a1 e1;split at he;rename_i hr;split at he;rename_i τ2 e2;cases he
 obtain⟨g,rows,hd,C,Y,G⟩:=Xs h e1 O;rw[QFa]at C G;have M:=Jw g hm;rw[QFa]at M;obtain⟨ρ,V,U⟩:=Li M C e2;refine⟨g,ρ,G,V,rows,hd,U,λq hq=>?_⟩;rcases hr with hr |⟨hr,hu⟩
 grind [Tp.w7]
 have hy:=QFG hr;subst hy;have:=k7.inj C ⟨0,G.z,rfl⟩
 grind
 grind
 grind
 grind
 split at he;split at he;rename_i hk;split at he;rename_i τ2 e2;cases he
 obtain⟨n,rfl,C⟩:=O;obtain⟨ρ,V,U⟩:=Li hm C e2;exact⟨[],ρ,by grind,by grind,n,by rw[hk],U⟩
 grind
 grind
 grind
 grind [Vl.has]
 split at he;split at he;rename_i hk;cases he
 obtain⟨ds,rfl,C⟩:=O;exact stay ⟨ds,rfl,Tp.w7 hk C⟩
 grind
 grind
 split at he;rename_i hk;cases he
 obtain⟨b,rfl⟩:=Gb O hk;exact stay (Nq b)
 grind
 split at he;split at he;rename_i hk;cases he
 simp only[QEm,QFu]at hk;obtain⟨b,rfl,C,G⟩:=O;refine stay ⟨b,rfl,λe=>?_,λe=>?_⟩;rcases hk.1 with q |q
 exact absurd (C e) (RR h.z q);exactλc T=>L5 h (C e) hm (QEs.1 q c T);rcases hk.2 with q |q
 exact absurd (G e) (RR h.z q);exactλc T=>L5 h (G e) hm (QEs.1 q c T)
 grind
 split at he;rename_i hk;cases he
 simp only[QEm]at hk;obtain⟨b,rfl⟩:=Gb O hk.1;exact stay ⟨b,rfl,λ_ c T=>L5 h ZF hm (QEs.1 hk.2.1 c T),λ_ c T=>L5 h ZF hm (QEs.1 hk.2.2 c T)⟩
 grind
 split at he;cases he
 obtain⟨rs,rfl,C⟩:=O;exact stay ⟨rs,rfl,C⟩
 grind
 split at he;split at he;rename_i hs;cases he
 obtain⟨rs,hd,C⟩:=O;exact stay ⟨rs,hd,QmE hs C⟩
 grind
 grind
 split at he;rename_i k2 y u a1 e1;split at he;rename_i hh;cases he
 obtain⟨hk,b1,b2,b3⟩:=hh;subst hk;obtain⟨g,n,rfl,C,G⟩:=Z7 h e1 O;have c1:=QX G.cs b1 (XJ G.z _) C;have c2:=QX G.cs b2 C (XJ G.z _);rw[QFa]at G;have M:=Jw g hm;rw[QFa]at M;refine⟨g,[],G,by grind,n,rfl,⟨c1,c2⟩,λe0=>?_⟩;rw[QEN];rw[QFa]at C;simp only[QFu]at b3;rcases b3 with q |q |q
 have:=QX G.cs q (XJ G.z _) C;omega;have:=QX G.cs q C (XJ G.z _);omega;exactλc T=>Gc G M (QEs.1 q c T)
 all_goals grind
def mtC (n0:Nat):AS->Sg->List Vl->List Vl->Option (Sg × AS)
 |a,σ,[],[]=>some (σ,a)
 |a,σ,v::l,p::r=>match mtJ a n0 σ v p with
  |some (σ1,a1)=>mtC n0 a1 σ1 l r
  |none=>none
 |_,_,_,_=>none
theorem Qc1 {s:St} {ν0:List Int}:∀{l r:List Vl} {m:List D} {f μ:List Int} {a a':AS} {σ τ:Sg},a.ok (ν0++f) s->mtC ν0.length a σ l r=some (τ,a')->Vl.a5 (ν0++f) l m->Sg.y7 (ν0++f) μ σ->∃e ρ,a'.ok (ν0++(f++e)) s/\Sg.y7 (ν0++(f++e)) (μ++ρ) τ/\Vl.a5 (ν0++(μ++ρ)) r m
 |[],[],m,f,μ,a,a',σ,τ,h,he,hr,hm=>by
  simp only[mtC,QEl,QFe]at he;obtain⟨rfl,rfl⟩:=he;exact⟨[],[],by grind,by grind,hr⟩
 |p::l,q::r,m,f,μ,a,a',σ,τ,h,he,hr,hm=>by
  simp only[mtC]at he;split at he;rename_i σ1 a1 e1;obtain⟨d,G,rfl,V,U⟩:=hr;obtain⟨g,ρ,T,O,M⟩:=Qmi h e1 V hm;have C:Vl.a5 (ν0++(f++g)) l G:=by rw[<- QFa];exact U.ext g
  obtain⟨g2,ρ2,h6,h7,Y⟩:=Qc1 T he C O;refine⟨g++g2,ρ++ρ2,by grind,by grind,d,G,rfl, ?_,by grind⟩;have:=M.ext ρ2
  grind
  grind
 |[],_::_,m,f,μ,a,a',σ,τ,h,he,hr,hm=>by trivial
 |_::_,[],m,f,μ,a,a',σ,τ,h,he,hr,hm=>by trivial
def Qtj (n0:Nat) (a:AS) (σ:Sg) (v p:Vl):Option (Sg × AS):=
 match p with
 | .aa ps=>(match v with
  | .aa vs=>mtC n0 a σ vs ps
  |_=>none)
 |p=>mtJ a n0 σ v p
theorem Qbm {v p:Vl} {d:D} (h:a.ok (ν0++f) s) (he:Qtj ν0.length a σ v p=some (τ,a')) (C:v.has (ν0++f) d) (hm:Sg.y7 (ν0++f) μ σ):∃e ρ,a'.ok (ν0++(f++e)) s/\Sg.y7 (ν0++(f++e)) (μ++ρ) τ/\p.has (ν0++(μ++ρ)) d:=by
 unfold Qtj at he;split at he;split at he;obtain⟨ds,rfl,T⟩:=C;obtain⟨g,ρ,O,M,G⟩:=Qc1 h he T hm;exact⟨g,ρ,O,M,ds,rfl,G⟩
 grind
 grind [Qmi]
def mtF (n0:Nat):AS->Sg->List (Nat × Vl)->List (Nat × Vl)->Option (Sg × AS)
 |a,σ,[],[]=>some (σ,a)
 |a,σ,p::l,q::r=>if p.1=q.1 then(match Qtj n0 a σ p.2 q.2 with
   |some (σ1,a1)=>mtF n0 a1 σ1 l r
   |none=>none)else none
 |_,_,_,_=>none
theorem Qmh {s:St} {ν0:List Int}:∀{l r:List (Nat × Vl)} {m:QEg} {f μ:List Int} {a a':AS} {σ τ:Sg},a.ok (ν0++f) s->mtF ν0.length a σ l r=some (τ,a')->RL (Vl.has (ν0++f)) l m->Sg.y7 (ν0++f) μ σ->∃e ρ,a'.ok (ν0++(f++e)) s/\Sg.y7 (ν0++(f++e)) (μ++ρ) τ/\RL (Vl.has (ν0++(μ++ρ))) r m
 |[],[],m,f,μ,a,a',σ,τ,h,he,hr,hm=>by
  simp only[mtF,QEl,QFe]at he;obtain⟨rfl,rfl⟩:=he;exact⟨[],[],by grind,by grind,hr⟩
 |p::l,q::r,m,f,μ,a,a',σ,τ,h,he,hr,hm=>by
  simp only[mtF]at he;split at he;rename_i hk;split at he;rename_i σ1 a1 e1;obtain⟨d,G,rfl,V,U⟩:=hr;obtain⟨g,ρ,T,O,M⟩:=Qbm h e1 V hm;have C:RL (Vl.has (ν0++(f++g))) l G:=RL.mono (λv d q=>by rw[<- QFa];exact q.ext g) U
  obtain⟨g2,ρ2,h6,h7,Y⟩:=Qmh T he C O;refine⟨g++g2,ρ++ρ2,by grind,by grind,d,G,by rw[hk], ?_,by grind⟩;have:=M.ext ρ2
  grind
  grind
  grind
 |[],_::_,m,f,μ,a,a',σ,τ,h,he,hr,hm=>by trivial
 |_::_,[],m,f,μ,a,a',σ,τ,h,he,hr,hm=>by trivial
def mtB (n0:Nat) (a:AS) (σ:Sg) (b p:Bx):Option (Sg × AS):=
 match b,p with
 | .ww row x o l0 et,.ww row2 y u esz2 et2=>if Tp.pb row row2=true/\l0=esz2/\et=et2 then(match mtX n0 σ y u x o with
   |some τ=>some (τ,a)
   |none=>none)else none
 | .cc cells et pr,.cc cells2 et2 pr2=>if et=et2/\pr=pr2 then mtC n0 a σ cells cells2 else none
 |_,_=>none
theorem Qtf {b p:Bx} {x:x4} (h:a.ok (ν0++f) s) (he:mtB ν0.length a σ b p=some (τ,a')) (hb:b.has (ν0++f) x) (hm:Sg.y7 (ν0++f) μ σ):∃e ρ,a'.ok (ν0++(f++e)) s/\Sg.y7 (ν0++(f++e)) (μ++ρ) τ/\p.has (ν0++(μ++ρ)) x:=by
 unfold mtB at he;split at he;split at he;rename_i O;split at he;rename_i τ2 e2;cases he
 obtain⟨rows,rfl,M,G⟩:=hb;obtain⟨ρ,T,C⟩:=Li hm M e2;exact⟨[],ρ,by grind,by grind,rows,by grind,C,λr hr=>Tp.w7 O.1 (G r hr)⟩
 grind
 grind
 split at he;rename_i O;obtain⟨ds,rfl,M⟩:=hb;obtain⟨g,ρ,G,T,C⟩:=Qc1 h he M hm;exact⟨g,ρ,G,T,ds,by grind,C⟩
 grind
 grind
def mtH (n0:Nat):AS->Sg->List (Nat × Bx)->List (Nat × Bx)->Option (Sg × AS)
 |a,σ,[],[]=>some (σ,a)
 |a,σ,p::l,q::r=>if p.1=q.1 then(match mtB n0 a σ p.2 q.2 with
   |some (σ1,a1)=>mtH n0 a1 σ1 l r
   |none=>none)else none
 |_,_,_,_=>none
theorem BH {s:St} {ν0:List Int}:∀{l r:List (Nat × Bx)} {m:QEf} {f μ:List Int} {a a':AS} {σ τ:Sg},a.ok (ν0++f) s->mtH ν0.length a σ l r=some (τ,a')->RL (Bx.has (ν0++f)) l m->Sg.y7 (ν0++f) μ σ->∃e ρ,a'.ok (ν0++(f++e)) s/\Sg.y7 (ν0++(f++e)) (μ++ρ) τ/\RL (Bx.has (ν0++(μ++ρ))) r m
 |[],[],m,f,μ,a,a',σ,τ,h,he,hr,hm=>by
  simp only[mtH,QEl,QFe]at he;obtain⟨rfl,rfl⟩:=he;exact⟨[],[],by grind,by grind,hr⟩
 |p::l,q::r,m,f,μ,a,a',σ,τ,h,he,hr,hm=>by
  simp only[mtH]at he;split at he;rename_i hk;split at he;rename_i σ1 a1 e1;obtain⟨d,G,rfl,V,U⟩:=hr;obtain⟨g,ρ,T,O,M⟩:=Qtf h e1 V hm;have C:RL (Bx.has (ν0++(f++g))) l G:=RL.mono (λv d q=>by rw[<- QFa];exact q.ext g) U
  obtain⟨g2,ρ2,h6,h7,Y⟩:=BH T he C O;refine⟨g++g2,ρ++ρ2,by grind,by grind,d,G,by rw[hk], ?_,by grind⟩;have:=M.ext ρ2
  grind
  grind
  grind
 |[],_::_,m,f,μ,a,a',σ,τ,h,he,hr,hm=>by trivial
 |_::_,[],m,f,μ,a,a',σ,τ,h,he,hr,hm=>by trivial
variable {ρ:Nat->Nat}
def Vl.y6 (ρ:Nat->Nat):Vl->Vl
 | .oo k x o=>.oo (ρ k) x o
 | .rr k o=>.rr (ρ k) o
 | .qq k x o f=>.qq (ρ k) x o f
 | .dd d=>.dd (d.y6 ρ)
 |v=>v
theorem QiF {t:Tp} (h:t.has d):d.y6 ρ=d:=by
 cases t<;>simp only[Tp.has]at h<;>obtain⟨x,h⟩:=h
 obtain⟨rfl,_⟩:=h;rfl;subst h;rfl;obtain⟨rfl,_⟩:=h;rfl;obtain⟨_,rfl⟩:=h;rfl;obtain⟨h,_⟩:=h;rcases h with rfl |rfl<;>rfl
 obtain⟨h,_⟩:=h;rcases h with rfl |rfl<;>rfl
theorem Bn {ρ:Nat->Nat}:∀{ts:List Tp} {ds:List D},Tp.n6 ts ds->ds.map (D.y6 ρ)=ds
 |[],ds,h=>by grind [Tp.n6]
 |t::ts,ds,h=>by
  obtain⟨d,r,rfl,G,C⟩:=h;rw[QEW,QiF G,Bn C]
theorem Vl.ub (h:v.has ν d):(v.y6 ρ).has ν (d.y6 ρ):=by
 cases v with
 |oo k x o=>obtain⟨n,rfl,G⟩:=h;exact⟨n,rfl,G⟩
 |rr k o=>cases h;rfl
 |qq k x o f=>obtain⟨n,rfl,G⟩:=h;exact⟨n,rfl,G⟩
 |dd d0=>cases h;rfl
 |ty t=>rw[QiF (ρ:=ρ) (d:=d) h];exact h
 |nn kk x o=>have C:=h;obtain⟨n,rfl,_⟩:=C;exact h
 |ii kk=>have C:=h;obtain⟨n,rfl⟩:=C;exact h
 |bf a b=>have C:=h;obtain⟨n,rfl,_⟩:=C;exact h
 |ss x o=>have C:=h;obtain⟨n,rfl,_⟩:=C;exact h
 |ll r x o=>have C:=h;obtain⟨n,C,_⟩:=C;rcases C with rfl |rfl<;>exact h
 |ld r x o y p=>have C:=h;obtain⟨n,C,_⟩:=C;rcases C with rfl |rfl<;>exact h
 |fx r=>have C:=h;obtain⟨n,C,_⟩:=C;rcases C with rfl |rfl<;>exact h
 |fl r=>have C:=h;obtain⟨n,rfl,_⟩:=C;exact h
 |lf r x o=>have C:=h;obtain⟨n,rfl,_⟩:=C;exact h
 |pp c=>have C:=h;obtain⟨n,rfl,_⟩:=C;exact h
 |pv c=>have C:=h;obtain⟨n,rfl,_⟩:=C;exact h
 |uu c=>have C:=h;obtain⟨n,rfl,_⟩:=C;exact h
 |ei k lo hi tt=>have C:=h;obtain⟨n,rfl,_⟩:=C;exact h
 |tp c w=>have C:=h;obtain⟨n,m,rfl,_⟩:=C;exact h
 |aa c=>have C:=h;obtain⟨n,rfl,_⟩:=C;exact h
def Vl.u5 (ρ:Nat->Nat):Vl->Vl
 | .aa cs=>.aa (cs.map (Vl.y6 ρ))
 | .tp cs w=>.tp (cs.map (Vl.y6 ρ)) w
 | .dd d=>.dd (d.u5 ρ)
 |v=>v.y6 ρ
theorem Vl.oa (h:v.has ν d):(v.u5 ρ).has ν (d.u5 ρ):=by
 have G:=Vl.ub (ρ:=ρ) h;cases v with
 |aa c=>obtain⟨ds,rfl,M⟩:=h;exact⟨_,rfl,N8 (λv d h=>Vl.ub h) M⟩
 |dd d0=>cases h;rfl
 |oo k x o=>have C:=h;obtain⟨n,rfl,M⟩:=C;exact G
 |rr k o=>cases h;rfl
 |qq k x o f=>have C:=h;obtain⟨n,rfl,M⟩:=C;exact G
 |ty t=>
  have C:=h;cases t<;>simp only[Vl.has,Tp.has]at C<;>obtain⟨x,C⟩:=C;obtain⟨rfl,_⟩:=C;exact G;subst C;exact G;obtain⟨rfl,_⟩:=C;exact G;obtain⟨_,rfl⟩:=C;exact G;obtain⟨C,_⟩:=C;rcases C with rfl |rfl<;>exact G
  obtain⟨C,_⟩:=C;rcases C with rfl |rfl<;>exact G
 |nn kk x o=>have C:=h;obtain⟨n,rfl,_⟩:=C;exact G
 |ii kk=>have C:=h;obtain⟨n,rfl⟩:=C;exact G
 |bf a b=>have C:=h;obtain⟨n,rfl,_⟩:=C;exact G
 |ss x o=>have C:=h;obtain⟨n,rfl,_⟩:=C;exact G
 |ll r x o=>have C:=h;obtain⟨n,C,_⟩:=C;rcases C with rfl |rfl<;>exact G
 |ld r x o y p=>have C:=h;obtain⟨n,C,_⟩:=C;rcases C with rfl |rfl<;>exact G
 |fx r=>have C:=h;obtain⟨n,C,_⟩:=C;rcases C with rfl |rfl<;>exact G
 |fl r=>have C:=h;obtain⟨n,rfl,_⟩:=C;exact G
 |lf r x o=>have C:=h;obtain⟨n,rfl,_⟩:=C;exact G
 |pp c=>have C:=h;obtain⟨n,rfl,_⟩:=C;exact G
 |pv c=>have C:=h;obtain⟨n,rfl,_⟩:=C;exact G
 |uu c=>have C:=h;obtain⟨n,rfl,_⟩:=C;exact G
 |ei k lo hi tt=>have C:=h;obtain⟨n,rfl,_⟩:=C;exact G
 |tp c w=>obtain⟨ds,m,rfl,M,O⟩:=h;exact⟨_,_,rfl,N8 (λv d h=>Vl.ub h) M,O⟩
def Bx.u5 (ρ:Nat->Nat):Bx->Bx
 | .cc cells et pr=>.cc (cells.map (Vl.y6 ρ)) et pr
 |b=>b
theorem Bx.oa {b:Bx} {x:x4} (h:b.has ν x):(b.u5 ρ).has ν (x.u5 ρ):=by
 cases b with
 |cc cells et pr=>
  obtain⟨ds,rfl,C⟩:=h;exact⟨ds.map (D.y6 ρ),by simp[x4.u5],N8 (λv d h=>Vl.ub h) C⟩
 |ww row x o l0 et=>
  obtain⟨rows,rfl,C,G⟩:=h
  have e:rows.map (λr=>r.map (D.y6 ρ))=rows:=by
   conv=>rhs;rw[<- List.map_id rows]
   grind [List.map_congr_left,Bn]
  exact⟨rows,by grind [x4.u5],C,G⟩
theorem RL.ke {α β:Type} {R:α->β->Prop} {f:α->α} {g:β->β} {ρ:Nat->Nat} (C:∀a b,R a b->R (f a) (g b)):∀{l:List (Nat × α)} {m:List (Nat × β)},RL R l m->RL R (l.map λp=>(ρ p.1,f p.2)) (m.map λp=>(ρ p.1,g p.2))
 |[],m,h=>by grind [RL]
 |p::l,m,h=>by
  obtain⟨b,r,rfl,M,G⟩:=h;exact⟨g b,_,rfl,C _ _ M,RL.ke C G⟩
def AS.u5 (ρ:Nat->Nat) (a:AS):AS:=⟨a.fr.map λp=>(p.1,p.2.u5 ρ),a.H.map λp=>(ρ p.1,p.2.u5 ρ),a.cs,a.nx⟩
theorem AS.ok.u5 {ν:List Int} {a:AS} {s:St} (h:a.ok ν s) (ρ:Nat->Nat):(a.u5 ρ).ok ν (s.u5 ρ):=
 ⟨RL.map (λv d q=>Vl.oa q) h.fr,RL.ke (λv d q=>Bx.oa q) h.H,h.cs,h.nx,h.z⟩
structure Hd where
 fr:List (Nat × Vl)
 bx:List Nat
 H:List (Nat × Bx)
 cs:List Cn
 k:Nat
 up:Nat × Int
 dn:Nat × Int
def ovr {α:Type} (o:List (Nat × α)):List (Nat × α)->List (Nat × α)
 |[]=>[]
 |p::l=>(match lk o p.1 with
  |some q=>(p.1,q)
  |none=>p)::ovr o l
def PU (a:AS) (hd:Hd):AS:=⟨ovr hd.fr a.fr,hd.H++KN hd.bx a.H,hd.cs++a.cs,a.nx+hd.k⟩
def QcZ (a J:AS) (n0 k:Nat) (cs:List Cn):Option (Sg × AS):=
 if wfA (Qbb (J.fr.map Prod.fst) (J.H.map Prod.fst) a)=true/\Qr5 a (Qbb (J.fr.map Prod.fst) (J.H.map Prod.fst) a)=true then
  (match mtF n0 (Qbb (J.fr.map Prod.fst) (J.H.map Prod.fst) a) [] (KN (J.fr.map Prod.fst) a.fr) J.fr with
  |some (σ1,a1)=>(match mtH n0 a1 σ1 (KN (J.H.map Prod.fst) a.H) J.H with
   |some (σ2,a2)=>if Nat.beq σ2.length k=true/\(cs.all (Qd8 a2 n0 σ2))=true then some (σ2,a2)else none
   |none=>none)
  |none=>none)else none
theorem BD {ν0 f:List Int} {a a2 J:AS} {s:St} {k:Nat} {cs c0:List Cn} {σ:Sg} (h:a.ok (ν0++f) s) (he:QcZ a J ν0.length k cs=some (σ,a2)) (hJ:J.cs=cs++c0) (hn:J.nx=ν0.length+k) (h0:k8 ν0 c0) (z:ν0[0]?=some 0):
  ∃g μ s2,a2.ok (ν0++(f++g)) s2/\Sg.y7 (ν0++(f++g)) μ σ/\s.le s2/\J.ok (ν0++μ) s2:=by
 unfold QcZ at he;split at he;rename_i O;have hle:=QcO h O.1 O.2;have hk:=Dj h (J.fr.map Prod.fst) (J.H.map Prod.fst);split at he;rename_i σ1 a1 e1;split at he;rename_i σ2 a3 e2;split at he;rename_i T;cases he
 obtain⟨g,ρ,h1,V,U⟩:=Qmh (μ:=[]) hk e1 hk.fr rfl;have hH:RL (Bx.has (ν0++(f++g))) (KN (J.H.map Prod.fst) a.H) (Yj (J.H.map Prod.fst) s.H):=RL.mono (λb x q=>by rw[<- QFa];exact q.ext g) hk.H
 rw[QFJ]at V U;obtain⟨g2,ρ2,M,C,h6⟩:=BH h1 e2 hH V;rw[QFa f]at M C;have hl:=XK C;have Y:=QFG T.1;refine⟨g++g2,ρ++ρ2,_,M,C,hle,⟨?_,h6, ?_, ?_, ?_⟩⟩;exact RL.mono (λv d q=>by rw[<- QFa];exact q.ext ρ2) U
 rw[hJ];exact k8.app (λc G=>Gc M C (QEs.1 T.2 c G)) (h0.ext _)
 all_goals grind
def emA (J:AS):List (Nat × Vl)->AS->AS
 |[],a=>a
 |(t,p)::r,a=>match p with
  | .oo k _ _=>(match lk a.fr t,lk a.H k,lk J.H k with
   |some (.fl []),none,some (.ww row _ _ l0 et)=>emA J r ⟨(t,.oo k 0 0)::a.fr,(k,.ww row 0 0 l0 et)::a.H,a.cs,a.nx⟩
   |_,_,_=>emA J r a)
  |_=>emA J r a
theorem Qcq {ν:List Int} {J:AS}:∀{l:List (Nat × Vl)} {a:AS} {s:St},a.ok ν s->∃s',s.le s'/\(emA J l a).ok ν s'
 |[],a,s,h=>⟨s,le_refl s,h⟩
 |(t,p)::r,a,s,h=>by
  unfold emA;split;rename_i k x o;split;rename_i row U o1 l0 et e1 e2 V;obtain⟨d,T,rs,rfl,G⟩:=RL.get h.fr e1;simp only[Vl.v7]at G;subst G;have hk:=RL.get_none h.H e2;have hle:s.le ⟨(t,.u4 k 0)::s.fr,(k,⟨[],l0,et,true⟩)::s.H⟩:=Z1 t k l0 et T hk
  have C:(⟨(t,.oo k 0 0)::a.fr,(k,.ww row 0 0 l0 et)::a.H,a.cs,a.nx⟩:AS).ok ν ⟨(t,.u4 k 0)::s.fr,(k,⟨[],l0,et,true⟩)::s.H⟩:=
   ⟨⟨_,_,rfl,⟨0,rfl,XJ h.z 0⟩,h.fr⟩,⟨_,_,rfl,⟨[],rfl,XJ h.z 0,λr hr=>by grind⟩,h.H⟩,h.cs,h.nx,h.z⟩
  obtain⟨s',O,M⟩:=Qcq (l:=r) C;exact⟨s',le_trans hle O,M⟩;exact Qcq h;exact Qcq h
theorem Rc {ν:List Int}:∀{vs:List Vl} {ds:List D} (j:Nat) {v:Vl} {d:D},Vl.a5 ν vs ds->v.has ν d->Vl.a5 ν (vs.set j v) (ds.set j d)
 |[],ds,j,v,d,h,hv=>by grind [Vl.a5]
 |w::vs,ds,0,v,d,h,hv=>by obtain⟨e,r,rfl,G,C⟩:=h;exact⟨d,r,rfl,hv,C⟩
 |w::vs,ds,j+1,v,d,h,hv=>by obtain⟨e,r,rfl,G,C⟩:=h;exact⟨e,r.set j d,rfl,G,Rc j C hv⟩
def QlW (J:AS) (k0:Nat):Nat->List Vl->AS->AS
 |_,[],a=>a
 |j,p::ps,a=>match p with
  | .oo k _ _=>(match lk a.H k0,lk a.H k,lk J.H k with
   |some (.cc cells et _),none,some (.ww row _ _ esz2 et2)=>(match cells[j]? with
    |some (.fl [])=>QlW J k0 (j+1) ps ⟨a.fr,(k0,.cc (cells.set j (.oo k 0 0)) et false)::(k,.ww row 0 0 esz2 et2)::a.H,a.cs,a.nx⟩
    |_=>QlW J k0 (j+1) ps a)
   |_,_,_=>QlW J k0 (j+1) ps a)
  |_=>QlW J k0 (j+1) ps a
theorem M9 {ν:List Int} {J:AS} {k0:Nat}:∀{l:List Vl} {j:Nat} {a:AS} {s:St},a.ok ν s->∃s',s.le s'/\(QlW J k0 j l a).ok ν s'
 |[],j,a,s,h=>⟨s,le_refl s,h⟩
 |p::ps,j,a,s,h=>by
  unfold QlW;split;rename_i k x o;split;rename_i cells et pr row x1 o1 C G e1 e2 e3;split;rename_i e4;obtain⟨b,hb,ds,rfl,T⟩:=RL.get h.H e1;have hk:=RL.get_none h.H e2;obtain⟨d,Y,rs,rfl,O⟩:=K1 T e4;simp only[Vl.v7]at O;subst O;have hle:s.le ⟨s.fr,(k0,⟨[ds.set j (.u4 k 0)],ds.length,et,false⟩)::(k,⟨[],C,G,true⟩)::s.H⟩:=XD k0 j k C G hb Y rfl hk
  have M:(⟨a.fr,(k0,.cc (cells.set j (.oo k 0 0)) et false)::(k,.ww row 0 0 C G)::a.H,a.cs,a.nx⟩:AS).ok ν ⟨s.fr,(k0,⟨[ds.set j (.u4 k 0)],ds.length,et,false⟩)::(k,⟨[],C,G,true⟩)::s.H⟩:=
   ⟨h.fr,⟨_,_,rfl,⟨ds.set j (.u4 k 0),by simp,Rc j T ⟨0,rfl,XJ h.z 0⟩⟩,⟨_,_,rfl,⟨[],rfl,XJ h.z 0,λr hr=>by grind⟩,h.H⟩⟩,h.cs,h.nx,h.z⟩
  obtain⟨s',V,U⟩:=M9 (l:=ps) (j:=j+1) M;exact⟨s',le_trans hle V,U⟩;exact M9 h;exact M9 h;exact M9 h
def emC (J:AS):List (Nat × Bx)->AS->AS
 |[],a=>a
 |(k0,b)::r,a=>match b with
  | .cc cells _ _=>emC J r (QlW J k0 0 cells a)
  |_=>emC J r a
theorem Qcr {ν:List Int} {J:AS}:∀{l:List (Nat × Bx)} {a:AS} {s:St},a.ok ν s->∃s',s.le s'/\(emC J l a).ok ν s'
 |[],a,s,h=>⟨s,le_refl s,h⟩
 |(k0,b)::r,a,s,h=>by
  unfold emC;split;rename_i cells _ _;obtain⟨s1,O,M⟩:=M9 (J:=J) (k0:=k0) (l:=cells) (j:=0) h;obtain⟨s2,G,C⟩:=Qcr (l:=r) M;exact⟨s2,le_trans O G,C⟩;exact Qcr h
def rnA:List (Nat × Vl)->AS->AS
 |[],a=>a
 |(t,p)::r,a=>match p with
  | .oo k _ _=>(match lk a.fr t with
   |some (.oo k2 _ _)=>if Nat.beq k k2=false/\Nat.ble (k+1) 1000000=true/\Nat.ble (k2+1) 1000000=true then rnA r (a.u5 (YG k2 k))else rnA r a
   |_=>rnA r a)
  |_=>rnA r a
theorem B6 {ν:List Int}:∀{l:List (Nat × Vl)} {a:AS} {s:St},a.ok ν s->∃s',s.le s'/\(rnA l a).ok ν s'
 |[],a,s,h=>⟨s,le_refl s,h⟩
 |(t,p)::r,a,s,h=>by
  unfold rnA;split;split;split;rename_i C;obtain⟨s',M,G⟩:=B6 (l:=r) (h.u5 (YG _ _));exact⟨s',le_trans (Hm _ _ (QEi C.2.2) (QEi C.2.1) s) M,G⟩;exact B6 h;exact B6 h;exact B6 h
variable {H:QEf} {J:AS} {l0 et k y:Nat} {row:List Tp} {rows:List (List D)} {u:Int}
def Ql2 (k:Nat) (row:List Tp) (y:Nat) (u:Int):Vl->Option Vl
 | .oo j x o=>if Nat.beq j k=true then(if Nat.beq x y=true/\decide (o=u)=true then some (.ll row y u)else none)else some (.oo j x o)
 | .rr j o=>if Nat.beq j k=true then none else some (.rr j o)
 | .qq j x o f=>if Nat.beq j k=true then none else some (.qq j x o f)
 | .dd d=>(match d with
  | .undef=>some (.dd .undef)
  | .top=>some (.dd .top)
  | .z7=>some (.dd .z7)
  | .val w=>some (.dd (.val w))
  |_=>none)
 | .aa _=>none
 | .tp _ _=>none
 |v=>some v
theorem Qa1 (hb:lk H k=some ⟨rows,l0,et,true⟩) (T:k7 ν y u rows.length) (hr:∀r∈rows,Tp.n6 row r) (G:v.has ν d) (he:Ql2 k row y u v=some w):w.has ν (d.x7 H (·==k))/\d.fz H (·==k)=d.x7 H (·==k):=by
 have Y:∀{j:Nat},¬Nat.beq j k=true->(j==k)=false:=λ{j} h=>by
  (repeat clear hK K);simp_all
 cases v with
 |oo j x o=>
  simp only[Ql2]at he;obtain⟨n,rfl,O⟩:=G;split at he;rename_i M;have M:=QFG M;subst M;split at he;rename_i U;cases he
  have e1:=QFG U.1;have e2:=of_decide_eq_true U.2;subst e1 e2;have e3:=k7.inj O T;have V:n=rows.length:=Wa;subst V;have key:(D.u4 j rows.length).x7 H (·==j)=.sl rows:=by grind [D.x7]
  refine⟨?_,rfl⟩;rw[key];exact⟨rows,.inl rfl,T,hr⟩
  grind
  rename_i M;cases he
  have:(D.u4 j n).x7 H (·==k)=.u4 j n:=by grind [D.x7]
  exact⟨by rw[this];exact⟨n,rfl,O⟩,rfl⟩
 |rr j o=>
  simp only[Ql2]at he;cases G
  split at he
  grind
  rename_i M;cases he
  have:(D.ref j 0 o).x7 H (·==k)=.ref j 0 o:=by grind [D.x7]
  trivial
 |qq j x o f=>
  simp only[Ql2]at he;obtain⟨n,rfl,O⟩:=G;split at he
  grind
  rename_i M;cases he
  have:(D.ref j n f).x7 H (·==k)=.ref j n f:=by grind [D.x7]
  exact⟨by rw[this];exact⟨n,rfl,O⟩,rfl⟩
 |dd d0=>
  cases G
  simp only[Ql2]at he;split at he<;>cases he<;>exact⟨rfl,rfl⟩
 |aa cs=>cases he
 |tp cs w=>cases he
 |ty t=>
  cases he
  have C:=G;cases t<;>simp only[Vl.has,Tp.has]at C<;>obtain⟨x,C⟩:=C;obtain⟨rfl,_⟩:=C;trivial;subst C;trivial;obtain⟨rfl,_⟩:=C;trivial;obtain⟨_,rfl⟩:=C;trivial;obtain⟨C,_⟩:=C;rcases C with rfl |rfl<;>exact⟨G,rfl⟩
  obtain⟨C,_⟩:=C;rcases C with rfl |rfl<;>exact⟨G,rfl⟩
 |nn kk x o=>cases he;have C:=G;obtain⟨n,rfl,_⟩:=C;trivial
 |ii kk=>cases he;have C:=G;obtain⟨n,rfl⟩:=C;trivial
 |bf a b=>cases he;have C:=G;obtain⟨n,rfl,_⟩:=C;trivial
 |ss x o=>cases he;have C:=G;obtain⟨n,rfl,_⟩:=C;trivial
 |ld r x o y p=>cases he;have C:=G;obtain⟨n,C,_⟩:=C;rcases C with rfl |rfl<;>exact⟨G,rfl⟩
 |fx r=>cases he;have C:=G;obtain⟨n,C,_⟩:=C;rcases C with rfl |rfl<;>exact⟨G,rfl⟩
 |ll r x o=>cases he;have C:=G;obtain⟨n,C,_⟩:=C;rcases C with rfl |rfl<;>exact⟨G,rfl⟩
 |fl r=>cases he;have C:=G;obtain⟨n,rfl,_⟩:=C;trivial
 |lf r x o=>cases he;have C:=G;obtain⟨n,rfl,_⟩:=C;trivial
 |pp c=>cases he;have C:=G;obtain⟨n,rfl,_⟩:=C;trivial
 |pv c=>cases he;have C:=G;obtain⟨n,rfl,_⟩:=C;trivial
 |uu c=>cases he;have C:=G;obtain⟨n,rfl,_⟩:=C;trivial
 |ei k lo hi tt=>cases he;have C:=G;obtain⟨n,rfl,_⟩:=C;trivial
def Qel {α:Type} (f:α->Option α):List α->Option (List α)
 |[]=>some []
 |x::l=>match f x,Qel f l with
  |some y,some r=>some (y::r)
  |_,_=>none
theorem Qgh {ν:List Int} {g:D->D} {f:Vl->Option Vl} (C:∀v w d,v.has ν d->f v=some w->w.has ν (g d)):∀{vs ws:List Vl} {ds:List D},Vl.a5 ν vs ds->Qel f vs=some ws->Vl.a5 ν ws (ds.map g)
 |[],ws,ds,h,he=>by grind [Qel,Vl.a5]
 |v::vs,ws,ds,h,he=>by
  simp only[Qel]at he;split at he;rename_i y r e1 e2;cases he
  obtain⟨d,q,rfl,M,G⟩:=h;exact⟨g d,q.map g,rfl,C _ _ _ M e1,Qgh C G e2⟩
  grind
def fzV (k:Nat) (row:List Tp) (y:Nat) (u:Int):Vl->Option Vl
 | .aa cs=>(match Qel (Ql2 k row y u) cs with
  |some ws=>some (.aa ws)
  |none=>none)
 |v=>Ql2 k row y u v
theorem QsP (hb:lk H k=some ⟨rows,l0,et,true⟩) (M:k7 ν y u rows.length) (hr:∀r∈rows,Tp.n6 row r) (G:v.has ν d) (he:fzV k row y u v=some w):w.has ν (d.fz H (·==k)):=by
 unfold fzV at he;split at he;split at he;rename_i ws e1;cases he
 obtain⟨ds,rfl,C⟩:=G;exact⟨_,rfl,Qgh (λv w d C O=>(Qa1 hb M hr C O).1) C e1⟩
 grind
 obtain⟨C,O⟩:=Qa1 hb M hr G he
 grind
def fzB (k:Nat) (row:List Tp) (y:Nat) (u:Int):Bx->Option Bx
 | .cc cells et true=>some (.cc cells et true)
 | .cc cells et false=>(match Qel (Ql2 k row y u) cells with
  |some ws=>some (.cc ws et false)
  |none=>none)
 |b=>some b
theorem QsO (hb:lk H k=some ⟨rows,l0,et,true⟩) (O:k7 ν y u rows.length) (hr:∀r∈rows,Tp.n6 row r) {v w:Bx} {x:x4} (G:v.has ν x) (he:fzB k row y u v=some w):w.has ν (x.fz H (·==k)):=by
 unfold fzB at he;split at he;cases he
 obtain⟨ds,rfl,C⟩:=G;exact⟨ds,rfl,C⟩;split at he;rename_i ws e1;cases he
 obtain⟨ds,rfl,C⟩:=G;exact⟨ds.map (D.x7 H (·==k)),by simp[x4.fz],Qgh (λv w d C M=>(Qa1 hb O hr C M).1) C e1⟩
 grind
 rename_i b C M;cases he
 cases v with
 |cc cells et pr=>
  (repeat clear hK K);simp_all
 |ww r x o e t=>obtain⟨rs,rfl,q⟩:=G;exact⟨rs,rfl,q⟩
def wc {α:Type} (f:α->Option α):List (Nat × α)->Option (List (Nat × α))
 |[]=>some []
 |p::l=>match f p.2,wc f l with
  |some y,some r=>some ((p.1,y)::r)
  |_,_=>none
theorem RL.wc {α β:Type} {R:α->β->Prop} {f:α->Option α} {g:β->β} (C:∀a b a',R a b->f a=some a'->R a' (g b)):∀{l l':List (Nat × α)} {m:List (Nat × β)},RL R l m->Go.Abs.wc f l=some l'->RL R l' (m.map λp=>(p.1,g p.2))
 |[],l',m,h,he=>by grind [Go.Abs.wc,RL]
 |p::l,l',m,h,he=>by
  simp only[Go.Abs.wc]at he;split at he;rename_i y r e1 e2;cases he
  obtain⟨b,q,rfl,M,G⟩:=h;exact⟨g b,_,rfl,C _ _ _ M e1,RL.wc C G e2⟩
  grind
theorem RL.rem {α β:Type} {R:α->β->Prop} (k:Nat):∀{l:List (Nat × α)} {m:List (Nat × β)},RL R l m->RL R (Go.Abs.rem k l) (Go.Abs.rem k m)
 |[],m,h=>by simp only[RL]at h;subst h;rfl
 |(j,v)::l,m,h=>by
  obtain⟨b,r,rfl,G,C⟩:=h;simp only[Go.Abs.rem];split;exact RL.rem k C;exact⟨b,_,rfl,G,RL.rem k C⟩
def Qw0 (k:Nat) (a:AS):Option AS:=
 match lk a.H k with
 |some (.ww row y u _ _)=>if Nat.ble (k+1) 1000000=true then(match wc (fzV k row y u) a.fr,wc (fzB k row y u) a.H with
   |some fr,some H=>some ⟨fr,rem k H,a.cs,a.nx⟩
   |_,_=>none)else none
 |_=>none
theorem Qn8 {a':AS} (h:a.ok ν s) (he:Qw0 k a=some a'):∃s',s.le s'/\a'.ok ν s':=by
 unfold Qw0 at he;split at he;rename_i row y u l0 et e1;split at he;rename_i hk;split at he;rename_i fr H e2 T;cases he
 obtain⟨b,hb,rows,rfl,O,M⟩:=RL.get h.H e1;refine⟨s.freeze k,G8 k s (QEi hk),⟨?_, ?_,h.cs,h.nx,h.z⟩⟩;exact RL.wc (λv d w G C=>QsP hb O M G C) h.fr e2;exact RL.rem k (RL.wc (λv d w G C=>QsO hb O M G C) h.H T)
 all_goals grind
def Ql1:List Nat->AS->AS
 |[],a=>a
 |k::ks,a=>match Qw0 k a with
  |some a1=>Ql1 ks a1
  |none=>Ql1 ks a
theorem Pc {ν:List Int}:∀{ks:List Nat} {a:AS} {s:St},a.ok ν s->∃s',s.le s'/\(Ql1 ks a).ok ν s'
 |[],a,s,h=>⟨s,le_refl s,h⟩
 |k::ks,a,s,h=>by
  unfold Ql1;split;rename_i T e;obtain⟨s1,O,C⟩:=Qn8 h e;obtain⟨s2,M,G⟩:=Pc (ks:=ks) C
  grind [le_trans]
  exact Pc h
def QuT (ops:List u3) (a:AS) (x:y5):List Nat:=
 match QtN (λt=>(lk a.fr t).isSome) ops 3 x with
 | .s t=>(match lk a.fr t with
  |some v=>v.ids
  |none=>(match ops.find? λo=>decide (o.dst=some t)with
   |some o=>(match o.op with
    | .load _ _ y=>(match evA a (QtN (λt=>(lk a.fr t).isSome) ops 3 y)with
     |some (.rr k _)=>(match lk a.H k with
      |some (.cc cells _ _)=>cells.flatMap Vl.y4
      |_=>[])
     |_=>[])
    |_=>[])
   |none=>[]))
 | .c _=>[]
def Qzp (fl:Nat->Bool) (ow:List Nat) (ops:List u3) (a:AS):List Nat:=ops.flatMap λo=>match o.op with
 | .buildSlice _ _ parts=>parts.flatMap (QuT ops a)
 | .call f xs=>if fl f=true then[]else xs.flatMap (QuT ops a)
 | .slice _ x _ _ _=>(match o.dst with
  |some t=>if ow.contains t=true then[]else QuT ops a x
  |none=>QuT ops a x)
 |_=>[]
def Qsm (dr:Bool) (ops:List u3) (a:AS) (o:u3):Bool:=
 match o.dst with
 |some t=>(lk a.H t).isSome&&(match o.op with
  | .append _ _ _ x _=>dr||(match evA a (QtN (λt=>(lk a.fr t).isSome) ops 3 x)with
   |some (.fl _)=>true
   |_=>false)
  | .alloc _ _=>true
  | .box _ _=>true
  | .makeSlice _ _ _ _ _ _=>true
  | .buildSlice _ _ _=>true
  |_=>false)
 |none=>false
def Qtl (a:AS):Nat:=1+a.H.foldl (λm p=>if Nat.ble 1000000 p.1=true then m else max m p.1) 500000
def Qn7 (dr:Bool) (ops:List u3) (a:AS) (o:u3):AS:=
 match o.dst with
 |some t=>if(Qsm dr ops a o&&(Nat.ble (t+1) 1000000&&Nat.ble (Qtl a+1) 1000000))=true then a.u5 (YG t (Qtl a))else a
 |none=>a
theorem Qkb (h:a.ok ν s) (dr:Bool) (ops:List u3) (o:u3):∃s',s.le s'/\(Qn7 dr ops a o).ok ν s':=by
 unfold Qn7;split;split;rename_i t _ C;simp only[QEm]at C;exact⟨_,Hm _ _ (QEi C.2.1) (QEi C.2.2) s,h.u5 _⟩
 grind [le_refl]
 grind [le_refl]
def QwZ (dr:Bool) (ops:List u3):List u3->AS->AS
 |[],a=>a
 |o::r,a=>QwZ dr ops r (Qn7 dr ops a o)
theorem Qge {ν:List Int} {dr:Bool} {ops:List u3}:∀{l:List u3} {a:AS} {s:St},a.ok ν s->∃s',s.le s'/\(QwZ dr ops l a).ok ν s'
 |[],a,s,h=>⟨s,le_refl s,h⟩
 |o::r,a,s,h=>by
  obtain⟨s1,O,M⟩:=Qkb h dr ops o;obtain⟨s2,G,C⟩:=Qge (l:=r) M;exact⟨s2,le_trans O G,C⟩
def QtJ (fl:Nat->Bool) (ow:List Nat) (dr:Bool) (ops:List u3) (a:AS):AS:=QwZ dr ops ops (Ql1 (Qzp fl ow ops a) a)
theorem DL (h:a.ok ν s) (fl:Nat->Bool) (ow:List Nat) (dr:Bool) (ops:List u3):∃s',s.le s'/\(QtJ fl ow dr ops a).ok ν s':=by
 obtain⟨s1,O,M⟩:=Pc (ks:=Qzp fl ow ops a) h;obtain⟨s2,G,C⟩:=Qge (dr:=dr) (ops:=ops) (l:=ops) M;exact⟨s2,le_trans O G,C⟩
def frI (J a:AS):List Nat:=a.H.filterMap λp=>match p.2 with
 | .ww _ _ _ _ _=>(match lk J.H p.1 with
  |none=>some p.1
  |some _=>none)
 |_=>none
def frJ (J a:AS):AS:=Ql1 (frI J a) a
def Qxz (a:AS):Nat->List Nat->List Nat
 |0,ks=>ks
 |n+1,ks=>Qxz a n ((ks++ks.flatMap λk=>match lk a.H k with
  |some b=>b.ids
  |none=>[]).eraseDups)
def trB (J a:AS):AS:=Qbb (J.fr.map Prod.fst) (Qxz a 3 (((KN (J.fr.map Prod.fst) a.fr).flatMap λp=>p.2.ids)++((a.H.map Prod.fst).filter λk=>Nat.ble 1000000 k))) a
def trA (J a:AS):AS:=if wfA (trB J a)=true/\Qr5 a (trB J a)=true then trB J a else a
theorem Qug (h:a.ok ν s):∃s',s.le s'/\(trA J a).ok ν s':=by
 unfold trA;split;rename_i C;exact⟨_,QcO h C.1 C.2,Dj h _ _⟩
 grind [le_refl]
def QuK (a J:AS):AS:=emC J J.H (emA J J.fr (rnA J.fr a))
theorem Qg2 (h:a.ok ν s):∃s',s.le s'/\(QuK a J).ok ν s':=by
 obtain⟨V,O,hr⟩:=B6 (l:=J.fr) h;obtain⟨s1,U,T⟩:=Qcq (J:=J) (l:=J.fr) hr;obtain⟨C,M,G⟩:=Qcr (J:=J) (l:=J.H) T;exact⟨C,le_trans O (le_trans U M),G⟩
def Ml (a J:AS) (n0 k:Nat) (cs:List Cn):Option (Sg × AS):=
 match QcZ (QuK a J) J n0 k cs with
 |some r=>some r
 |none=>QcZ (frJ J (QuK (trA J a) J)) J n0 k cs
theorem HU {ν0 f:List Int} {O:AS} {cs c0:List Cn} {σ:Sg} (h:a.ok (ν0++f) s) (he:Ml a J ν0.length k cs=some (σ,O)) (V:J.cs=cs++c0) (U:J.nx=ν0.length+k) (h0:k8 ν0 c0) (z:ν0[0]?=some 0):
  ∃g μ s2,O.ok (ν0++(f++g)) s2/\Sg.y7 (ν0++(f++g)) μ σ/\s.le s2/\J.ok (ν0++μ) s2:=by
 unfold Ml at he;split at he;rename_i r e;cases he
 obtain⟨s1,h1,M⟩:=Qg2 (J:=J) h
 grind [BD,le_trans]
 obtain⟨s0,h0',C⟩:=Qug (J:=J) h;obtain⟨s1,h1,M⟩:=Qg2 (J:=J) C;obtain⟨T,Y,G⟩:=Pc (ks:=frI J (QuK (trA J a) J)) M;obtain⟨g,μ,s2,q1,q2,q3,q4⟩:=BD G he V U h0 z
 grind [le_trans]
def Tp.same (t u:Tp):Bool:=t.le u&&u.le t
def Tp.lg (t u:List Tp):Bool:=Tp.pb t u&&Tp.pb u t
def Vl.same (n0:Nat):Vl->Vl->Bool
 | .ty t,.ty u=>t.same u
 | .nn k x o,.nn j y u=>decide (k=j)&&(Nat.beq x y&&(decide (o=u)&&Nat.ble (x+1) n0))
 | .ii k,.ii j=>decide (k=j)
 | .bf [] [],.bf [] []=>true
 | .ss x o,.ss y u=>Nat.beq x y&&(decide (o=u)&&Nat.ble (x+1) n0)
 | .ll r x o,.ll q y u=>Tp.lg r q&&(Nat.beq x y&&(decide (o=u)&&Nat.ble (x+1) n0))
 | .fl [],.fl []=>true
 | .oo k x o,.oo j y u=>Nat.beq k j&&(Nat.beq x y&&(decide (o=u)&&Nat.ble (x+1) n0))
 | .rr k o,.rr j u=>Nat.beq k j&&Nat.beq o u
 | .pp c,.pp d=>Tp.lg c d
 | .fx r,.fx q=>smR n0 r q&&smR n0 q r
 |_,_=>false
abbrev JM:=Nat × List Sg
def QsI (maps:List Sg) (ps:Sg):Nat->Nat->Option Nat
 |0,_=>none
 |f+1,j=>if(List.zip maps ps).all (λq=>match q.1[j]? with
   |some y=>Nat.beq y.1 q.2.1&&decide (y.2=q.2.2)
   |none=>false)=true then some j else QsI maps ps f (j+1)
def QrE (n0:Nat) (m:JM) (ps:Sg):Nat × Int × JM:=
 match ps with
 |[]=>(0,0,m)
 |p::r=>if Nat.ble (p.1+1) n0=true/\(r.all λq=>Nat.beq q.1 p.1&&decide (q.2=p.2))=true then(p.1,p.2,m)
  else match QsI m.2 ps m.1 0 with
   |some j=>(n0+j,0,m)
   |none=>(n0+m.1,0,(m.1+1,(List.zip m.2 ps).map λq=>q.1++[q.2]))
def QeQ {α β:Type} (f:α->Option β):List α->Option (List β)
 |[]=>some []
 |x::l=>match f x,QeQ f l with
  |some y,some r=>some (y::r)
  |_,_=>none
def nnJ:Vl->Option (Nat × Int)
 | .nn _ x o=>some (x,o)
 |_=>none
def ssJ:Vl->Option (Nat × Int)
 | .ss x o=>some (x,o)
 |_=>none
def QBJ:Vl->Option (List Tp × Nat × Int)
 | .ll r x o=>some (r,x,o)
 | .fl []=>some ([],0,0)
 |_=>none
def ooJ (k:Nat):Vl->Option (Nat × Int)
 | .oo j x o=>if Nat.beq j k=true then some (x,o)else none
 | .fl []=>some (0,0)
 |_=>none
def QBH:Vl->Option Nat
 | .oo k _ _=>some k
 |_=>none
def QsM:List Tp->Option Tp
 |[]=>none
 |[t]=>some t
 |t::r=>match QsM r with
  |some u=>t.jn u
  |none=>none
def Qj9:List (List Tp × Nat × Int)->Option (List Tp)
 |[]=>none
 |[t]=>some t.1
 |t::r=>match Qj9 r with
  |some u=>if Nat.beq t.2.1 0=true/\t.2.2=0 then some u else(match u with
   |[]=>some t.1
   |u=>Tp.ig t.1 u)
  |none=>none
def tyJ (l:List AS) (vs:List Vl):Option Vl:=
 match QeQ (λ(q:AS × Vl)=>QzV q.1 q.2) (List.zip l vs)with
 |some ts=>(match QsM ts with
  |some t=>some (.ty t)
  |none=>none)
 |none=>none
def Qzo (a:AS):Vl->Option (List Tp × Nat × Int)
 | .fl rows=>(match rows with
  |[]=>some ([],0,0)
  |_=>(match QmB a rows with
   |some r=>some (r,0,rows.length)
   |none=>none))
 |v=>QBJ v
def QBq (a:AS):Vl->Option (List Tp × Nat × Int)
 | .oo k x o=>(match lk a.H k with
  |some (.ww row _ _ _ _)=>some (row,x,o)
  |_=>none)
 |v=>Qzo a v
def Qzt (n0:Nat) (l:List AS) (m:JM) (vs:List Vl):Option (Vl × JM):=
 match vs with
 |[]=>none
 |v::r=>if r.all (Vl.same n0 v)=true/\(v.same n0 v)=true then some (v,m)else
  match Ql7 v with
  |some k=>if r.all (λw=>decide (Ql7 w=some k))=true then(match QeQ nnJ vs with
    |some ps=>(match QrE n0 m ps with
     |(x,o,m1)=>some (.nn k x o,m1))
    |none=>(match tyJ l vs with
     |some t=>some (t,m)
     |none=>some (.ii k,m)))else none
  |none=>if vs.all QeS=true then some (anyB,m)else
   if vs.all QqS=true then(match QeQ ssJ vs with
    |some ps=>(match QrE n0 m ps with
     |(x,o,m1)=>some (.ss x o,m1))
    |none=>(match tyJ l vs with
     |some t=>some (t,m)
     |none=>none))else
   match vs.filterMap QBH with
   |k::_=>(match QeQ (ooJ k) vs with
    |some ps=>(match QrE n0 m ps with
     |(x,o,m1)=>some (.oo k x o,m1))
    |none=>(match QeQ (λ(q:AS × Vl)=>QBq q.1 q.2) (List.zip l vs)with
     |some ps=>(match Qj9 ps,QrE n0 m (ps.map λp=>p.2)with
      |some row,(x,o,m1)=>some (.ll row x o,m1)
      |_,_=>none)
     |none=>none))
   |[]=>(match QeQ (λ(q:AS × Vl)=>Qzo q.1 q.2) (List.zip l vs)with
    |some ps=>(match Qj9 ps,QrE n0 m (ps.map λp=>p.2)with
     |some row,(x,o,m1)=>some (.ll row x o,m1)
     |_,_=>none)
    |none=>(match v with
     | .ty _=>(match tyJ l vs with
      |some t=>some (t,m)
      |none=>none)
     | .dd d=>(match d with
      | .undef=>some (.dd .undef,m)
      | .val w=>some (.dd (.val w),m)
      | .top=>some (.dd .top,m)
      |_=>none)
     | .pp c=>(match r with
      |[]=>some (.pp c,m)
      |_=>none)
     |_=>none))
def Qz6 {α:Type} (ls:List (List α)):Option (List α × List (List α)):=
 match QeQ (λl=>match l with
  |x::r=>some (x,r)
  |[]=>none) ls with
 |some q=>some (q.map Prod.fst,q.map Prod.snd)
 |none=>none
def jnL (n0:Nat) (l:List AS):Nat->JM->List (List Vl)->Option (List Vl × JM)
 |0,m,_=>some ([],m)
 |f+1,m,ls=>match Qz6 ls with
  |some (vs,rest)=>(match Qzt n0 l m vs with
   |some (v,m1)=>(match jnL n0 l f m1 rest with
    |some (ws,m2)=>some (v::ws,m2)
    |none=>none)
   |none=>none)
  |none=>none
def aaJ:Vl->Option (List Vl)
 | .aa cs=>some cs
 |_=>none
def jnV (n0:Nat) (l:List AS) (m:JM) (vs:List Vl):Option (Vl × JM):=
 match QeQ aaJ vs with
 |some css=>(match css with
  |cs::_=>(match jnL n0 l cs.length m css with
   |some (ws,m1)=>some (.aa ws,m1)
   |none=>none)
  |[]=>none)
 |none=>Qzt n0 l m vs
def jnF (n0:Nat) (l:List AS):List Nat->JM->Option (List (Nat × Vl) × JM)
 |[],m=>some ([],m)
 |t::ts,m=>match QeQ (λa=>lk a.fr t) l with
  |some vs=>(match jnV n0 l m vs with
   |some (v,m1)=>(match jnF n0 l ts m1 with
    |some (r,m2)=>some ((t,v)::r,m2)
    |none=>none)
   |none=>none)
  |none=>none
def wwJ:Option Bx->Option (List Tp × Nat × Int)
 |some (.ww r x o _ _)=>some (r,x,o)
 |none=>some ([],0,0)
 |_=>none
def wwE:Option Bx->Option (Nat × Nat)
 |some (.ww _ _ _ e t)=>some (e,t)
 |_=>none
def ccJ:Option Bx->Option (List Vl)
 |some (.cc c _ _)=>some c
 |_=>none
def ccP:Option Bx->Bool
 |some (.cc _ _ p)=>p
 |_=>true
def jnB (n0:Nat) (l:List AS) (m:JM) (bs:List (Option Bx)):Option (Bx × JM):=
 match bs.filterMap wwE with
 |(e,t)::_=>(match QeQ wwJ bs with
  |some ps=>(match Qj9 ps,QrE n0 m (ps.map λp=>p.2)with
   |some row,(x,o,m1)=>some (.ww row x o e t,m1)
   |_,_=>none)
  |none=>none)
 |[]=>(match QeQ ccJ bs,bs with
  |some css,some (.cc c et _)::_=>(match jnL n0 l c.length m css with
   |some (ws,m1)=>some (.cc ws et (bs.all ccP),m1)
   |none=>none)
  |_,_=>none)
def jnH (n0:Nat) (l:List AS):Nat->List Nat->List (Nat × Bx)->JM->Option (List (Nat × Bx) × JM)
 |0,_,H,m=>some (H,m)
 |_,[],H,m=>some (H,m)
 |f+1,k::ks,H,m=>if(lk H k).isSome=true then jnH n0 l f ks H m else(match jnB n0 l m (l.map λa=>lk a.H k)with
  |some (b,m1)=>jnH n0 l f (b.ids++ks) (H++[(k,b)]) m1
  |none=>none)
def Vl.rh:Vl->List Nat
 | .aa cs=>cs.flatMap Vl.y4
 |v=>v.y4
def QBN:Option Int->Option Int->Option Int
 |some a,some b=>some (min a b)
 |_,_=>none
def QBL:Option Int->Option Int->Option Int
 |some a,some b=>some (max a b)
 |_,_=>none
def bdJ (l:List AS) (maps:List Sg) (j:Nat):Option Int × Option Int:=
 (List.zip l maps).foldl (λ(p:(Option Int × Option Int) × Bool) (q:AS × Sg)=>match q.2[j]? with
  |some y=>(match(lbX q.1.cs y.1).map (·+y.2),(ubX q.1.cs y.1).map (·+y.2)with
   |lo,hi=>if p.2=true then((lo,hi),false)else((QBN p.1.1 lo,QBL p.1.2 hi),false))
  |none=>((none,none),false)) ((none,none),true) |>.1
def Qfq (n0:Nat) (l:List AS) (maps:List Sg):Nat->List Cn
 |0=>[]
 |j+1=>Qfq n0 l maps j++(match bdJ l maps j with
  |(lo,hi)=>(match lo with
   |some v=>[(0,n0+j, -v)]
   |none=>[])++(match hi with
   |some v=>[(n0+j,0,v)]
   |none=>[]))
def Qzy (σ:Sg) (x:Nat):Nat->Nat->Option (Nat × Int)
 |0,_=>none
 |f+1,j=>match σ[j]? with
  |some y=>if Nat.beq y.1 x=true then some (j,y.2)else Qzy σ x f (j+1)
  |none=>none
def QtK (n0:Nat) (σ:Sg) (x:Nat):Option (Nat × Int × Bool):=
 match Qzy σ x σ.length 0 with
 |some (j,o)=>if Nat.beq x 0=true then some (0,0,false)else some (n0+j,o,true)
 |none=>if Nat.ble (x+1) n0=true then some (x,0,false)else none
def QBS (n0:Nat) (σ:Sg) (cs:List Cn):List Cn:=cs.filterMap λc=>match QtK n0 σ c.1,QtK n0 σ c.2.1 with
 |some (x,o,b1),some (y,u,b2)=>if(b1||b2)=true then some (x,y,c.2.2+o - u)else none
 |_,_=>none
def QBQ (n0:Nat) (c0:List Cn) (l:List AS):List Cn:=
 match l with
 |a::r=>a.cs.filter λc=>(Nat.ble (c.1+1) n0&&Nat.ble (c.2.1+1) n0)&&(!c0.any (QuD c)&&r.all λb=>b.cs.any (QuD c))
 |[]=>[]
def QBo (n0:Nat) (l:List AS) (maps:List Sg):List Cn:=
 match(List.zip l maps).map λq=>QBS n0 q.2 q.1.cs with
 |r::rs=>r.filter λc=>(!(Nat.beq c.1 0||Nat.beq c.2.1 0))&&rs.all λq=>q.any (QuD c)
 |[]=>[]
def Qw9 (n0:Nat) (c0:List Cn) (l:List AS):Option (AS × Nat × List Cn):=
 match l with
 |[]=>none
 |a::_=>match jnF n0 l (a.fr.map Prod.fst) (0,l.map λ_=>[])with
  |some (fr,m1)=>(match jnH n0 l 60 ((fr.flatMap λp=>p.2.rh)++a.H.filterMap λp=>if Nat.ble 1000000 p.1=true then some p.1 else none) [] m1 with
   |some (H,m2)=>(match Qfq n0 l m2.2 m2.1++QBo n0 l m2.2++QBQ n0 c0 l with
    |cs=>some (⟨fr,H,cs++c0,n0+m2.1⟩,m2.1,cs))
   |none=>none)
  |none=>none
def trG (a:AS):AS:=⟨a.fr,KN (Qxz a 3 ((a.fr.flatMap λp=>p.2.ids)++((a.H.map Prod.fst).filter λk=>Nat.ble 1000000 k)).eraseDups) a.H,a.cs,a.nx⟩
def jnA (n0:Nat) (c0:List Cn) (l:List AS):Option (List (Nat × Vl) × List (Nat × Bx) × List Cn × Nat):=
 match Qw9 n0 c0 (l.map trG)with
 |some (J,k,cs)=>if(l.all λa=>(Ml a ⟨J.fr,J.H,cs++c0,n0+k⟩ n0 k cs).isSome)=true then some (J.fr,J.H,cs,k)else none
 |none=>none
theorem Ql8 {ν f:List Int} {c0:List Cn} {l:List AS} {fr:List (Nat × Vl)} {H:List (Nat × Bx)} {cs:List Cn} {k:Nat} (he:jnA ν.length c0 l=some (fr,H,cs,k)) (h0:k8 ν c0) (z:ν[0]?=some 0) {a:AS} (ha:a∈l) {s:St} (h:a.ok (ν++f) s):∃μ s2,s.le s2/\(⟨fr,H,cs++c0,ν.length+k⟩:AS).ok (ν++μ) s2:=by
 unfold jnA at he;split at he;rename_i J M cs2 e1;split at he;rename_i C;cases he
 have:=QEs.1 C a ha;obtain⟨q,G⟩:=QEo.1 this;obtain⟨σ,Y⟩:=q;obtain⟨g,μ,s2,V,U,T,O⟩:=HU h G rfl rfl h0 z
 all_goals grind
def YM (G:List Nat) (j:Nat):Nat:=if G.contains j=true then j else upN j
def J6 (G:List Nat) (H:QEf):QEf:=H.map λp=>(YM G p.1,p.2.u5 (YM G))
def Nl (G:List Nat):Bool:=G.all λk=>decide (k<1000000)
theorem H8 {G:List Nat} (h:Nl G=true) {k:Nat} (hk:G.contains k=true):k<1000000:=by
 simpa using QEs.1 h k Wc
theorem Qdo {G:List Nat} (C:Nl G=true) {i j:Nat} (h:YM G i=YM G j):i=j:=by
 unfold YM at h;split at h<;>split at h;omega;rename_i O M;have:=H8 C O;grind [upN];rename_i O M;have:=H8 C M;grind [upN]
 grind [Qq6]
theorem Xx {G:List Nat} (C:Nl G=true):∀(H:QEf) (j:Nat),lk (J6 G H) (YM G j)=(lk H j).map (x4.u5 (YM G))
 |[],_=>rfl
 |(i,b)::H,j=>by
  have:=Xx C H j;simp only[J6,QEW,Qz]at this ⊢;rw[this]
  by_cases h:i=j
  grind
  rw[if_neg h,if_neg (λe=>h (Qdo C e))]
theorem Yy {G:List Nat}:∀{H:QEf} {i:Nat} {b:x4},lk (J6 G H) i=some b->∃j b0,i=YM G j/\lk H j=some b0/\b=b0.u5 (YM G)
 |[],_,_,h=>by cases h
 |(j,x)::H,i,b,h=>by
  have h0:=h;simp only[J6,QEW,Qz]at h;split at h;rename_i e;cases h;exact⟨j,x,e.symm,by rw[Qz,if_pos rfl],rfl⟩;rename_i e;obtain⟨C,b0,O,T,M⟩:=Yy (H:=H) h;refine⟨C,b0,O, ?_,M⟩;rw[Qz,if_neg (λe2=>e Wc)];omega
def Tv (P:Program) (f:Nat) (args:List y5) (s:St) (G:List Nat) (Hr:QEf) (d:D):Prop:=
 ∃ds,Zh s args=some ds/\Nl G=true/\(∀t x,lk s.fr t=some x->∀k∈x.ids,G.contains k=false)/\(∀k∈d.ids,G.contains k=true/\(lk Hr k).isSome=true)/\(∀j,(lk s.H j).isSome=true->(lk Hr j).isSome=true)/\(∀j,(lk Hr j).isSome=true->G.contains j=true\/(lk s.H j).isSome=true)/\
  o7 P f (ds.map λd=>(d.u5 (YM G)).can) (J6 G s.H) d (J6 G Hr)
section
variable {P:Program} {E:Env} {g:Gh} {s:St} {a:Act} {w:World}
theorem R3 {o:Oper} {ao:s6} {f:Nat} {args:List y5} {d:D} {G:List Nat} {Hr:QEf} {K':Act->World->Prop} {Q:Exit->Act->World->Prop} (r:Rel E g s a w) (hp:Yr P o.op=some ao) (hcal:Kp s ao f args) (hc:Tv P f args s G Hr d)
 (ht:∀t,o.dst=some t->t<E.nt) (hK:∀g' a' w',Rel E g' (St.apply ⟨s.fr,Hr⟩ o.dst d none) a' w'->K' a' w'):o.wp P a w K' Q:=by
 obtain⟨ds,hds,hG,hfr0,hd0,hdom,hdom2,hen,hok⟩:=hc;obtain⟨vs,hxs,hhas,hrun⟩:=HJ r hp hcal hds hen;unfold Oper.wp;rw[hrun,Oper.upon_enter]
 obtain⟨T,guK,hB0,hS0⟩:∃T:Gh,T.K=g.K/\(∀j,T.β j=if G.contains j=true then g.β j else g.β (j - 1000000))/\∀j,T.σ j=if G.contains j=true then g.σ j else g.σ (j - 1000000):=
  ⟨⟨g.K,λj=>if G.contains j=true then g.β j else g.β (j - 1000000),λj=>if G.contains j=true then g.σ j else g.σ (j - 1000000)⟩,rfl,λ_=>rfl,λ_=>rfl⟩
 have hup:∀j,T.β (YM G j)=g.β j/\T.σ (YM G j)=g.σ j:=λj=>by
  by_cases e:G.contains j=true
  have hr:YM G j=j:=if_pos e
  grind
  have hr:YM G j=upN j:=if_neg e;have C:¬G.contains (upN j)=true:=λh=>by have:=H8 hG h;grind [upN]
  have O:upN j - 1000000=j:=by simp_all [upN]
  grind
 have hgu:T.pull (YM G)=g:=by
  have C:(λj=>T.β (YM G j))=g.β:=funext λj=>(hup j).1;have O:(λj=>T.σ (YM G j))=g.σ:=funext λj=>(hup j).2
  (repeat clear hK K);simp_all [Gh.pull]
 have hrel:xa T (J6 G s.H) w:=by
  refine⟨λi b hi j M=>?_,λi b hi=>?_,λi i' b b' B e e' C O h3 h4=>?_,by rw[guK];exact r.kr⟩
  obtain⟨j1,b0,rfl,C,rfl⟩:=Yy hi;rw[x4.a8]at M;obtain⟨j0,hj0,rfl⟩:=QEw.1 M;rw[Xx hG,QEA];exact r.x9 j1 b0 C j0 hj0;obtain⟨j1,b0,rfl,C,rfl⟩:=Yy hi;refine u6.u5.2 ?_;rw[hgu];exact(r.bx j1 b0 C).move ⟨rfl,rfl⟩ (λ_ _ _ _ _ _=>⟨rfl,rfl⟩) (Kn.le_refl _) λB e _=>⟨rfl,λ_ h=>h,λ_=>.inl (QEu _)⟩;obtain⟨j1,b0,rfl,q1,rfl⟩:=Yy C;obtain⟨j2,b1,rfl,q2,rfl⟩:=Yy O;rw[(hup _).1]at h3 h4;rw[r.inj j1 j2 b0 b1 B e e' q1 q2 h3 h4]
 refine(hok T w vs hrel (HI hgu hxs) ?_).mono λe w' ⟨v,g',he,hv,Y,hsz,hfr,hfx,hkeep,hnew⟩=>?_;intro x hx j M;obtain⟨x0,hx0,rfl⟩:=QEw.1 hx;rw[L0,a8]at M;obtain⟨j0,hj0,rfl⟩:=QEw.1 M;rw[Xx hG,QEA];exact hhas x0 hx0 j0 hj0;subst he;rw[guK]at hfr
 have V:∀B,MR T (J6 G s.H) B->∃j b0 e,lk s.H j=some b0/\g.β j=some (B,e):=λB ⟨i,e,C,O⟩=>by
  obtain⟨b1,hb1⟩:=QEo.1 C;obtain⟨j,b0,rfl,q1,_⟩:=Yy hb1
  grind
 have U:∀B,MR T (J6 G s.H) B->(∀o,g.K B o=none)/\(E.B0<=B\/E.fo B)/\¬JN w B:=λB hB=>by
  obtain⟨j,b0,e,C,O⟩:=V B hB;exact⟨((r.bx j b0 C).nb O).2.1,((r.bx j b0 C).nb O).2.2,(r.bx j b0 C).ve O⟩
 have hKle:g.K.le g'.K:=λb q x hx=>by
  have hb:=r.kr.lt hx
  grind
 have kU:∀j,(lk s.H j).isSome=true->G.contains j=false->g'.β (YM G j)=g.β j/\g'.σ (YM G j)=g.σ j:=λj M hjk=>by
  have hbig:1000000<=YM G j:=by unfold YM;simp_all [upN]
  grind [Xx]
 have kK:∀k,G.contains k=true->∀B e,(lk Hr k).isSome=true->g'.β (YM G k)=some (B,e)->w.heap.size<=B\/(∃j b0 e2,lk s.H j=some b0/\g.β j=some (B,e2)):=λk hk B e hs hβ=>by
  have e5:YM G k=k:=if_pos hk;have hs2:(lk (J6 G Hr) (YM G k)).isSome=true:=by grind [Xx]
  rcases hnew (YM G k) B e (by rw[e5];exact H8 hG hk) hs2 hβ with h |⟨k2,e2,C,O,h3⟩
  omega;obtain⟨b2,hb2⟩:=QEo.1 O;obtain⟨j,b0,rfl,q1,_⟩:=Yy hb2
  grind
 have r2:Rel E (g'.pull (YM G)) ⟨s.fr,Hr⟩ a w':=by
  refine⟨r.nt,r.df.of rfl (λD hD=>((hfr D (QEG.1 hD).1 (λho=>(U D ho).2.2 hD)).1).trans hD),λt x h=>(r.fr t x h).congr hKle λj M=>kU j (r.da t x h j M) (hfr0 t x h j M),λt x h j M=>hdom j (r.da t x h j M),λj b h i hi=>?_,λj b h=>?_,λj j' b b' B e e' C O h3 h4=>?_,Y.kr,
   ⟨QEB r.ext.1 hsz,λb hb hf=>?_,r.ext.2.2.trans hfx⟩,λb hb hf=>?_,λj M=>?_⟩
  have C:lk (J6 G Hr) (YM G j)=some (b.u5 (YM G)):=by grind [Xx]
  have:=Y.x9 _ _ C (YM G i) (by rw[x4.a8];grind)
  grind [Xx]
  have C:lk (J6 G Hr) (YM G j)=some (b.u5 (YM G)):=by grind [Xx]
  have hb:=u6.u5.1 (Y.bx _ _ C);have hsr:(lk Hr j).isSome=true:=by grind
  refine hb.move ⟨rfl,rfl⟩ (λ_ _ _ _ _ _=>⟨rfl,rfl⟩) (Kn.le_refl _) λB e hβ=>⟨rfl,λ_ h=>h,λ_=>?_⟩;cases hjk:G.contains j
  have hs:(lk s.H j).isSome=true:=(hdom2 j hsr).resolve_left Wc;have hβ':g'.β (YM G j)=some (B,e):=hβ;rw[(kU j hs hjk).1]at hβ';obtain⟨b0,hb0⟩:=QEo.1 hs;exact((r.bx j b0 hb0).nb hβ').2.2;rcases kK j hjk B e hsr hβ with O |⟨j2,b0,e2,O,h3⟩
  exact .inl (QEB r.ext.1 O);exact((r.bx j2 b0 O).nb h3).2.2;have q1:lk (J6 G Hr) (YM G j)=some (b.u5 (YM G)):=by grind [Xx]
  have q2:lk (J6 G Hr) (YM G j')=some (b'.u5 (YM G)):=by grind [Xx]
  exact Qdo hG (Y.inj _ _ _ _ B e e' q1 q2 h3 h4)
  have hno:¬MR T (J6 G s.H) b:=λho=>by
   grind
  exact(hfr b (QEH hb r.ext.1) hno).1.trans (r.ext.2.1 b hb hf)
  have hno:¬MR T (J6 G s.H) b:=λho=>by
   grind
  exact(hfr b (QEH hb r.ext.1) hno).2.trans (r.kx b hb hf);obtain⟨C,O,h3,h4⟩:=r.kp j M
  have hjG:G.contains j=false:=by
   grind [H8]
  have:=kU j h4 hjG;exact⟨C,this.1.trans O,this.2.trans h3,hdom j h4⟩
 have r3:Rel E (g'.pull (YM G)) (St.j7 ⟨s.fr,Hr⟩ o.dst none) a w':=by cases o.dst<;>exact r2
 refine hK _ _ w' (r3.apply (hv.congr (Kn.le_refl _) λj M=>?_) ?_ ht);have e5:YM G j=j:=if_pos (hd0 j M).1;show g'.β (YM G j)=g'.β j/\g'.σ (YM G j)=g'.σ j
 grind
 intro j M;have C:=(hd0 j M).2;cases hdst:o.dst<;>exact C
end
section
variable {P:Program} {nt:Nat} {E:Env}
theorem QkG {fr:QEg} {G:List Nat} (h:(fr.all λp=>p.2.ids.all λk=>!G.contains k)=true):∀t x,lk fr t=some x->∀k∈x.ids,G.contains k=false:=λt x hx k hk=>by
 simpa using QEs.1 (QEs.1 h (t,x) (ZJ hx)) k hk
end
section
variable {P:Program} {nt:Nat}
end
end Go.Abs
namespace Go.Abs
open Go
variable {H H':QEf} {P:Program} {d:D} {ds:List D} {f i:Nat} {ρ ρ':Nat->Nat}
structure Rn (ρ ρ':Nat->Nat):Prop where
 inv:∀k,ρ' (ρ k)=k
 small:∀k,ρ k<1000000↔k<1000000
def K7 (ρ:Nat->Nat) (H:QEf):QEf:=H.map λp=>(ρ p.1,p.2.u5 ρ)
section
variable {ρ ρ':Nat->Nat} (hρ:Rn ρ ρ')
include hρ
theorem Rn.inj {j:Nat} (h:ρ i=ρ j):i=j:=by rw[<- hρ.inv i,h,hρ.inv]
theorem X4:∀(H:QEf) (j:Nat),lk (K7 ρ H) (ρ j)=(lk H j).map (x4.u5 ρ)
 |[],_=>rfl
 |(i,b)::H,j=>by
  have:=X4 H j;simp only[K7,QEW,Qz]at this ⊢;rw[this]
  by_cases h:i=j
  grind
  rw[if_neg h,if_neg (λe=>h (hρ.inj e))]
omit hρ in
theorem PH:∀{H:QEf} {i:Nat} {b:x4},lk (K7 ρ H) i=some b->∃j,i=ρ j
 |[],_,_,h=>by cases h
 |(j,x)::H,i,b,h=>by
  simp only[K7,QEW,Qz]at h;split at h;rename_i e;exact⟨j,e.symm⟩;exact PH (H:=H) h
theorem Jn {b:x4} (h:lk (K7 ρ H) i=some b):∃j b0,i=ρ j/\lk H j=some b0/\b=b0.u5 ρ:=by
 obtain⟨j,rfl⟩:=PH h;rw[X4 hρ]at h;obtain⟨b0,G,C⟩:=QEh.1 h
 grind
end
theorem g9.u5 {g:Gh} {ρ:Nat->Nat}:∀{ds:List D} {vs:List Value},g9 g (ds.map (D.u5 ρ)) vs↔g9 (g.pull ρ) ds vs
 |[],[]=>Iff.rfl
 |d::ds,v::vs=>by simp only[QEW,g9];rw[a7.u5,g9.u5]
 |[],_::_=>Iff.rfl
 |_::_,[]=>Iff.rfl
theorem o7.ni (hρ:Rn ρ ρ') (h:o7 P f ds H d H'):o7 P f (ds.map (D.u5 ρ)) (K7 ρ H) (d.u5 ρ) (K7 ρ H'):=by
 refine⟨h.1,λg w vs G hargs hids=>?_⟩
 have hr0:xa (g.pull ρ) H w:=by
  refine⟨λk b hk j hj=>?_,λk b hk=>?_,λi i' b b' B e e' C V U h4=>?_,G.kr⟩;have C:lk (K7 ρ H) (ρ k)=some (b.u5 ρ):=by grind [X4]
  have:=G.x9 _ _ C (ρ j) (by rw[x4.a8];grind)
  grind [X4]
  have C:lk (K7 ρ H) (ρ k)=some (b.u5 ρ):=by grind [X4]
  exact u6.u5.1 (G.bx _ _ C);have q1:lk (K7 ρ H) (ρ i)=some (b.u5 ρ):=by grind [X4]
  have q2:lk (K7 ρ H) (ρ i')=some (b'.u5 ρ):=by grind [X4]
  exact hρ.inj (G.inj _ _ _ _ B e e' q1 q2 U h4)
 refine(h.2 (g.pull ρ) w vs hr0 (g9.u5.1 hargs) (λx hx k hk=>?_)).mono λe w' ⟨v,g',he,hv,T,hsz,hfr,hfx,Y,hnew⟩=>?_
 grind [List.mem_map_of_mem,a8,X4]
 obtain⟨O,guK,hB0,hS0⟩:∃O:Gh,O.K=g'.K/\(∀j,O.β j=g'.β (ρ' j))/\∀j,O.σ j=g'.σ (ρ' j):=
  ⟨⟨g'.K,λj=>g'.β (ρ' j),λj=>g'.σ (ρ' j)⟩,rfl,λ_=>rfl,λ_=>rfl⟩
 have M:∀j,O.β (ρ j)=g'.β j/\O.σ (ρ j)=g'.σ j:=λj=>by
  rw[hB0,hS0,hρ.inv];simp
 have hgu:O.pull ρ=g':=by
  have C:(λj=>O.β (ρ j))=g'.β:=funext λj=>(M j).1;have V:(λj=>O.σ (ρ j))=g'.σ:=funext λj=>(M j).2
  (repeat clear hK K);simp_all [Gh.pull]
 have hown:∀b,MR (g.pull ρ) H b->MR g (K7 ρ H) b:=λb ⟨k,e,C,V⟩=>⟨ρ k,e,by grind [X4],V⟩;refine⟨v,O,he,a7.u5.2 Wc,⟨λi b hi j hj=>?_,λi b hi=>?_,λi i' b b' B e e' C V U h4=>?_,by rw[guK];exact T.kr⟩,hsz,λb hb hn=>?_,hfx,λk hk hs=>?_,λk B e hk hs hβ=>?_⟩
 obtain⟨j1,b0,rfl,C,rfl⟩:=Jn hρ hi;rw[x4.a8]at hj;obtain⟨j0,hj0,rfl⟩:=QEw.1 hj;rw[X4 hρ,QEA];exact T.x9 j1 b0 C j0 hj0;obtain⟨j1,b0,rfl,C,rfl⟩:=Jn hρ hi;refine u6.u5.2 ?_;rw[hgu];exact T.bx j1 b0 C;obtain⟨j1,b0,rfl,q1,rfl⟩:=Jn hρ C;obtain⟨j2,b1,rfl,q2,rfl⟩:=Jn hρ V;rw[(M _).1]at U h4;rw[T.inj j1 j2 b0 b1 B e e' q1 q2 U h4];rw[guK];exact hfr b hb λho=>hn (hown b ho);obtain⟨b,hb⟩:=QEo.1 hs;obtain⟨j,b0,rfl,q1,rfl⟩:=Jn hρ hb
 have hj:1000000<=j:=by
  have:=hρ.small j;omega
 obtain⟨C,V,U⟩:=Y j hj Wc;exact⟨by grind [X4],by rw[(M j).1];exact V,by rw[(M j).2];exact U⟩
 obtain⟨b,hb⟩:=QEo.1 hs;obtain⟨j,b0,rfl,q1,rfl⟩:=Jn hρ hb;have hj:j<1000000:=(hρ.small j).1 hk;rw[(M j).1]at hβ;rcases hnew j B e hj Wc hβ with h |⟨k2,e2,C,V,U⟩
 omega;exact .inr ⟨ρ k2,e2,(hρ.small k2).2 C,by grind [X4],U⟩
def Qmx (a b:Nat) (k:Nat):Nat:=if k=a then b else if k=b then a else k
theorem o7.we {ds2:List D} {H2 H2':QEf} {d2:D} (hρ:Rn ρ ρ') (h:o7 P f ds H d H') (e1:ds.map (D.u5 ρ)=ds2) (e2:K7 ρ H=H2) (G:d.u5 ρ=d2) (C:K7 ρ H'=H2'):o7 P f ds2 H2 d2 H2':=by
 subst e1 e2 G C;exact h.ni hρ
end Go.Abs
namespace Go.Abs
open Go
variable {Q Q1:Exit->Act->World->Prop} {i j k:Nat} {l1 l2:List u3} {o:Oper}
section
variable {P:Program} {nt m:Nat} {ops:Array Oper}
theorem u9.trans (h:u9 ops k j) (C:u9 ops j i):u9 ops k i:=by
 induction h with
 |one h=>exact .more h C
 |more h _ ih=>exact .more h (ih C)
def Nf (ops:Array Oper) (m:Nat):Array Oper:=(ops.toList.take m).toArray
theorem Qch (i:Nat):(Nf ops m)[i]?=if i<m then ops[i]? else none:=by
 simp[Nf,List.getElem?_take]
theorem Jl (h:i<m):(Nf ops m)[i]?=ops[i]?:=by rw[Qch,if_pos h]
theorem C0 (h:(Nf ops m)[i]?=some o):i<m/\ops[i]?=some o:=by
 grind [Qch]
theorem HL (hm:m<=ops.size):(Nf ops m).size=m:=by grind [Nf]
theorem L9 (h:gdB ops=true) {b:Bool} (ho:ops[k]?=some o) (C:o.guard=some (j,b)):j<k:=by
 have hk:=(QEG.1 ho).1;have:=QEs.1 h k (QEE.2 hk)
 grind
theorem QfP (h:gdB ops=true) (hk:k<m) (ho:ops[k]?=some o):o.looksAt (Nf ops m)=o.looksAt ops:=by
 unfold Oper.looksAt;cases C:o.guard with
 |none=>rfl
 |some p=>
  obtain⟨j,b⟩:=p;have:=L9 h ho C
  grind [Jl]
theorem QfN (h:gdB ops=true) {p:Oper} (hk:k<m) (ho:ops[k]?=some o) (C:j<m) (hp:ops[j]?=some p):o.apart (Nf ops m) p=o.apart ops p:=by
 grind [Oper.apart,QfP]
theorem QfO (h:gdB ops=true) (hk:k<m) (ho:ops[k]?=some o):Yi (Nf ops m) o.guard=Yi ops o.guard:=by
 cases C:o.guard with
 |none=>rfl
 |some p=>
  obtain⟨j,b⟩:=p;have:=L9 h ho C
  grind [Yi,Jl]
theorem Qci:∀{l:List Oper} {l':List u3},(∀o∈l,Yi (Nf ops m) o.guard=Yi ops o.guard)->QV P nt ops l=some l'->QV P nt (Nf ops m) l=some l'
 |[],_,_,h=>h
 |o::l,l',hg,h=>by
  simp only[QV]at h ⊢
  have e:ZP P nt (Nf ops m) o=ZP P nt ops o:=by
   grind [ZP]
  rw[e];split at h;rename_i o' C e1 e2;rw[e1,Qci (λx hx=>hg x Wc) e2];exact h
  grind
theorem KI:∀{l:List Oper} {a b:List u3},QV P nt ops l=some (a++b)->QV P nt ops (l.take a.length)=some a/\QV P nt ops (l.drop a.length)=some b
 |l,[],b,h=>⟨by rfl,by grind⟩
 |[],x::a,b,h=>by grind [QV]
 |o::l,x::a,b,h=>by
  simp only[QV]at h;split at h;rename_i o' C e1 e2;simp only[QFi,QEl,QFE]at h;obtain⟨rfl,rfl⟩:=h;obtain⟨M,G⟩:=KI e2;refine⟨?_,by grind⟩
  grind [QV]
  grind
def Qsl (l1 l2:List u3):Bool:=(l2.all λo=>o.guard.isNone)||match l1.getLast? with
 |some o=>o.guard.isSome
 |none=>true
theorem Nk {x:Option (Nat × Bool)} (h:Yi ops o.guard=some x):x.isNone=o.guard.isNone:=by
 cases C:o.guard with
 |none=>rw[C]at h;grind [Yi]
 |some p=>
  grind [Yi]
theorem QjT (G:gdB ops=true) (hm:m<=ops.size) (h:PS ops=true):PS (Nf ops m)=true:=by
 simp only[PS,QEm,QEs,QEE]at h ⊢;refine⟨?_,λk hk=>?_⟩;unfold Region.noSelect at h ⊢;rw[Array.all_eq_true_iff_forall_mem]at h ⊢;intro o ho;obtain⟨i,hi,e⟩:=Array.mem_iff_getElem.1 ho;exact h.1 o (Array.mem_of_getElem? (C0 (by rw[<- e];exact QFt hi)).2)
 rw[HL hm]at hk;have C:=h.2 k Wa;unfold C9 at C ⊢;rw[Jl hk];cases ho:ops[k]? with
 |none=>grind
 |some o=>
  rw[ho]at C;simp only[QEm,QEs,QEE]at C ⊢
  grind [HL,Jl,QfN]
theorem Qsv (hm:m<=ops.size) (h:lsB ops=true):lsB (Nf ops m)=true:=by
 simp only[lsB,QFu]at h ⊢;rcases h with h |h
 left;have G:=QEi h
 grind [Nf,List.take_sublist]
 right;simp only[QEs,QEE]at h ⊢;intro j C k hk;rw[HL hm]at C;rw[Jl C,Jl (Wa:k<m)];exact h j Wa k hk
theorem Qsu (hp:QV P nt ops ops.toList=some (l1++l2)) (O:Qsl l1 l2=true) (h:lcB ops=true):lcB (Nf ops l1.length)=true:=by
 obtain⟨hp1,V⟩:=KI hp;have hlen:=X5 hp;have hm:l1.length<=ops.size:=by grind
 simp only[lcB,QEs,QEE]at h ⊢;intro j hj k hk;rw[HL hm]at hj;have:=h j Wa k hk;rw[Jl hj,Jl (Wa:k<l1.length)];cases hoj:ops[j]? with
 |none=>simp
 |some oj=>
  cases Y:ops[k]? with
  |none=>simp
  |some ok=>
   rw[hoj,Y]at this;simp only[QFu,QFv,QEv]at this ⊢;have M:(Nf ops l1.length).toList=ops.toList.take l1.length:=by rfl
   have e1:N5 (Nf ops l1.length) k=true->N5 ops k=true:=λhf=>by
    simp only[N5,M]at hf ⊢;simp only[Qsl,QFu]at O
    have U:ops.toList.drop k=(ops.toList.take l1.length).drop k++ops.toList.drop l1.length:=by
     grind [List.take_append_drop]
    rcases O with O |O;rw[U,QFK,hf,QE7];rw[QEs]at O ⊢;intro x hx;obtain⟨i,hi⟩:=List.mem_iff_getElem?.1 hx
    obtain⟨x',C,h2⟩:=ZC V i x hi;rw[<- Nk (Q6 h2).2.1]
    grind
    exfalso;have T:l1≠[]:=by grind
    rw[List.getLast?_eq_some_getLast T]at O;have G:∃o,ops[l1.length - 1]?=some o:=⟨_,QFt (Wa:l1.length - 1<ops.size)⟩;obtain⟨o,ho⟩:=G;obtain⟨o',C,h2⟩:=ZC hp (l1.length - 1) o Wc;rw[QFg Wa,<- List.getLast?_eq_getElem?,List.getLast?_eq_some_getLast T]at C;cases C
    have hn:=Nk (Q6 h2).2.1
    have hmem:o∈(ops.toList.take l1.length).drop k:=by
     refine List.mem_iff_getElem?.2 ⟨l1.length - 1 - k, ?_⟩;rw[List.getElem?_drop,List.getElem?_take,if_pos Wa,show k+(l1.length - 1 - k)=l1.length - 1 by omega,QFc];omega
    (repeat clear hK K);simp_all
   have e2:BM (Nf ops l1.length) k j=BM ops k j:=by
    grind [BM,List.drop_take]
   rcases this with⟨C |C |C⟩ |C
   grind
   grind
   grind
   exact .inr C
theorem Qst (hm:m<=ops.size) (h:gdB ops=true):gdB (Nf ops m)=true:=by
 grind [gdB,HL,Jl]
theorem Ly {Q:Exit->Act->World->Prop}:∀(fuel:Nat) (listed:Array Bool) (a:Act) (w:World),wpAny P .any ops Q fuel listed a w->wpAny P .any ops Q (fuel+1) listed a w
 |0,listed,a,w,h=>⟨λ_=>h.2,λi hi=>by rw[h.1]at hi;grind⟩
 |fuel+1,listed,a,w,h=>⟨h.1,λi hi=>wpOp_mono (λa w h=>Ly fuel _ a w h) (h.2 i hi)⟩
theorem To {Q:Exit->Act->World->Prop} (n:Nat):∀(k:Nat) (listed:Array Bool) (a:Act) (w:World),wpAny P .any ops Q n listed a w->wpAny P .any ops Q (k+n) listed a w
 |0,_,_,_,h=>by grind
 |k+1,listed,a,w,h=>by
  rw[show k+1+n=k+n+1 by omega];exact Ly _ _ _ _ (To n k listed a w h)
theorem Qsw {a:Act} {w:World} {K K':Act->World->Prop} (C:∀e a w,e≠.normal->Q1 e a w->Q e a w) (M:∀a w,K a w->K' a w) (h:o.wp P a w K Q1):o.wp P a w K' Q:=by
 unfold Oper.wp at*;generalize (execOp a.eval o).run P w=r at*;have G:LetsOut Q1->LetsOut Q:=λ⟨a,w,h⟩=>⟨a,w,C _ _ _ Wd h⟩;cases r with
 |ok n w'=>
  cases n<;>simp only[Oper.upon]at h ⊢<;>
   first
    |grind
    |grind [Calls.mono]
    |grind [Rows.mono]
    |exact h
 |halt x w'=>cases x<;>simp only[Oper.upon]at h ⊢<;>first |grind |exact h
theorem Qd4 (G:gdB ops=true) (hk:k<m) (ho:ops[k]?=some o) (tmps:Array Value):Region.wanted o (yielded (Nf ops m) tmps)=Region.wanted o (yielded ops tmps):=by
 unfold Region.wanted;cases C:o.guard with
 |none=>rfl
 |some p=>
  obtain⟨j,b⟩:=p;have:=L9 G ho C
  grind [yielded,Jl]
theorem Ho {listed:Array Bool}:∀(k:Nat),(∃i,i<k/\listed.getD i true=false)->∃i,i<k/\listed.getD i true=false/\∀j,j<i->listed.getD j true=true
 |0,⟨_,h,_⟩=>Wa
 |k+1,⟨i,h1,h2⟩=>by
  by_cases h:∃i,i<k/\listed.getD i true=false
  obtain⟨i,M,G,C⟩:=Ho k h
  grind
  grind
theorem Qi1 {rest:Nat} (hg:gdB ops=true) (hf:PS ops=true) (hm:m<=ops.size) (hQ:∀e a w,e≠.normal->Q1 e a w->Q e a w) (hbar:∀i j,i<m->m<=j->j<ops.size->u9 ops j i)
 (hN:∀a w (listed:Array Bool),listed.size=ops.size->(∀i,i<ops.size->listed.getD i true=decide (i<m))->Qjh ops listed->Q1 .normal a w->wpAny P .any ops Q rest listed a w):
  ∀(fuel:Nat) (C listed:Array Bool) (a:Act) (w:World),listed.size=ops.size->C.size=m->(∀i,i<m->listed.getD i true=C.getD i true)->(∀i,m<=i->i<ops.size->listed.getD i true=false)->Qjh ops listed->
   wpAny P .any (Nf ops m) Q1 fuel C a w->wpAny P .any ops Q (fuel+rest) listed a w:=by
 have Y:∀k,k<ops.size->C9 ops k=true:=by
  (repeat clear hK K);simp_all [PS]
 have hedge:∀{k:Nat} {o:Oper},ops[k]?=some o->∀e∈o.after,Region.binds .any e=true->e.on<k:=λ{k o} ho e he hb=>by
  have O:=Y k (QEG.1 ho).1;unfold C9 at O;rw[ho]at O;simp only[QEm,Array.all_eq_true_iff_forall_mem]at O
  grind
 intro fuel
 induction fuel with
 |zero=>
  intro C listed a w O h2 h3 h4 hd h;rw[Nat.zero_add];refine hN a w listed O (λi hi=>?_) hd h.2
  by_cases G:i<m
  rw[decide_eq_true G];cases hx:listed.getD i true with
  |true=>rfl
  |false=>
   obtain⟨i0,q1,q2,q3⟩:=Ho m ⟨i,G,by rw[<- h3 i G];omega⟩
   have ho:ops[i0]?=some ops[i0]:=QFt Wa
   have:i0∈Region.ready .any (Nf ops m) C:=mem_ready.2 ⟨q2,_,by rw[Jl q1];exact ho,λe he hb=>by
    grind⟩
   rw[h.1]at this;grind
  grind
 |succ fuel ih=>
  intro C listed a w O h2 h3 h4 hd h
  by_cases hall:∃i,i<m/\C.getD i true=false
  obtain⟨i0,q1,q2,q3⟩:=Ho m hall;have ho:ops[i0]?=some ops[i0]:=QFt Wa
  have hr0:i0∈Region.ready .any ops listed:=mem_ready.2 ⟨by grind,_,ho,λe he hb=>by
    grind⟩
  rw[show fuel+1+rest=(fuel+rest)+1 by omega];refine⟨λhx=>Wc,λi hi=>?_⟩;obtain⟨hu,o,M,hal⟩:=mem_ready.1 hi
  have G:i<m:=QFL λhn=>by
   grind [Mx]
  have V:i∈Region.ready .any (Nf ops m) C:=mem_ready.2 ⟨by grind,o,by grind [Jl],λe he hb=>by
   grind⟩
  have hw:=h.2 i V;unfold wpOp at hw ⊢;rw[Jl G,M]at hw;rw[M];simp only at hw ⊢;rw[Qd4 hg G M]at hw
  have step:∀a w,wpAny P .any (Nf ops m) Q1 fuel (C.setIfInBounds i true) a w->wpAny P .any ops Q (fuel+rest) (listed.setIfInBounds i true) a w:=λa w hh=>by
   refine ih _ _ a w Wc Wc (λk hk=>?_) (λk hk hk2=>?_) (P6 hd hi) hh
   by_cases e:i=k
   (repeat clear hK K);simp_all
   (repeat clear hK K);simp_all
   rw[getD_set_ne true Wa];grind
  split;rename_i T;rw[if_pos T]at hw;rcases hw with hw |⟨hw,a',w',hL⟩
  grind [Qsw]
  exact .inr ⟨hw,a',w',hQ _ _ _ Wd hL⟩
  grind
  have U:Region.ready .any (Nf ops m) C=[]:=by
   rw[List.eq_nil_iff_forall_not_mem]
   grind [mem_ready]
  rw[show fuel+1+rest=(fuel+1)+rest by omega];refine To rest (fuel+1) listed a w (hN a w listed O (λi hi=>?_) hd (h.1 U))
  grind
end
section
variable {P:Program} {nt:Nat} {ops:Array Oper}
def QlN:List u3->u3->List u3->Bool
 |[],o,l2=>(List.range l2.length).all λn=>(YV o.dst.toList l2).contains n
 |x::b,o,l2=>(YV x.dst.toList (b++o::l2)).contains l2.length&&QlN b o l2
theorem Qfl:∀{l1:List u3} {o:u3} {l2:List u3},QlN l1 o l2=true->(∀i (h:i<l1.length),(YV l1[i].dst.toList (l1.drop (i+1)++o::l2)).contains l2.length=true)/\∀n,n<l2.length->(YV o.dst.toList l2).contains n=true
 |[],o,l2,h=>⟨λi hi=>by grind,λn C=>by grind [QlN]⟩
 |x::b,o,l2,h=>by
  simp only[QlN,QEm]at h;obtain⟨M,G⟩:=Qfl h.2
  grind
theorem QdU {o:u3} (C:TN ops) (hp:QV P nt ops ops.toList=some (l1++o::l2)) (hb:QlN l1 o l2=true):(∀i,i<l1.length->u9 ops l1.length i)/\∀j,l1.length<j->j<ops.size->u9 ops j l1.length:=by
 obtain⟨h1,h2⟩:=Qfl hb;have hlen:=X5 hp;simp only[QEY,QEZ,QE1]at hlen
 have key:∀i (hi:i<(l1++o::l2).length),∀n∈YV ((l1++o::l2)[i]).dst.toList ((l1++o::l2).drop (i+1)),u9 ops ((l1++o::l2).length - 1 - n) i:=λi hi=>by
  refine Kz C hp (i:=i) _ (i+1) _ rfl Wc λt ht=>?_;have M:i<ops.size:=by grind
  have G:ops[i]?=some ops[i]:=QFt M;obtain⟨o2,O,T⟩:=ZC hp i ops[i] Wd;rw[QE8 hi]at O;cases O
  refine⟨i,ops[i],QFz i,G, ?_,.inl rfl⟩;rw[<- (Q6 T).2.2.1]
  grind
 refine⟨λi hi=>?_,λj hj U=>?_⟩;have Y:=h1 i hi
 have V:=key i Wc l2.length (by
  grind)
 grind
 have Y:=h2 (l1.length+l2.length - j) Wa
 have V:=key l1.length Wd (l1.length+l2.length - j) (by
  (repeat clear hK K);simp_all)
 grind
def Qjc (P:Program) (o:u3) (K:St->Prop) (s:St):Prop:=
 gw s o.guard=some true/\∃t f args G Hr d,o.dst=some t/\Kp s o.op f args/\Tv P f args s G Hr d/\K ⟨(t,d)::s.fr,Hr⟩
def Qhp (P:Program) (o:u3) (K:St->Prop) (s:St):Prop:=∃s',s.le s'/\Qjc P o K s'
theorem Rz {Q:AExit->St->Prop} {s:St} {o:u3} (hb:QlN l1 o l2=true) (hc:Qsl l1 (o::l2)=true)
 (h:run P (.drawn s.H [] []) l1 (Qhp P o (λs'=>run P (.drawn s'.H [] []) l2 (Q .normal) s')) s):AW P nt (.region true (l1++o::l2)) Q s:=λcode E g a w hm hp hn hfl r=>by
 obtain⟨id,ops,rfl,hB,M⟩:=Jp hp;refine wpIn_region_any hm (FR (λ⟨_,_,h⟩=>h) (YP M) _ _ _ _ ?_);have hB':=hB rfl;simp only[Sb,QEm]at hB';obtain⟨⟨hf,hls⟩,hlc,hg⟩:=hB';have U:TN ops:=Dm (HP hf);have hlen:=X5 M;simp only[QEY,QEZ,QE1]at hlen;have hmz:l1.length<=ops.size:=Wa;obtain⟨hb1,hb2⟩:=QdU U M hb;have C:∀(j:Nat) (o':Oper),ops[j]?=some o'->∀t,o'.dst=some t->t<E.nt:=λj o' ho t ht=>by rw[hn];exact YA M j o' ho t ht
 have hfs:∀k,k<ops.size->C9 ops k=true:=by
  have hf':=hf
  (repeat clear hK K);simp_all [PS]
 obtain⟨hp1,_⟩:=KI M
 have T:QV P nt (Nf ops l1.length) (Nf ops l1.length).toList=some l1:=by
  grind [Nf,Qci,List.mem_iff_getElem?,QfO]
 have hdr:Sb (Nf ops l1.length)=true:=by
  simp only[Sb,QEm]
  grind [QjT,Qsv,Qsu,Qst]
 have V:=hdr;simp only[Sb,QEm]at V
 obtain⟨Q1,Y,hQ1⟩:∃Q1:Exit->Act->World->Prop,(∀a w,Q1 .normal a w↔∃s' g',Rel E g' s' a w/\Qhp P o (λs'=>run P (.drawn s'.H [] []) l2 (Q .normal) s') s')/\∀e a w,e≠.normal->(Q1 e a w↔AQ E Q e a w):=
  ⟨λe a w=>(e=.normal/\∃s' g',Rel E g' s' a w/\Qhp P o (λs'=>run P (.drawn s'.H [] []) l2 (Q .normal) s') s')\/(e≠.normal/\AQ E Q e a w),λa w=>⟨λh=>h.elim (λh=>h.2) (λh=>absurd rfl h.1),λh=>.inl ⟨rfl,h⟩⟩,λe a w he=>⟨λh=>h.elim (λh=>absurd h.1 he) (λh=>h.2),λh=>.inr ⟨he,h⟩⟩⟩
 have hcz:(Nf ops l1.length).size=l1.length:=HL hmz
 have inner:wpAny P .any (Nf ops l1.length) Q1 l1.length (Array.replicate l1.length false) a {w with drawn:=w.drawn+1}:=by
  have:=Gp (Q:=Q1) (HP V.1.1) hn T (λj o' ho t ht=>C j o' (C0 ho).2 t ht) r (λ_ h=>h) (Qbx h _ T hdr) λs' g' a' w' r' h'=>(Y a' w').2 ⟨s',g',r',h'⟩
  grind
 have hsz:ops.size=l1.length+(l2.length+1):=Wa;have main:=Qi1 (P:=P) (Q:=AQ E Q) (rest:=l2.length+1) hg hf hmz (λe a w he hq=>(hQ1 e a w he).1 hq) (λi j hi hj hjs=>?_) (λa w listed hls1 hls2 hdn hq=>?_) l1.length (Array.replicate l1.length false) (Array.replicate ops.size false) a _ Wd Wd (λi hi=>by simp[hi,show i<ops.size by omega]) (λi M h2=>by simp[h2]) (λj i hj _=>?_) inner
 grind
 rcases Nat.eq_or_lt_of_le hj with e |e
 grind
 exact(hb2 j e hjs).trans (hb1 i hi);obtain⟨s0,g0,r0,s1,hle,hgo,t,f,args,G,Hr,d,hdt,hcal,hcz2,hk⟩:=(Y a w).1 hq;obtain⟨g1,r1⟩:=hle _ _ _ _ r0;have hms:l1.length<ops.size:=Wa;have hom:ops[l1.length]?=some ops[l1.length]:=QFt hms
 have hpo:ZP P nt ops ops[l1.length]=some o:=by
  obtain⟨o2,q1,q2⟩:=ZC M l1.length ops[l1.length] Wd
  grind
 have hready:l1.length∈Region.ready .any ops listed:=mem_ready.2 ⟨by grind,_,hom,λe he hb=>by
  have h2:=hfs l1.length hms;unfold C9 at h2;rw[hom]at h2;simp only[QEm,Array.all_eq_true_iff_forall_mem]at h2
  grind⟩
 refine⟨λhx=>Wc,λi hi=>?_⟩;obtain⟨hu,oi,hoi,_⟩:=mem_ready.1 hi;have his:i<ops.size:=(QEG.1 hoi).1
 have him:i=l1.length:=by
  rw[hls2 i his]at hu;have h2:¬i<l1.length:=of_decide_eq_false hu;refine QFL λhne=>?_
  grind [Mx]
 subst him;unfold wpOp;rw[hom];simp only;obtain⟨p1,p2,p3,p4⟩:=Q6 hpo;rw[Xm r1 p2 C true hgo];simp only[if_true];refine .inl (R3 r1 p1 hcal hcz2 (λt ht=>by grind) λg' a' w' r'=>?_);have e:St.apply ⟨s1.fr,Hr⟩ (ops[l1.length]).dst d none=⟨(t,d)::s1.fr,Hr⟩:=by rw[<- p3,hdt];rfl
 rw[e]at r'
 have hdrop:l2=(l1++o::l2).drop (l1.length+1):=by
  simp
 have hD:Qb1 P (λk=>(lk Hr k).isSome=true) (u9 ops) l2 (l1.length+1) [] [] (Q .normal) ⟨(t,d)::s1.fr,Hr⟩:=FK (H0:=Hr) U hls hlc M l2 (l1.length+1) [] [] [] [] ⟨(t,d)::s1.fr,Hr⟩ hdrop Wc (λ_ _ h=>by cases h) (λ_ _ h=>by cases h) hk;have O:RC P nt ops (l1++o::l2):=λi o ho=>ZC M i o Wc
 have hlx:Region.lexFrom .any ops l2.length (l1.length+1) (listed.setIfInBounds l1.length true)=true:=by
  refine Fa hfs l2.length (l1.length+1) _ Wa Wc λi d hi=>?_
  by_cases e:l1.length=i
  subst e;rw[decide_eq_true Wa,QEJ,Array.getElem?_setIfInBounds_self_of_lt Wa];rfl;rw[getD_set_ne d e]
  grind
 refine KR (ww:=false) (KK:=λs=>∃s',s.same s'/\Q .normal s') (B:=λk=>(lk Hr k).isSome=true) hn O C (λs g a w ⟨s',q1,q2⟩ r=>⟨s',g,q2,r.same q1⟩) l2.length _ [] [] _ g' a' w' r' ?_
 exact MU hn (λs s' hs ⟨s2,q1,q2⟩=>⟨s2,⟨λt=>(hs.1 t).symm.trans (q1.1 t),λk=>(hs.2 k).symm.trans (q1.2 k)⟩,q2⟩) O l2 (l1.length+1) _ [] [] _ (λj=>by
  grind) ⟨g',a',w',r'⟩ (λ_ h=>h) (P6 hdn hi) hlx (RQ (K:=Q .normal) (K':=λs=>∃s',s.same s'/\Q .normal s') (λs h=>⟨s,⟨λ_=>rfl,λ_=>rfl⟩,h⟩) hD)
 rcases QEF j ops.size with h' |h'
 (repeat clear hK K);simp_all
 grind
end
section
variable {P:Program} {nt:Nat}
end
variable {d:D} {v:Value}
def D.xc (H:QEf):Nat->D->D
 |0,d=>if d.own=true then .z7 else d
 |n+1,d=>match d with
  | .u4 k m=>(match lk H k with
   |some b=>if m=b.rows.length then .sl (b.rows.map λr=>r.map (D.xc H n))else .z7
   |none=>.z7)
  | .ref k i off=>(match lk H k with
   |some b=>.ptr (((b.rows.getD i []).drop off).map (D.xc H n))
   |none=>.z7)
  |d=>if d.own=true then .z7 else d
def D.mc (H:QEf) (n:Nat):D->D
 | .agg cs=>.agg (cs.map (D.xc H n))
 |d=>d.xc H n
section
variable {g:Gh} {H:QEf} {w:World}
theorem Th {B:Nat} {c:Array Value} {e:TypeId} {f:Nat × Nat} (h:w.heap[B]?=some (.cells c e f)) (p:Nat):Fq w B p=c[p]?:=by grind [Fq]
theorem Qbe {K:Kn} (h:ka K w):K.le (Fq w):=λb o x hx=>by
 obtain⟨c,e,f,G,C⟩:=h b o x hx
 grind [Th]
theorem DG (h:z4 g d v) (ho:d.own=true):v.oneCell'=true:=by
 cases d<;>simp only[D.own,QEq]at ho
 case u4=>obtain⟨a,cap,rfl,_⟩:=h;rfl
 case la=>obtain⟨a,cap,rfl,_⟩:=h;rfl
 case ref=>obtain⟨B,l0,o,_,rfl⟩:=h;rfl
 case w8=>obtain⟨B,l0,o,cs,_,rfl,_⟩:=h;rfl
theorem Qde (C:ka g.K w) (h:z4 g d v):s4 (Fq w) (if d.own=true then .z7 else d) v:=by
 split
 grind [s4,DG]
 rename_i ho;exact s4.mono (Qbe C) _ _ (h.oc Wc)
theorem BY (h:d.l5=true):(if d.own=true then D.z7 else d).l5=true:=by
 split;rfl;omega
theorem Qcl (h:d.l5=true):∀n,(d.xc H n).l5=true
 |0=>BY h
 |n+1=>by
  unfold D.xc;split;split;split<;>rfl;rfl;split<;>rfl
  grind [BY]
theorem xa.y4 (hr:xa g H w) {k:Nat} {b:x4} (hb:lk H k=some b):∀r∈b.rows,∀d∈r,∀j∈d.y4,(lk H j).isSome=true:=λr C d hd j G=>by
 by_cases hp:b.pr=true
 rw[(hr.bx k b hb).2.1 hp r C d hd]at G;grind;refine hr.x9 k b hb j ?_;unfold x4.ids
 grind
theorem QaQ (hr:xa g H w):∀(n:Nat) {d:D} {v:Value},z4 g d v->s4 (Fq w) (d.xc H n) v
 |0,d,v,h=>Qde hr.kr h
 |n+1,d,v,h=>by
  have M:∀{B:Nat} {c:Array Value},(∀p,Fq w B p=c[p]?)->∀{off:Nat} {ds:List D},j5 g c off ds->o5 (Fq w) B off (ds.map (D.xc H n)):=by
   intro B c hc off ds
   induction ds generalizing off with
   |nil=>intro _;trivial
   |cons d ds ih=>
    intro hh;simp only[j5]at hh;simp only[QEW,o5];obtain⟨⟨C,x,V,G⟩,Y⟩:=hh;exact⟨⟨Qcl C n,x,by grind,QaQ hr n G⟩,ih Y⟩
  have O:∀{B:Nat} {c:Array Value},(∀p,Fq w B p=c[p]?)->∀{off:Nat} {rs:List (List D)},s5 g c off rs->j6 (Fq w) B off (rs.map λr=>r.map (D.xc H n)):=by
   intro B c hc off rs
   induction rs generalizing off with
   |nil=>intro _;trivial
   |cons r rs ih=>
    grind [s5,j6]
  unfold D.xc;split;rename_i k m;cases hb:lk H k with
  |none=>simp only[s4];exact DG h rfl
  |some b=>
   simp only;split;rename_i hm;obtain⟨a,cap,C,V,G⟩:=h;subst hm;simp only[s4,QFf];refine⟨a,cap,C,V, ?_⟩
   by_cases h0:b.rows=[]
   grind
   right;obtain⟨b1,b2,U⟩:=hr.bx k b hb;rcases U with⟨U,_⟩ |⟨_,B,c,b4,b5,b6,b7,_⟩
   grind
   rcases G with⟨G,_⟩ |⟨B',l0,G,Y,_⟩ |G
   grind
   rw[b4]at G;cases G;exact⟨B,(g.σ k).2,b.l0,Y,λr hrr=>by grind,O (Th b5) b7⟩;exact(G.no b4).elim;simp only[s4];exact DG h rfl
  rename_i k i off;cases hb:lk H k with
  |none=>simp only[s4];exact DG h rfl
  |some b=>
   simp only;obtain⟨B',l0,o,C,V⟩:=h;simp only[s4]
   by_cases hi:i<b.rows.length
   obtain⟨b1,b2,U⟩:=hr.bx k b hb;rcases U with⟨U,_⟩ |⟨_,B,c,b4,b5,b6,b7,_⟩
   grind
   rcases C with⟨C,rfl⟩ |C;rw[b4]at C;cases C;refine⟨_,_,V, ?_⟩;have T:b.rows[i]?=some (b.rows.getD i []):=by grind
   have hc:=KL i b1 b7 T;rw[show(g.σ k).2+(i*b.l0+off)=(g.σ k).2+i*b.l0+off by omega];refine M (Th b5) (NX λj d hj=>?_)
   grind [GZ]
   exact(C.no b4).elim
   grind [o5]
  exact Qde hr.kr h
theorem Qck (hr:xa g H w) (n:Nat):∀{ds:List D} {vs:List Value},n5 g ds vs->(∀d∈ds,d.l5=true)->l6 (Fq w) (ds.map (D.xc H n)) vs
 |[],[],_,_=>by trivial
 |d::ds,v::vs,h,hc=>by
  simp only[QEW,l6];exact⟨⟨Qcl (hc d Wd) n,QaQ hr n h.1⟩,Qck hr n h.2 λx hx=>hc x Wc⟩
 |[],_::_,h,_=>h.elim
 |_::_,[],h,_=>h.elim
def D.ad:D->Bool
 | .k9 _ cs=>cs.all λd=>!d.own
 | .ia cs _=>cs.all λd=>!d.own
 |_=>true
theorem QjV (hr:xa g H w) (n:Nat) (h:a7 g d v) (hp:d.ad=true):s4 (Fq w) (d.mc H n) v:=by
 cases d
 case agg cs=>
  obtain⟨vs,C,M,G⟩:=h
  grind [D.mc,s4,Qck]
 case k9 f cs=>
  have C:=s4.mono (Qbe hr.kr) _ _ (h.oc hp);cases n<;>exact C
 case ia cs x=>
  have C:=s4.mono (Qbe hr.kr) _ _ (h.oc hp);cases n<;>exact C
 all_goals exact QaQ hr n h
theorem P5 (hr:xa g H w) (n:Nat):∀{ds:List D} {vs:List Value},g9 g ds vs->(ds.all D.ad)=true->x5 (Fq w) (ds.map (D.mc H n)) vs
 |[],[],_,_=>by trivial
 |d::ds,v::vs,h,hp=>by
  simp only[QFk,QEm]at hp;simp only[QEW,x5];exact⟨QjV hr n h.1 hp.1,P5 hr n h.2 hp.2⟩
 |[],_::_,h,_=>h.elim
 |_::_,[],h,_=>h.elim
end
variable {K:St->Prop} {l:List u3} {s:St}
section
variable {P:Program} {nt:Nat} {E:Env}
def Xy (P:Program):List u3->(St->Prop)->St->Prop
 |[],K,s=>K s
 |o::r,K,s=>Qfh P o (Xy P r K) s\/Qhp P o (Xy P r K) s
theorem NC {ops:Array Oper} {K:St->Prop} {Q:Exit->Act->World->Prop} (M:E.nt=nt) (C:∀(j:Nat) (o':Oper),ops[j]?=some o'->∀t,o'.dst=some t->t<E.nt):∀(l:List Oper) (k:Nat) (l':List u3) (s:St) (g:Gh) (a:Act) (w:World),(∀j,l[j]?=ops[k+j]?)->
  QV P nt ops l=some l'->Rel E g s a w->Xy P l' K s->(∀s' g' a' w',Rel E g' s' a' w'->K s'->Q .normal a' w')->wpOps P ops Q (List.range' k l.length) a w
 |[],k,l',s,g,a,w,_,hp,r,h,hK=>by
  simp only[QV,QEl]at hp;subst hp;exact hK s g a w r h
 |o::l,k,l',s,g,a,w,hl,hp,r,h,hK=>by
  simp only[QV]at hp;split at hp;rename_i o' T e1 e2;cases hp
  have h0:ops[k]?=some o:=by simpa using(hl 0).symm
  rw[QEZ,QFn,wpOps_cons];unfold wpOp;rw[h0];simp only;rcases h with h |⟨s1,hle,U,t,f,args,G,Hr,d,V,O,hc,hk⟩
  have:=Mq (Q:=Q) M r e1 C h (K':=wpOps P ops Q (List.range' (k+1) l.length)) λs' g' a' w' r2 h2=>
   NC M C l (k+1) T s' g' a' w' (λj=>by have:=hl (j+1);grind) e2 r2 h2 hK
  grind
  obtain⟨g1,r1⟩:=hle E g a w r;obtain⟨p1,p2,Y,p4⟩:=Q6 e1;have hw:Region.wanted o (yielded ops a.tmps)=true:=Xm r1 p2 C true U;rw[if_pos hw];refine .inl (R3 r1 p1 O hc (λt ht=>by grind) λg' a' w' T=>?_);have e:St.apply ⟨s1.fr,Hr⟩ o.dst d none=⟨(t,d)::s1.fr,Hr⟩:=by rw[<- Y,V];rfl
  rw[e]at T;exact NC M C l (k+1) _ _ g' a' w' (λj=>by have:=hl (j+1);grind) e2 T hk hK
  grind
theorem Nm {Q:AExit->St->Prop} (h:Xy P l (Q .normal) s):AW P nt (.region false l) Q s:=λcode E g a w hm hp G T r=>by
 obtain⟨id,ops,rfl,_,C⟩:=Jp hp;refine wpIn_region (Hc (λ⟨_,_,h⟩=>h) (YP C) _ _ _ ?_);rw[QFw,<- QE1];exact NC G (λj o' ho t O=>by rw[G];exact YA C j o' ho t O) ops.toList 0 l s g a w Wd C r h λs' g' a' w' M U=>⟨s',g',U,M⟩
theorem MY {o:u3} {K':St->Prop} (C:∀s,K s->K' s) (h:Qfh P o K s):Qfh P o K' s:=by
 unfold Qfh at h ⊢;split at h;omega
 grind
 grind
theorem Fv {r:List u3} {K:St->Prop}:∀{l:List u3} {s:St},GF P l (Xy P r K) s->Xy P (l++r) K s
 |[],_,h=>h
 |_::_,_,h=>.inl (MY (λ_ h=>Fv h) h)
theorem DU (h:run P .fixed l K s):Xy P l K s:=by
 have:=Fv (P:=P) (r:=[]) (K:=K) (Ye h)
 grind
end
theorem o7.oh {P:Program} {f:Nat} {ds:List D} {H H1 H' H1':QEf} {d:D} (e:∀k,lk H1 k=lk H k) (e':∀k,lk H1' k=lk H' k) (h:o7 P f ds H d H'):o7 P f ds H1 d H1':=by
 have eq:lk H1=lk H:=funext e;have T:lk H1'=lk H':=funext e';refine⟨h.1,λg w vs C M hids=>?_⟩;have hr:xa g H w:=⟨λk b hk=>by rw[<- eq]at hk ⊢;exact C.x9 k b hk,λk b hk=>by rw[<- eq]at hk;exact C.bx k b hk,λk k' b b' B e e' U O=>by rw[<- eq]at U O;exact C.inj k k' b b' B e e' U O,C.kr⟩
 refine(h.2 g w vs hr M Wc).mono λe w' ⟨v,g',he,hv,G,V,hfr,hfx,Y,hnew⟩=>?_;refine⟨v,g',he,hv,⟨λk b hk=>by rw[T]at hk ⊢;exact G.x9 k b hk,λk b hk=>by rw[T]at hk;exact G.bx k b hk,λk k' b b' B e e' U O=>by rw[T]at U O;exact G.inj k k' b b' B e e' U O,G.kr⟩,V,λb hb hn=>hfr b hb λ⟨k,e,U,O⟩=>hn ⟨k,e,by grind,O⟩,hfx, ?_, ?_⟩
 grind
 grind
section
variable {P:Program} {nt:Nat}
end
theorem o7.frame {P:Program} {f:Nat} {ds:List D} {H H' HF:QEf} {d:D} (h:o7 P f ds H d H') (hcl:∀k b,lk H k=some b->∀j∈b.ids,(lk H j).isSome=true)
 (hF:∀k b,lk HF k=some b->1000000<=k/\lk H k=none/\lk H' k=none/\∀j∈b.ids,(lk HF j).isSome=true\/(1000000<=j/\(lk H j).isSome=true))
 (hbig:∀k,1000000<=k->(lk H' k).isSome=true->(lk H k).isSome=true) (hds:∀x∈ds,∀k∈x.ids,(lk H k).isSome=true) (hd:∀k∈d.ids,(lk HF k).isSome=false):o7 P f ds (H++HF) d (H'++HF):=by
 have nF:∀k,(lk H k).isSome=true->(lk HF k).isSome=false:=λk hk=>by
  cases e:lk HF k with
  |none=>rfl
  |some b=>grind
 have O:∀k,(lk H' k).isSome=true->(lk HF k).isSome=false:=λk hk=>by
  cases e:lk HF k with
  |none=>rfl
  |some b=>grind
 have inL:∀(A:QEf) k,(lk A k).isSome=true->(lk (A++HF) k).isSome=true:=λA k hk=>by
  grind [Option.isSome_iff_exists,YJ]
 have T:∀(A:QEf) k b,lk A k=none->lk HF k=some b->lk (A++HF) k=some b:=λA k b G M=>by grind [X3]
 have split:∀(A:QEf) k b,lk (A++HF) k=some b->lk A k=some b\/(lk A k=none/\lk HF k=some b):=λA k b hb=>by
  cases e:lk A k with
  |none=>rw[X3 e]at hb;grind
  |some b2=>grind [YJ]
 refine⟨h.1,λg w vs C hargs _=>?_⟩;have hr:xa g H w:=⟨hcl,λk b hk=>C.bx k b (YJ hk),λk k' b b' B e e' G M=>C.inj k k' b b' B e e' (YJ G) (YJ M),C.kr⟩;refine(h.2 g w vs hr hargs hds).mono λe w' ⟨v,g',he,hv,U,hsz,hfr,hfx,hkeep,hnew⟩=>?_
 have hno:∀k b B e,lk HF k=some b->g.β k=some (B,e)->B<w.heap.size/\¬MR g H B:=λk b B e hk hβ=>by
  have G:=T H k b (hF k b hk).2.1 hk;refine⟨((C.bx k b G).nb hβ).1,λ⟨k2,e2,q1,q2⟩=>?_⟩;obtain⟨b2,V⟩:=QEo.1 q1;have:=C.inj k2 k b2 b B e2 e (YJ V) G q2 hβ
  grind
 have hKle:g.K.le g'.K:=λb q x hx=>by
  have hb:=C.kr.lt hx
  have hno:¬MR g H b:=λ⟨k2,e2,q1,q2⟩=>by
   obtain⟨b2,V⟩:=QEo.1 q1;rw[((hr.bx k2 b2 V).nb q2).2.1 q]at hx;grind
  grind
 obtain⟨g2,gK,gB,gS⟩:∃g2:Gh,g2.K=g'.K/\(∀j,g2.β j=if(lk HF j).isSome=true then g.β j else g'.β j)/\∀j,g2.σ j=if(lk HF j).isSome=true then g.σ j else g'.σ j:=
  ⟨⟨g'.K,λj=>if(lk HF j).isSome=true then g.β j else g'.β j,λj=>if(lk HF j).isSome=true then g.σ j else g'.σ j⟩,rfl,λ_=>rfl,λ_=>rfl⟩
 have eF:∀j,(lk HF j).isSome=true->g2.β j=g.β j/\g2.σ j=g.σ j:=λj hj=>by grind
 have eN:∀j,(lk HF j).isSome=false->g2.β j=g'.β j/\g2.σ j=g'.σ j:=λj hj=>by grind
 have eB:∀j,1000000<=j->(lk H j).isSome=true->g2.β j=g.β j/\g2.σ j=g.σ j:=λj G M=>by
  grind
 refine⟨v,g2,he,hv.congr (by grind [Kn.le_refl]) λj hj=>eN j (hd j hj),⟨λk b hk j hj=>?_,λk b hk=>?_,λk k' b b' B e e' G M Y h4=>?_,by rw[gK];exact U.kr⟩,hsz,λb hb hn=>?_,hfx,λk G M=>?_,λk B e G M Y=>?_⟩
 rcases split H' k b hk with hk |⟨hk0,hk⟩;exact inL H' j (U.x9 k b hk j hj)
 grind [Option.isSome_iff_exists]
 rcases split H' k b hk with hk |⟨hk0,hk⟩;have hb:=U.bx k b hk
 refine hb.move (eN k (O k Wc)) (λr hr d hd j hj=>eN j (O j ?_)) (by grind [Kn.le_refl]) λB e _=>⟨rfl,λo ho=>by grind,λh=>h⟩;cases hp:b.pr with
 |true=>rw[hb.2.1 hp r hr d hd]at hj;grind
 |false=>exact U.x9 k b hk j (by simp only[x4.ids,hp];grind)
 have G:=T H k b (hF k b hk).2.1 hk;have hb:=C.bx k b G;refine hb.move (eF k Wc) (λr hr d hd j hj=>?_) Wc λB e hβ=>?_;cases hp:b.pr with
 |true=>rw[hb.2.1 hp r hr d hd]at hj;grind
 |false=>
  rcases(hF k b hk).2.2.2 j (by simp only[x4.ids,hp];grind)with q |⟨q1,q2⟩
  grind
  grind
 obtain⟨q1,q2⟩:=hno k b B e hk hβ;obtain⟨q3,q4⟩:=hfr B q1 q2;exact⟨q3,λo ho=>by grind,λ_=>.inl (QEu _)⟩
 have mixed:∀k k' b b' e e',lk H' k=some b->lk HF k'=some b'->g2.β k=some (B,e)->g2.β k'=some (B,e')->k=k':=λk k' b b' e e' G M Y h4=>by
  rw[(eN k (O k Wc)).1]at Y;rw[(eF k' Wc).1]at h4;have h5:=T H k' b' (hF k' b' M).2.1 M
  by_cases hk:1000000<=k
  have hs:=hbig k hk Wc;rw[(hkeep k hk hs).2.1]at Y;obtain⟨b2,V⟩:=QEo.1 hs;exact C.inj k k' b2 b' B e e' (YJ V) h5 Y h4;obtain⟨q1,q2⟩:=hno k' b' B e' M h4;rcases hnew k B e Wa Wc Y with h6 |⟨k2,e2,_,q3,q4⟩
  omega;exact(q2 ⟨k2,e2,q3,q4⟩).elim
 rcases split H' k b G with a1 |⟨_,a1⟩<;>rcases split H' k' b' M with a2 |⟨_,a2⟩
 rw[(eN k (O k Wc)).1]at Y;rw[(eN k' (O k' Wc)).1]at h4;exact U.inj k k' b b' B e e' a1 a2 Y h4
 grind
 grind
 rw[(eF k Wc).1]at Y;rw[(eF k' Wc).1]at h4;exact C.inj k k' b b' B e e' (T H k b (hF k b a1).2.1 a1) (T H k' b' (hF k' b' a2).2.1 a2) Y h4;obtain⟨q1,q2⟩:=hfr b hb λ⟨k,e,G,M⟩=>hn ⟨k,e,inL H k G,M⟩
 grind
 grind [Option.isSome_iff_exists]
 have e0:(lk HF k).isSome=false:=by
  cases e1:lk HF k with
  |none=>rfl
  |some b=>grind
 have hs:(lk H' k).isSome=true:=by
  cases e1:lk H' k with
  |none=>grind [X3]
  |some b=>rfl
 grind
variable {S:Nat->Bool} {a:AS} {ν:List Int}
def Qi9 (n0:Nat):AS->Sg->List Vl->List Vl->Option (Sg × AS)
 |a,σ,[],[]=>some (σ,a)
 |a,σ,v::l,p::r=>match Qtj n0 a σ v p with
  |some (σ1,a1)=>Qi9 n0 a1 σ1 l r
  |none=>none
 |_,_,_,_=>none
theorem SP {s:St} {ν0:List Int}:∀{l r:List Vl} {m:List D} {f μ:List Int} {a a':AS} {σ τ:Sg},a.ok (ν0++f) s->Qi9 ν0.length a σ l r=some (τ,a')->Vl.a5 (ν0++f) l m->Sg.y7 (ν0++f) μ σ->∃e ρ,a'.ok (ν0++(f++e)) s/\Sg.y7 (ν0++(f++e)) (μ++ρ) τ/\Vl.a5 (ν0++(μ++ρ)) r m
 |[],[],m,f,μ,a,a',σ,τ,h,he,hr,hm=>by
  simp only[Qi9,QEl,QFe]at he;obtain⟨rfl,rfl⟩:=he;exact⟨[],[],by grind,by grind,hr⟩
 |p::l,q::r,m,f,μ,a,a',σ,τ,h,he,hr,hm=>by
  simp only[Qi9]at he;split at he;rename_i σ1 a1 e1;obtain⟨d,G,rfl,V,U⟩:=hr;obtain⟨g,ρ,T,O,M⟩:=Qbm h e1 V hm;have C:Vl.a5 (ν0++(f++g)) l G:=by rw[<- QFa];exact U.ext g
  obtain⟨g2,ρ2,h6,h7,Y⟩:=SP T he C O;refine⟨g++g2,ρ++ρ2,by grind,by grind,d,G,rfl, ?_,by grind⟩;have:=M.ext ρ2
  grind
  grind
 |[],_::_,m,f,μ,a,a',σ,τ,h,he,hr,hm=>by trivial
 |_::_,[],m,f,μ,a,a',σ,τ,h,he,hr,hm=>by trivial
section
variable {P:Program} {nt:Nat} {Q:AExit->St->Prop} {s:St}
theorem RG {c:z5} (h:TW P nt c (λe s=>∃s2,s.le s2/\Q e s2) s):TW P nt c Q s:=λcode E g a w hm hp O G r=>
 wpIn_mono (h code E g a w hm hp O G r) λe a' w' C=>by
  cases e<;>simp only[AQ]at C ⊢<;>try exact C
  all_goals
   obtain⟨s',g',⟨s2,hle,C⟩,M⟩:=C;obtain⟨g2,r2⟩:=hle _ _ _ _ M
   grind
theorem o7.fh {f:Nat} {fn:Func} {tf:o6} {ds:List D} {H:QEf} {R:D->QEf->Prop} (hm:P.follows .mixedOrders=true) (M:P.funcs[f]?=some fn) (hp:QT P fn=some tf.erase) (C:ds.length<=tf.nt)
 (h:TX P tf.nt tf.body (λe s=>∃d H' s2,s.le s2/\R d H'/\(∀k,1000000<=k->(lk H k).isSome=true->(lk H' k).isSome=true)/\(∀k b,lk H' k=some b->500000<=k/\∀j∈b.ids,(lk H' j).isSome=true)/\FS tf.rs d H' e s2) ⟨MQ 0 ds,H⟩) (G:Gz f=[]:=by rfl):∃d H',R d H'/\o7 P f ds H d H':=by
 obtain⟨e,s,⟨d,H',s2,h0,V,U,T,Y⟩,O⟩:=h;exact⟨d,H',V,o7.n7 hm M hp C U T (RG (Z8 (λ_ _ ⟨p,q⟩=>by grind) O)) G⟩
end
def QhR (a:AS):Jx->Option Vl
 | .tmp t=>(match lk a.fr t with
  |some v=>if v.ids.isEmpty=true then QlL a v else none
  |none=>none)
 | .cell t agg sz=>(match lk a.fr t with
  |some p=>(match atA a p with
   |some cs=>if agg=true/\Nat.ble sz cs.length=true/\(Vl.aa (cs.take sz)).ids.isEmpty=true then QlL a (.aa (cs.take sz))else none
   |none=>none)
  |none=>none)
theorem CE (h:d.ids=[]):TQ S s d=XX s d:=by
 grind [TQ,XX,Bf]
theorem Qdl {r:Jx} {v:Vl} (h:a.ok ν s) (he:QhR a r=some v):∃d,v.has ν d/\JT S s r d:=by
 cases r with
 |tmp t=>
  simp only[QhR]at he;split at he;rename_i w e1;split at he;rename_i hi;obtain⟨d,G,C⟩:=RL.get h.fr e1;refine⟨_,MX h he C,d,G, ?_⟩;rw[CE (by rw[Vl.j8 C];grind)]
  grind
  grind
 |cell t agg sz=>
  simp only[QhR]at he;split at he;rename_i p e1;obtain⟨d,G,C⟩:=RL.get h.fr e1;split at he;rename_i cs e2;obtain⟨ds,U,T⟩:=Qb0 h e2 C;split at he;rename_i M;obtain⟨ha,hb,hi⟩:=M;subst ha;have O:(Vl.aa (cs.take sz)).has ν (.agg (ds.take sz)):=⟨_,rfl,JE sz T⟩;refine⟨_,MX h he O,d,ds,G,Nb.2 U, ?_⟩;simp only[if_true]
  grind [YH,Nat.le_of_ble_eq_true,CE,Vl.j8]
  grind
  grind
  grind
def nm1 (k j want:Nat) (a:AS):AS:=
 match lk a.H k with
 |some (.cc cells _ _)=>(match cells[j]? with
  |some (.oo hv _ _)=>if Nat.ble (hv+1) 1000000=true/\Nat.ble (want+1) 1000000=true/\Nat.beq hv want=false then a.u5 (YG hv want)else a
  |_=>a)
 |_=>a
theorem Qtm (h:a.ok ν s) (k j C:Nat):∃s',s.le s'/\(nm1 k j C a).ok ν s':=by
 have same:∃s',s.le s'/\a.ok ν s':=⟨s,le_refl s,h⟩;unfold nm1;split;split;split;rename_i G;exact⟨_,Hm _ _ (QEi G.1) (QEi G.2.1) s,h.u5 _⟩;omega;omega;omega
def nmC (k:Nat):Nat->List Vl->AS->AS
 |_,[],a=>a
 |j,.oo want _ _::r,a=>nmC k (j+1) r (nm1 k j want a)
 |j,_::r,a=>nmC k (j+1) r a
theorem Qc4 {ν:List Int} {k:Nat}:∀{l:List Vl} {j:Nat} {a:AS} {s:St},a.ok ν s->∃s',s.le s'/\(nmC k j l a).ok ν s'
 |[],j,a,s,h=>⟨s,le_refl s,h⟩
 |v::r,j,a,s,h=>by
  cases v with
  |oo want _ _=>
   obtain⟨s1,O,M⟩:=Qtm h k j want;obtain⟨s2,G,C⟩:=Qc4 (l:=r) (j:=j+1) M;exact⟨s2,le_trans O G,C⟩
  |_=>exact Qc4 (l:=r) (j:=j+1) h
def nmH:List (Nat × Bx)->AS->AS
 |[],a=>a
 |(k,.cc cells _ _)::r,a=>nmH r (nmC k 0 cells a)
 |_::r,a=>nmH r a
theorem Qc5 {ν:List Int}:∀{l:List (Nat × Bx)} {a:AS} {s:St},a.ok ν s->∃s',s.le s'/\(nmH l a).ok ν s'
 |[],a,s,h=>⟨s,le_refl s,h⟩
 |(k,b)::r,a,s,h=>by
  cases b with
  |cc cells et pr=>
   obtain⟨s1,O,M⟩:=Qc4 (k:=k) (l:=cells) (j:=0) h;obtain⟨s2,G,C⟩:=Qc5 (l:=r) M;exact⟨s2,le_trans O G,C⟩
  |ww=>exact Qc5 (l:=r) h
def Qet (a:AS):List Jx->Option (List Vl)
 |[]=>some []
 |r::rs=>(match QhR a r,Qet a rs with
  |some v,some vs=>some (v::vs)
  |_,_=>none)
theorem Qdm {ν:List Int} {a:AS} {s:St} {S:Nat->Bool} (h:a.ok ν s):∀{rs:List Jx} {vs:List Vl},Qet a rs=some vs->∃ds,Vl.a5 ν vs ds/\Ta S s rs ds
 |[],vs,he=>by simp only[Qet,QEl]at he;subst he;exact⟨[],rfl,rfl⟩
 |r::rs,vs,he=>by
  simp only[Qet]at he;split at he;rename_i v ws e1 e2;cases he
  obtain⟨d,O,M⟩:=Qdl (S:=S) h e1;obtain⟨ds,G,C⟩:=Qdm h e2;exact⟨d::ds,⟨d,ds,rfl,O,G⟩,d,ds,rfl,M,C⟩
  grind
def Zc.og (c:Zc) (rs:List Jx):Option (List Vl):=
 match rs with
 |[_]=>some [c.rv]
 |[_,_]=>(match c.rv with
  | .uu vs=>some vs
  |_=>none)
 |_=>none
def QzK (a:AS) (rs:List Jx):List Nat:=(rs.flatMap λr=>match r with
 | .tmp t=>(match lk a.fr t with
  |some v=>v.ids
  |none=>[])
 | .cell t _ _=>(match lk a.fr t with
  |some p=>(match atA a p with
   |some cs=>cs.flatMap Vl.y4
   |none=>[])
  |none=>[])).filter λk=>Nat.ble (k+1) 500000
def QnV (c:Zc) (rs:List Jx) (a:AS):AS:=nmH c.rb (Ql1 (QzK a rs) a)
def zcB (c:Zc):Bool:=(c.rb.all λp=>Nat.ble 500000 p.1&&p.2.ids.all λj=>(lk c.rb j).isSome)&&c.bs.all λp=>!Nat.ble 1000000 p.1||(lk c.rb p.1).isSome
def Qzn (c:Zc) (rs:List Jx) (p:AExit × AS):Bool:=
 match p.1 with
 | .exit _=>false
 |_=>(match Qet (QnV c rs p.2) rs,c.og rs with
  |some vs,some ps=>(ps.all λv=>v.ids.isEmpty)&&(match Qi9 c.nx (QnV c rs p.2) [] vs ps with
   |some (σ,a)=>(match mtH c.nx a σ (KN (c.rb.map Prod.fst) (QnV c rs p.2).H) c.rb with
    |some (τ,a2)=>Nat.beq (c.nx+τ.length) c.mx&&c.rc.all (Qd8 a2 c.nx τ)
    |none=>false)
   |none=>false)
  |_,_=>false)
theorem Qdd (h:d.ids=[]):d.pure=true:=by
 have one:∀d:D,d.y4=[]->d.own=false:=λd h=>by cases d<;>first |rfl |(trivial)
 have all:∀cs:List D,cs.flatMap D.y4=[]->(cs.all λd=>!d.own)=true:=λcs h=>QEs.2 λd hd=>by
  (repeat clear hK K);simp_all
 cases d<;>first |rfl |exact all _ h |trivial
theorem Qn4 {c:Zc} {rs:List Jx} {e:AExit} {μ f:List Int} (h:a.ok (μ++f) s) (hμ:μ.length=c.nx) (hz:zcB c=true) (C:Qzn c rs (e,a)=true):
  ∃d H' s2,s.le s2/\(∃g,(μ++g).length=c.mx/\k8 (μ++g) c.rc/\c.rv.has (μ++g) d/\RL (Bx.has (μ++g)) c.rb H')/\(∀k b,lk H' k=some b->500000<=k/\∀j∈b.ids,(lk H' j).isSome=true)/\FS rs d H' e s2:=by
 obtain⟨s1,l1,h1⟩:=Pc (ks:=QzK a rs) h;obtain⟨s2,l2,h2⟩:=Qc5 (l:=c.rb) h1
 have key:(match Qet (QnV c rs a) rs,c.og rs with
  |some vs,some ps=>(ps.all λv=>v.ids.isEmpty)&&(match Qi9 c.nx (QnV c rs a) [] vs ps with
   |some (σ,a1)=>(match mtH c.nx a1 σ (KN (c.rb.map Prod.fst) (QnV c rs a).H) c.rb with
    |some (τ,a2)=>Nat.beq (c.nx+τ.length) c.mx&&c.rc.all (Qd8 a2 c.nx τ)
    |none=>false)
   |none=>false)
  |_,_=>false)=true->∃d H',(∃g,(μ++g).length=c.mx/\k8 (μ++g) c.rc/\c.rv.has (μ++g) d/\RL (Bx.has (μ++g)) c.rb H')/\(∀k b,lk H' k=some b->500000<=k/\∀j∈b.ids,(lk H' j).isSome=true)/\
   (((rs=[]/\d=.g8 [])\/(∃r,rs=[r]/\JT small s2 r d)\/(∃r1 r2 d1 d2,rs=[r1,r2]/\d=.g8 [d1,d2]/\d1.pure=true/\d2.pure=true/\JT small s2 r1 d1/\JT small s2 r2 d2)\/∃r1 r2 cs d2,rs=[r1,r2]/\d=.ia cs d2/\d2.pure=true/\JT small s2 r1 (.agg cs)/\JT small s2 r2 d2)/\∀k b,lk H' k=some b->lk s2.H k=some b):=λC=>by
  split at C;rename_i vs ps e1 e2;rw[QEm]at C;obtain⟨Y,C⟩:=C;split at C;rename_i σ a1 e3;split at C;rename_i τ a2 e4;simp only[QEm]at C;obtain⟨ds,O,M⟩:=Qdm (S:=small) h2 e1;rw[<- hμ]at e3 e4;obtain⟨g,ρ,h3,h4,h5⟩:=SP (μ:=[]) h2 e3 O rfl;rw[QFJ]at h4 h5;have hH:RL (Bx.has (μ++(f++g))) (KN (c.rb.map Prod.fst) (QnV c rs a).H) (Yj (c.rb.map Prod.fst) s2.H):=RL.mono (λb x q=>by rw[<- QFa];exact q.ext g) (SC h2.H _)
  obtain⟨g2,ρ2,h6,h7,h8⟩:=BH h3 e4 hH h4;have hl:=XK h7;have hn:=QFG C.1;have V:k8 (μ++(ρ++ρ2)) c.rc:=λk hk=>Gc h6 h7 Wc;have hlen:(μ++(ρ++ρ2)).length=c.mx:=by grind
  have G:Vl.a5 (μ++(ρ++ρ2)) ps ds:=by rw[<- QFa];exact h5.ext ρ2
  have hcl:∀k b,lk (Yj (c.rb.map Prod.fst) s2.H) k=some b->500000<=k/\∀j∈b.ids,(lk (Yj (c.rb.map Prod.fst) s2.H) j).isSome=true:=λk b hk=>by
   have hs:(lk c.rb k).isSome=true:=by grind [RL.isSome]
   obtain⟨bx,hb⟩:=QEo.1 hs;obtain⟨b',w1,w2⟩:=RL.get h8 hb;rw[hk]at w1;cases w1;simp only[zcB,QEm]at hz;have:=QEs.1 hz.1 (k,bx) (ZJ hb);simp only[QEm]at this;refine⟨QEi this.1,λj hj=>?_⟩
   grind [Bx.j8,RL.isSome]
  have T:∀k b,lk (Yj (c.rb.map Prod.fst) s2.H) k=some b->lk s2.H k=some b:=λk b hk=>Jv _ _ k b hk;unfold Zc.og at e2;split at e2;rename_i r;cases e2
  obtain⟨d,r2,rfl,w1,w2⟩:=G;simp only[Vl.a5]at w2;subst w2;obtain⟨d2,ds2,v1,v2,v3⟩:=M
  grind
  rename_i r1 r2;split at e2;rename_i vs2 e5;cases e2
  obtain⟨d1,ds1,v1,v2,d2,ds2,v3,v4,v5⟩:=M;simp only[Ta]at v5;subst v5 v3 v1
  have hp:∀(ps:List Vl) (ds:List D),Vl.a5 (μ++(ρ++ρ2)) ps ds->(ps.all λv=>v.ids.isEmpty)=true->∀d∈ds,d.pure=true:=by
   intro ps
   induction ps with
   |nil=>grind [Vl.a5]
   |cons p ps ih=>
    intro ds hh ha d hd;obtain⟨d0,r0,rfl,w1,w2⟩:=hh;simp only[QFk,QEm]at ha;rcases QEk.1 hd with rfl |hd
    exact Qdd (by rw[Vl.j8 w1];grind)
    grind
  have hp:=hp _ _ G Y;exact⟨.g8 [d1,d2],_,⟨ρ++ρ2,hlen,V,by rw[e5];exact⟨_,rfl,G⟩,h8⟩,hcl,.inr (.inr (.inl ⟨_,_,d1,d2,rfl,rfl,hp d1 Wd,hp d2 Wd,v2,v4⟩)),T⟩
  grind
  grind
  grind
  grind
  grind
 cases e with
 |normal=>obtain⟨d,H',O,M,U⟩:=key C;exact⟨d,H',s2,le_trans l1 l2,O,M,U⟩
 |ret=>obtain⟨d,H',O,M,U⟩:=key C;exact⟨d,H',s2,le_trans l1 l2,O,M,U⟩
 |exit i=>cases C
variable {b:Bx} {m n:Nat} {x:x4}
section
variable {f g:Nat->Nat}
theorem My (h:∀k∈d.y4,f (g k)=k):(d.y6 g).y6 f=d:=by
 cases d<;>first |rfl |(have:=h _ (QEr.2 rfl);grind [D.y6])
theorem Qdh {cs:List D} (h:∀k∈cs.flatMap D.y4,f (g k)=k):(cs.map (D.y6 g)).map (D.y6 f)=cs:=by
 induction cs with
 |nil=>rfl
 |cons d cs ih=>
  rw[QEM]at h
  (repeat clear hK K);simp_all [My]
theorem QhN (h:∀k∈d.ids,f (g k)=k):(d.u5 g).u5 f=d:=by
 cases d<;>first
  |rfl
  |(simp only[D.u5];rw[Qdh h];done)
  |exact My (d:=.u4 _ _) h
  |exact My (d:=.la _ _ _ _) h
  |exact My (d:=.ref _ _ _) h
  |exact My (d:=.w8 _ _ _) h
theorem Qnv {b:x4} (h:∀r∈b.rows,∀d∈r,∀k∈d.y4,f (g k)=k):(b.u5 g).u5 f=b:=by
 obtain⟨rows,l0,et,pr⟩:=b
 have e:(rows.map λr=>r.map (D.y6 g)).map (λr=>r.map (D.y6 f))=rows:=by
  rw[QFH]
  conv=>rhs;rw[<- List.map_id rows]
  grind [List.map_congr_left,Qdh]
 grind [x4.u5]
theorem Rk {H:QEf} (h:∀p∈H,f (g p.1)=p.1/\∀r∈p.2.rows,∀d∈r,∀k∈d.y4,f (g k)=k):K7 f (K7 g H)=H:=by
 unfold K7;rw[QFH]
 conv=>rhs;rw[<- List.map_id H]
 refine QFq λp hp=>?_;obtain⟨G,C⟩:=h p hp;obtain⟨k,b⟩:=p;simp only[Function.comp,id]
 grind [Qnv]
end
def Bx.ze:Bx->List Nat
 | .cc cells _ _=>cells.flatMap Vl.y4
 | .ww _ _ _ _ _=>[]
theorem Bx.re (h:b.has ν x):∀r∈x.rows,∀d∈r,∀k∈d.y4,k∈b.ze:=by
 cases b with
 |cc cells et pr=>
  obtain⟨ds,rfl,C⟩:=h;intro r hr d hd k hk;simp only[QEr]at hr;subst hr;show k∈cells.flatMap Vl.y4;rw[<- NH C]
  grind
 |ww row x o l0 et=>
  obtain⟨rows,rfl,_,G⟩:=h
  grind [Tp.qf]
theorem RL.each {α β:Type} {R:α->β->Prop} {q:Nat->β->Prop} {p:Nat->α->Bool} (hp:∀t a b,R a b->p t a=true->q t b):∀{l:List (Nat × α)} {m:List (Nat × β)},RL R l m->(l.all λx=>p x.1 x.2)=true->∀y∈m,q y.1 y.2
 |[],m,h,_,y,C=>by grind [RL]
 |x::l,m,h,ha,y,C=>by
  obtain⟨b,r,rfl,M,G⟩:=h;simp only[QFk,QEm]at ha;rcases QEk.1 C with rfl |C
  grind
  exact RL.each hp G ha.2 y C
theorem RL.sub {α β:Type} {R:α->β->Prop} (q:Nat->Bool):∀{l:List (Nat × α)} {m:List (Nat × β)},RL R l m->RL R (l.filter λx=>q x.1) (m.filter λx=>q x.1)
 |[],m,h=>by grind [RL]
 |x::l,m,h=>by
  obtain⟨b,r,rfl,G,C⟩:=h;rw[QFM,QFM]
  by_cases e:q x.1=true
  rw[if_pos e,if_pos e];exact⟨b,_,rfl,G,RL.sub q C⟩;rw[if_neg e,if_neg e];exact RL.sub q C
theorem SH {α:Type} (q:Nat->Bool):∀(l:List (Nat × α)) (k:Nat),lk (l.filter λx=>q x.1) k=if q k=true then lk l k else none
 |[],k=>by simp[lk]
 |(j,v)::l,k=>by
  rw[QFM]
  by_cases e:q j=true
  rw[if_pos e,Qz,Qz,SH q l k]
  grind
  rw[if_neg e,SH q l k,Qz]
  grind
def Bx.sub (σ:Sg):Bx->Bx
 | .cc cells et pr=>.cc (Vl.yd σ cells) et pr
 | .ww row x o l0 et=>.ww row (σ.at x).1 ((σ.at x).2+o) l0 et
theorem Bx.ga {μ:List Int} {σ:Sg} (hσ:σ.ok ν μ) (h:b.has μ x):(b.sub σ).has ν x:=by
 cases b with
 |cc cells et pr=>obtain⟨ds,G,C⟩:=h;exact⟨ds,G,Vl.sa hσ C⟩
 |ww row x o l0 et=>obtain⟨rows,G,C,M⟩:=h;exact⟨rows,G,k7.sub hσ C,M⟩
def QwO (a:AS) (f:Nat->Nat) (v:Vl):Option Vl:=
 match v with
 | .rr k o=>some (.rr (f k) o)
 |v=>if v.y4.isEmpty=true then Qng a v else none
theorem QnC {a:AS} {f:Nat->Nat} {v w:Vl} (h:a.ok ν s) (he:QwO a f v=some w) (C:v.has ν d):w.has ν ((d.y6 f).x6):=by
 unfold QwO at he;split at he;cases he
 simp only[Vl.has]at C;subst C;rfl;split at he;rename_i hi;have M:d.y4=[]:=by rw[Vl.bc C];grind
 have G:=(RN h he C).1;rw[KE (λk hk=>by grind)]at G;have e:d.y6 f=d:=by cases d<;>first |rfl |(trivial)
 grind
 grind
theorem KH:∀(l:List Nat) (H:QEf) (k:Nat),lk (Yj l H) k=if l.contains k=true then lk H k else none
 |[],H,k=>rfl
 |t::l,H,k=>by
  unfold Yj
  by_cases e:t=k
  subst e;have C:(t::l).contains t=true:=by simp
  rw[if_pos C];cases h:lk H t with
  |none=>
   show lk (Yj l H) t=none;rw[KH l H t,h];simp
  |some d=>show lk ((t,d)::Yj l H) t=some d;rw[Qz,if_pos rfl]
  have C:(t::l).contains k=l.contains k:=by
   grind
  rw[C];cases h:lk H t with
  |none=>exact KH l H k
  |some d=>show lk ((t,d)::Yj l H) k=_;rw[Qz,if_neg e];exact KH l H k
def unZ (G:List Nat) (j:Nat):Nat:=if G.contains j=true then j else j - 1000000
theorem Qpg (hm:1000000<=m) (C:1000000<=n):Rn (YG m n) (YG m n):=⟨Xl m n,λk=>by
 grind [YG]⟩
theorem QjH {P:Program} {f:Nat} {args:List y5} {G names:List Nat} {ds:List D} {Y HF H1 Hr:QEf} (hm:1000000<=m) (hn:1000000<=n) (hds:Zh s args=some ds) (hG:Nl G=true) (V:∀t x,lk s.fr t=some x->∀k∈x.ids,G.contains k=false)
 (hY:Y=K7 (YG m n) (J6 G s.H)) (hHF:HF=Y.filter λp=>!names.contains p.1) (hHr:Hr=K7 (unZ G) (K7 (YG m n) (H1++HF)))
 (T:o7 P f ((ds.map λd=>(d.u5 (YM G)).can).map (D.u5 (YG m n))) (Yj names Y) d H1) (hd:d.ids=[])
 (hcl:∀k b,lk (Yj names Y) k=some b->∀j∈b.ids,(lk (Yj names Y) j).isSome=true)
 (hF:∀k b,lk HF k=some b->1000000<=k/\∀j∈b.ids,(lk HF j).isSome=true\/(1000000<=j/\(lk (Yj names Y) j).isSome=true))
 (hk:∀k,(lk H1 k).isSome=(lk (Yj names Y) k).isSome) (U:∀x∈(ds.map λd=>(d.u5 (YM G)).can).map (D.u5 (YG m n)),∀k∈x.ids,(lk (Yj names Y) k).isSome=true)
 (hZ:∀p∈K7 (YG m n) (H1++HF),YM G (unZ G p.1)=p.1/\∀r∈p.2.rows,∀d∈r,∀k∈d.y4,YM G (unZ G k)=k):Tv P f args s G Hr d:=by
 have hρ:=Qpg hm hn
 have O:∀k,lk HF k=if names.contains k=true then none else lk Y k:=λk=>by
  rw[hHF,SH (λk=>!names.contains k)];simp
 have M:∀k,lk (Yj names Y) k=if names.contains k=true then lk Y k else none:=KH names Y
 have fN:∀k b,lk HF k=some b->lk (Yj names Y) k=none:=λk b h=>by
  grind
 have fN1:∀k b,lk HF k=some b->lk H1 k=none:=λk b h=>by
  have:=hk k;rw[fN k b h]at this;cases e:lk H1 k with
  |none=>rfl
  |some x=>grind
 have C:∀k,lk Y k=lk (Yj names Y++HF) k:=λk=>by
  rw[Xh,M,O]
  grind
 have h1:=o7.frame (HF:=HF) T hcl (λk b h=>⟨(hF k b h).1,fN k b h,fN1 k b h,(hF k b h).2⟩) (λk _ h=>by grind) U (λk h=>by grind);have h2:=h1.oh (H1:=Y) (H1':=H1++HF) C λ_=>rfl
 have e1:((ds.map λd=>(d.u5 (YM G)).can).map (D.u5 (YG m n))).map (D.u5 (YG m n))=ds.map λd=>(d.u5 (YM G)).can:=by
  rw[QFH]
  grind [List.map_congr_left,QhN,Xl]
 have e2:K7 (YG m n) Y=J6 G s.H:=by simp_all [Rk,Xl]
 have e3:d.u5 (YG m n)=d:=by
  have:=QhN (f:=YG m n) (g:=YG m n) (d:=d) λk h=>by grind
  have q:∀d:D,d.ids=[]->d.u5 (YG m n)=d:=λd h=>by
   have one:∀d:D,d.y4=[]->d.y6 (YG m n)=d:=λd h=>by cases d<;>first |rfl |(trivial)
   have all:∀cs:List D,cs.flatMap D.y4=[]->cs.map (D.y6 (YG m n))=cs:=λcs=>by
    induction cs with
    |nil=>simp
    |cons d cs ih=>
     (repeat clear hK K);simp_all
   cases d<;>first |rfl |(simp only[D.u5];rw[all _ h];done) |trivial
  grind
 have e4:J6 G Hr=K7 (YG m n) (H1++HF):=by rw[hHr];exact Rk hZ
 have h3:=o7.we hρ h2 e1 e2 e3 e4.symm
 have hn1:∀j,(lk (H1++HF) j).isSome=(lk Y j).isSome:=λj=>by
  rw[C,Xh,Xh];have:=hk j;cases e:lk H1 j<;>cases e':lk (Yj names Y) j<;>rw[e,e']at this<;>first |rfl |(grind)
 have hdom:∀j,(lk Hr j).isSome=(lk s.H j).isSome:=λj=>by
  have q1:=Xx hG Hr j;have q2:=Xx hG s.H j;have q3:=X4 hρ (H1++HF) (YG m n (YM G j))
  grind [X4,Xl,Option.isSome_map]
 exact⟨ds,hds,hG,V,λk h=>by grind,λj h=>by grind,λj h=>.inr Wc,h3⟩
variable {P:Program} {a':AS} {c:Zc} {f:Nat->Nat} {t:Nat} {xs:List y5}
theorem QkT (h:d.ids=[]):d.u5 f=d:=by
 have one:∀d:D,d.y4=[]->d.y6 f=d:=λd h=>by cases d<;>first |rfl |(trivial)
 have all:∀cs:List D,cs.flatMap D.y4=[]->cs.map (D.y6 f)=cs:=λcs=>by
  induction cs with
  |nil=>simp
  |cons d cs ih=>
   (repeat clear hK K);simp_all
 cases d<;>first |rfl |(simp only[D.u5];rw[all _ h];done) |trivial
theorem RL.app {α β:Type} {R:α->β->Prop}:∀{l l2:List (Nat × α)} {m C:List (Nat × β)},RL R l m->RL R l2 C->RL R (l++l2) (m++C)
 |[],l2,m,C,h,h2=>by grind [RL]
 |x::l,l2,m,C,h,h2=>by obtain⟨b,r,rfl,M,G⟩:=h;exact⟨b,r++C,rfl,M,RL.app G h2⟩
def QfG (a:AS) (f:Nat->Nat):List Vl->Option (List Vl)
 |[]=>some []
 |v::vs=>(match QwO a f v,QfG a f vs with
  |some w,some ws=>some (w::ws)
  |_,_=>none)
theorem Qca {ν:List Int} {a:AS} {s:St} {f:Nat->Nat} (h:a.ok ν s):∀{vs ws:List Vl} {ds:List D},QfG a f vs=some ws->Vl.a5 ν vs ds->Vl.a5 ν ws ((ds.map (D.y6 f)).map D.x6)
 |[],ws,ds,he,hv=>by grind [QfG,Vl.a5]
 |v::vs,ws,ds,he,hv=>by
  simp only[QfG]at he;split at he;rename_i w C e1 e2;cases he
  obtain⟨d,r,rfl,M,G⟩:=hv;exact⟨_,_,rfl,QnC h e1 M,Qca h e2 G⟩
  grind
def QwP (a:AS) (f:Nat->Nat) (v:Vl):Option Vl:=
 match v with
 | .aa cs=>(match QfG a f cs with
  |some ws=>some (.aa ws)
  |none=>none)
 | .rr k o=>some (.rr (f k) o)
 |v=>if v.ids.isEmpty=true then Qng a v else none
theorem QnD {v w:Vl} (h:a.ok ν s) (he:QwP a f v=some w) (C:v.has ν d):w.has ν (d.u5 f).can:=by
 unfold QwP at he;split at he;split at he;rename_i cs _ ws e1;cases he
 obtain⟨ds,rfl,G⟩:=C;exact⟨_,rfl,Qca h e1 G⟩
 grind
 cases he
 simp only[Vl.has]at C;subst C;rfl;split at he;rename_i hi;have M:d.ids=[]:=by rw[Vl.j8 C];grind
 obtain⟨G,O⟩:=RN h he C
 grind [Bf,QkT]
 grind
def Qro (a:AS) (f:Nat->Nat):List y5->Option (List Vl)
 |[]=>some []
 |x::r=>(match evA a x with
  |some v=>(match QwP a f v,Qro a f r with
   |some w,some ws=>some (w::ws)
   |_,_=>none)
  |none=>none)
theorem QaG {ν:List Int} {a:AS} {s:St} {f:Nat->Nat} (h:a.ok ν s):∀{xs:List y5} {ws:List Vl},Qro a f xs=some ws->∃ds,Zh s xs=some ds/\Vl.a5 ν ws (ds.map λd=>(d.u5 f).can)
 |[],ws,he=>by simp only[Qro,QEl]at he;subst he;exact⟨[],rfl,rfl⟩
 |x::r,ws,he=>by
  simp only[Qro]at he;split at he;rename_i v e1;split at he;rename_i w C e2 O;cases he
  obtain⟨d,U,M⟩:=Q4 h e1;obtain⟨ds,T,G⟩:=QaG h O;exact⟨d::ds,by grind [Zh],_,_,rfl,QnD h e2 M,G⟩
  grind
  grind
theorem QcH {ν:List Int} {ρ:Nat->Nat}:∀{vs:List Vl} {ds:List D},Vl.a5 ν vs ds->Vl.a5 ν (vs.map (Vl.u5 ρ)) (ds.map (D.u5 ρ))
 |[],ds,h=>by grind [Vl.a5]
 |v::vs,ds,h=>by obtain⟨d,r,rfl,G,C⟩:=h;exact⟨_,_,rfl,Vl.oa G,QcH C⟩
theorem Sz {ν:List Int} {q:D->Prop} {p:Vl->Bool} (hp:∀v d,v.has ν d->p v=true->q d):∀{vs:List Vl} {ds:List D},Vl.a5 ν vs ds->vs.all p=true->∀d∈ds,q d
 |[],ds,h,_,d,hd=>by grind [Vl.a5]
 |v::vs,ds,h,ha,d,hd=>by
  obtain⟨d0,r,rfl,G,C⟩:=h;simp only[QFk,QEm]at ha;rcases QEk.1 hd with rfl |hd
  grind
  exact Sz hp C ha.2 d hd
def rrV:Vl->Option Nat
 | .rr k _=>some k
 | .aa cs=>cs.findSome? λw=>match w with
  | .rr k _=>some k
  |_=>none
 |_=>none
def rrO (a:AS) (xs:List y5):Option Nat:=xs.findSome? λx=>match evA a x with
 |some v=>rrV v
 |none=>none
def Zc.nm (c:Zc):List Nat:=c.bs.map Prod.fst
def Zc.G (c:Zc):List Nat:=c.nm.filter λk=>!Nat.ble 1000000 k
def Zc.sg (c:Zc) (k:Nat):List (Nat × Bx):=c.bs.map λp=>(if Nat.ble 1000000 p.1=true then k else p.1,p.2)
def QzD (c:Zc) (k:Nat) (a:AS):AS:=nmH (c.sg k) (emC ⟨[],c.sg k,[],0⟩ (c.sg k) a)
theorem Qo6 (h:a.ok ν s):∃s',s.le s'/\(QzD c k a).ok ν s':=by
 obtain⟨s1,l1,G⟩:=Qcr (J:=⟨[],c.sg k,[],0⟩) (l:=c.sg k) h;obtain⟨s2,l2,C⟩:=Qc5 (l:=c.sg k) G;exact⟨s2,le_trans l1 l2,C⟩
def Qk3 (c:Zc) (k:Nat) (a:AS):List (Nat × Bx):=((a.u5 (YM c.G)).u5 (YG (upN k) 1000000)).H
def Qeu (c:Zc) (k:Nat) (a:AS):List (Nat × Bx):=(Qk3 c k a).filter λp=>!c.nm.contains p.1
def okN (G:List Nat) (j:Nat):Bool:=Nat.beq (YM G (unZ G j)) j
def Qzl (c:Zc) (k:Nat) (a:AS) (ws:List Vl):Bool:=
 Nl c.G&&((a.fr.all λp=>p.2.ids.all λj=>!c.G.contains j)&&((ws.all λv=>v.ids.all λj=>(lk c.bs j).isSome)&&((c.bs.all λp=>p.2.ids.all λj=>(lk c.bs j).isSome)&&(((Qeu c k a).all λp=>Nat.ble 1000000 p.1&&p.2.ids.all λj=>(lk (Qeu c k a) j).isSome||(Nat.ble 1000000 j&&(lk c.bs j).isSome))&&
  (decide (c.rb.map Prod.fst=c.bs.map Prod.fst)&&(c.rv.ids.isEmpty&&(((c.rb.map λp=>(YG (upN k) 1000000 p.1,p.2.u5 (YG (upN k) 1000000))).all λp=>okN c.G p.1&&p.2.ze.all (okN c.G))&&((Qeu c k a).map λp=>(YG (upN k) 1000000 p.1,p.2.u5 (YG (upN k) 1000000))).all λp=>okN c.G p.1&&p.2.ze.all (okN c.G))))))))
def sgZ (c:Zc) (σ:Sg) (n:Nat):Sg:=(0,0)::(σ++Qja n (c.mx - c.nx))
def QBO (c:Zc) (k:Nat) (a:AS) (σ:Sg):List (Nat × Bx):=(((c.rb.map λp=>(p.1,p.2.sub σ))++Qeu c k a).map λp=>(YG (upN k) 1000000 p.1,p.2.u5 (YG (upN k) 1000000))).map λp=>(unZ c.G p.1,p.2.u5 (unZ c.G))
def Qfz (c:Zc) (a:AS) (xs:List y5) (t k:Nat):Option AS:=
 match Qro a (YM c.G) xs with
 |some ws=>(match Qi9 1 a [] (ws.map (Vl.u5 (YG (upN k) 1000000))) c.az with
  |some (σ1,a3)=>(match mtH 1 a3 σ1 (KN c.nm (Qk3 c k a)) c.bs with
   |some (σ2,a4)=>if Nat.beq (1+σ2.length) c.nx=true/\Nat.ble c.nx c.mx=true/\c.cs.all (Qd8 a4 1 σ2)=true/\Qzl c k a (ws.map (Vl.u5 (YG (upN k) 1000000)))=true then
     some ⟨(t,c.rv.sub (sgZ c σ2 a4.nx))::a.fr,QBO c k a (sgZ c σ2 a4.nx),c.rc.map (Cn.sub (sgZ c σ2 a4.nx))++a4.cs,a4.nx+(c.mx - c.nx)⟩else none
   |none=>none)
  |none=>none)
 |none=>none
def QnA (c:Zc) (a:AS) (xs:List y5) (t:Nat):Option AS:=
 match rrO a xs with
 |some k=>Qfz c (QzD c k a) xs t k
 |none=>none
theorem RL.xf {α β:Type} {R R':α->β->Prop} {f:α->α} (C:∀a b,R a b->R' (f a) b):∀{l:List (Nat × α)} {m:List (Nat × β)},RL R l m->RL R' (l.map λp=>(p.1,f p.2)) m
 |[],m,h=>by trivial
 |p::l,m,h=>by obtain⟨b,r,rfl,M,G⟩:=h;exact⟨b,r,rfl,C _ _ M,RL.xf C G⟩
theorem QgN {α β:Type}:∀{l:List (Nat × α)} {m:List (Nat × β)},l.map Prod.fst=m.map Prod.fst->∀k,(lk l k).isSome=(lk m k).isSome
 |[],[],_,k=>rfl
 |(i,x)::l,(j,y)::m,h,k=>by
  simp only[QEW,QFE]at h;obtain⟨rfl,h⟩:=h;rw[Qz,Qz];split;rfl;exact QgN h k
 |[],_::_,h,k=>by grind
 |_::_,[],h,k=>by grind
theorem QfA {f:Nat} (hc:c.ok P f) (h:a.ok ν s) (he:Qfz c a xs t k=some a'):∃e d Hr,Tv P f xs s c.G Hr d/\a'.ok (ν++e) ⟨(t,d)::s.fr,Hr⟩:=by
 unfold Qfz at he;split at he;rename_i ws e1;split at he;rename_i σ1 a3 e2;split at he;rename_i σ2 a4 e3;split at he;rename_i hh;cases he
 obtain⟨k1,k2,k3,k4⟩:=hh;have k1:=QFG k1;have k2:=QEi k2;obtain⟨ds,q1,q2⟩:=QaG h e1;have q3:=QcH (ρ:=YG (upN k) 1000000) q2;have O:RL (Bx.has ν) (Qk3 c k a) (K7 (YG (upN k) 1000000) (J6 c.G s.H)):=((h.u5 (YM c.G)).u5 (YG (upN k) 1000000)).H;obtain⟨Y,hY⟩:∃Y,Y=K7 (YG (upN k) 1000000) (J6 c.G s.H):=⟨_,rfl⟩;rw[<- hY]at O;obtain⟨HF,hHF⟩:∃HF,HF=Y.filter λp=>!c.nm.contains p.1:=⟨_,rfl⟩;have hR:RL (Bx.has ν) (Qeu c k a) HF:=by rw[hHF];exact RL.sub (λj=>!c.nm.contains j) O
 obtain⟨f0,rfl⟩:∃f0,ν=[0]++f0:=by
  cases ν with
  |nil=>have:=h.z;grind
  |cons x l=>have:=h.z;simp_all
 obtain⟨g,ρ,w1,w2,w3⟩:=SP (ν0:=[0]) (μ:=[]) h e2 q3 rfl;rw[QFJ]at w2 w3;have hH:RL (Bx.has ([0]++(f0++g))) (KN c.nm (Qk3 c k a)) (Yj c.nm Y):=RL.mono (λb x q=>by rw[<- QFa];exact q.ext g) (SC O _)
 obtain⟨g2,ρ2,w4,w5,w6⟩:=BH (ν0:=[0]) w1 e3 hH w2;have hl:=XK w5;have hcs:k8 ([0]++(ρ++ρ2)) c.cs:=λx hx=>Gc w4 w5 (QEs.1 k3 x hx);have has:Vl.a5 ([0]++(ρ++ρ2)) c.az ((ds.map λd=>(d.u5 (YM c.G)).can).map (D.u5 (YG (upN k) 1000000))):=by rw[<- QFa];exact w3.ext ρ2
 obtain⟨e,d,H1,v1,v2,v3,v4,v5⟩:=hc ([0]++(ρ++ρ2)) _ (Yj c.nm Y) Wc rfl hcs has w6;simp only[Qzl,QEm,decide_eq_true_eq]at k4;obtain⟨c1,c2,c3,c4,c5,c6,c7,c8,c9⟩:=k4;have hd:d.ids=[]:=by rw[Vl.j8 v3];grind
 have kp:∀j,(lk (Yj c.nm Y) j).isSome=(lk c.bs j).isSome:=λj=>RL.isSome w6 j;obtain⟨Hr,V⟩:∃Hr,Hr=K7 (unZ c.G) (K7 (YG (upN k) 1000000) (H1++HF)):=⟨_,rfl⟩
 have hz:Tv P f xs s c.G Hr d:=by
  refine QjH (m:=upN k) (n:=1000000) (names:=c.nm) (by grind [upN]) (QEI _) q1 c1 (λt x hx j M=>?_) hY hHF V v5 hd (λi b hb j M=>?_) (λi b hb=>?_) (λi=>?_) (λx hx j M=>?_) (λp hp=>?_);have T:(lk a.fr t).isSome=true:=by rw[<- RL.isSome h.fr t,hx];rfl
  obtain⟨v,hv⟩:=QEo.1 T;obtain⟨d2,u1,u2⟩:=RL.get h.fr hv;rw[hx]at u1;cases u1;have:=QEs.1 (QEs.1 c2 (t,v) (ZJ hv)) j (by grind [Vl.j8])
  grind
  have T:(lk c.bs i).isSome=true:=by grind
  obtain⟨bx,C⟩:=QEo.1 T;obtain⟨b2,u1,u2⟩:=RL.get w6 C;rw[hb]at u1;cases u1;rw[kp];exact QEs.1 (QEs.1 c4 (i,bx) (ZJ C)) j (by grind [Bx.j8]);have T:(lk (Qeu c k a) i).isSome=true:=by grind [RL.isSome]
  obtain⟨bx,C⟩:=QEo.1 T;obtain⟨b2,u1,u2⟩:=RL.get hR C;rw[hb]at u1;cases u1;have:=QEs.1 c5 (i,bx) (ZJ C);simp only[QEm]at this;refine⟨QEi this.1,λj M=>?_⟩;have h3:=QEs.1 this.2 j (by grind [Bx.j8]);simp only[QFu,QEm]at h3;rw[RL.isSome hR j,kp]
  (repeat clear hK K);simp_all
  rw[kp,RL.isSome v4 i];grind [QgN];rw[kp]
  exact Sz (q:=λx=>∀j∈x.ids,(lk c.bs j).isSome=true) (λv d hv hp j M=>by
   grind [Vl.j8]) q3 c3 x hx j M
  have U:∀t (b:Bx) (x:x4),(∃ν,b.has ν x)->(okN c.G t&&b.ze.all (okN c.G))=true->YM c.G (unZ c.G t)=t/\∀r∈x.rows,∀d∈r,∀k∈d.y4,YM c.G (unZ c.G k)=k:=λt b x ⟨ν,hb⟩ hp=>by
   simp only[QEm]at hp;exact⟨QFG hp.1,λr hr d hd j M=>QFG (QEs.1 hp.2 j (Bx.re hb r hr d hd j M))⟩
  rw[K7,QFm,QEt]at hp;rcases hp with hp |hp
  exact RL.each (q:=λt (x:x4)=>YM c.G (unZ c.G t)=t/\∀r∈x.rows,∀d∈r,∀k∈d.y4,YM c.G (unZ c.G k)=k) (λt b x hb hq=>U t b x ⟨_,hb⟩ hq) (RL.ke (ρ:=YG (upN k) 1000000) (λb x q=>Bx.oa q) v4) c8 p hp;exact RL.each (q:=λt (x:x4)=>YM c.G (unZ c.G t)=t/\∀r∈x.rows,∀d∈r,∀k∈d.y4,YM c.G (unZ c.G k)=k) (λt b x hb hq=>U t b x ⟨_,hb⟩ hq) (RL.ke (ρ:=YG (upN k) 1000000) (λb x q=>Bx.oa q) hR) c9 p hp
 have hel:e.length=c.mx - c.nx:=by
  grind
 have hn4:a4.nx=([0]++(f0++g++g2)).length:=w4.nx.symm
 have hv2:Sg.y7 ([0]++(f0++g++g2)++e) ([0]++(ρ++ρ2)++e) (sgZ c σ2 a4.nx):=by
  refine⟨_,_,rfl,XJ (show([0]++(f0++g++g2)++e)[0]?=some 0 from rfl) 0, ?_⟩;refine Hb (Jw e w5) ?_
  grind [HZ]
 have hσ:=Gu hv2;refine⟨g++g2++e,d,Hr,hz, ?_⟩;have en:[0]++f0++(g++g2++e)=[0]++(f0++g++g2)++e:=by simp
 have ex:∀{b:Bx} {x:x4},b.has ([0]++f0) x->b.has ([0]++(f0++g++g2)++e) x:=λq=>by rw[<- en];exact q.ext _
 rw[en];refine⟨⟨d,_,rfl,Vl.ga hσ v3,RL.mono (λv x q=>by rw[<- en];exact q.ext _) h.fr⟩, ?_,k8.app (k8.sub hσ v2) (w4.cs.ext e), ?_,by rfl⟩
 rw[V];exact RL.ke (ρ:=unZ c.G) (λb x q=>Bx.oa q) (RL.ke (ρ:=YG (upN k) 1000000) (λb x q=>Bx.oa q) (RL.app (RL.xf (λb x q=>Bx.ga hσ q) v4) (RL.mono (λb x q=>ex q) hR)))
 all_goals grind
theorem QjE {f:Nat} (C:c.ok P f) (h:a.ok ν s) (he:QnA c a xs t=some a'):∃s1,s.le s1/\∃e d Hr,Tv P f xs s1 c.G Hr d/\a'.ok (ν++e) ⟨(t,d)::s1.fr,Hr⟩:=by
 unfold QnA at he;split at he;rename_i k e1;obtain⟨s1,O,M⟩:=Qo6 (c:=c) (k:=k) h
 grind [QfA]
 grind
variable {f μ:List Int} {rs:List Jx} {w:Vl}
def gN:List Nat:=[500000]
def rrI (a:AS) (xs:List y5):List Nat:=xs.flatMap λx=>match evA a x with
 |some v=>v.ids
 |none=>[]
def Qzj (c:Zc) (a:AS) (ws:List Vl):Bool:=
 (a.fr.all λp=>p.2.ids.all λj=>!gN.contains j)&&((a.H.all λp=>!gN.contains p.1&&p.2.ids.all λj=>(lk a.H j).isSome)&&((ws.all λv=>v.ids.isEmpty)&&((c.rv.ids.all λj=>gN.contains j&&(lk c.rb j).isSome)&&((c.rb.all λp=>gN.contains p.1)&&c.rb.all λp=>okN gN p.1&&p.2.ze.all (okN gN)))))
def QfD (c:Zc) (a:AS) (xs:List y5) (t:Nat):Option AS:=
 match Qro a (YM gN) xs with
 |some ws=>(match Qi9 1 a [] ws c.az with
  |some (σ,a2)=>if Nat.beq (1+σ.length) c.nx=true/\Nat.ble c.nx c.mx=true/\c.cs.all (Qd8 a2 1 σ)=true/\Qzj c a ws=true then
    some ⟨(t,c.rv.sub (sgZ c σ a2.nx))::a.fr,(c.rb.map λp=>(p.1,p.2.sub (sgZ c σ a2.nx))).map (λp=>(unZ gN p.1,p.2.u5 (unZ gN)))++a.H,c.rc.map (Cn.sub (sgZ c σ a2.nx))++a2.cs,a2.nx+(c.mx - c.nx)⟩else none
  |none=>none)
 |none=>none
theorem QfE {f:Nat} (hc:c.ok P f) (hb:c.bs=[]) (h:a.ok ν s) (he:QfD c a xs t=some a'):∃e d Hr,Tv P f xs s gN Hr d/\a'.ok (ν++e) ⟨(t,d)::s.fr,Hr⟩:=by
 unfold QfD at he;split at he;rename_i ws e1;split at he;rename_i σ a2 e2;split at he;rename_i hh;cases he
 obtain⟨k1,k2,k3,k4⟩:=hh;have k1:=QFG k1;have k2:=QEi k2;obtain⟨ds,q1,q2⟩:=QaG h e1
 obtain⟨f0,rfl⟩:∃f0,ν=[0]++f0:=by
  cases ν with
  |nil=>have:=h.z;grind
  |cons x l=>have:=h.z;simp_all
 obtain⟨g,ρ,w1,w2,w3⟩:=SP (ν0:=[0]) (μ:=[]) h e2 q2 rfl;rw[QFJ]at w2 w3;have hl:=XK w2;have hcs:k8 ([0]++ρ) c.cs:=λx hx=>Gc w1 w2 (QEs.1 k3 x hx);obtain⟨e,d,H1,v1,v2,v3,v4,v5⟩:=hc ([0]++ρ) _ [] Wc rfl hcs w3 (by rw[hb];rfl)
 simp only[Qzj,QEm]at k4;obtain⟨c1,c2,c3,c4,c5,c6⟩:=k4
 have rbG:∀k,(lk H1 k).isSome=true->gN.contains k=true:=λk hk=>by
  rw[RL.isSome v4 k]at hk;obtain⟨b,hb⟩:=QEo.1 hk;exact QEs.1 c5 _ (ZJ hb)
 have gLt:∀k,gN.contains k=true->k<1000000:=λk hk=>H8 (G:=gN) rfl hk
 have sG:∀k b,lk s.H k=some b->gN.contains k=false/\∀j∈b.ids,(lk s.H j).isSome=true:=λk b hk=>by
  have Y:(lk a.H k).isSome=true:=by rw[<- RL.isSome h.H k,hk];rfl
  obtain⟨bx,U⟩:=QEo.1 Y;obtain⟨b2,u1,u2⟩:=RL.get h.H U;rw[hk]at u1;cases u1;have:=QEs.1 c2 (k,bx) (ZJ U);simp only[QEm,QFv]at this;refine⟨this.1,λj C=>?_⟩;rw[Bx.j8 u2]at C;rw[RL.isSome h.H j]
  grind
 have rBig:∀k,gN.contains k=false->1000000<=YM gN k:=λk hk=>by
  unfold YM;simp_all [upN]
 have M:∀k,(lk (J6 gN s.H) k).isSome=true->1000000<=k:=λk hk=>by
  obtain⟨b,hb⟩:=QEo.1 hk;obtain⟨j,b0,rfl,h1,_⟩:=Yy hb
  grind
 have nB:∀k,1000000<=k->lk H1 k=none:=λk hk=>by
  cases e1:lk H1 k with
  |none=>rfl
  |some b=>grind
 have T:∀k∈d.ids,gN.contains k=true/\(lk H1 k).isSome=true:=λk hk=>by
  rw[Vl.j8 v3]at hk;have:=QEs.1 c4 k hk;rw[QEm]at this
  grind [RL.isSome]
 have hfr:o7 P f (ds.map λd=>(d.u5 (YM gN)).can) ([]++J6 gN s.H) d (H1++J6 gN s.H):=by
  refine o7.frame v5 (λk b hk=>by cases hk) (λk b hk=>⟨M k Wc,rfl,nB k (M k Wc),λj C=>?_⟩) (λk hk Y=>by grind) (λx hx k hk=>?_) (λk hk=>?_);obtain⟨i,b0,rfl,h1,rfl⟩:=Yy hk;rw[x4.a8]at C;obtain⟨j0,hj0,rfl⟩:=QEw.1 C;refine .inl ?_;rw[Xx (G:=gN) rfl,QEA]
  grind
  have:=Sz (q:=λx=>x.ids=[]) (λv d V hp=>by rw[Vl.j8 V];grind) q2 c3 x hx
  grind
  grind
 have e4:J6 gN (K7 (unZ gN) H1++s.H)=H1++J6 gN s.H:=by
  have h1:J6 gN (K7 (unZ gN) H1)=H1:=Rk (f:=YM gN) (g:=unZ gN) λp hp=>RL.each (q:=λt (x:x4)=>YM gN (unZ gN t)=t/\∀r∈x.rows,∀d∈r,∀k∈d.y4,YM gN (unZ gN k)=k) (p:=λt b=>okN gN t&&b.ze.all (okN gN)) (λt b x hb hp=>by
   simp only[QEm]at hp;exact⟨QFG hp.1,λr hr d hd j C=>QFG (QEs.1 hp.2 j (Bx.re hb r hr d hd j C))⟩) v4 c6 p hp
  grind [J6]
 have O:∀j,(lk (K7 (unZ gN) H1++s.H) j).isSome=(lk (H1++J6 gN s.H) (YM gN j)).isSome:=λj=>by
  rw[<- e4,Xx (G:=gN) rfl,QEA]
 have hz:Tv P f xs s gN (K7 (unZ gN) H1++s.H) d:=by
  refine⟨ds,q1,rfl,λt x hx j C=>?_,λk hk=>⟨(T k hk).1, ?_⟩,λj C=>?_,λj C=>?_,by grind⟩;have Y:(lk a.fr t).isSome=true:=by rw[<- RL.isSome h.fr t,hx];rfl
  obtain⟨v,V⟩:=QEo.1 Y;obtain⟨d2,u1,u2⟩:=RL.get h.fr V;rw[hx]at u1;cases u1;have:=QEs.1 (QEs.1 c1 (t,v) (ZJ V)) j (by grind [Vl.j8])
  grind
  rw[O];have e5:YM gN k=k:=if_pos (T k hk).1
  grind [Option.isSome_iff_exists,YJ]
  rw[O,Xh];split;rfl;rw[Xx (G:=gN) rfl,QEA];omega;rw[O,Xh]at C;split at C
  grind
  rw[Xx (G:=gN) rfl,QEA]at C;grind
 have hel:e.length=c.mx - c.nx:=by
  grind
 have hn4:a2.nx=([0]++(f0++g)).length:=w1.nx.symm
 have hv2:Sg.y7 ([0]++(f0++g)++e) ([0]++ρ++e) (sgZ c σ a2.nx):=by
  refine⟨_,_,rfl,XJ (show([0]++(f0++g)++e)[0]?=some 0 from rfl) 0, ?_⟩;refine Hb (Jw e w2) ?_
  grind [HZ]
 have hσ:=Gu hv2;have en:[0]++f0++(g++e)=[0]++(f0++g)++e:=by simp
 refine⟨g++e,d,_,hz, ?_⟩;rw[en];refine⟨⟨d,_,rfl,Vl.ga hσ v3,RL.mono (λv x q=>by rw[<- en];exact q.ext _) h.fr⟩, ?_,k8.app (k8.sub hσ v2) (w1.cs.ext e), ?_,by rfl⟩
 exact RL.app (RL.ke (ρ:=unZ gN) (λb x q=>Bx.oa q) (RL.xf (λb x q=>Bx.ga hσ q) v4)) (RL.mono (λb x q=>by rw[<- en];exact q.ext _) h.H)
 all_goals grind
def QjF (c:Zc) (a:AS) (xs:List y5) (t:Nat):Option AS:=
 match c.bs with
 |[]=>QfD c (Ql1 (rrI a xs) a) xs t
 |_=>QnA c a xs t
theorem Qb7 {f:Nat} (C:c.ok P f) (h:a.ok ν s) (he:QjF c a xs t=some a'):∃s1,s.le s1/\∃G e d Hr,Tv P f xs s1 G Hr d/\a'.ok (ν++e) ⟨(t,d)::s1.fr,Hr⟩:=by
 unfold QjF at he;split at he;rename_i hb;obtain⟨s1,l1,M⟩:=Pc (ks:=rrI a xs) h
 grind [QfE]
 grind [QjE]
def QnG (a:AS) (v:Vl):Option Vl:=
 match v with
 | .oo k x o=>if Nat.ble 500000 k=true then some (.oo k x o)else none
 |v=>if v.y4.isEmpty=true then Qng a v else none
theorem QjO {v:Vl} {d:D} (h:a.ok ν s) (he:QnG a v=some w) (C:v.has ν d):w.has ν ((d.x7 s.H small).x6):=by
 unfold QnG at he;split at he;split at he;rename_i k x o hk;cases he
 obtain⟨n,rfl,G⟩:=C;have hk:=QEi hk
 have e:(D.u4 k n).x7 s.H small=.u4 k n:=by
  (repeat clear hK K);simp_all [D.x7,if_neg,small]
 rw[e];exact⟨n,rfl,G⟩
 grind
 split at he;rename_i hi;have M:d.y4=[]:=by rw[Vl.bc C];grind
 have G:=(RN h he C).1
 grind [KE]
 grind
def CU (a:AS):List Vl->Option (List Vl)
 |[]=>some []
 |v::vs=>match QnG a v,CU a vs with
  |some w,some ws=>some (w::ws)
  |_,_=>none
theorem CV {ν:List Int} {a:AS} {s:St} (h:a.ok ν s):∀{vs ws:List Vl} {ds:List D},CU a vs=some ws->Vl.a5 ν vs ds->Vl.a5 ν ws (ds.map λd=>(d.x7 s.H small).x6)
 |[],ws,ds,he,hv=>by grind [CU,Vl.a5]
 |v::vs,ws,ds,he,hv=>by
  simp only[CU]at he;split at he;rename_i w C e1 e2;cases he
  obtain⟨d,r,rfl,M,G⟩:=hv;exact⟨_,_,rfl,QjO h e1 M,CV h e2 G⟩
  grind
def Qn1 (c:Zc) (t sz:Nat) (r2:Jx) (ps:List Vl) (w:Vl) (a:AS):Bool:=
 match lk a.fr t with
 |some q=>(match atA a q with
  |some cs=>(match CU a (cs.take sz),QhR a r2 with
   |some vs,some v2=>(Nat.ble sz cs.length&&w.ids.isEmpty)&&(match mtC c.nx a [] vs ps with
    |some (σ1,a1)=>(match Qtj c.nx a1 σ1 v2 w with
     |some (σ2,a2)=>(match mtH c.nx a2 σ2 (KN (c.rb.map Prod.fst) a.H) c.rb with
      |some (τ,a3)=>Nat.beq (c.nx+τ.length) c.mx&&c.rc.all (Qd8 a3 c.nx τ)
      |none=>false)
     |none=>false)
    |none=>false)
   |_,_=>false)
  |none=>false)
 |none=>false
theorem Qj5 {sz:Nat} {r2:Jx} {ps:List Vl} (h:a.ok (μ++f) s) (hμ:μ.length=c.nx) (O:c.rv=.tp ps w) (Y:zcB c=true) (C:Qn1 c t sz r2 ps w a=true):
  ∃d H',(∃g,(μ++g).length=c.mx/\k8 (μ++g) c.rc/\c.rv.has (μ++g) d/\RL (Bx.has (μ++g)) c.rb H')/\(∀k b,lk H' k=some b->500000<=k/\∀j∈b.ids,(lk H' j).isSome=true)/\
   (∃cs d2,d=.ia cs d2/\d2.pure=true/\JT small s (.cell t true sz) (.agg cs)/\JT small s r2 d2)/\∀k b,lk H' k=some b->lk s.H k=some b:=by
 unfold Qn1 at C;split at C;rename_i q e1;split at C;rename_i cs e2;split at C;rename_i vs v2 e3 e4;simp only[QEm]at C;obtain⟨⟨hsz,hw⟩,C⟩:=C;split at C;rename_i σ1 a1 e5;split at C;rename_i σ2 a2 e6;split at C;rename_i τ a3 e7;simp only[QEm]at C;obtain⟨d0,q1,q2⟩:=RL.get h.fr e1;obtain⟨ds,q3,V⟩:=Qb0 h e2 q2;have q5:=CV h e3 (JE sz V);obtain⟨d2,q6,q7⟩:=Qdl (S:=small) h e4;rw[<- hμ]at e5 e6 e7;obtain⟨g,ρ,h3,h4,h5⟩:=Qc1 (μ:=[]) h e5 q5 rfl;rw[QFJ]at h4 h5;have G:v2.has (μ++(f++g)) d2:=by rw[<- QFa];exact q6.ext g
 obtain⟨g1,ρ1,i3,i4,i5⟩:=Qbm h3 e6 G h4
 have hH:RL (Bx.has (μ++(f++g++g1))) (KN (c.rb.map Prod.fst) a.H) (Yj (c.rb.map Prod.fst) s.H):=RL.mono (λb x q=>by
  have:=(q.ext g).ext g1
  grind) (SC h.H _)
 obtain⟨g2,ρ2,h6,h7,h8⟩:=BH i3 e7 hH i4;have hl:=XK h7;have hn:=QFG C.1;have T:k8 (μ++(ρ++ρ1++ρ2)) c.rc:=λk hk=>Gc h6 h7 Wc;have hlen:(μ++(ρ++ρ1++ρ2)).length=c.mx:=by grind
 have U:Vl.a5 (μ++(ρ++ρ1++ρ2)) ps ((ds.take sz).map λd=>(d.x7 s.H small).x6):=by
  have:=(h5.ext ρ1).ext ρ2
  grind
 have M:w.has (μ++(ρ++ρ1++ρ2)) d2:=by
  have:=i5.ext ρ2
  grind
 refine⟨.ia ((ds.take sz).map λd=>(d.x7 s.H small).x6) d2,Yj (c.rb.map Prod.fst) s.H,⟨ρ++ρ1++ρ2,hlen,T,by rw[O];exact⟨_,_,rfl,U,M⟩,h8⟩,λk b hk=>?_,⟨_,_,rfl, ?_,⟨d0,ds,q1,Nb.2 q3, ?_⟩,q7⟩,λk b hk=>Jv _ _ k b hk⟩
 have hs:(lk c.rb k).isSome=true:=by grind [RL.isSome]
 obtain⟨bx,hb⟩:=QEo.1 hs;obtain⟨b',w1,w2⟩:=RL.get h8 hb;rw[hk]at w1;cases w1;simp only[zcB,QEm]at Y;have:=QEs.1 Y.1 (k,bx) (ZJ hb);simp only[QEm]at this;refine⟨QEi this.1,λj hj=>?_⟩
 grind [Bx.j8,RL.isSome]
 exact Qdd (by rw[Vl.j8 i5];grind)
 simp only[if_true];refine⟨by rw[YH V];simp_all, ?_⟩
 unfold TQ;simp only[D.fz,D.can,QFH];rfl
 all_goals grind
def Qn2 (c:Zc) (rs:List Jx) (a:AS):Bool:=
 match rs with
 |[.cell t true sz,r2]=>(match c.rv with
  | .tp ps w=>(match lk a.fr t with
   |some (.rr k0 _)=>Qn1 c t sz r2 ps w (nmC k0 0 ps (QlW ⟨[],c.rb,[],0⟩ k0 0 ps a))
   |_=>false)
  |_=>false)
 |_=>false
theorem Qcu (h:a.ok (μ++f) s) (hμ:μ.length=c.nx) (hz:zcB c=true) (C:Qn2 c rs a=true):
  ∃d H' s2,s.le s2/\(∃g,(μ++g).length=c.mx/\k8 (μ++g) c.rc/\c.rv.has (μ++g) d/\RL (Bx.has (μ++g)) c.rb H')/\(∀k b,lk H' k=some b->500000<=k/\∀j∈b.ids,(lk H' j).isSome=true)/\(∃r1 r2 cs d2,rs=[r1,r2]/\d=.ia cs d2/\d2.pure=true/\JT small s2 r1 (.agg cs)/\JT small s2 r2 d2)/\∀k b,lk H' k=some b->lk s2.H k=some b:=by
 unfold Qn2 at C;split at C;rename_i t sz r2;split at C;rename_i ps w G;split at C;rename_i k0 o e1;obtain⟨s1,l1,h1⟩:=M9 (J:=⟨[],c.rb,[],0⟩) (k0:=k0) (l:=ps) (j:=0) h;obtain⟨s2,l2,h2⟩:=Qc4 (k:=k0) (l:=ps) (j:=0) h1;obtain⟨d,H',q1,Y,⟨cs,d2,V,U,T,O⟩,M⟩:=Qj5 h2 hμ G hz C;exact⟨d,H',s2,le_trans l1 l2,q1,Y,⟨_,_,cs,d2,rfl,V,U,T,O⟩,M⟩
 all_goals grind
def QBp (c:Zc) (rs:List Jx) (p:AExit × AS):Bool:=
 match p.1 with
 | .exit _=>false
 |_=>Qn2 c rs p.2
def Qf8 (c:Zc) (rs:List Jx) (p:AExit × AS):Bool:=
 match c.rv with
 | .tp _ _=>QBp c rs p
 |_=>Qzn c rs p
theorem Qn0 {e:AExit} (h:a.ok (μ++f) s) (V:μ.length=c.nx) (Y:zcB c=true) (C:Qf8 c rs (e,a)=true):
  ∃d H' s2,s.le s2/\(∃g,(μ++g).length=c.mx/\k8 (μ++g) c.rc/\c.rv.has (μ++g) d/\RL (Bx.has (μ++g)) c.rb H')/\(∀k b,lk H' k=some b->500000<=k/\∀j∈b.ids,(lk H' j).isSome=true)/\FS rs d H' e s2:=by
 unfold Qf8 at C;split at C;cases e with
 |normal=>obtain⟨d,H',s2,U,T,O,M,G⟩:=Qcu h V Y C;exact⟨d,H',s2,U,T,O,.inr (.inr (.inr M)),G⟩
 |ret=>obtain⟨d,H',s2,U,T,O,M,G⟩:=Qcu h V Y C;exact⟨d,H',s2,U,T,O,.inr (.inr (.inr M)),G⟩
 |exit i=>cases C
 grind [Qn4]
variable {g:Option (Nat × Bool)} {o:u3} {r:List u3}
def PQ (zs:Nat->List Zc):List u3->Option (List u3 × Nat × Nat × List y5 × Option (Nat × Bool) × List u3)
 |[]=>none
 |o::r=>match o with
  |⟨some t,.call f args,g⟩=>if(zs f).isEmpty=true then(match PQ zs r with
    |some (l,x)=>some (o::l,x)
    |none=>none)else some ([],t,f,args,g,r)
  |_=>(match PQ zs r with
    |some (l,x)=>some (o::l,x)
    |none=>none)
theorem MG {C:Nat->List Zc}:∀{ops l lr:List u3} {t f:Nat} {args:List y5} {g:Option (Nat × Bool)},PQ C ops=some (l,t,f,args,g,lr)->ops=l++⟨some t,.call f args,g⟩::lr
 |[],l,lr,t,f,args,g,h=>by cases h
 |o::r,l,lr,t,f,args,g,h=>by
  have more:(match PQ C r with
    |some (l,x)=>some (o::l,x)
    |none=>none)=some (l,t,f,args,g,lr)->o::r=l++⟨some t,.call f args,g⟩::lr:=λh=>by
   split at h;rename_i l2 x e;cases h
   rw[MG e];rfl
   grind
  unfold PQ at h
  grind
def gdZ (g:Option (Nat × Bool)) (a:AS):Option (List (Bool × AS)):=
 match g with
 |none=>some [(true,a)]
 |some (t,b)=>if Qwg (lk a.fr t)=true then some [(false,a)]else(match spl a (.s t)with
  |some l=>some (l.map λp=>(p.1==b,p.2))
  |none=>none)
theorem QsV {l:List (Bool × AS)} (h:a.ok ν s) (he:gdZ g a=some l):∃c a',(c,a')∈l/\gw s g=some c/\a'.ok ν s:=by
 unfold gdZ at he;split at he;cases he;exact⟨true,a,by simp,rfl,h⟩;rename_i t b;split at he;rename_i hu;cases he
 have:=QiM h.fr hu
 grind [gw]
 split at he;rename_i M e1;cases he
 obtain⟨c,C,hm,hx,G⟩:=QdC h e1;have hx:lk s.fr t=some (.bool c):=hx;exact⟨c==b,C,QEw.2 ⟨(c,C),hm,rfl⟩,by grind [gw],G⟩
 grind
def gdT (g:Option (Nat × Bool)) (t:Nat) (a:AS):Bool:=
 match g with
 |none=>true
 |some (u,b)=>!Nat.beq t u&&(match lk a.fr u with
  |some v=>(match QcP v with
   |some c=>c==b
   |none=>false)
  |none=>false)
theorem QsU {s1:St} {H:QEf} {t:Nat} {d:D} (h:a.ok ν ⟨(t,d)::s1.fr,H⟩) (hb:gdT g t a=true):gw s1 g=some true:=by
 unfold gdT at hb;split at hb;rfl;rename_i u b;simp only[QEm,QFv]at hb;obtain⟨T,C⟩:=hb;split at C;rename_i v e1;split at C;rename_i c e2;obtain⟨d2,O,M⟩:=RL.get h.fr e1;have G:=SD h.z M e2;subst G;rw[Qz,if_neg (λe=>by simp_all)]at O
 grind [gw]
 grind
 grind
def Qh2 (tb:Tb) (zs:Nat->List Zc):Nat->List u3->AS->Option (List AS)
 |0,_,_=>none
 |n+1,ops,a=>match PQ zs ops with
  |none=>Qdt tb false (DA.of false) ops a
  |some (l,t,f,args,g,lr)=>(match Qdt tb false (DA.of false) l a with
   |some az=>Qd0 (λa1=>(match gdZ g a1 with
    |some ws=>Qd0 (λ(p:Bool × AS)=>if p.1=true then(match Qry (λc=>QjF c p.2 args t) (zs f)with
     |some a2=>if gdT g t a2=true then Qh2 tb zs n lr a2 else none
     |none=>none)else Qh2 tb zs n lr (Cw p.2 (some t) (.dd .undef))) ws
    |none=>none)) az
   |none=>none)
theorem Qh3 (C:gw s o.guard=some false) (h:Xy P r K (s.apply o.dst .undef none)):Xy P (o::r) K s:=by
 refine .inl ?_
 grind [Qfh]
theorem Qac (h:Qhp P o (Xy P r K) s):Xy P (o::r) K s:=.inr h
theorem Tf {l ol:List u3} (h:run P .fixed l (Xy P r K) s) (C:ol=l++r):Xy P ol K s:=by
 grind [Fv,Ye]
theorem DT {P:Program} {tb:Tb} (O:tb.ok P) {zs:Nat->List Zc} (U:∀f,∀c∈zs f,c.ok P f):∀{n:Nat} {ops:List u3} {a:AS} {outs:List AS} {ν:List Int} {s:St},a.ok ν s->Qh2 tb zs n ops a=some outs->∃a'∈outs,∃e s',a'.ok (ν++e) s'/\∀K:St->Prop,K s'->Xy P ops K s
 |0,ops,a,outs,ν,s,h,he=>by cases he
 |n+1,ops,a,outs,ν,s,h,he=>by
  simp only[Qh2]at he;split at he;obtain⟨a',ha,e,s',h1,Y⟩:=Hv (P:=P) O (DA.zc false s.H) h he;exact⟨a',ha,e,s',h1,λK V=>DU (Y K V)⟩;rename_i l t f args g lr e0;split at he;rename_i az e1;obtain⟨a1,hm,e,s1,h1,Y⟩:=Hv (P:=P) O (DA.zc false s.H) h e1;obtain⟨q,hq,T⟩:=X0 he hm;split at hq;rename_i ws e2;obtain⟨c,a2,hm2,hg,h3⟩:=QsV h1 e2;obtain⟨q2,C,M⟩:=X0 hq hm2;cases c with
  |true=>
   simp only[if_true]at C;split at C;rename_i a3 e3;obtain⟨c,hc,e4⟩:=P9 e3;obtain⟨s2,hle,G,e5,d,Hr,hz,h4⟩:=Qb7 (U f c hc) h3 e4;split at C;rename_i hgt;obtain⟨a',ha,e6,s',h5,h6⟩:=DT O U h4 C;refine⟨a',T _ (M _ ha),e++e5++e6,s',by grind,λK V=>?_⟩;exact Tf (r:=⟨some t,.call f args,g⟩::lr) (Y _ (Qac ⟨s2,hle,QsU h4 hgt,t,f,args,G,Hr,d,rfl,.inl rfl,hz,h6 K V⟩)) (MG e0)
   grind
   grind
  |false=>
   simp only[QEq,if_false]at C;obtain⟨a',ha,e6,s',h5,h6⟩:=DT O U (X9 (dst:=some t) (v:=.dd .undef) (d:=.undef) h3 rfl) C;exact⟨a',T _ (M _ ha),e++e6,s',by grind,λK V=>Tf (r:=⟨some t,.call f args,g⟩::lr) (Y _ (Qh3 hg (h6 K V))) (MG e0)⟩
  grind
  grind
def Qpm (tb:Tb) (zs:Nat->List Zc) (ops:List u3) (a:AS):Option (List AS):=
 match PQ zs ops with
 |none=>none
 |some (l,t,f,args,some _,lr)=>none
 |some (l,t,f,args,none,lr)=>if(QlN l ⟨some t,.call f args,none⟩ lr&&Qsl l (⟨some t,.call f args,none⟩::lr))=true then(match Qdt tb false (DA.of true) l a with
   |some az=>Qd0 (λa1=>(match Qry (λc=>QjF c a1 args t) (zs f)with
    |some a2=>Qdt tb false (DA.of true) lr a2
    |none=>none)) az
   |none=>none)else none
theorem Qk1 {nt:Nat} {tb:Tb} (C:tb.ok P) {T:Nat->List Zc} (O:∀f,∀c∈T f,c.ok P f) {ops:List u3} {outs:List AS} (h:a.ok ν s) (he:Qpm tb T ops a=some outs):∃a'∈outs,∃e s',a'.ok (ν++e) s'/\∀Q:AExit->St->Prop,Q .normal s'->AW P nt (.region true ops) Q s:=by
 simp only[Qpm]at he;split at he
 grind
 grind
 rename_i l t f args lr e0;split at he;rename_i hb;rw[QEm]at hb;split at he;rename_i az e1;obtain⟨a1,hm,e,s1,h1,h2⟩:=Hv (P:=P) C (DA.zc true s.H) h e1;obtain⟨q,U,M⟩:=X0 he hm;split at U;rename_i a2 e2;obtain⟨c,Y,e3⟩:=P9 e2;obtain⟨s2,hle,G,e4,d,Hr,V,h3⟩:=Qb7 (O f c Y) h1 e3;obtain⟨a',ha,e5,s',h4,h5⟩:=Hv (P:=P) C (DA.zc true Hr) h3 U;refine⟨a',M _ ha,e++e4++e5,s',by grind,λQ hQ=>?_⟩;rw[MG e0];exact Rz hb.1 hb.2 (h2 _ ⟨s2,hle,rfl,t,f,args,G,Hr,d,rfl,.inl rfl,V,h5 _ hQ⟩)
 all_goals grind
variable {csG:List Cn}
abbrev Out:=List (AExit × AS)
def Lx (ν:List Int) (x:Nat × Int):Int:=ν.getD x.1 0+x.2
theorem Hz {x:Nat × Int} (h:x.1<ν.length):k7 ν x.1 x.2 (Lx ν x):=⟨ν[x.1],QE8 h,by simp[Lx,h]⟩
def Qmz (J:AS) (n0:Nat) (hd:Hd) (p:AExit × AS):Option Out:=
 match p.1 with
 | .normal=>(match Ml p.2 J n0 hd.k hd.cs with
  |some (σ,a2)=>if(Ju a2.cs (S1 n0 σ hd.up.1 hd.up.2).1 (S1 n0 σ hd.up.1 hd.up.2).2 hd.up.1 hd.up.2=true/\Ju a2.cs hd.dn.1 (hd.dn.2+1) (S1 n0 σ hd.dn.1 hd.dn.2).1 (S1 n0 σ hd.dn.1 hd.dn.2).2=true)\/(Ju a2.cs (S1 n0 σ hd.up.1 hd.up.2).1 ((S1 n0 σ hd.up.1 hd.up.2).2+1) hd.up.1 hd.up.2=true/\Ju a2.cs hd.dn.1 hd.dn.2 (S1 n0 σ hd.dn.1 hd.dn.2).1 (S1 n0 σ hd.dn.1 hd.dn.2).2=true)then some []else none
  |none=>none)
 |e=>some [(e,p.2)]
def ghA (J:AS) (wS m:Nat) (B:Int) (csG:List Cn):AS:=⟨J.fr,J.H,csG++(wS,J.nx,0)::(J.nx,wS,m*B)::J.cs,J.nx+1⟩
theorem QsW {J:AS} {C m:Nat} {B v w:Int} (h:J.ok ν s) (hw:ν[C]?=some w) (h0:0<=v) (O:v<=B) (M:k8 (ν++[w+(m:Int)*v]) csG):(ghA J C m B csG).ok (ν++[w+(m:Int)*v]) s:=by
 have G:=h.new (w+m*v);have z:=Kr [w+m*v] hw;have p1:0<=m*v:=Int.mul_nonneg Wa h0;have p2:m*v<=m*B:=Int.mul_le_mul_of_nonneg_left O Wa;refine h.ext _ rfl (k8.app M λc hm=>?_);rcases QEk.1 hm with rfl |hm
 exact⟨w,_,z,G,by grind⟩;rcases QEk.1 hm with rfl |hm
 exact⟨_,w,G,z,by grind⟩;exact h.cs.ext _ c hm
def ghC (a2:AS) (n0:Nat) (σ:Sg) (y0 gS iS m:Nat) (csG:List Cn):Bool:=
 match σ[iS - n0]? with
 |some p=>Nat.beq p.1 y0&&csG.all (Qd8 a2 n0 (σ++[(gS,m*p.2)]))
 |none=>false
theorem Ql3 {ν0 f μ:List Int} {U:AS} {σ:Sg} {T O C m:Nat} {u w0:Int} (h:U.ok (ν0++f) s) (hm:Sg.y7 (ν0++f) μ σ) (he:ghC U ν0.length σ T O C m csG=true) (V:(ν0++f)[T]?=some u) (hg:(ν0++f)[O]?=some (w0+(m:Int)*u)) (hi:ν0.length<=C):∃v,(ν0++μ)[C]?=some v/\k8 (ν0++μ++[w0+(m:Int)*v]) csG:=by
 unfold ghC at he;split at he;rename_i p e1;simp only[QEm]at he;obtain⟨e2,e3⟩:=he;have e2:=QFG e2;have hl:=XK hm;have i1:C - ν0.length<μ.length:=by grind
 have g1:=QE8 i1
 have g2:k7 (ν0++f) p.1 p.2 (μ[C - ν0.length]):=by
  obtain⟨w,G,M⟩:=Gu hm _ _ g1
  have:σ.at (C - ν0.length)=p:=by
   show σ.getD (C - ν0.length) (0,0)=p
   grind
  rw[this]at G M;exact⟨w,G,M⟩
 obtain⟨w,G,M⟩:=g2;rw[e2,V]at G;refine⟨μ[C - ν0.length],by grind, ?_⟩;have Y:Sg.y7 (ν0++f) (μ++[w0+m*μ[C - ν0.length]]) (σ++[(O,m*p.2)]):=Hb hm ⟨_,[],rfl,⟨_,hg,by grind⟩,rfl⟩;rw[QFa];exactλc hc=>Gc h Y (QEs.1 e3 c hc)
 grind
def ghB (a:AS) (hd:Hd) (wS iS m:Nat) (csG:List Cn):Option AS:=
 match Ml a (PU a hd) a.nx hd.k hd.cs with
 |some (σ,a2)=>(match lbX (PU a hd).cs iS,ubX (PU a hd).cs iS with
  |some L,some B=>if(decide (0<=L)=true/\Nat.ble a.nx iS=true/\Nat.ble (iS+1) (a.nx+hd.k)=true)/\ghC a2 a.nx σ 0 wS iS m csG=true/\Nat.ble (wS+1) a.nx=true/\Nat.ble (hd.up.1+1) (a.nx+hd.k)=true/\Nat.ble (hd.dn.1+1) (a.nx+hd.k)=true/\Ju (PU a hd).cs hd.dn.1 hd.dn.2 hd.up.1 hd.up.2=true then some (ghA (PU a hd) wS m B csG)else none
  |_,_=>none)
 |none=>none
def QmA (J:AS) (n0:Nat) (hd:Hd) (iS m:Nat) (csG:List Cn) (p:AExit × AS):Option Out:=
 match p.1 with
 | .normal=>(match Ml p.2 J n0 hd.k hd.cs with
  |some (σ,a2)=>if((Ju a2.cs (S1 n0 σ hd.up.1 hd.up.2).1 (S1 n0 σ hd.up.1 hd.up.2).2 hd.up.1 hd.up.2=true/\Ju a2.cs hd.dn.1 (hd.dn.2+1) (S1 n0 σ hd.dn.1 hd.dn.2).1 (S1 n0 σ hd.dn.1 hd.dn.2).2=true)\/(Ju a2.cs (S1 n0 σ hd.up.1 hd.up.2).1 ((S1 n0 σ hd.up.1 hd.up.2).2+1) hd.up.1 hd.up.2=true/\Ju a2.cs hd.dn.1 hd.dn.2 (S1 n0 σ hd.dn.1 hd.dn.2).1 (S1 n0 σ hd.dn.1 hd.dn.2).2=true))/\ghC a2 n0 σ iS (n0+hd.k) iS m csG=true then some []else none
  |none=>none)
 |e=>some [(e,p.2)]
def Qxr (id:Nat) (p:AExit × AS):AExit × AS:=
 match p.1 with
 | .exit i=>if i=id then(.normal,p.2)else p
 |_=>p
def BN:Out->List AS
 |[]=>[]
 |(e,a)::r=>match e with
  | .normal=>a::BN r
  |_=>BN r
def TA:Out->Out
 |[]=>[]
 |(e,a)::r=>match e with
  | .normal=>TA r
  |e=>(e,a)::TA r
theorem Mp {a:AS}:∀{o:Out},(AExit.normal,a)∈o->a∈BN o
 |(e,b)::r,h=>by
  rcases QEk.1 h with h |h
  grind [BN]
  have:=Mp h;unfold BN
  grind
theorem N3 {e:AExit} {a:AS} (C:e≠.normal):∀{o:Out},(e,a)∈o->(e,a)∈TA o
 |(e2,b)::r,h=>by
  rcases QEk.1 h with h |h;cases h
  cases e<;>first |grind |simp[TA]
  have:=N3 C h;unfold TA
  grind
def Qwh (body:AS->Option Out) (n0:Nat) (c0:List Cn):Nat->AS->Option Out
 |0,_=>none
 |n+1,a=>(match body a with
  |some o=>(match BN o with
   |[]=>some (TA o)
   |ns=>(match jnA n0 c0 ns with
    |some (fr,H,cs,k)=>(match Qwh body n0 c0 n ⟨fr,H,cs++c0,n0+k⟩with
     |some o2=>some (TA o++o2)
     |none=>none)
    |none=>none))
  |none=>none)
def Qxa (nj:List Nat):z5->Bool
 | .region _ _=>false
 | .na _=>false
 | .skip=>false
 | .block id _=>!nj.contains id
 |_=>!nj.contains 999
def Ql0 (tb:Tb) (f:Nat):Bool:=(tb.f f).all λc=>QuI c.rv
def sqJ (nj:List Nat) (x:z5) (n0:Nat) (c0:List Cn) (l:List AS):Option (List (Nat × Vl) × List (Nat × Bx) × List Cn × Nat):=
 match Qxa nj x,l with
 |true,_::_::_=>jnA n0 c0 l
 |_,_=>none
structure An where
 hd:Nat->Option (AS->Hd)
 un:Nat
 nj:List Nat
 ox:List (Nat × Option Nat × Bool):=[]
 oy:List (Nat × Nat × Nat):=[]
 gh:Nat->AS->Option (Nat × Nat × Nat × List Cn):=λ_ _=>none
 vb:Bool:=false
def Hf:z5->List (Nat × z5)
 | .seq a _ b=>Hf a++Hf b
 | .cond _ a b=>Hf a++Hf b
 | .block id x=>(id,x)::Hf x
 | .loop x=>Hf x
 | .scope x=>Hf x
 |_=>[]
def JL (orc:Nat->AS->Option Out) (tb:Tb) (an:An):z5->Option Nat->AS->Option Out
 | .skip,_,a=>some [(.normal,a)]
 | .region dr ops,_,a=>(match dr,PQ tb.z ops with
  |false,some _=>(match Qh2 tb tb.z (ops.length+1) ops (QtJ (Ql0 tb) tb.ow false ops a)with
   |some l=>some (l.map λa1=>(.normal,a1))
   |none=>none)
  |true,some _=>(match Qpm tb tb.z ops (QtJ (Ql0 tb) tb.ow true ops a)with
   |some l=>some (l.map λa1=>(.normal,a1))
   |none=>none)
  |_,_=>(match Qdt tb false (DA.of dr) ops (QtJ (Ql0 tb) tb.ow dr ops a)with
   |some l=>some (l.map λa1=>(.normal,a1))
   |none=>none))
 | .na ops,_,a=>(match Qdt tb true (DA.of true) ops (QtJ (Ql0 tb) tb.ow true ops a)with
  |some l=>some (l.map λa1=>(.normal,a1))
  |none=>none)
 | .seq x l y,_,a=>(match JL orc tb an x none a with
  |some o=>(match sqJ an.nj x a.nx a.cs ((BN o).map (Br l))with
   |some (fr,H,cs,k)=>(match JL orc tb an y none ⟨fr,H,cs++a.cs,a.nx+k⟩with
    |some o2=>some (TA o++o2)
    |none=>none)
   |none=>Qd0 (λ(p:AExit × AS)=>match p.1 with
    | .normal=>JL orc tb an y none (Br l p.2)
    |e=>some [(e,p.2)]) o)
  |none=>none)
 | .cond c x y,_,a=>(match spl a c with
  |some l=>Qd0 (λ(p:Bool × AS)=>if p.1=true then JL orc tb an x none p.2 else JL orc tb an y none p.2) l
  |none=>none)
 | .block id x,_,a=>(match(match orc id a with
  |some o=>some o
  |none=>JL orc tb an x (some id) a)with
  |some o=>some (o.map (Qxr id))
  |none=>none)
 | .loop x,bl,a=>(match bl with
  |some b=>(match an.hd b with
   |some g=>(match an.gh b a with
    |some (wS,iS,m,csG)=>(match ghB a (g a) wS iS m csG with
     |some a1=>(match JL orc tb an x none a1 with
      |some o=>Qd0 (QmA (PU a (g a)) a.nx (g a) iS m csG) o
      |none=>none)
     |none=>none)
    |none=>(match Ml a (PU a (g a)) a.nx (g a).k (g a).cs with
    |some _=>if Nat.ble ((g a).up.1+1) (a.nx+(g a).k)=true/\Nat.ble ((g a).dn.1+1) (a.nx+(g a).k)=true/\Ju (PU a (g a)).cs (g a).dn.1 (g a).dn.2 (g a).up.1 (g a).up.2=true then(match JL orc tb an x none (PU a (g a))with
     |some o=>Qd0 (Qmz (PU a (g a)) a.nx (g a)) o
     |none=>none)else none
    |none=>none))
   |none=>Qwh (λa1=>JL orc tb an x none a1) a.nx a.cs an.un a)
  |none=>none)
 | .scope x,_,a=>JL orc tb an x none a
 | .exit i,_,a=>some [(.exit i,a)]
 | .ret,_,a=>some [(.ret,a)]
 | .z8 _ _ _ _,_,_=>none
def y9 (ν:List Int) (outs:Out) (e:AExit) (s:St):Prop:=∃a,(e,a)∈outs/\∃f,a.ok (ν++f) s
theorem y9.sub {o o2:Out} {e:AExit} (h:y9 ν o e s) (C:∀y∈o,y∈o2):y9 ν o2 e s:=let⟨a,h1,h2⟩:=h;⟨a,C _ h1,h2⟩
theorem QiN {P:Program} {nt:Nat} {x:z5} {body:AS->Option Out} (hb:∀{a:AS} {o:Out} {ν:List Int} {s:St},a.ok ν s->body a=some o->TX P nt x (y9 ν o) s) {ν:List Int} {c0:List Cn} (h0:k8 ν c0) (z:ν[0]?=some 0):∀{n:Nat} {a:AS} {f:List Int} {outs:Out} {s:St},a.ok (ν++f) s->Qwh body ν.length c0 n a=some outs->∃e s',y9 ν outs e s'/\∃m,l9 P nt x e s' m s
 |0,a,f,outs,s,h,he=>by trivial
 |n+1,a,f,outs,s,h,he=>by
  simp[Qwh]at he;split at he;rename_i o e1;obtain⟨e,s1,⟨a1,hm,g,M⟩,G⟩:=hb h e1
  have stop:e≠.normal->(∀y∈TA o,y∈outs)->∃e s',y9 ν outs e s'/\∃m,l9 P nt x e s' m s:=λC hs=>
   ⟨e,s1,⟨a1,hs _ (N3 C hm),f++g,by grind⟩,0,.stop G C⟩
  split at he;cases e with
  |normal=>have:=Mp hm;grind
  |exit i=>simp_all
  |ret=>simp_all
  split at he;rename_i fr H cs k e2;split at he
  ·rename_i o2 e3;cases he
   cases e with
   |normal=>
    rw[QFa]at M;obtain⟨μ,s2,Y,V⟩:=Ql8 e2 h0 z (Mp hm) M;obtain⟨e4,O,U,m,T⟩:=QiN hb h0 z V e3;exact⟨e4,O,U.sub λy hy=>QEx _ hy,m+1,.next G Y T⟩
   |exit i=>grind
   |ret=>grind
  grind
  grind
  grind
theorem _root_.Wh {p:Prop} (h:p:=by simp only[Hf];grind):p:=h
theorem Y9 {P:Program} {nt:Nat} {orc:Nat->AS->Option Out} {tb:Tb} {B:List (Nat × z5)} (hor:∀(id:Nat) (x:z5) (a:AS) (o:Out) (ν:List Int) (s:St),(id,x)∈B->orc id a=some o->a.ok ν s->TX P nt x (y9 ν o) s) (M:tb.ok P) (U:tb.fg P) {an:An}:∀{c:z5} {bl:Option Nat} {a:AS} {outs:Out} {ν:List Int} {s:St},(∀p∈Hf c,p∈B)->a.ok ν s->JL orc tb an c bl a=some outs->TX P nt c (y9 ν outs) s
 | .skip,bl,a,outs,ν,s,hb,h,he=>by
  simp only[JL,QEl]at he;subst he;exact NM ⟨a,by simp,[],by grind⟩
 | .region dr ops,bl,a,outs,ν,s,hb,h,he=>by
  simp only[JL]at he;split at he;split at he;rename_i l e1;cases he
  obtain⟨s0,hle,h0⟩:=DL h (Ql0 tb) tb.ow false ops;obtain⟨T,hm,f,s',O,h2⟩:=DT M U h0 e1;exact Qrl hle ⟨.normal,s',⟨T,QEw.2 ⟨T,hm,rfl⟩,f,O⟩,Nm (h2 _ ⟨rfl,rfl⟩)⟩
  grind
  split at he;rename_i l e1;cases he
  obtain⟨s0,hle,h0⟩:=DL h (Ql0 tb) tb.ow true ops;obtain⟨T,hm,f,s',O,h2⟩:=Qk1 M U h0 e1;exact Qrl hle ⟨.normal,s',⟨T,QEw.2 ⟨T,hm,rfl⟩,f,O⟩,h2 _ ⟨rfl,rfl⟩⟩
  grind
  split at he;rename_i l e1;cases he
  obtain⟨s0,hle,h0⟩:=DL h (Ql0 tb) tb.ow _ ops;obtain⟨T,hm,f,s',O,h2⟩:=Hv M (DA.zc _ s0.H) h0 e1;exact Qrl hle ⟨.normal,s',⟨T,QEw.2 ⟨T,hm,rfl⟩,f,O⟩,QJ λK hK=>h2 K (hK s' ⟨rfl,rfl⟩)⟩
  grind
 | .na ops,bl,a,outs,ν,s,hb,h,he=>by
  simp only[JL]at he;split at he;rename_i l e1;cases he
  obtain⟨s0,hle,h0⟩:=DL h (Ql0 tb) tb.ow true ops;obtain⟨T,hm,f,s',O,h2⟩:=Hv M (DA.zc true s0.H) h0 e1;exact Qrl hle ⟨.normal,s',⟨T,QEw.2 ⟨T,hm,rfl⟩,f,O⟩,RE λK hK=>h2 K (hK s' ⟨rfl,rfl⟩)⟩
  grind
 | .seq x l y,bl,a,outs,ν,s,hb,h,he=>by
  simp only[JL]at he;split at he;rename_i o e1;split at he;rename_i fr H cs k e2;split at he;rename_i o2 e3;cases he
  have hn:a.nx=ν.length:=h.nx.symm
  have e4:jnA ν.length a.cs ((BN o).map (Br l))=some (fr,H,cs,k):=by
   unfold sqJ at e2
   grind
  refine Qe7 (λs2=>s2) (λs2=>TX P nt y (y9 ν (TA o++o2)) s2) (Y1 (λe s' hq=>?_) (Y9 hor M U (λp hp=>hb p Wh) h e1)) λ_ h=>h;obtain⟨T,hm,f,O⟩:=hq;cases e with
  |normal=>
   obtain⟨μ,s2,q1,q2⟩:=Ql8 e4 h.cs h.z (QFl (Mp hm)) (FC O l);rw[<- hn]at q2;refine⟨s2,le_trans (Gg l s'.fr s'.H) q1,Y1 (λe2 s2 hr=>?_) (Y9 hor M U (λp hp=>hb p Wh) q2 e3)⟩;obtain⟨a2,V,f2,h2⟩:=hr;exact⟨a2,QEx _ V,μ++f2,by grind⟩
  |exit i=>exact⟨T,QFo _ (N3 Wd hm),f,O⟩
  |ret=>exact⟨T,QFo _ (N3 Wd hm),f,O⟩
  grind
  refine QaD (Y1 (λe s' hq=>?_) (Y9 hor M U (λp hp=>hb p Wh) h e1));obtain⟨T,hm,f,O⟩:=hq;obtain⟨q,C,Y⟩:=X0 he hm;cases e with
  |normal=>
   refine Y1 (λe2 s2 hr=>?_) (Y9 hor M U (λp hp=>hb p Wh) (FC O l) C);obtain⟨a2,V,f2,h2⟩:=hr;exact⟨a2,Y _ V,f++f2,by grind⟩
  |exit i=>
   cases C
   exact⟨T,Y _ Wd,f,O⟩
  |ret=>
   cases C
   exact⟨T,Y _ Wd,f,O⟩
  grind
 | .cond c x y,bl,a,outs,ν,s,hb,h,he=>by
  simp only[JL]at he;split at he;rename_i l e1;obtain⟨b,T,hm,hx,O⟩:=QdC h e1;obtain⟨q,C,Y⟩:=X0 he hm;have fin:∀e s',y9 ν q e s'->y9 ν outs e s':=λe s' ⟨a2,V,f2,h2⟩=>⟨a2,Y _ V,f2,h2⟩;cases b
  exact QaC hx (Y1 fin (Y9 hor M U (λp hp=>hb p Wh) O C));exact LH hx (Y1 fin (Y9 hor M U (λp hp=>hb p Wh) O C))
  grind
 | .block id x,bl,a,outs,ν,s,hb,h,he=>by
  simp only[JL]at he;split at he;rename_i o e1;cases he
  have hx:TX P nt x (y9 ν o) s:=by
   split at e1
   grind [Hf]
   exact Y9 hor M U (λp hp=>hb p Wh) h e1
  refine QaB (Y1 (λe s' hq=>?_) hx);obtain⟨T,hm,f,O⟩:=hq;have V:=QFl (f:=Qxr id) hm;cases e with
  |normal=>exact⟨T,V,f,O⟩
  |ret=>exact⟨T,V,f,O⟩
  |exit i=>
   simp only[XY];simp only[Qxr]at V;split;rename_i hi;rw[if_pos hi]at V;exact⟨T,V,f,O⟩;rename_i hi;rw[if_neg hi]at V;exact⟨T,V,f,O⟩
  grind
 | .loop x,bl,a,outs,ν,s,hb,h,he=>by
  simp only[JL]at he;split at he;rename_i b;split at he;rename_i g eg;generalize g a=hd at he;split at he;rename_i wS iS m csG _;split at he;rename_i aG eG;split at he;rename_i o e2;unfold ghB at eG;split at eG;rename_i σ0 a2 e1;split at eG;rename_i L B eL eB;split at eG;rename_i hc;cases eG
  obtain⟨⟨c1,c2,c3⟩,c4,c8,c5,c6,c7⟩:=hc;have hn:a.nx=ν.length:=h.nx.symm;rw[hn]at e1 he c2 c3 c4 c5 c6 c8;have c8:=QEi c8;obtain⟨w,hw⟩:∃w,ν[wS]?=some w:=⟨_,QE8 c8⟩;have c1:=of_decide_eq_true c1;have c2:=QEi c2;have c3:=QEi c3;have b1:=QEi c5;have b2:=QEi c6;obtain⟨g0,μ0,s0,q1,q2,q3,q4⟩:=HU (k:=hd.k) (cs:=hd.cs) (c0:=a.cs) (by rw[QEN];exact h) e1 rfl (by rw[<- hn];rfl) h.cs h.z
  obtain⟨v0,w1,w2⟩:=Ql3 (u:=0) (w0:=w) q1 q2 c4 q1.z Wc c2;refine QbT (ι:=List Int × St) (λi=>i.2) (λi=>∃μ v,i.1=ν++μ++[w+(m:Int)*v]/\(ν++μ)[iS]?=some v/\k8 i.1 csG/\(PU a hd).ok (ν++μ) i.2) (λi=>(Lx i.1 hd.up - Lx i.1 hd.dn).toNat) (ν++μ0++[w+(m:Int)*v0],s0) q3 ⟨μ0,v0,rfl,w1,w2,q4⟩ λi ⟨μ,v,hi1,hi2,hi3,hi4⟩=>?_;obtain⟨νi,si⟩:=i;simp only at hi1 hi2 hi3 hi4 ⊢;subst hi1;have hlen:(ν++μ).length=ν.length+hd.k:=by rw[hi4.nx,<- hn];rfl
  have l1:=Bs hi4.cs hi4.z eL hi2;have l2:=Qam hi4.cs hi4.z eB hi2;have hG:=QsW (m:=m) (csG:=csG) hi4 (Kr _ hw) Wa l2 hi3;refine Y1 (λe s' hq=>?_) (Y9 hor M U (λp hp=>hb p Wf) hG e2);obtain⟨T,hm,f,O⟩:=hq;obtain⟨q,C,Y⟩:=X0 he hm;cases e with
  |normal=>
   simp only[QmA]at C;split at C;rename_i σ a3 e3;split at C;rename_i G;obtain⟨G,hgc⟩:=G;rw[QFa,QFa]at O;obtain⟨g1,μ1,s1,w1,w2,w3,w4⟩:=HU (ν0:=ν) (f:=μ++([w+(m:Int)*v]++f)) (k:=hd.k) (cs:=hd.cs) (c0:=a.cs) O e3 rfl (by rw[<- hn];rfl) h.cs h.z
   have ea:ν++(μ++([w+(m:Int)*v]++f)++g1)=ν++μ++[w+(m:Int)*v]++(f++g1):=by simp
   have y1:(ν++(μ++([w+(m:Int)*v]++f)++g1))[iS]?=some v:=by grind
   have y2:(ν++(μ++([w+(m:Int)*v]++f)++g1))[ν.length+hd.k]?=some (w+(m:Int)*v):=by grind
   obtain⟨v1,x1,x2⟩:=Ql3 w1 w2 hgc y1 y2 c2;have hlen1:(ν++μ1).length=ν.length+hd.k:=by rw[w4.nx,<- hn];rfl
   refine⟨(ν++μ1++[w+(m:Int)*v1],s1),w3,⟨μ1,v1,rfl,x1,x2,w4⟩, ?_⟩;have u0:=Hz (ν:=ν++μ++[w+(m:Int)*v]) (x:=hd.up) Wc;have d0:=Hz (ν:=ν++μ++[w+(m:Int)*v]) (x:=hd.dn) Wc;have u1:=Hz (ν:=ν++μ1) (x:=hd.up) Wa;have d1:=Hz (ν:=ν++μ1) (x:=hd.dn) Wa;have u1':=Po w2 u1;have d1':=Po w2 d1;have u0':=u0.ext (f++g1);have d0':=d0.ext (f++g1);rw[<- ea]at u0' d0';have r3:=QX (hi4.cs.ext [w+(m:Int)*v]) c7 d0 u0;have r4:=QX w4.cs c7 d1 u1;have eu:Lx (ν++μ1++[w+(m:Int)*v1]) hd.up=Lx (ν++μ1) hd.up:=k7.inj (Hz Wc) (u1.ext _);have ed:Lx (ν++μ1++[w+(m:Int)*v1]) hd.dn=Lx (ν++μ1) hd.dn:=k7.inj (Hz Wc) (d1.ext _);show(Lx (ν++μ1++[w+(m:Int)*v1]) hd.up - Lx (ν++μ1++[w+(m:Int)*v1]) hd.dn).toNat<(Lx (ν++μ++[w+(m:Int)*v]) hd.up - Lx (ν++μ++[w+(m:Int)*v]) hd.dn).toNat;rw[eu,ed];rcases G with G |G
   have r1:=QX w1.cs G.1 u1' u0';have r2:=QX w1.cs G.2 (d0'.up 1) d1';omega;have r1:=QX w1.cs G.1 (u1'.up 1) u0';have r2:=QX w1.cs G.2 d0' d1';omega
   grind
   grind
  |exit i=>
   cases C
   exact⟨T,Y _ Wd,μ++[w+(m:Int)*v]++f,by grind⟩
  |ret=>
   cases C
   exact⟨T,Y _ Wd,μ++[w+(m:Int)*v]++f,by grind⟩
  grind
  grind
  grind
  grind
  grind
  split at he;rename_i r e1;split at he;rename_i hc;split at he;rename_i o e2;have hn:a.nx=ν.length:=h.nx.symm;rw[hn]at e1 he hc;have b1:=QEi hc.1;have b2:=QEi hc.2.1;obtain⟨g0,μ0,s0,q1,q2,q3,q4⟩:=HU (f:=[]) (k:=hd.k) (cs:=hd.cs) (c0:=a.cs) (by rw[QEN];exact h) e1 rfl (by rw[<- hn];rfl) h.cs h.z
  refine QbT (ι:=List Int × St) (λi=>i.2) (λi=>∃μ,i.1=ν++μ/\(PU a hd).ok i.1 i.2) (λi=>(Lx i.1 hd.up - Lx i.1 hd.dn).toNat) (ν++μ0,s0) q3 ⟨μ0,rfl,q4⟩ λi ⟨μ,hi1,hi2⟩=>?_;obtain⟨νi,si⟩:=i;simp only at hi1 hi2 ⊢;subst hi1;have hlen:(ν++μ).length=ν.length+hd.k:=by rw[hi2.nx,<- hn];rfl
  refine Y1 (λe s' hq=>?_) (Y9 hor M U (λp hp=>hb p Wf) hi2 e2);obtain⟨T,hm,f,O⟩:=hq;obtain⟨q,C,Y⟩:=X0 he hm;cases e with
  |normal=>
   simp only[Qmz]at C;split at C;rename_i σ a2 e3;split at C;rename_i G;rw[QFa]at O;obtain⟨g1,μ1,s1,w1,w2,w3,w4⟩:=HU (ν0:=ν) (f:=μ++f) (k:=hd.k) (cs:=hd.cs) (c0:=a.cs) O e3 rfl (by rw[<- hn];rfl) h.cs h.z
   have hlen1:(ν++μ1).length=ν.length+hd.k:=by rw[w4.nx,<- hn];rfl
   refine⟨(ν++μ1,s1),w3,⟨μ1,rfl,w4⟩, ?_⟩;have u0:=Hz (ν:=ν++μ) (x:=hd.up) Wa;have d0:=Hz (ν:=ν++μ) (x:=hd.dn) Wa;have u1:=Hz (ν:=ν++μ1) (x:=hd.up) Wa;have d1:=Hz (ν:=ν++μ1) (x:=hd.dn) Wa;have u1':=Po w2 u1;have d1':=Po w2 d1
   have u0':k7 (ν++(μ++f++g1)) hd.up.1 hd.up.2 (Lx (ν++μ) hd.up):=by
    have:=u0.ext (f++g1);grind
   have d0':k7 (ν++(μ++f++g1)) hd.dn.1 hd.dn.2 (Lx (ν++μ) hd.dn):=by
    have:=d0.ext (f++g1);grind
   have r3:=QX hi2.cs hc.2.2 d0 u0;have r4:=QX w4.cs hc.2.2 d1 u1;show(Lx (ν++μ1) hd.up - Lx (ν++μ1) hd.dn).toNat<(Lx (ν++μ) hd.up - Lx (ν++μ) hd.dn).toNat;rcases G with G |G
   have r1:=QX w1.cs G.1 u1' u0';have r2:=QX w1.cs G.2 (d0'.up 1) d1';omega;have r1:=QX w1.cs G.1 (u1'.up 1) u0';have r2:=QX w1.cs G.2 d0' d1';omega
   grind
   grind
  |exit i=>
   cases C
   exact⟨T,Y _ Wd,μ++f,by grind⟩
  |ret=>
   cases C
   exact⟨T,Y _ Wd,μ++f,by grind⟩
  grind
  grind
  grind
  have hn:a.nx=ν.length:=h.nx.symm;rw[hn]at he;obtain⟨e,s',q1,m,q2⟩:=QiN (x:=x) (λO e1=>Y9 hor M U (λp hp=>hb p Wf) O e1) h.cs h.z (f:=[]) (by rw[QEN];exact h) he
  exact⟨e,s',q1,q2.tw⟩
  grind
 | .scope x,bl,a,outs,ν,s,hb,h,he=>by
  simp only[JL]at he;exact Qm8 (Y9 hor M U (λp hp=>hb p Wf) h he)
 | .exit i,bl,a,outs,ν,s,hb,h,he=>by
  simp only[JL,QEl]at he;subst he;exact TP ⟨a,by simp,[],by grind⟩
 | .ret,bl,a,outs,ν,s,hb,h,he=>by
  simp only[JL,QEl]at he;subst he;exact Qm7 ⟨a,by simp,[],by grind⟩
 | .z8 _ _ _ _,bl,a,outs,ν,s,hb,h,he=>by trivial
def Qd3 (tb:Tb) (an:An) (c:z5) (bl:Option Nat) (a:AS):Option Out:=JL (λ_ _=>none) tb an c bl a
theorem P4 {P:Program} {nt:Nat} {tb:Tb} (G:tb.ok P) (C:tb.fg P) {an:An} {c:z5} {bl:Option Nat} {a:AS} {outs:Out} (h:a.ok ν s) (he:Qd3 tb an c bl a=some outs):TX P nt c (y9 ν outs) s:=Y9 (λ_ _ _ _ _ _ _ h _=>by cases h) G C (λ_ h=>h) h he
def QkU (a:AS):Jx->Option Vl
 | .tmp t=>(match lk a.fr t with
  |some v=>QlL a v
  |none=>none)
 | .cell t agg sz=>(match lk a.fr t with
  |some p=>(match atA a p with
   |some cs=>(match agg with
    |true=>if Nat.ble sz cs.length=true then QlL a (.aa (cs.take sz))else none
    |false=>(match cs.head? with
     |some v=>QlL a v
     |none=>none))
   |none=>none)
  |none=>none)
theorem QkV {ν:List Int} {a:AS} {s:St} {r:Jx} {v:Vl} (h:a.ok ν s) (he:QkU a r=some v):∃d,v.has ν d/\JT Jt s r d:=by
 cases r with
 |tmp t=>
  simp only[QkU]at he;split at he;rename_i w e1;obtain⟨d,C,M⟩:=RL.get h.fr e1;exact⟨_,MX h he M,d,C,rfl⟩
  grind
 |cell t agg sz=>
  simp only[QkU]at he;split at he;rename_i p e1;obtain⟨d,C,M⟩:=RL.get h.fr e1;split at he;rename_i cs e2;obtain⟨ds,O,G⟩:=Qb0 h e2 M;cases agg
  simp only at he;split at he;rename_i w V;obtain⟨q,U,T⟩:=Bm G V;exact⟨_,MX h he T,d,ds,C,Nb.2 O,by simp only[QEq,if_false];exact⟨q,U,rfl⟩⟩
  grind
  simp only at he;split at he;rename_i hb;exact⟨_,MX h he ⟨_,rfl,JE sz G⟩,d,ds,C,Nb.2 O,by simp only[if_true];exact⟨by rw[YH G];simp_all,rfl⟩⟩
  grind
  grind
  grind
def Qer (a:AS):List Jx->Option (List Vl)
 |[]=>some []
 |r::rs=>(match QkU a r,Qer a rs with
  |some v,some vs=>some (v::vs)
  |_,_=>none)
theorem Qdk {ν:List Int} {a:AS} {s:St} (h:a.ok ν s):∀{rs:List Jx} {vs:List Vl},Qer a rs=some vs->∃ds,Vl.a5 ν vs ds/\Ta Jt s rs ds
 |[],vs,he=>by simp only[Qer,QEl]at he;subst he;exact⟨[],rfl,rfl⟩
 |r::rs,vs,he=>by
  simp only[Qer]at he;split at he;rename_i v ws e1 e2;cases he
  obtain⟨d,O,M⟩:=QkV h e1;obtain⟨ds,G,C⟩:=Qdk h e2;exact⟨d::ds,⟨d,ds,rfl,O,G⟩,d,ds,rfl,M,C⟩
  grind
def Ct.og (c:Ct) (rs:List Jx):Option (List Vl):=
 match rs with
 |[_]=>some [c.rv]
 |_=>(match c.rv with
  | .uu vs=>some vs
  |_=>none)
def Qzm (c:Ct) (rs:List Jx) (p:AExit × AS):Bool:=
 match p.1 with
 | .exit _=>false
 |_=>(match Qer p.2 rs,c.og rs with
  |some vs,some ps=>(match Qi9 c.nx p.2 [] vs ps with
   |some (σ,a)=>Nat.beq (c.nx+σ.length) c.mx&&c.rc.all (Qd8 a c.nx σ)
   |none=>false)
  |_,_=>false)
theorem Qn3 {c:Ct} {rs:List Jx} {e:AExit} {a:AS} {μ f:List Int} {s:St} (h:a.ok (μ++f) s) (hμ:μ.length=c.nx) (C:Qzm c rs (e,a)=true):∃d,(∃g,(μ++g).length=c.mx/\k8 (μ++g) c.rc/\c.rv.has (μ++g) d)/\ua rs d e s:=by
 have key:(match Qer a rs,c.og rs with
  |some vs,some ps=>(match Qi9 c.nx a [] vs ps with
   |some (σ,a)=>Nat.beq (c.nx+σ.length) c.mx&&c.rc.all (Qd8 a c.nx σ)
   |none=>false)
  |_,_=>false)=true->∃d,(∃g,(μ++g).length=c.mx/\k8 (μ++g) c.rc/\c.rv.has (μ++g) d)/\QkW s rs d:=λC=>by
  split at C;rename_i vs ps e1 e2;split at C;rename_i σ a2 Y;simp only[QEm]at C;obtain⟨ds,O,M⟩:=Qdk h e1;rw[<- hμ]at Y;obtain⟨g,ρ,h3,U,T⟩:=SP (μ:=[]) h Y O rfl;rw[QFJ]at U T;have hl:=XK U;have hn:=QFG C.1;have G:k8 (μ++ρ) c.rc:=λk hk=>Gc h3 U Wc;have hlen:(μ++ρ).length=c.mx:=by grind
  unfold Ct.og at e2;split at e2;cases e2
  obtain⟨d,r,rfl,q1,V⟩:=T;simp only[Vl.a5]at V;subst V;obtain⟨d2,ds2,w1,w2,w3⟩:=M;cases w1
  exact⟨d,⟨ρ,hlen,G,q1⟩,w2⟩;rename_i hne;split at e2;rename_i vs2 e4;cases e2
  refine⟨.g8 ds,⟨ρ,hlen,G,by rw[e4];exact⟨ds,rfl,T⟩⟩, ?_⟩
  unfold QkW
  grind
  grind
  grind
  grind
 cases e with
 |normal=>obtain⟨d,O,M⟩:=key C;exact⟨d,O,M⟩
 |ret=>obtain⟨d,O,M⟩:=key C;exact⟨d,O,M⟩
 |exit i=>cases C
theorem QaU {ν:List Int}:∀{vs:List Vl} {ds:List D} {k:Nat},Vl.a5 ν vs ds->RL (Vl.has ν) (MQ k vs) (MQ k ds)
 |[],ds,k,h=>by simp only[Vl.a5]at h;subst h;rfl
 |v::vs,ds,k,h=>by obtain⟨d,r,rfl,C,h⟩:=h;exact⟨d,_,rfl,C,QaU h⟩
variable {v:Vl}
def QmK:List Vl->List (List Vl)
 |[]=>[[]]
 |v::vs=>match v with
  | .ty t=>(match t with
   | .b=>(QmK vs).flatMap λr=>[cB true::r,cB false::r]
   |t=>(QmK vs).map λr=>.ty t::r)
  |v=>(QmK vs).map λr=>v::r
theorem QiR {ν:List Int}:∀{vs:List Vl} {ds:List D},Vl.a5 ν vs ds->∃ws∈QmK vs,Vl.a5 ν ws ds
 |[],ds,h=>⟨[],by simp[QmK],h⟩
 |v::vs,ds,h=>by
  obtain⟨d,r,rfl,T,O⟩:=h;obtain⟨ws,G,C⟩:=QiR O;have same:∀{w:Vl},w.has ν d->∃M∈(QmK vs).map (λr=>w::r),Vl.a5 ν M (d::r):=λhw=>⟨_,QEw.2 ⟨ws,G,rfl⟩,d,r,rfl,hw,C⟩;unfold QmK;split;split;obtain⟨b,rfl⟩:=T;refine⟨cB b::ws,QEp.2 ⟨ws,G, ?_⟩,.bool b,r,rfl,Qjy b,C⟩;cases b<;>simp
  grind
  grind
def Qzb:Vl->List Vl
 | .aa cs=>(QmK cs).map .aa
 | .ty t=>(match t with
  | .b=>[cB true,cB false]
  |t=>[.ty t])
 |v=>[v]
theorem Qq9 (h:v.has ν d):∃w∈Qzb v,w.has ν d:=by
 unfold Qzb;split;obtain⟨ds,rfl,M⟩:=h;obtain⟨ws,G,C⟩:=QiR M;exact⟨_,QEw.2 ⟨ws,G,rfl⟩,ds,rfl,C⟩;split;obtain⟨b,rfl⟩:=h;refine⟨cB b, ?_,Qjy b⟩;cases b<;>simp
 grind
 grind
def Qlq:List Vl->List (List Vl)
 |[]=>[[]]
 |v::vs=>(Qzb v).flatMap λw=>(Qlq vs).map λr=>w::r
theorem QdJ {ν:List Int}:∀{vs:List Vl} {ds:List D},Vl.a5 ν vs ds->∃ws∈Qlq vs,Vl.a5 ν ws ds
 |[],ds,h=>⟨[],by simp[Qlq],h⟩
 |v::vs,ds,h=>by
  obtain⟨d,r,rfl,U,T⟩:=h;obtain⟨w,O,M⟩:=Qq9 U;obtain⟨ws,G,C⟩:=QdJ T;exact⟨w::ws,QEp.2 ⟨w,O,QEw.2 ⟨ws,G,rfl⟩⟩,d,r,rfl,M,C⟩
def QuQ (row:List Tp):Nat->AS->AS × List (List Vl)
 |0,a=>(a,[])
 |n+1,a=>match Qtz a (row.map .ty)with
  |(a1,r)=>match QuQ row n a1 with
   |(a2,rs)=>(a2,r::rs)
theorem Qhl {row:List Tp} {s:St}:∀{n:Nat} {ν:List Int} {a:AS} {rows:List (List D)},a.ok ν s->rows.length=n->(∀r∈rows,Tp.n6 row r)->∃e,(QuQ row n a).1.ok (ν++e) s/\Vl.v7 (ν++e) (QuQ row n a).2 rows
 |0,ν,a,rows,h,hn,hr=>⟨[],by rw[QEN];exact h,QEV hn⟩
 |n+1,ν,a,[],h,hn,hr=>by grind
 |n+1,ν,a,r::rows,h,hn,hr=>by
  obtain⟨e,O,M⟩:=Qbo h (Dg (hr r Wd));obtain⟨e2,G,T⟩:=Qhl (rows:=rows) O (by simpa using hn) λq C=>hr q (QFr _ C);exact⟨e++e2,by rw[<- QFa];exact G,r,rows,rfl,by rw[<- QFa];exact M.ext e2,by grind⟩
def QuR (full:Bool) (a:AS) (v:Vl):List (AS × Vl):=
 match v with
 | .ll row x o=>(match bdN a x o with
  |some (_,hi)=>if hi<16 then(List.range (hi+1).toNat).map λ(n:Nat)=>match full with
   |true=>match QuQ row n ⟨a.fr,a.H,(x,0,n - o)::(0,x,o - n)::a.cs,a.nx⟩with
    |(a1,rs)=>(a1,.fx rs)
   |false=>(⟨a.fr,a.H,(x,0,n - o)::(0,x,o - n)::a.cs,a.nx⟩,.ll row 0 n)else[(a,v)]
  |none=>[(a,v)])
 |v=>[(a,v)]
theorem Qhm (h:a.ok ν s) (T:v.has ν d) (full:Bool):∃p∈QuR full a v,∃e,p.1.ok (ν++e) s/\p.2.has (ν++e) d:=by
 have same:∃p∈[(a,v)],∃e,p.1.ok (ν++e) s/\p.2.has (ν++e) d:=⟨_,QEr.2 rfl,[],by grind,by grind⟩;unfold QuR;split;rename_i row x o;split;rename_i lo hi e1;split;obtain⟨rows,hd,O,M⟩:=T;have hb:=Xz h e1 O
 have Y:(⟨a.fr,a.H,(x,0,(rows.length:Int) - o)::(0,x,o - (rows.length:Int))::a.cs,a.nx⟩:AS).ok ν s:=by
  obtain⟨w,C,q2⟩:=O;refine⟨h.fr,h.H,k8.app (a:=[_,_]) (λc G=>?_) h.cs,h.nx,h.z⟩;simp only[QEk,QEj,or_false]at G;rcases G with rfl |rfl
  exact⟨w,0,C,h.z,by grind⟩;exact⟨0,w,h.z,C,by grind⟩
 refine⟨_,QEw.2 ⟨rows.length,QEE.2 Wa,rfl⟩, ?_⟩;cases full
 exact⟨[],by grind,rows,hd,by rw[QEN];exact XJ h.z _,M⟩
 obtain⟨e,V,U⟩:=Qhl Y rfl M;exact⟨e,V,rows,hd,U⟩;omega;omega;omega
abbrev Op1:=Nat × Option Nat × Bool
def Qxp (p:Op1) (a:AS):List AS:=
 match lk a.fr p.1,p.2.1 with
 |some (.aa cs),some j=>(match cs[j]? with
  |some v=>(QuR p.2.2 a v).map λq=>⟨Qjd p.1 (.aa (cs.set j q.2)) q.1.fr,q.1.H,q.1.cs,q.1.nx⟩
  |none=>[a])
 |some v,none=>(QuR p.2.2 a v).map λq=>⟨Qjd p.1 q.2 q.1.fr,q.1.H,q.1.cs,q.1.nx⟩
 |_,_=>[a]
theorem QoV (h:a.ok ν s) (p:Op1):∃a'∈Qxp p a,∃e,a'.ok (ν++e) s:=by
 have same:∃a'∈[a],∃e,a'.ok (ν++e) s:=⟨a,by simp,[],by grind⟩;unfold Qxp;split;rename_i cs j e1 e2;split;rename_i v e3;obtain⟨d,T,ds,rfl,G⟩:=RL.get h.fr e1;obtain⟨d,h3,Y⟩:=K1 G e3;obtain⟨q,M,e,C,O⟩:=Qhm h Y p.2.2;have U:=Rc j (G.ext e) O
 have V:ds.set j d=ds:=by
  grind [List.set_getElem_self]
 rw[V]at U;exact⟨_,QEw.2 ⟨q,M,rfl⟩,e,Ht (v:=.aa (cs.set j q.2)) (d:=.agg ds) ⟨ds,rfl,U⟩ C.fr T,C.H,C.cs,C.nx,C.z⟩;omega;rename_i v e1 e2;obtain⟨d,T,G⟩:=RL.get h.fr e1;obtain⟨q,M,e,C,O⟩:=Qhm h G p.2.2;exact⟨_,QEw.2 ⟨q,M,rfl⟩,e,Ht O C.fr T,C.H,C.cs,C.nx,C.z⟩;omega
def QuS:List Op1->AS->List AS
 |[],a=>[a]
 |p::r,a=>(Qxp p a).flatMap (QuS r)
theorem Qhn {s:St}:∀{l:List Op1} {ν:List Int} {a:AS},a.ok ν s->∃a'∈QuS l a,∃e,a'.ok (ν++e) s
 |[],ν,a,h=>⟨a,by simp[QuS],[],by grind⟩
 |p::r,ν,a,h=>by
  obtain⟨T,M,e,G⟩:=QoV h p;obtain⟨O,C,e2,U⟩:=Qhn (l:=r) G;exact⟨O,QEp.2 ⟨T,M,C⟩,e++e2,by grind⟩
def Qxq (p:Nat × Nat × Nat) (a:AS):List AS:=
 match lk a.fr p.1 with
 |some (.aa cs)=>(match cs[p.2.1]? with
  |some (.ll row x o)=>(match row[p.2.2]? with
   |some (.l r n)=>if Ju a.cs x o 0 1=true/\Ju a.cs 0 1 x o=true then(List.range (n+1)).map λ(i:Nat)=>⟨Qjd p.1 (.aa (cs.set p.2.1 (.ll (row.set p.2.2 (.lq r i)) x o))) a.fr,a.H,a.cs,a.nx⟩else[a]
   |_=>[a])
  |_=>[a])
 |_=>[a]
theorem QcJ:∀{ts:List Tp} {ds:List D} {j:Nat} {t:Tp},Tp.n6 ts ds->(∀d,ds[j]?=some d->t.has d)->Tp.n6 (ts.set j t) ds
 |[],ds,j,t,h,ht=>h
 |t0::ts,ds,0,t,h,ht=>by obtain⟨d,r,rfl,_,C⟩:=h;exact⟨d,r,rfl,ht d rfl,C⟩
 |t0::ts,ds,j+1,t,h,ht=>by obtain⟨d,r,rfl,G,C⟩:=h;exact⟨d,r,rfl,G,QcJ C λe he=>ht e Wc⟩
theorem QcI:∀{ts:List Tp} {ds:List D} {j:Nat} {t:Tp},Tp.n6 ts ds->ts[j]?=some t->∃d,ds[j]?=some d/\t.has d
 |[],ds,j,t,h,ht=>by grind
 |t0::ts,ds,0,t,h,ht=>by
  obtain⟨d,r,rfl,G,C⟩:=h
  grind
 |t0::ts,ds,j+1,t,h,ht=>by
  obtain⟨d,r,rfl,G,C⟩:=h;obtain⟨e,O,M⟩:=QcI C (by simpa using ht)
  grind
theorem QoX (h:a.ok ν s) (p:Nat × Nat × Nat):∃a'∈Qxq p a,a'.ok ν s:=by
 have same:∃a'∈[a],a'.ok ν s:=⟨a,by simp,h⟩;unfold Qxq;split;rename_i cs e1;split;rename_i row x o e2;split;rename_i r n e3;split;rename_i U;obtain⟨d,h1,ds,rfl,Y⟩:=RL.get h.fr e1;obtain⟨d,h3,rows,hd,M,V⟩:=K1 Y e2;have l1:=QX h.cs U.1 M (XJ h.z 1);have l2:=QX h.cs U.2 (XJ h.z 1) M;have hl:rows.length=1:=Wa;obtain⟨q,rfl⟩:=List.length_eq_one_iff.1 hl;obtain⟨c,h6,rws,h7,h8,h9⟩:=QcI (V q Wd) e3;refine⟨_,QEw.2 ⟨rws.length,QEE.2 Wa,rfl⟩, ?_⟩
 have T:Vl.has ν (.ll (row.set p.2.2 (.lq r rws.length)) x o) d:=⟨[q],hd,M,λr0 G=>by
  rw[QEr.1 G];exact QcJ (V q Wd) λe he=>by rw[h6]at he;cases he;exact⟨rws,h7,rfl,h9⟩⟩
 have C:=Rc p.2.1 Y T
 have O:ds.set p.2.1 d=ds:=by
  grind [List.set_getElem_self]
 rw[O]at C;exact⟨Ht (v:=.aa (cs.set p.2.1 (.ll (row.set p.2.2 (.lq r rws.length)) x o))) (d:=.agg ds) ⟨ds,rfl,C⟩ h.fr h1,h.H,h.cs,h.nx,h.z⟩;omega;omega;omega;omega
def QrD:List (Nat × Nat × Nat)->AS->List AS
 |[],a=>[a]
 |p::r,a=>(Qxq p a).flatMap (QrD r)
theorem Qho {s:St} {ν:List Int}:∀{l:List (Nat × Nat × Nat)} {a:AS},a.ok ν s->∃a'∈QrD l a,a'.ok ν s
 |[],a,h=>⟨a,by simp[QrD],h⟩
 |p::r,a,h=>by
  obtain⟨U,O,M⟩:=QoX h p;obtain⟨T,G,C⟩:=Qho (l:=r) M;exact⟨T,QEp.2 ⟨U,O,G⟩,C⟩
def Qq8 (an:An) (vs:List Vl):List (List Vl):=
 match an.vb with
 |true=>Qlq vs
 |false=>[vs]
theorem Qlp {an:An} {vs:List Vl} {ds:List D} (h:Vl.a5 ν vs ds):∃ws∈Qq8 an vs,Vl.a5 ν ws ds:=by
 grind [Qq8,QdJ]
def ctB (tb:Tb) (an:An) (c:Ct) (tf:o6):Bool:=
 Nat.ble c.az.length tf.nt&&(Qq8 an c.az).all λaz=>(QuS an.ox ⟨MQ 0 az,[],c.cs,c.nx⟩).all λa=>(match Qd3 tb an tf.body none a with
  |some outs=>outs.all (Qzm c tf.rs)
  |none=>false)
theorem Ct.by {P:Program} {f:Nat} {fn:Func} {tf:o6} {tb:Tb} {c:Ct} (an:An) (M:tb.ok P) (G:tb.fg P) (hm:P.follows .mixedOrders=true) (hf:P.funcs[f]?=some fn) (hp:QT P fn=some tf.erase) (hb:ctB tb an c tf=true) (hg:Gz f=[]:=by rfl):c.ok P f:=by
 simp only[ctB,QEm]at hb;obtain⟨h1,h2⟩:=hb;intro μ ds q1 q2 q3 q4;obtain⟨az,V,U⟩:=Qlp (an:=an) q4;have ha:(⟨MQ 0 az,[],c.cs,c.nx⟩:AS).ok μ ⟨MQ 0 ds,[]⟩:=⟨QaU U,rfl,q3,q1,q2⟩;obtain⟨a1,T,e1,h4⟩:=Qhn (l:=an.ox) ha;have h3:=QEs.1 (QEs.1 h2 az V) a1 T;split at h3;rename_i outs e;have hx:=P4 (P:=P) (nt:=tf.nt) M G h4 e;obtain⟨d,⟨g,w1,w2,w3⟩,w4⟩:=Ok.uh (R:=λd=>∃g,(μ++g).length=c.mx/\k8 (μ++g) c.rc/\c.rv.has (μ++g) d) hm hf hp (by rw[YH q4];simp_all) (Y1 (λe s ⟨a,O,f2,h5⟩=>Qn3 (f:=e1++f2) Wc q1 (QEs.1 h3 _ O)) hx) hg
 grind
 grind
def Qzs (t:Nat):List Nat->List Nat
 |[]=>[t]
 |u::l=>if Nat.blt t u=true then t::u::l else if Nat.beq t u=true then u::l else u::Qzs t l
def Qlk (a b:List Nat):List Nat:=a.foldl (λl t=>Qzs t l) b
def Qxo (x:y5):List Nat:=match x with
 | .s t=>[t]
 | .c _=>[]
def QEb (o:u3):List Nat:=(o.op.l7.flatMap Qxo)++(o.guard.map Prod.fst).toList
def QzJ (ops:List u3) (out:List Nat):List Nat:=ops.foldr (λo l=>Qlk (QEb o) (match o.dst with
 |some t=>l.filter λu=>!Nat.beq u t
 |none=>l)) out
def exN (id:Nat):List (Nat × List Nat)->List Nat
 |[]=>[]
 |p::l=>if Nat.beq p.1 id=true then p.2 else exN id l
def Qoi (f:List Nat->List Nat):Nat->List Nat->List Nat
 |0,l=>l
 |n+1,l=>Qoi f n (Qlk (f l) l)
def lvN:l8->List Nat->List (Nat × List Nat)->List Nat->List Nat
 | .skip,out,_,_=>out
 | .region _ ops,out,_,_=>QzJ ops out
 | .na ops,out,_,_=>QzJ ops out
 | .seq a b,out,ex,rt=>lvN a (lvN b out ex rt) ex rt
 | .cond c a b,out,ex,rt=>Qlk (Qxo c) (Qlk (lvN a out ex rt) (lvN b out ex rt))
 | .block id a,out,ex,rt=>lvN a out ((id,out)::ex) rt
 | .loop a,_,ex,rt=>Qoi (λl=>lvN a l ex rt) 3 []
 | .scope a,out,ex,rt=>lvN a out ex rt
 | .exit id,_,ex,_=>exN id ex
 | .ret,_,_,rt=>rt
 | .z8 x p q a,out,ex,rt=>Qlk (Qxo x) (Qlk rt (Qlk (ex.flatMap Prod.snd) (Qlk (lvN a [] (ex.map λe=>(e.1,[])) []) out)))
def Qat:l8->List Nat->List (Nat × List Nat)->List Nat->z5
 | .skip,_,_,_=>.skip
 | .region d ops,_,_,_=>.region d ops
 | .na ops,_,_,_=>.na ops
 | .seq a b,out,ex,rt=>match lvN b out ex rt with
  |l=>.seq (Qat a l ex rt) l (Qat b out ex rt)
 | .cond c a b,out,ex,rt=>.cond c (Qat a out ex rt) (Qat b out ex rt)
 | .block id a,out,ex,rt=>.block id (Qat a out ((id,out)::ex) rt)
 | .loop a,_,ex,rt=>match Qoi (λl=>lvN a l ex rt) 3 []with
  |l=>.loop (Qat a l ex rt)
 | .scope a,out,ex,rt=>.scope (Qat a out ex rt)
 | .exit id,_,_,_=>.exit id
 | .ret,_,_,_=>.ret
 | .z8 x p q a,out,ex,rt=>.z8 x p q (Qat a [] (ex.map λe=>(e.1,[])) [])
theorem Xo:∀(c:l8) (out:List Nat) (ex:List (Nat × List Nat)) (rt:List Nat),(Qat c out ex rt).erase=c
 | .skip,_,_,_=>rfl
 | .region _ _,_,_,_=>rfl
 | .na _,_,_,_=>rfl
 | .seq a b,out,ex,rt=>by simp only[Qat,z5.erase,Xo a,Xo b]
 | .cond c a b,out,ex,rt=>by simp only[Qat,z5.erase,Xo a,Xo b]
 | .block id a,out,ex,rt=>by simp only[Qat,z5.erase,Xo a]
 | .loop a,out,ex,rt=>by simp only[Qat,z5.erase,Xo a]
 | .scope a,out,ex,rt=>by simp only[Qat,z5.erase,Xo a]
 | .exit id,_,_,_=>rfl
 | .ret,_,_,_=>rfl
 | .z8 x p q a,out,ex,rt=>by simp only[Qat,z5.erase,Xo a]
def QBT:Jx->Nat
 | .tmp t=>t
 | .cell t _ _=>t
def tfN (af:AFn):o6:=match Qlk (af.rs.map QBT) []with
 |rt=>⟨af.nt,af.rs,Qat af.body rt [] rt⟩
theorem MK (af:AFn):(tfN af).erase=af:=by
 (repeat clear hK K);simp_all [tfN,o6.erase,Xo]
def ctP (P:Program) (tb:Tb) (an:An) (c:Ct) (f:Nat):Bool:=
 match P.funcs[f]? with
 |some fn=>(match QT P fn with
  |some af=>ctB tb an c (tfN af)
  |none=>false)
 |none=>false
theorem Ct.wh {P:Program} {f:Nat} {tb:Tb} {c:Ct} (an:An) (G:tb.ok P) (C:tb.fg P) (hm:P.follows .mixedOrders=true) (hb:ctP P tb an c f=true) (M:Gz f=[]:=by rfl):c.ok P f:=by
 grind [ctP,Ct.by,MK]
end Go.Abs
