/- Part 21 of the means of the proof: a verified evaluator and contracts of functions. -/
import Derived.Test.YtggcpapoljmiaaaGreatDoorB15
set_option maxRecDepth 4000
set_option maxHeartbeats 4000000
set_option linter.unusedSimpArgs false
set_option linter.unusedVariables false
set_option linter.unusedSectionVars false
namespace Go.Proofs
open Go Go.Abs M3 M25
set_option maxRecDepth 100000
variable {l:List (Cu × Cu)} {r:List D}
theorem QeI {d:D} {rows:List (List D)} (h:isL d rows):d.can=.sl rows:=by
 rcases h with rfl |rfl<;>rfl
def QC (c:Cu):Prop:=Tp.u3 Qd0 (dCu c)
theorem QhO:QC ZS:=by
 refine⟨_,_,rfl,⟨_,rfl,by decide,by decide⟩,_,_,rfl,⟨_,rfl,by decide,by decide⟩,_,_,rfl,⟨_,rfl,by decide,by decide⟩,_,_,rfl,⟨_,rfl,by decide,by decide⟩,_,_,rfl,⟨_,rfl,by decide⟩,_,_,rfl,⟨_,rfl,by decide⟩,_,_,rfl,⟨_,rfl⟩,rfl⟩
theorem QkQ:QC XW:=by
 refine⟨_,_,rfl,⟨_,rfl,by decide,by decide⟩,_,_,rfl,⟨_,rfl,by decide,by decide⟩,_,_,rfl,⟨_,rfl,by decide,by decide⟩,_,_,rfl,⟨_,rfl,by decide,by decide⟩,_,_,rfl,⟨_,rfl,by decide⟩,_,_,rfl,⟨_,rfl,by decide⟩,_,_,rfl,⟨_,rfl⟩,rfl⟩
theorem QoU {c:Cu} (h:QC c):Cu.sm c:=by
 obtain⟨d1,r1,e1,_,d2,r2,e2,_,d3,r3,e3,_,d4,Y,M,_,d5,V,G,⟨p,T,q2⟩,d6,U,C,⟨q,O,q4⟩,_⟩:=h;simp only[dCu,QBz]at e1;obtain⟨_,rfl⟩:=e1;simp only[QBz]at e2;obtain⟨_,rfl⟩:=e2;simp only[QBz]at e3;obtain⟨_,rfl⟩:=e3;simp only[QBz]at M;obtain⟨_,rfl⟩:=M;simp only[QBz]at G;obtain⟨rfl,rfl⟩:=G;simp only[QBz]at C;obtain⟨rfl,rfl⟩:=C;cases T;cases O;exact⟨Wa,Wa⟩
theorem GM:∀{a b:List Tp} {r:List D},Tp.u3 (a++b) r->∃x y,r=x++y/\Tp.u3 a x/\Tp.u3 b y
 |[],b,r,h=>⟨[],r,rfl,rfl,h⟩
 |t::a,b,r,h=>by
  obtain⟨d,M,rfl,h1,h2⟩:=h;obtain⟨x,y,rfl,G,C⟩:=GM h2;exact⟨d::x,y,rfl,⟨d,x,rfl,h1,G⟩,C⟩
theorem Qbd:∀{a b:List Tp} {x y:List D},Tp.u3 a x->Tp.u3 b y->Tp.u3 (a++b) (x++y)
 |[],b,x,y,h,h2=>by obtain rfl:x=[]:=h;exact h2
 |t::a,b,x,y,h,h2=>by
  obtain⟨d,C,rfl,h1,G⟩:=h;exact⟨d,C++y,rfl,h1,Qbd G h2⟩
theorem QjV (h:Tp.u3 Qd0 r):∃c:Cu,r=dCu c/\QC c:=by
 have h0:=h;obtain⟨d1,V,rfl,⟨e,rfl,_⟩,d2,U,rfl,⟨a,rfl,_⟩,d3,T,rfl,⟨b,rfl,_⟩,d4,O,rfl,⟨c,rfl,_⟩,d5,M,rfl,⟨p,rfl,_⟩,d6,G,rfl,⟨q,rfl,_⟩,d7,C,rfl,⟨f,rfl⟩,rfl⟩:=h;exact⟨⟨e,a,b,c,p,q,f⟩,rfl,h0⟩
theorem QnV (h:Tp.u3 Yn r):∃s:Cu × Cu,r=JT s/\QC s.1/\QC s.2:=by
 obtain⟨x,y,rfl,h1,h2⟩:=GM h;obtain⟨c,rfl,G⟩:=QjV h1;obtain⟨d,rfl,C⟩:=QjV h2;exact⟨(c,d),rfl,G,C⟩
theorem N3:∀{rows:List (List D)},(∀r∈rows,Tp.u3 Yn r)->∃l:List (Cu × Cu),rows=l.map JT/\∀s∈l,QC s.1/\QC s.2
 |[],_=>⟨[],rfl,by simp⟩
 |r::rows,h=>by
  obtain⟨s,rfl,h1⟩:=QnV (h r Wc);obtain⟨l,rfl,h2⟩:=N3 (λr hr=>h r (QBm _ hr));refine⟨s::l,rfl,λt C=>?_⟩;rcases QAm.1 C with rfl |C
  exact h1;exact h2 t C
theorem Qcn (h:∀s∈l,QC s.1/\QC s.2):∀r∈l.map JT,Tp.u3 Yn r:=λr hr=>by
 obtain⟨s,C,rfl⟩:=QAy.1 hr;exact Qbd (h s C).1 (h s C).2
theorem Qjh (h:∀s∈l,QC s.1/\QC s.2) (n:l.length<=4194304):Sm l:=⟨n,λs C=>⟨QoU (h s C).1,QoU (h s C).2⟩⟩
variable {a b:List (Cu × Cu)}
theorem Qpd {P:Program} {f:Nat} {op:List (Cu × Cu)->List (Cu × Cu)->List (Cu × Cu)} (G:∀a b,(∀s∈a,QC s.1/\QC s.2)->(∀s∈b,QC s.1/\QC s.2)->(op a b).length<=2*(a.length+b.length)+1/\∀s∈op a b,QC s.1/\QC s.2)
 (h:∀a b,Sm a->Sm b->a.length+b.length<=4194304->Ok P f [Qw a,Qw b] (Qw (op a b))) {p q:Nat} (hpq:p+q<=4194304):(cLa p q).ok P f:=by
 intro μ ds h1 h2 T h4;have h1:μ.length=3:=h1
 match μ,h1,h2 with
 |[z,m,n],_,h2=>
  obtain rfl:z=0:=by simpa using h2
  obtain⟨d1,r1,rfl,⟨ra,i1,⟨v1,j1,k1⟩,t1⟩,d2,r2,rfl,⟨rb,i2,⟨v2,j2,k2⟩,t2⟩,rfl⟩:=h4;obtain rfl:m=v1:=by simpa using j1
  obtain rfl:n=v2:=by simpa using j2
  obtain⟨a,rfl,ha⟩:=N3 t1;obtain⟨b,rfl,hb⟩:=N3 t2;obtain⟨x1,V,p1,p2,O⟩:=T (1,0,(p:Int)) (by simp[cLa,cLk,cL,SU,pms]);obtain⟨Y,U,p4,p5,M⟩:=T (2,0,(q:Int)) (by simp[cLa,cLk,cL,SU,pms]);obtain rfl:m=x1:=by simpa using p1
  obtain rfl:0=V:=by simpa using p2
  obtain rfl:n=Y:=by simpa using p4
  obtain rfl:0=U:=by simpa using p5
  have O:m<=0+(p:Int):=O;have M:n<=0+(q:Int):=M;simp only[QBd]at k1 k2;obtain⟨g1,g2⟩:=G a b ha hb;refine⟨[((op a b).length:Int)],Qw (op a b),rfl, ?_,⟨_,.inl rfl,⟨_,rfl,by simp⟩,Qcn g2⟩,Ok.can ?_⟩;intro c C;have C:c∈[((0:Nat),(3:Nat),(0:Int)),(3,0,((2*(p+q)+1:Nat):Int))]:=C;simp only[QAm,QAl,or_false]at C;rcases C with rfl |rfl
  exact⟨0,_,rfl,rfl,by show(0:Int)<=((op a b).length:Int)+0;omega⟩
  exact⟨_,0,rfl,rfl,by show((op a b).length:Int)<=0+((2*(p+q)+1:Nat):Int);omega⟩
  have e:[d1,d2].map D.can=[Qw a,Qw b]:=by simp only[QAX,QBr,QeI i1,QeI i2,Qw]
  rw[e];exact h a b (Qjh ha Wa) (Qjh hb Wa) Wa
theorem QiS (ha:∀s∈a,QC s.1/\QC s.2) (hb:∀s∈b,QC s.1/\QC s.2):∀s∈a++b,QC s.1/\QC s.2:=λs C=>(QAv.1 C).elim (ha s) (hb s)
theorem QsP (ha:∀s∈a,QC s.1/\QC s.2) (hb:∀s∈b,QC s.1/\QC s.2):(CO a b).length<=2*(a.length+b.length)+1/\∀s∈CO a b,QC s.1/\QC s.2:=by
 unfold CO;split;have:=Qpx QhO QkQ (λx y=>mIn a x y&&mIn b x y) (QiS ha hb);rw[QAY]at this;exact this;exact⟨QAw _,by simp⟩
theorem Qxr:∀c∈spG 271,c.ok Tryz.prog 271:=by
 intro c G;have e:spG 271=[(1,9),(25,9)].map λp=>cLa p.1 p.2:=rfl;rw[e]at G;obtain⟨p,hp,rfl⟩:=QAy.1 G;exact Qpd (λa b ha hb=>QsP ha hb) (λa b ha hb C=>J3 ha hb C) ((by decide:∀p∈[((1:Nat),(9:Nat)),(25,9)],p.1+p.2<=4194304) p hp)
def smL (l:List (Cu × Cu)):Bool:=Nat.ble l.length 1000&&l.all λs=>Nat.ble s.1.p.length 1000&&(Nat.ble s.1.q.length 1000&&(Nat.ble s.2.p.length 1000&&Nat.ble s.2.q.length 1000))
theorem QcU (h:smL l=true):Sm l/\l.length<=1000:=by
 simp only[smL,QAo,Nat.ble_eq,QAu]at h;refine⟨⟨Wa,λs C=>?_⟩,h.1⟩;have:=h.2 s C;exact⟨⟨Wa,Wa⟩,Wa,Wa⟩
def spL (a:List (List D)):Option (List (Cu × Cu)):=match BC a with
 |some l=>if smL l=true then some l else none
 |none=>none
theorem TR {a:List (List D)} (h:spL a=some l):a=l.map JT/\Sm l/\l.length<=1000:=by
 unfold spL at h;split at h;rename_i l2 e;split at h;rename_i h2;cases h;exact⟨N8 e,QcU h2⟩;cases h
 cases h
def orS (f:Nat) (ds:List D):Option D:=match ds with
 |[.sl a]=>if Nat.beq f 288=true then(match spL a with
   |some x=>some (Qw (QdA x))
   |none=>none)else if Nat.beq f 286=true then(match spL a with
   |some x=>some (.u7 [Qw (QaG x),.bool (x.all Gt)])
   |none=>none)else none
 |[.sl a,.sl b]=>if Nat.beq f 271=true then(match spL a,spL b with
   |some x,some y=>some (Qw (CO x y))
   |_,_=>none)else if Nat.beq f 276=true then(match spL a,spL b with
   |some x,some y=>some (Qw (Qp0 x y))
   |_,_=>none)else none
 |_=>none
theorem Qqp (f:Nat) (ds:List D) (d:D) (h:orS f ds=some d):Ok Tryz.prog f ds d:=by
 unfold orS at h;split at h;split at h;rename_i e;have e:=QBC e;subst e;split at h;rename_i x ex;cases h;obtain⟨rfl,h1,_⟩:=TR ex;exact Nk h1;cases h
 split at h;rename_i e;have e:=QBC e;subst e;split at h;rename_i x ex;cases h;obtain⟨rfl,h1,_⟩:=TR ex;exact JA h1;cases h
 cases h
 split at h;rename_i e;have e:=QBC e;subst e;split at h;rename_i x y ex C;cases h;obtain⟨rfl,h1,g1⟩:=TR ex;obtain⟨rfl,h2,g2⟩:=TR C;exact J3 h1 h2 Wa;cases h
 split at h;rename_i e;have e:=QBC e;subst e;split at h;rename_i x y ex C;cases h;obtain⟨rfl,h1,g1⟩:=TR ex;obtain⟨rfl,h2,g2⟩:=TR C;exact Mn h1 h2 Wa;cases h
 cases h
 cases h
def fsS:List Nat:=[222,47,78,108,109,110,116,122,123,128,136,147,155,159,160,161,162,166,167,168,169,189,190,194,195,196,197,198,199,200,202,211,213,214,215,216,217,227,229,230,237,238,239,240,241,242,243,244,249,253,257,258,259,260,267,268,272,277,278,279,287,289,292,293]
def QpO (n:Int):Bool:=decide (-9223372036854775808<=n)&&decide (n<=9223372036854775807)
def cuB (c:Cu):Bool:=(decide (-1<=c.e)&&decide (c.e<=1))&&(QpO c.a&&(QpO c.b&&QpO c.c))
def QqV (l:List (Cu × Cu)):Bool:=l.all λs=>cuB s.1&&cuB s.2
def QrS (k:Nat) (a:List (List D)):Bool:=match BC a with
 |some x=>spB k x&&QqV x
 |none=>false
def ofB (P:Program) (t:List UInt8):Bool:=match exX orS (QhF P fsS) 200 222 [.str t] []with
 |some (.u7 [.agg [.sl a,.sl b],.int .i64 e],_)=>(decide (0<=e)&&decide (e<=40))&&(QrS 0 a&&QrS 1 b)
 |_=>false
end Go.Proofs
