/- Part 22 of the means of the proof: a verified evaluator and contracts of functions. -/
import Derived.Test.YtggcpapoljmiaaaGreatDoorC14
import Derived.Test.YtggcpapoljmiaaaGreatDoorC21
set_option maxRecDepth 4000
set_option maxHeartbeats 4000000
set_option linter.unusedSimpArgs false
set_option linter.unusedVariables false
set_option linter.unusedSectionVars false
namespace Go.Proofs
open Go Go.Abs M3
set_option maxRecDepth 100000
theorem Qps:∀c∈spG 35,c.ok Tryz.prog 35:=by
 intro c C;have e:spG 35=[⟨[ty tI,.nn .i64 1 0],2,[(0,1, -1),(1,0,1000)],.nn .i64 2 0,3,[(0,2,0),(2,1, -1)]⟩]:=by rfl
 rw[e,QzW]at C;subst C;intro μ ds h1 h2 O h4
 match μ,h1,h2 with
 |[z,n],_,h2=>
  obtain rfl:z=0:=by simpa using h2
  obtain⟨d1,r1,rfl,⟨v,rfl,V,U⟩,d2,r2,rfl,⟨m,rfl,k,T,q4⟩,rfl⟩:=h4;obtain rfl:k=n:=by simpa using T.symm
  obtain rfl:m=k:=Wa;obtain⟨a,b,p1,p2,M⟩:=O (0,1, -1) Wc;obtain⟨a',b',p4,Y,G⟩:=O (1,0,1000) Wc;obtain rfl:0=a:=by simpa using p1
  obtain rfl:m=b:=by simpa using p2
  obtain rfl:m=a':=by simpa using p4
  obtain rfl:0=b':=by simpa using Y
  have M:(0:Int)<=m+ -1:=M;have G:m<=0+1000:=G;have t1:=Int.tmod_lt_of_pos v (Wa:0<m);have t2:=Int.lt_tmod_of_pos v (Wa:0<m);have g1:0<=Y6 v m/\Y6 v m<=m - 1:=by unfold Y6;split<;>constructor<;>omega
  refine⟨[Y6 v m],.int .i64 (Y6 v m),rfl, ?_,⟨_,rfl,_,rfl,Wa⟩,XW ⟨Wa,Wa⟩ ⟨V,U⟩⟩;intro c C;simp only[QzP,QzO,or_false]at C;rcases C with rfl |rfl
  exact⟨0,Y6 v m,rfl,rfl,by show(0:Int)<=Y6 v m+0;omega⟩
  exact⟨Y6 v m,m,rfl,rfl,by show Y6 v m<=m+ -1;omega⟩
open M25
variable {l:List (Cu × Cu)} {r:List D}
theorem Qeb {d:D} {rows:List (List D)} (h:isL d rows):d.can=.sl rows:=by
 rcases h with rfl |rfl<;>rfl
def QC (c:Cu):Prop:=Tp.u3 Qdx (dCu c)
theorem Qhp:QC ZS:=by
 refine⟨_,_,rfl,⟨_,rfl,by decide,by decide⟩,_,_,rfl,⟨_,rfl,by decide,by decide⟩,_,_,rfl,⟨_,rfl,by decide,by decide⟩,_,_,rfl,⟨_,rfl,by decide,by decide⟩,_,_,rfl,⟨_,rfl,by decide⟩,_,_,rfl,⟨_,rfl,by decide⟩,_,_,rfl,⟨_,rfl⟩,rfl⟩
theorem QkD:QC XP:=by
 refine⟨_,_,rfl,⟨_,rfl,by decide,by decide⟩,_,_,rfl,⟨_,rfl,by decide,by decide⟩,_,_,rfl,⟨_,rfl,by decide,by decide⟩,_,_,rfl,⟨_,rfl,by decide,by decide⟩,_,_,rfl,⟨_,rfl,by decide⟩,_,_,rfl,⟨_,rfl,by decide⟩,_,_,rfl,⟨_,rfl⟩,rfl⟩
theorem QoE {c:Cu} (h:QC c):Cu.sm c:=by
 obtain⟨d1,r1,e1,_,d2,r2,e2,_,d3,r3,e3,_,d4,Y,M,_,d5,V,G,⟨p,T,q2⟩,d6,U,C,⟨q,O,q4⟩,_⟩:=h;simp only[dCu,QA3]at e1;obtain⟨_,rfl⟩:=e1;simp only[QA3]at e2;obtain⟨_,rfl⟩:=e2;simp only[QA3]at e3;obtain⟨_,rfl⟩:=e3;simp only[QA3]at M;obtain⟨_,rfl⟩:=M;simp only[QA3]at G;obtain⟨rfl,rfl⟩:=G;simp only[QA3]at C;obtain⟨rfl,rfl⟩:=C;cases T;cases O;exact⟨Wa,Wa⟩
theorem GF:∀{a b:List Tp} {r:List D},Tp.u3 (a++b) r->∃x y,r=x++y/\Tp.u3 a x/\Tp.u3 b y
 |[],b,r,h=>⟨[],r,rfl,rfl,h⟩
 |t::a,b,r,h=>by
  obtain⟨d,M,rfl,h1,h2⟩:=h;obtain⟨x,y,rfl,G,C⟩:=GF h2;exact⟨d::x,y,rfl,⟨d,x,rfl,h1,G⟩,C⟩
theorem QaK:∀{a b:List Tp} {x y:List D},Tp.u3 a x->Tp.u3 b y->Tp.u3 (a++b) (x++y)
 |[],b,x,y,h,h2=>by obtain rfl:x=[]:=h;exact h2
 |t::a,b,x,y,h,h2=>by
  obtain⟨d,C,rfl,h1,G⟩:=h;exact⟨d,C++y,rfl,h1,QaK G h2⟩
theorem QjE (h:Tp.u3 Qdx r):∃c:Cu,r=dCu c/\QC c:=by
 have h0:=h;obtain⟨d1,V,rfl,⟨e,rfl,_⟩,d2,U,rfl,⟨a,rfl,_⟩,d3,T,rfl,⟨b,rfl,_⟩,d4,O,rfl,⟨c,rfl,_⟩,d5,M,rfl,⟨p,rfl,_⟩,d6,G,rfl,⟨q,rfl,_⟩,d7,C,rfl,⟨f,rfl⟩,rfl⟩:=h;exact⟨⟨e,a,b,c,p,q,f⟩,rfl,h0⟩
theorem QnJ (h:Tp.u3 Yo r):∃s:Cu × Cu,r=JJ s/\QC s.1/\QC s.2:=by
 obtain⟨x,y,rfl,h1,h2⟩:=GF h;obtain⟨c,rfl,G⟩:=QjE h1;obtain⟨d,rfl,C⟩:=QjE h2;exact⟨(c,d),rfl,G,C⟩
theorem NL:∀{rows:List (List D)},(∀r∈rows,Tp.u3 Yo r)->∃l:List (Cu × Cu),rows=l.map JJ/\∀s∈l,QC s.1/\QC s.2
 |[],_=>⟨[],rfl,by simp⟩
 |r::rows,h=>by
  obtain⟨s,rfl,h1⟩:=QnJ (h r Wc);obtain⟨l,rfl,h2⟩:=NL (λr hr=>h r (QAQ _ hr));refine⟨s::l,rfl,λt C=>?_⟩;rcases QzP.1 C with rfl |C
  exact h1;exact h2 t C
theorem QbW (h:∀s∈l,QC s.1/\QC s.2):∀r∈l.map JJ,Tp.u3 Yo r:=λr hr=>by
 obtain⟨s,C,rfl⟩:=Qz1.1 hr;exact QaK (h s C).1 (h s C).2
theorem QiW (h:∀s∈l,QC s.1/\QC s.2) (n:l.length<=4194304):Sm l:=⟨n,λs C=>⟨QoE (h s C).1,QoE (h s C).2⟩⟩
variable {a b:List (Cu × Cu)}
theorem QoY {P:Program} {f:Nat} {op:List (Cu × Cu)->List (Cu × Cu)->List (Cu × Cu)} (G:∀a b,(∀s∈a,QC s.1/\QC s.2)->(∀s∈b,QC s.1/\QC s.2)->(op a b).length<=2*(a.length+b.length)+1/\∀s∈op a b,QC s.1/\QC s.2)
 (h:∀a b,Sm a->Sm b->a.length+b.length<=4194304->Ok P f [Qv a,Qv b] (Qv (op a b))) {p q:Nat} (hpq:p+q<=4194304):(cLa p q).ok P f:=by
 intro μ ds h1 h2 T h4;have h1:μ.length=3:=h1
 match μ,h1,h2 with
 |[z,m,n],_,h2=>
  obtain rfl:z=0:=by simpa using h2
  obtain⟨d1,r1,rfl,⟨ra,i1,⟨v1,j1,k1⟩,t1⟩,d2,r2,rfl,⟨rb,i2,⟨v2,j2,k2⟩,t2⟩,rfl⟩:=h4;obtain rfl:m=v1:=by simpa using j1
  obtain rfl:n=v2:=by simpa using j2
  obtain⟨a,rfl,ha⟩:=NL t1;obtain⟨b,rfl,hb⟩:=NL t2;obtain⟨x1,V,p1,p2,O⟩:=T (1,0,(p:Int)) (by simp[cLa,cLk,cL,S4,pms]);obtain⟨Y,U,p4,p5,M⟩:=T (2,0,(q:Int)) (by simp[cLa,cLk,cL,S4,pms]);obtain rfl:m=x1:=by simpa using p1
  obtain rfl:0=V:=by simpa using p2
  obtain rfl:n=Y:=by simpa using p4
  obtain rfl:0=U:=by simpa using p5
  have O:m<=0+(p:Int):=O;have M:n<=0+(q:Int):=M;simp only[QAH]at k1 k2;obtain⟨g1,g2⟩:=G a b ha hb;refine⟨[((op a b).length:Int)],Qv (op a b),rfl, ?_,⟨_,.inl rfl,⟨_,rfl,by simp⟩,QbW g2⟩,Ok.can ?_⟩;intro c C;have C:c∈[((0:Nat),(3:Nat),(0:Int)),(3,0,((2*(p+q)+1:Nat):Int))]:=C;simp only[QzP,QzO,or_false]at C;rcases C with rfl |rfl
  exact⟨0,_,rfl,rfl,by show(0:Int)<=((op a b).length:Int)+0;omega⟩
  exact⟨_,0,rfl,rfl,by show((op a b).length:Int)<=0+((2*(p+q)+1:Nat):Int);omega⟩
  have e:[d1,d2].map D.can=[Qv a,Qv b]:=by simp only[QAr,QAV,Qeb i1,Qeb i2,Qv]
  rw[e];exact h a b (QiW ha Wa) (QiW hb Wa) Wa
theorem Qix (ha:∀s∈a,QC s.1/\QC s.2) (hb:∀s∈b,QC s.1/\QC s.2):∀s∈a++b,QC s.1/\QC s.2:=λs C=>(QzY.1 C).elim (ha s) (hb s)
theorem Qsy (ha:∀s∈a,QC s.1/\QC s.2) (hb:∀s∈b,QC s.1/\QC s.2):(Cy a b).length<=2*(a.length+b.length)+1/\∀s∈Cy a b,QC s.1/\QC s.2:=by
 unfold Cy;split;have:=Qpk Qhp QkD (λx y=>mIn a x y&&mIn b x y) (Qix ha hb);rw[QAs]at this;exact this;exact⟨QzZ _,by simp⟩
theorem Qw9:∀c∈spG 271,c.ok Tryz.prog 271:=by
 intro c G;have e:spG 271=[(1,9),(25,9)].map λp=>cLa p.1 p.2:=rfl;rw[e]at G;obtain⟨p,hp,rfl⟩:=Qz1.1 G;exact QoY (λa b ha hb=>Qsy ha hb) (λa b ha hb C=>JU ha hb C) ((by decide:∀p∈[((1:Nat),(9:Nat)),(25,9)],p.1+p.2<=4194304) p hp)
def smL (l:List (Cu × Cu)):Bool:=Nat.ble l.length 1000&&l.all λs=>Nat.ble s.1.p.length 1000&&(Nat.ble s.1.q.length 1000&&(Nat.ble s.2.p.length 1000&&Nat.ble s.2.q.length 1000))
theorem Qcq (h:smL l=true):Sm l/\l.length<=1000:=by
 simp only[smL,QzR,Nat.ble_eq,QzX]at h;refine⟨⟨Wa,λs C=>?_⟩,h.1⟩;have:=h.2 s C;exact⟨⟨Wa,Wa⟩,Wa,Wa⟩
def spL (a:List (List D)):Option (List (Cu × Cu)):=match Bi a with
 |some l=>if smL l=true then some l else none
 |none=>none
theorem TC {a:List (List D)} (h:spL a=some l):a=l.map JJ/\Sm l/\l.length<=1000:=by
 unfold spL at h;split at h;rename_i l2 e;split at h;rename_i h2;cases h;exact⟨NS e,Qcq h2⟩;cases h
 cases h
def orS (f:Nat) (ds:List D):Option D:=match ds with
 |[.sl a]=>if Nat.beq f 288=true then(match spL a with
   |some x=>some (Qv (Qiw x))
   |none=>none)else if Nat.beq f 286=true then(match spL a with
   |some x=>some (.l7 [Qv (Qag x),.bool (x.all Gk)])
   |none=>none)else none
 |[.sl a,.sl b]=>if Nat.beq f 271=true then(match spL a,spL b with
   |some x,some y=>some (Qv (Cy x y))
   |_,_=>none)else if Nat.beq f 276=true then(match spL a,spL b with
   |some x,some y=>some (Qv (QpJ x y))
   |_,_=>none)else none
 |_=>none
theorem Qqc (f:Nat) (ds:List D) (d:D) (h:orS f ds=some d):Ok Tryz.prog f ds d:=by
 unfold orS at h;split at h;split at h;rename_i e;have e:=QA6 e;subst e;split at h;rename_i x ex;cases h;obtain⟨rfl,h1,_⟩:=TC ex;exact FY h1;cases h
 split at h;rename_i e;have e:=QA6 e;subst e;split at h;rename_i x ex;cases h;obtain⟨rfl,h1,_⟩:=TC ex;exact Jp h1;cases h
 cases h
 split at h;rename_i e;have e:=QA6 e;subst e;split at h;rename_i x y ex C;cases h;obtain⟨rfl,h1,g1⟩:=TC ex;obtain⟨rfl,h2,g2⟩:=TC C;exact JU h1 h2 Wa;cases h
 split at h;rename_i e;have e:=QA6 e;subst e;split at h;rename_i x y ex C;cases h;obtain⟨rfl,h1,g1⟩:=TC ex;obtain⟨rfl,h2,g2⟩:=TC C;exact N6 h1 h2 Wa;cases h
 cases h
 cases h
def fsS:List Nat:=[222,47,78,108,109,110,116,122,123,128,136,147,155,159,160,161,162,166,167,168,169,189,190,194,195,196,197,198,199,200,202,211,213,214,215,216,217,227,229,230,237,238,239,240,241,242,243,244,249,253,257,258,259,260,267,268,272,277,278,279,287,289,292,293]
def Qpz (n:Int):Bool:=decide (-9223372036854775808<=n)&&decide (n<=9223372036854775807)
def cuB (c:Cu):Bool:=(decide (-1<=c.e)&&decide (c.e<=1))&&(Qpz c.a&&(Qpz c.b&&Qpz c.c))
def QqJ (l:List (Cu × Cu)):Bool:=l.all λs=>cuB s.1&&cuB s.2
def QrA (k:Nat) (a:List (List D)):Bool:=match Bi a with
 |some x=>spB k x&&QqJ x
 |none=>false
def ofB (P:Program) (t:List UInt8):Bool:=match exX orS (Qhh P fsS) 200 222 [.str t] []with
 |some (.l7 [.agg [.sl a,.sl b],.int .i64 e],_)=>(decide (0<=e)&&decide (e<=40))&&(QrA 0 a&&QrA 1 b)
 |_=>false
end Go.Proofs
