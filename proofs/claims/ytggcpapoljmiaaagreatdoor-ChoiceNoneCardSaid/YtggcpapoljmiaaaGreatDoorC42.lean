/- Part 42 of the means of the proof: a verified evaluator and contracts of functions. -/
import Derived.Test.YtggcpapoljmiaaaGreatDoorC13
import Derived.Test.YtggcpapoljmiaaaGreatDoorC15
import Derived.Test.YtggcpapoljmiaaaGreatDoorC16
import Derived.Test.YtggcpapoljmiaaaGreatDoorC17
import Derived.Test.YtggcpapoljmiaaaGreatDoorC18
import Derived.Test.YtggcpapoljmiaaaGreatDoorC19
import Derived.Test.YtggcpapoljmiaaaGreatDoorC23
import Derived.Test.YtggcpapoljmiaaaGreatDoorC24
import Derived.Test.YtggcpapoljmiaaaGreatDoorC25
import Derived.Test.YtggcpapoljmiaaaGreatDoorC26
import Derived.Test.YtggcpapoljmiaaaGreatDoorC27
import Derived.Test.YtggcpapoljmiaaaGreatDoorC28
import Derived.Test.YtggcpapoljmiaaaGreatDoorC29
import Derived.Test.YtggcpapoljmiaaaGreatDoorC30
import Derived.Test.YtggcpapoljmiaaaGreatDoorC31
import Derived.Test.YtggcpapoljmiaaaGreatDoorC32
import Derived.Test.YtggcpapoljmiaaaGreatDoorC33
import Derived.Test.YtggcpapoljmiaaaGreatDoorC34
import Derived.Test.YtggcpapoljmiaaaGreatDoorC35
import Derived.Test.YtggcpapoljmiaaaGreatDoorC36
import Derived.Test.YtggcpapoljmiaaaGreatDoorC37
import Derived.Test.YtggcpapoljmiaaaGreatDoorC38
import Derived.Test.YtggcpapoljmiaaaGreatDoorC40
import Derived.Test.YtggcpapoljmiaaaGreatDoorC41
import Derived.KernelRfl
set_option maxRecDepth 4000
set_option maxHeartbeats 4000000
set_option linter.unusedSimpArgs false
set_option linter.unusedVariables false
set_option linter.unusedSectionVars false
namespace Go.Proofs
open Go Go.Abs M3 M25
variable {b:Bl} {p q r:Bool} {t:List UInt8} {x:JH}
def Qjv (x:JH) (b:Bl) (p q r:Bool):Int:=if p=false then 4 else if b.n=x.n then 8 else if q=false then 6 else if r=false then 7 else 0
theorem QoS (h:Qjv x b p q r=0):b.n≠x.n:=λe=>by
 unfold Qjv at h;split at h<;>simp_all
theorem Fs (h1:Ok Tryz.prog 134 [.str b.n] (.bool p)) (h2:Ok Tryz.prog 175 [.str b.r] (.bool q)) (G:Ok Tryz.prog 232 [.str b.w] (.bool r)):Ok Tryz.prog 205 [.agg (ZP x),.agg (Lg b)] (.int .i64 (Qjv x b p q r)):=by
 refine Ok.b7 tfol Tryz.func205 Qu0 (QzN rfl) ?_;show TW _ _ tf205.body _ _;refine aS ?_;refine Qf h1 rfl rfl (.inr rfl) (aB ?_ ?_);intro e1;simp[Qjv,e1];intro e1;refine aB ?_ ?_;intro e2;simp[Qjv,e1,e2];intro e2;refine Qf h2 rfl rfl (.inr rfl) (aB ?_ ?_);intro e3;simp[Qjv,e1,e2,e3];intro e3;refine Qf G rfl rfl (.inr rfl) (aB ?_ ?_);intro C;simp[Qjv,e1,e2,e3,C];intro C;simp[Qjv,e1,e2,e3,C]
theorem HT (hbl:x.bs.length<=1000) (hnl:x.nd.length<=1000) (hfl:x.fd.length<=1000) (hb:∀b∈x.bs,∃e:Int,(e=0->b.n≠x.n)/\Ok Tryz.prog 205 [.agg (ZP x),.agg (Lg b)] (.int .i64 e)) (hn:∀r∈x.nd,∃a b c,(r=[.sl a,.str b,.str c]\/r=[.x7 a,.str b,.str c])/\∃e,Ok Tryz.prog 204 [.agg (ZP x),.agg [.sl a,.str b,.str c]] (.int .i64 e)) (hf:Ok Tryz.prog 206 [.sl x.fd] (.bool q)) (ye:∀r∈x.fd,∃a b c,r=[.str a,b]/\(b=.sl c\/b=.x7 c)/\∃e,Ok Tryz.prog 207 [.agg (ZP x),.sl c] (.int .i64 e)):
  ∃d,(∃e n:Int,d=.l7 [.int .i64 e,.int .i64 n]/\(e=0->∀b∈x.bs,b.n≠x.n))/\Ok Tryz.prog 173 [.agg (ZP x)] d:=by
 refine Ok.jd tfol Tryz.func173 QuH (QzN rfl) ?_;show TX _ _ tf173.body _ _;refine aS ?_;refine Xg (ι:=Nat) (λi=>⟨[(1,.ref 1 0 0),(4,.int .i64 i)],[(1,⟨[ZP x],9,100,true⟩)]⟩) (λi=>i<=x.nd.length) (λi=>x.nd.length - i) 0 ?_ ?_ ?_;exact Qn (l:=[1,4]) (lH:=[1]) (Qc rfl (Qc rfl Qs)) (Qa rfl Qb) rfl rfl rfl;exact QzZ _;intro i hi
 try dsimp only
 refine aB ?_ ?_;intro h1;obtain⟨a,b,c,U,e,C⟩:=hn _ (QzS (Wa:i<x.nd.length));obtain⟨y,V,G⟩:∃y,x.nd[i]=[y,.str b,.str c]/\(y=.sl a\/y=.x7 a):=by rcases U with U |U<;>exact⟨_,U,by simp⟩
 refine aK ?_;refine KM (row:=[y,.str b,.str c]) rfl rfl rfl Wa (by rw[Go.Abs.idx_at Wa,V]) rfl (aK ?_);refine Qw C rfl (by rcases G with rfl |rfl<;>rfl) (.inr rfl) (by rcases G with rfl |rfl<;>rfl) (by cbv) (aB ?_ ?_)
 intro h2;exact⟨_,⟨_,_,rfl,λh0=>absurd h0 h2⟩,Qr rfl rfl ⟨rfl,rfl⟩⟩;intro h2;refine Qd (i+1) ?_ ?_ ?_;exact Qn (l:=[1,4]) (lH:=[1]) (Qc rfl (Qc rfl Qs)) (Qa rfl Qb) rfl rfl rfl;show i+1<=x.nd.length;omega;omega;intro h1;refine Xg (ι:=Nat) (λi=>⟨[(1,.ref 1 0 0),(6,.int .i64 i)],[(1,⟨[ZP x],9,100,true⟩)]⟩) (λi=>i<=x.bs.length/\∀b∈x.bs.take i,b.n≠x.n) (λi=>x.bs.length - i) 0 ?_ ?_ ?_;exact Qn (l:=[1,6]) (lH:=[1]) (Qc rfl (Qc rfl Qs)) (Qa rfl Qb) rfl rfl rfl;exact⟨QzZ _,by simp⟩;intro i hi
 try dsimp only
 refine aB ?_ ?_;intro h2;have M:i<x.bs.length:=Wa;obtain⟨e,he,C⟩:=hb _ (QzS M);refine aK ?_;refine Qw C rfl rfl (.inr rfl) rfl (by cbv) (aB ?_ ?_);intro T;exact⟨_,⟨_,_,rfl,λh0=>absurd h0 T⟩,Qr rfl rfl ⟨rfl,rfl⟩⟩;intro T;refine Qd (i+1) ?_ ?_ ?_;exact Qn (l:=[1,6]) (lH:=[1]) (Qc rfl (Qc rfl Qs)) (Qa rfl Qb) rfl rfl rfl;exact⟨Wa,QgG hi.2 M (he (by simpa using T))⟩;omega;intro h2;have O:∀b∈x.bs,b.n≠x.n:=by rw[<- Qz3 (Wa:x.bs.length<=i)];exact hi.2
 refine Qf hf rfl rfl (.inr rfl) (aB ?_ ?_);intro T;exact⟨_,⟨_,_,rfl,λh0=>absurd h0 We⟩,Qr rfl rfl ⟨rfl,rfl⟩⟩;intro T;refine Xg (ι:=Nat) (λi=>⟨[(1,.ref 1 0 0),(8,.int .i64 i)],[(1,⟨[ZP x],9,100,true⟩)]⟩) (λi=>i<=x.fd.length) (λi=>x.fd.length - i) 0 ?_ ?_ ?_;exact Qn (l:=[1,8]) (lH:=[1]) (Qc rfl (Qc rfl Qs)) (Qa rfl Qb) rfl rfl rfl;exact QzZ _;intro i hi
 try dsimp only
 refine aB ?_ ?_;intro h4;obtain⟨a,y,c,V,G,e,C⟩:=ye _ (QzS (Wa:i<x.fd.length));refine aK ?_;refine KM (row:=[.str a,y]) rfl rfl rfl Wa (by rw[Go.Abs.idx_at Wa,V]) rfl (aK ?_);refine Qw C rfl (by rcases G with rfl |rfl<;>rfl) (.inr rfl) (by rcases G with rfl |rfl<;>rfl) (by cbv) (aB ?_ ?_)
 intro Y;exact⟨_,⟨_,_,rfl,λh0=>absurd h0 Y⟩,Qr rfl rfl ⟨rfl,rfl⟩⟩;intro Y;refine Qd (i+1) ?_ ?_ ?_;exact Qn (l:=[1,8]) (lH:=[1]) (Qc rfl (Qc rfl Qs)) (Qa rfl Qb) rfl rfl rfl;show i+1<=x.fd.length;omega;omega;intro h4;exact⟨_,⟨_,_,rfl,λ_=>O⟩,Qr rfl rfl ⟨rfl,rfl⟩⟩
theorem HR (O:x.bs.length<=1000) (M:x.nd.length<=1000) (h1:Ok Tryz.prog 134 [.str x.n] (.bool p)) (h2:Ok Tryz.prog 123 [.agg [.int .i64 x.v.a,.int .i64 x.v.b,.int .i64 x.v.c,.str x.v.p,.str x.v.q]] (.bool q)) (hp:∃d,(∃e n:Int,d=.l7 [.int .i64 e,.int .i64 n]/\(e=0->∀b∈x.bs,b.n≠x.n))/\Ok Tryz.prog 173 [.agg (ZP x)] d) (T:Ok Tryz.prog 174 [.agg (ZP x)] (.str t)):
  ∃d,(∃e n:Int,d=.l7 [.int .i64 e,.int .i64 n]/\(e=0->∀b∈x.bs,b.n≠x.n))/\Ok Tryz.prog 131 [.agg (ZP x)] d:=by
 obtain⟨_,⟨e,n,rfl,C⟩,U⟩:=hp;refine Ok.jd tfol Tryz.func131 Quk (QzN rfl) ?_;show TX _ _ tf131.body _ _;refine aS ?_;refine Qf h1 rfl rfl (.inr rfl) (aB ?_ ?_);intro e1;exact⟨_,⟨_,_,rfl,λh0=>absurd h0 We⟩,Qr rfl rfl ⟨rfl,rfl⟩⟩;intro e1;refine Qf h2 rfl rfl (.inr rfl) (aB ?_ ?_);intro e2;exact⟨_,⟨_,_,rfl,λh0=>absurd h0 We⟩,Qr rfl rfl ⟨rfl,rfl⟩⟩;intro e2;refine aB ?_ ?_;intro e3;refine HH rfl (aK ?_);exact⟨_,⟨_,_,rfl,λh0=>absurd h0 We⟩,Qr rfl rfl ⟨rfl,rfl⟩⟩;intro e3;refine aB ?_ ?_;intro Y;exact⟨_,⟨_,_,rfl,λh0=>absurd h0 We⟩,Qr rfl rfl ⟨rfl,rfl⟩⟩;intro Y;refine Qf U rfl rfl (.inl rfl) (aB ?_ ?_);intro G;exact⟨_,⟨_,_,rfl,λh0=>absurd h0 G⟩,Qr rfl rfl ⟨rfl,rfl⟩⟩;intro G;refine Qf T rfl rfl (.inr rfl) (aB ?_ ?_);intro V;exact⟨_,⟨_,_,rfl,λh0=>absurd h0 We⟩,Qr rfl rfl ⟨rfl,rfl⟩⟩;intro V;exact⟨_,⟨_,_,rfl,λ_=>C Wa⟩,Qr rfl rfl ⟨rfl,rfl⟩⟩
theorem HS (hp:∃d,(∃e n:Int,d=.l7 [.int .i64 e,.int .i64 n]/\(e=0->∀b∈x.bs,b.n≠x.n))/\Ok Tryz.prog 131 [.agg (ZP x)] d) (G:Ok Tryz.prog 174 [.agg (ZP x)] (.str t)):
  ∃d,(∃(s:List UInt8) (e:Int),d=.l7 [.str s,.int .i64 e]/\s.length<=t.length/\(e=0->∀b∈x.bs,b.n≠x.n))/\Ok Tryz.prog 170 [.agg (ZP x)] d:=by
 obtain⟨_,⟨e,n,rfl,C⟩,M⟩:=hp;refine Ok.jd tfol Tryz.func170 QuF (QzN rfl) ?_;show TX _ _ tf170.body _ _;refine aS ?_;refine Qf M rfl rfl (.inl rfl) (aB ?_ ?_);intro e1;exact⟨_,⟨_,_,rfl,QzZ _,λh0=>absurd h0 e1⟩,Qr rfl rfl ⟨rfl,rfl⟩⟩;intro e1;refine Qf G rfl rfl (.inr rfl) (aK ?_);exact⟨_,⟨_,_,rfl,QAe _,λ_=>C Wa⟩,Qr rfl rfl ⟨rfl,rfl⟩⟩
theorem Fr {k:Nat} (hp:∃d,(∃(s:List UInt8) (e:Int),d=.l7 [.str s,.int .i64 e]/\s.length<=k/\(e=0->∀b∈x.bs,b.n≠x.n))/\Ok Tryz.prog 170 [.agg (ZP x)] d) (T:∀l:List UInt8,l.length<=k->∃z:Int,(0<=z/\z<=18446744073709551615)/\Ok Tryz.prog 171 [.sl (l.map P2)] (.int .u64 z)):
  ∃d,(∃z e:Int,d=.l7 [.int .u64 z,.int .i64 e]/\(0<=z/\z<=18446744073709551615)/\(e=0->∀b∈x.bs,b.n≠x.n))/\Ok Tryz.prog 129 [.agg (ZP x)] d:=by
 obtain⟨_,⟨t,e,rfl,O,C⟩,U⟩:=hp;obtain⟨z,M,G⟩:=T t O;refine Ok.jd tfol Tryz.func129 Qui (QzN rfl) ?_;show TX _ _ tf129.body _ _;refine aS ?_;refine Qf U rfl rfl (.inl rfl) (aB ?_ ?_);intro e1;exact⟨_,⟨_,_,rfl,⟨by decide,by decide⟩,λh0=>absurd h0 e1⟩,Qr rfl rfl ⟨rfl,rfl⟩⟩;intro e1;refine Qhq rfl ?_;refine Qf G rfl rfl (.inr rfl) (aK ?_);exact⟨_,⟨_,_,rfl,M,λ_=>C Wa⟩,Qr rfl rfl ⟨rfl,rfl⟩⟩
theorem HX {m:Bs} (Y:m.pd.length<=1000) (hhl:m.hd.length<=1000) (hp:∃d,(∃e n:Int,d=.l7 [.int .i64 e,.int .i64 n]/\(e=0->∀b∈m.r.bs,b.n≠m.r.n))/\Ok Tryz.prog 131 [.agg (ZP m.r)] d) {e1 V e2 U:Int} (h1:Ok Tryz.prog 132 [.sl m.pd] (.l7 [.int .i64 e1,.int .i64 V])) (h2:Ok Tryz.prog 133 [.sl m.hd] (.l7 [.int .i64 e2,.int .i64 U])):
  ∃d,(∃e n:Int,d=.l7 [.int .i64 e,.int .i64 n]/\(e=0->∀b∈m.r.bs,b.n≠m.r.n))/\Ok Tryz.prog 91 [.agg (QaZ m)] d:=by
 obtain⟨_,⟨e,n,rfl,C⟩,h3⟩:=hp;refine Ok.jd tfol Tryz.func91 QzB (QzN rfl) ?_;show TX _ _ tf91.body _ _;refine aS ?_;refine Qf h3 rfl rfl (.inl rfl) (aB ?_ ?_);intro M;exact⟨_,⟨_,_,rfl,λh0=>absurd h0 M⟩,Qr rfl rfl ⟨rfl,rfl⟩⟩;intro M;refine aB ?_ ?_;intro T;refine HH rfl (aK ?_);exact⟨_,⟨_,_,rfl,λh0=>absurd h0 We⟩,Qr rfl rfl ⟨rfl,rfl⟩⟩;intro T;refine aB ?_ ?_;intro O;exact⟨_,⟨_,_,rfl,λh0=>absurd h0 We⟩,Qr rfl rfl ⟨rfl,rfl⟩⟩;intro O;refine Qf h1 rfl rfl (.inl rfl) (aB ?_ ?_);intro G;exact⟨_,⟨_,_,rfl,λh0=>absurd h0 G⟩,Qr rfl rfl ⟨rfl,rfl⟩⟩;intro G;refine Qf h2 rfl rfl (.inl rfl) (aK ?_);exact⟨_,⟨_,_,rfl,λ_=>C Wa⟩,Qr rfl rfl ⟨rfl,rfl⟩⟩
theorem HY {ms:List Bs} (Y:ms.length<=1000) (hc:∀m∈ms,∃d,(∃e n:Int,d=.l7 [.int .i64 e,.int .i64 n]/\(e=0->∀b∈m.r.bs,b.n≠m.r.n))/\Ok Tryz.prog 91 [.agg (QaZ m)] d) (hp:∀m∈ms,∃e,Ok Tryz.prog 92 [KS ms,.str m.r.n] (.int .i64 e)):
  ∃d,(∃e n:Int,d=.l7 [.int .i64 e,.int .i64 n]/\(e=0->∀m∈ms,∀b∈m.r.bs,b.n≠m.r.n))/\Ok Tryz.prog 62 [KS ms] d:=by
 refine Ok.jd tfol Tryz.func62 Qzq (QzN rfl) ?_;show TX _ _ tf62.body _ _;refine aX ?_ ?_;intro V;exact⟨_,⟨_,_,rfl,λh0=>absurd h0 We⟩,Qr rfl rfl ⟨rfl,rfl⟩⟩;intro V;refine aB ?_ ?_;intro U;exact⟨_,⟨_,_,rfl,λh0=>absurd h0 We⟩,Qr rfl rfl ⟨rfl,rfl⟩⟩;intro U;refine Xg (ι:=Nat) (λi=>⟨[(0,KS ms),(4,.int .i64 i)],[]⟩) (λi=>i<=ms.length/\∀m∈ms.take i,∀b∈m.r.bs,b.n≠m.r.n) (λi=>ms.length - i) 0 ?_ ?_ ?_;exact Qn (l:=[0,4]) (lH:=[]) (Qc rfl (Qc rfl Qs)) Qb rfl rfl rfl;exact⟨QzZ _,by simp⟩;intro i hi
 try dsimp only
 refine aB ?_ ?_;intro T;have C:i<ms.length:=Wa;obtain⟨_,⟨e,n,rfl,G⟩,h3⟩:=hc _ (QzS C);obtain⟨e4,h4⟩:=hp _ (QzS C);refine Qf h3 rfl rfl (.inl rfl) (aB ?_ ?_);intro M;exact⟨_,⟨_,_,rfl,λh0=>absurd h0 M⟩,Qr rfl rfl ⟨rfl,rfl⟩⟩;intro M;refine Qf h4 rfl rfl (.inr rfl) (aB ?_ ?_);intro O;exact⟨_,⟨_,_,rfl,λh0=>absurd h0 We⟩,Qr rfl rfl ⟨rfl,rfl⟩⟩;intro O;refine Qd (i+1) ?_ ?_ ?_;exact Qn (l:=[0,4]) (lH:=[]) (Qc rfl (Qc rfl Qs)) Qb rfl rfl rfl;exact⟨Wa,QgG hi.2 C (G Wa)⟩;omega;intro T;refine⟨_,⟨_,_,rfl,λ_=>?_⟩,Qr rfl rfl ⟨rfl,rfl⟩⟩;rw[<- Qz3 (Wa:ms.length<=i)];exact hi.2
end Go.Proofs
namespace Go.Proofs
open Go Go.Abs
set_option maxRecDepth 100000
set_option maxHeartbeats 0
theorem Qs6 (hm:Tryz.prog.follows .mixedOrders=true):∀f,∀c∈gW f,c.ok Tryz.prog f:=λf c C=>by
 unfold gW at C;split at C;rename_i e;have e:=QA6 e;subst e;simp only[QzP,QzO,or_false]at C;rcases C with rfl |rfl |rfl
 exact Ct.ud hm (λ_ _ _ h=>by cases h) Qxe;exact Ct.ud hm (λ_ _ _ h=>by cases h) Qxf;exact Ct.ud hm (λ_ _ _ h=>by cases h) Qxg;split at C;rename_i e;have e:=QA6 e;subst e;simp only[QzP,QzO,or_false]at C;rcases C with rfl |rfl |rfl
 exact Ct.ud hm (λ_ _ _ h=>by cases h) Qxb;exact Ct.ud hm (λ_ _ _ h=>by cases h) Qxc;exact Ct.ud hm (λ_ _ _ h=>by cases h) Qxd;split at C;rename_i e;have e:=QA6 e;subst e;simp only[QzP,QzO,or_false]at C;rcases C with rfl |rfl |rfl
 exact Ct.ud hm (λ_ _ _ h=>by cases h) Qxh;exact Ct.ud hm (λ_ _ _ h=>by cases h) Qxi;exact Ct.ud hm (λ_ _ _ h=>by cases h) Qxj;cases C
theorem Qwi (hm:Tryz.prog.follows .mixedOrders=true):∀f,∀c∈tbS gW spW f,c.ok Tryz.prog f:=(QgC hm (Qs6 hm) (gz:=noZ) (λ_ _ h=>by cases h) QqI).1
theorem Qv1 {α:Type} {a b c:α} {p:α->Prop} (ha:p a) (hb:p b) (C:p c):∀x∈[a,b,c],p x:=λx hx=>by
 simp only[QzP,QzO,or_false]at hx;rcases hx with rfl |rfl |rfl<;>assumption
theorem QjO (hm:Tryz.prog.follows .mixedOrders=true):∀c∈spG 232,c.ok Tryz.prog 232:=λc C=>by
 have e:spG 232=[c0 [pc NQ] tb]:=by rfl
 rw[e,QzW]at C;subst C;have w:tbS gW spW 232=[QhH 0,QhH 1,QhH 2]:=by rfl
 have h:=λc C=>Qwi hm 232 c (by rw[w];exact C)
 exact Ct.parts (gs:=[Qi3 0,Qi3 1,Qi3 2]) (by decide+kernel) (Qv1 (h (QhH 0) Wc) (h (QhH 1) Wc) (h (QhH 2) Wc))
theorem gOn (hm:Tryz.prog.follows .mixedOrders=true):∀c∈spG 184,c.ok Tryz.prog 184:=λc C=>by
 have e:spG 184=[c0 [pc NQ,.s GN] tb]:=by rfl
 rw[e,QzW]at C;subst C;have w:tbS gW spW 184=[QhG 0,QhG 1,QhG 2]:=by rfl
 have h:=λc C=>Qwi hm 184 c (by rw[w];exact C)
 exact Ct.parts (gs:=[Qi3 0,Qi3 1,Qi3 2]) (by decide+kernel) (Qv1 (h (QhG 0) Wc) (h (QhG 1) Wc) (h (QhG 2) Wc))
theorem QvX (hm:Tryz.prog.follows .mixedOrders=true):∀c∈spG 175,c.ok Tryz.prog 175:=λc G=>by
 have e:spG 175=[c0 [pc tRange] tb]:=rfl;rw[e,QzW]at G;subst G;refine Ct.parts (gs:=[Bo 0,Bo 1,Bo 2,Bo 3,Bo 4,Bo 5,Bo 6,Bo 7]) (by decide+kernel) λg C=>?_;simp only[QzP,QzO,or_false]at C;rcases C with rfl |rfl |rfl |rfl |rfl |rfl |rfl |rfl
 exact Ct.ud hm (λ_ _ _ h=>by cases h) Qxs;exact Ct.ud hm (λ_ _ _ h=>by cases h) Qxt;exact Ct.ud hm (λ_ _ _ h=>by cases h) Qxu;exact Ct.ud hm (λ_ _ _ h=>by cases h) Qxv;exact Ct.ud hm (λ_ _ _ h=>by cases h) Qxw;exact Ct.ud hm (λ_ _ _ h=>by cases h) Qxx;exact Ct.ud hm (λ_ _ _ h=>by cases h) Qxy;exact Ct.ud hm (λ_ _ _ h=>by cases h) Qxz
open M3 M25
set_option maxHeartbeats 4000000
theorem Gm {o:List UInt8} {p:List UInt8->Bool} (h1:((tVer.take 2).map λv=>o++v).all p=true) (h2:(((tVer.drop 2).take 2).map λv=>o++v).all p=true) (G:((tVer.drop 4).map λv=>o++v).all p=true):∀v∈tVer,p (o++v)=true:=λv C=>by
 have e:tVer=tVer.take 2++((tVer.drop 2).take 2++tVer.drop 4):=rfl;rw[e]at C;rcases QzY.1 C with C |C
 exact QzX.1 h1 _ (Qz1.2 ⟨v,C,rfl⟩);rcases QzY.1 C with C |C
 exact QzX.1 h2 _ (Qz1.2 ⟨v,C,rfl⟩);exact QzX.1 G _ (Qz1.2 ⟨v,C,rfl⟩)
theorem Qp3:∀t∈tRange,ofB Tryz.prog t=true:=λt G=>by
 rcases QzP.1 G with rfl |G;exact Qxq;obtain⟨o,ho,G⟩:=QzU.1 G
 obtain⟨v,C,rfl⟩:=Qz1.1 G;simp only[tOp,QzP,QzO,or_false]at ho;rcases ho with rfl |rfl |rfl |rfl |rfl
 exact Gm Qtm Qtn Qto v C;exact Gm Qtp Qtq Qtr v C;exact Gm Qts Qtt Qtu v C;exact Gm Qtv Qtw Qtx v C;exact Gm Qty Qtz QtA v C
structure Qwj (s:JF):Prop where
 h1:spB 0 s.1=true
 h2:spB 1 s.2=true
 g1:QqJ s.1=true
 g2:QqJ s.2=true
theorem Qgo {k:Nat} {a:List (List D)} (h:QrA k a=true):∃l,a=l.map JJ/\spB k l=true/\QqJ l=true:=by
 unfold QrA at h;split at h;rename_i x e;simp only[QzR]at h;exact⟨x,NS e,h.1,h.2⟩;cases h
theorem Qp5 (hm:Tryz.prog.follows .mixedOrders=true) {t:List UInt8} (T:t∈tRange):∃s:JF,∃e:Int,(0<=e/\e<=40)/\Qwj s/\Ok Tryz.prog 222 [.str t] (.l7 [.agg [Qv s.1,Qv s.2],.int .i64 e]):=by
 have h:=Qp3 t T;unfold ofB at h;split at h;rename_i a b e H q;simp only[QzR,decide_eq_true_eq]at h;obtain⟨h1,h2,U⟩:=h;obtain⟨x,rfl,O,M⟩:=Qgo h2;obtain⟨y,rfl,G,C⟩:=Qgo U;exact⟨(x,y),e,h1,⟨O,G,M,C⟩,(H9 hm Qqc (Gv fsS) 200 q).1 rfl⟩;cases h
variable {k:Nat} {l:List (Cu × Cu)}
theorem QeY {n:Int} (h:Qpz n=true): -9223372036854775808<=n/\n<=9223372036854775807:=by
 simpa [Qpz]using h
theorem QjD {c:Cu} (h:cuB c=true) (hp:c.p.length<=40) (C:c.q.length<=40):Tp.u3 Qdx (dCu c):=by
 simp only[cuB,QzR,decide_eq_true_eq]at h;obtain⟨he,ha,hb,G⟩:=h;exact⟨_,_,rfl,⟨_,rfl,he⟩,_,_,rfl,⟨_,rfl,QeY ha⟩,_,_,rfl,⟨_,rfl,QeY hb⟩,_,_,rfl,⟨_,rfl,QeY G⟩,_,_,rfl,⟨_,rfl,hp⟩,_,_,rfl,⟨_,rfl,C⟩,_,_,rfl,⟨_,rfl⟩,rfl⟩
theorem Qkn (h:spB k l=true) (g:QqJ l=true):(Tp.l Yo 9).has (Qv l):=by
 simp only[spB,QzR,Nat.ble_eq,QzX]at h;obtain⟨⟨⟨h1,h2⟩,_⟩,_⟩:=h;refine⟨_,.inl rfl,by simpa using h1,QbW λs C=>?_⟩;have g:=QzX.1 g s C;simp only[QzR]at g;have:=h2 s C;exact⟨QjD g.1 Wa Wa,QjD g.2 Wa Wa⟩
theorem Qi9 (c:Cu) (r:List D):Qoy (dCu c++r)=some (c,r):=by rfl
theorem So:∀l:List (Cu × Cu),Bi (l.map JJ)=some l
 |[]=>rfl
 |(a,b)::l=>by
  have e:Qoy (dCu b)=some (b,[]):=by rfl
  simp only[QAr,Bi,JJ,Qi9,e,So l]
theorem Qkb (h:spB k l=true):(Tp.px k).has (Qv l):=⟨_,.inl rfl,by rw[xB,So];exact h⟩
theorem Qkj (hm:Tryz.prog.follows .mixedOrders=true) {t:List UInt8} (C:t∈tRange):∃s:JF,(spB 0 s.1=true/\spB 1 s.2=true)/\Ok Tryz.prog 185 [.str t] (Li s):=by
 obtain⟨s,e,_,h,o⟩:=Qp5 hm C;exact⟨s,⟨h.h1,h.h2⟩,Fv o⟩
theorem Qp6 {ls:List (List UInt8)} {μ:List Int} {ds:List D} (h:Vl.n4 μ [ty (.c ls)] ds):∃t∈ls,ds=[.str t]:=by
 obtain⟨d,r,rfl,⟨t,C,rfl⟩,rfl⟩:=h;exact⟨t,C,rfl⟩
theorem gOf (hm:Tryz.prog.follows .mixedOrders=true):∀c∈spG 222,c.ok Tryz.prog 222:=by
 intro c C;have e:spG 222=[c0 [pc tRange] (.uu [.aa [ty (.l Yo 9),ty (.l Yo 9)],Dj])]:=rfl;rw[e,QzW]at C;subst C;intro μ ds h1 h2 O M;obtain⟨t,G,rfl⟩:=Qp6 M;obtain⟨s,e,he,h,o⟩:=Qp5 hm G;refine⟨[],_,by rw[QAj];exact h1,λc C=>(by cases (show c∈([]:List Cn) from C)), ?_,o⟩
 exact⟨_,rfl,_,_,rfl,⟨_,rfl,_,_,rfl,Qkn h.h1 h.g1,_,_,rfl,Qkn h.h2 h.g2,rfl⟩,_,_,rfl,⟨e,rfl,he⟩,rfl⟩
theorem Qxa (hm:Tryz.prog.follows .mixedOrders=true):∀c∈spG 185,c.ok Tryz.prog 185:=by
 intro c C;have e:spG 185=[c0 [pc tRange] (.aa [ty (.px 0),ty (.px 1)])]:=rfl;rw[e,QzW]at C;subst C;intro μ ds h1 h2 O M;obtain⟨t,G,rfl⟩:=Qp6 M;obtain⟨s,h,o⟩:=Qkj hm G;refine⟨[],_,by rw[QAj];exact h1,λc C=>(by cases (show c∈([]:List Cn) from C)), ?_,o⟩
 exact⟨_,rfl,_,_,rfl,Qkb h.1,_,_,rfl,Qkb h.2,rfl⟩
set_option maxRecDepth 4000
variable {W:WF} {f:List UInt8} {k:Q7} {lkf:List UInt8->List TkR} {y:YdT}
structure NZ (r:List AskT):Prop where
 len:0<r.length/\r.length<=24
 key:∀a∈r,a.k∈Te/\a.k.1≠[]
 sm:∀a∈r,Sm a.s.1/\Sm a.s.2
 may:∀a∈r,Kh a.s=true
def rwW (y:YdT) (lkf:List UInt8->List TkR) (W:WF) (k:Q7):List (List AskT):=if k=([],[])then Gs y else M5 (ofM (lkf k.1) W.z8 k.2) W.nd k.2
def cfW (y:YdT) (lkf:List UInt8->List TkR) (W:WF) (all:List Q7) (k:Q7):List CandT × Bool:=if k=([],[])then([⟨⟨0,0,0,[],[]⟩, -1,M7 all (Gs y),[]⟩],true)else Kw W all (ofM (lkf k.1) W.z8 k.2) k.2 (lkf k.1).length
structure WOk (y:YdT) (lkf:List UInt8->List TkR) (W:WF):Prop where
 fi:YOk y
 yn:∀m∈y.ms,m.r.n∈tName
 tk:∀n∈tName,ya n (lkf n)
 nd:∀n∈tName,∀t∈lkf n,∀f∈tFeat0,∀r∈W.nd t.r f,NZ r
 bn:∀n∈tName,∀t∈lkf n,∀b∈t.r.bs,b.n∈tName
 bs:∀n∈tName,∀t∈lkf n,∀b∈t.r.bs,(Sm (W.st b.r).1/\Sm (W.st b.r).2)/\Kh (W.st b.r)=true
theorem K9:∀n∈tName,n≠[]:=by decide
theorem JZ (h:k∈Te):k=([],[])\/(k.1∈tName/\k.2∈tFeat0):=by
 rcases QzP.1 h with h |h;exact .inl h;obtain⟨n,C,h⟩:=QzU.1 h
 obtain⟨f,G,rfl⟩:=Qz1.1 h;exact .inr ⟨C,G⟩
theorem B9 {n:List UInt8} (C:n∈tName) (G:f∈tFeat0):(n,f)∈Te:=QAQ _ (QzU.2 ⟨n,C,Qz1.2 ⟨f,G,rfl⟩⟩)
theorem Cd {v:Vr} (h:bb v):(Sm (ZE v.a v.b v.c v.p v.q).1/\Sm (ZE v.a v.b v.c v.p v.q).2)/\Kh (ZE v.a v.b v.c v.p v.q)=true:=by
 have C:=Qh2 (a:=v.a) (b:=v.b) (c:=v.c) (q:=v.q) h.sm.1;exact⟨⟨C.1.sm We,C.2.sm We⟩,(show∀v∈Qkr,Kh (ZE v.a v.b v.c v.p v.q)=true by decide+kernel) v h⟩
theorem QmT (h:WOk y lkf W):∀r∈Gs y,NZ r:=λr hr=>by
 obtain⟨m,hm,rfl⟩:=Qz1.1 hr;have C:=h.yn m hm;have he:=Cd (h.fi.mv m hm);refine⟨⟨by simp,by simp⟩,λa ha=>?_,λa ha=>?_,λa ha=>?_⟩;rw[QzW.1 ha];exact⟨B9 C We,K9 _ C⟩;rw[QzW.1 ha];exact he.1;rw[QzW.1 ha];exact he.2
theorem of_sub {l:List TkR} {z8:JH->List UInt8->Bool}:(ofM l z8 f).Sublist l:=List.filter_sublist
theorem QmX (h:WOk y lkf W) (hk:k∈Te):∀r∈rwW y lkf W k,NZ r:=λr hr=>by
 unfold rwW at hr;split at hr;exact QmT h r hr;rename_i e;rcases JZ hk with rfl |⟨h1,h2⟩
 exact absurd rfl e;obtain⟨t,C,hr⟩:=QzU.1 hr;exact h.nd _ h1 t (of_sub.subset C) _ h2 r hr
section
variable {y:YdT} {lkf:List UInt8->List TkR} {W:WF} {all:List Q7}
theorem TV (C:ja (rwW y lkf W) all []) (h0:0<all.length):all[0]=([],[]):=by
 obtain⟨i,hi,e⟩:=Qz9 C.root;rcases Nat.eq_zero_or_pos i with rfl |hp
 exact e;have:=QBd.1 C.zc 0 i h0 hi hp;rw[e]at this;simp[K1,Op.bytesLess]at this
theorem QkZ (C:ja (rwW y lkf W) all []) {i:Nat} (hi:i<all.length) (hp:0<i):all[i]≠([],[]):=λe=>by
 have:=QBd.1 C.zc 0 i Wa hi hp;rw[e,TV C Wa,Cx]at this;cases this
theorem Qqf (G:ja (rwW y lkf W) all []) (hk:k∈all) (C:k.1≠[]):0<plA all k/\plA all k<all.length:=by
 obtain⟨i,hi,e,h⟩:=QfS hk;rw[h];refine⟨?_,Wa⟩;rcases Nat.eq_zero_or_pos i with rfl |hp
 rw[TV G Wa]at e;rw[<- e]at C;exact absurd rfl C;omega
theorem QgJ (G:ja (rwW y lkf W) all []) {rs:List (List AskT)} (ho:∀r∈rs,NZ r) (C:∀r∈rs,∀a∈r,a.k∈all):∀r∈M7 all rs,(0<r.length/\r.length<=24)/\∀x∈r,QdK all.length x:=λr hr=>by
 obtain⟨r0,h0,rfl⟩:=Qz1.1 hr;have h1:=ho r0 h0;refine⟨by rw[QAH];exact h1.len,λx hx=>?_⟩
 obtain⟨a,ha,rfl⟩:=Qz1.1 hx;exact⟨Qqf G (C r0 h0 a ha) (h1.key a ha).2,h1.sm a ha,h1.may a ha⟩
theorem Qjh (h:WOk y lkf W) (T:∀n∈tName,∀t∈lkf n,Yq t.r) (V:ja (rwW y lkf W) all []):∀i (hi:i<(all.map (unM (cfW y lkf W) all)).length),∀c∈((all.map (unM (cfW y lkf W) all))[i]'hi).cs,∀x∈c.bs,x.u≠i:=λi hi c C x hx e=>by
 have hi':i<all.length:=by simpa using hi
 have hk:=V.key _ (QzS hi');simp only[QBc,unM]at C;unfold cfW at C;split at C;rw[QzW.1 C]at hx;cases hx;rename_i M;have h1:=((JZ hk).resolve_left M).1;unfold Kw at C;split at C;cases C
 obtain⟨t,O,rfl⟩:=Qz1.1 C;have G:=of_sub.subset O;simp only[JI]at hx;split at hx;obtain⟨b,hb,hx⟩:=QzU.1 hx;unfold Qk8 at hx;split at hx;rename_i U;rw[QzW.1 hx]at e;obtain⟨j,Y,e1,e2⟩:=QfS (Qj9 U.1);have e:plA all (b.n,[])=i:=e;obtain rfl:i=j:=Wa;exact T _ h1 t G b hb (by rw[(h.tk _ h1).nm t G,e1]);cases hx
 cases hx
theorem Qg5 (h:WOk y lkf W) (G:ja (rwW y lkf W) all []) (hf:∀k∈all,(cfW y lkf W all k).2=true):fc (all.map (unM (cfW y lkf W) all)):=by
 have h26:=G.len;have h0:0<all.length:=List.length_pos_of_mem G.root;have hcl:∀k∈all,∀row∈rwW y lkf W k,∀a∈row,a.k∈all:=λk hk=>(G.cl k hk).resolve_left Wc
 have key:∀k∈all,(cfW y lkf W all k).1.length<=16/\(∀c∈(cfW y lkf W all k).1,Qhw all.length c)/\(cfW y lkf W all k).1.Pairwise λa b=>SC a.v b.v<0:=λk hk=>by
  have hkk:=G.key k hk;have C:=hf k hk;have O:=hcl k hk;have M:=QmX h hkk
  by_cases e:k=([],[])
  rw[rwW,if_pos e]at O M;rw[cfW,if_pos e];refine⟨by simp,λc V=>?_,by simp⟩;rw[QzW.1 V];exact⟨⟨by simp,by simp⟩,(show Jy 0 0 0 [] []=true by decide),by rw[Sl];have:=h.fi.ml;simp only[Gs,QAH];omega,by simp,QgJ G M O,by simp⟩
  rw[rwW,if_neg e]at O M;rw[cfW,if_neg e]at C ⊢;obtain⟨h1,h2⟩:=(JZ hkk).resolve_left e;have Y:=h.tk _ h1
  by_cases hb:((ofM (lkf k.1) W.z8 k.2).map (JI W all k.2)).any Qdo=true
  rw[Kw,if_pos hb]at C;cases C;have hb:((ofM (lkf k.1) W.z8 k.2).map (JI W all k.2)).any Qdo=false:=by simpa using hb
  rw[Ma hb]at C ⊢;have h16:=of_decide_eq_true C;have hle:=RX (lkf k.1) W.z8 k.2;refine⟨by rw[QAH];omega,λc V=>?_,List.pairwise_map.2 ((Y.zc.sublist of_sub).imp λ{a b} hab=>hab)⟩
  have U:=List.any_eq_false.1 hb c V;obtain⟨t,ht,rfl⟩:=Qz1.1 V;have T:=of_sub.subset ht;have hv:=Y.v t T;simp only[Qdo,QAT,decide_eq_true_eq,not_or,Nat.not_lt]at U;refine⟨hv.sm,hv.may,U.1,U.2,QgJ G (λr hr=>M r (QzU.2 ⟨t,ht,hr⟩)) (λr hr=>O r (QzU.2 ⟨t,ht,hr⟩)),λx hx=>?_⟩;simp only[JI]at hx;split at hx;obtain⟨b,hb,hx⟩:=QzU.1 hx;unfold Qk8 at hx;split at hx;rename_i hh;rw[QzW.1 hx];obtain⟨q1,q2⟩:=h.bs _ h1 t T b hb;exact⟨Qqf G (Qj9 hh.1) (K9 _ (h.bn _ h1 t T b hb)),q1,q2⟩;cases hx
  cases hx
 refine⟨⟨by rw[QAH];omega,by rw[QAH];omega⟩,λu hu=>?_,λhw=>?_,λi hi hp=>?_,λi hi hp=>?_,λu hu c V=>?_,λu hu j hj hp=>?_⟩
 obtain⟨k,hk,rfl⟩:=Qz1.1 hu;exact(key k hk).1;have e:=TV G h0;simp only[QBc,unM,e];refine⟨trivial,trivial, ?_⟩;rw[cfW,if_pos rfl];rfl;have hi':i<all.length:=by simpa using hi
 simp only[QBc,unM];have:=(JZ (G.key _ (QzS hi'))).resolve_left (QkZ G hi' hp);exact K9 _ this.1;have hi':i<all.length:=by simpa using hi
 simp only[QBc];exact QBd.1 G.zc (i - 1) i Wa hi' Wa;obtain⟨k,hk,rfl⟩:=Qz1.1 hu;rw[QAH];exact(key k hk).2.1 c V;obtain⟨k,hk,rfl⟩:=Qz1.1 hu;exact QBd.1 (key k hk).2.2 (j - 1) j (by have:j<(cfW y lkf W all k).1.length:=hj;omega) hj Wa
end
end Go.Proofs
namespace Go.Proofs
open Go Go.Abs M3 M25
set_option maxRecDepth 100000
variable {ds:List D} {n:Nat} {vs:List Vl} {x:JH} {ν:List Int}
theorem Qw8 (hm:Tryz.prog.follows .mixedOrders=true):∀f,∀c∈spG f,c.ok Tryz.prog f:=λf c C=>by
 have G:∀k,f≠k->¬Nat.beq f k=true:=λk h e=>h (QA6 e)
 by_cases h1:f=35
 subst h1;exact Qps c C
 by_cases h2:f=128
 subst h2;exact Qpt hm c C
 by_cases h3:f=232
 subst h3;exact QjO hm c C
 by_cases h4:f=271
 subst h4;exact Qw9 c C
 by_cases h5:f=175
 subst h5;exact QvX hm c C
 by_cases h6:f=222
 subst h6;exact gOf hm c C
 by_cases h7:f=185
 subst h7;exact Qxa hm c C
 by_cases h8:f=184
 subst h8;exact gOn hm c C;unfold spG at C;simp only[if_neg (G _ h1),if_neg (G _ h2),if_neg (G _ h3),if_neg (G _ h4),if_neg (G _ h5),if_neg (G _ h6),if_neg (G _ h7),if_neg (G _ h8)]at C;cases C
def cNd:Ct:=c0 [.s YQ,.s Qc7] Dj
def QvG:Ct:=c0 [.t 100000] tb
def cTx:Ct:=c0 [.s YQ] (ty (.s 100000))
def QvJ:Ct:=c0 [.l DB 4] tb
def QvD:Ct:=c0 [.s GN] tb
def QvK:Ct:=S4 [.l Sx 2] [] (λn=>.uu [.ll DB n 0,.nn .i64 (n+1) 0]) 2 (λn=>cIn n 0 4++cIn (n+1) 0 40)
def cS9:Ct:=c0 [.l [.i .u8 0 255] 1000000] (ty Qos)
def cFs:Ct:=c0 [.l Mr 8] tb
def QvF:Ct:=c0 [.s YQ,.l [.c tItem] 6] Dj
def cPd:Ct:=c0 [.l DB 4] (.uu [Dj,Qjr])
def cHd:Ct:=c0 [.l QiN 4] (.uu [Dj,Qjr])
def QvE:Ct:=S4 [.l Sx 2,nm] [] (λn=>.uu [.aa (opV n Qc8),Dj]) 2 (λn=>CO n Qc8)
def cIs:Ct:=c0 [.l Mr 8,.v (ty (.s 100000))] tb
def QvH:Ct:=cLk [.l Mr 8,.v (ty (.s 100000))] [.c tItem] 5
def QvI:Ct:=cLk [.s YQ,.s GN,pc tOpt] [.lm Fj 4] 14
def QvM:Ct:=cLk [.s YQ,.s GN,pc tName,pc [[120]]] [.lm Fj 4] 14
def QvL:Ct:=cLk [.s YQ,.s GN,pc [[]],pc [[]]] [.lm Fj 4] 0
def QvO:Ct:=S4 [pL,.i 0 0] [] (λn=>.ll Sx n 0) 1 (λn=>cIn n 1 2)
def QvN:Ct:=S4 [pL,.i 200 200] [] (λn=>.ll J2 n 0) 1 (λn=>cIn n 1 2)
def QvC:Ct:=c0 [pL,.i 0 9000] (.aa (tyV GN))
theorem RO:(tbS spG spA 204=[cNd]/\tbS spG spA 134=[QvG]/\tbS spG spA 174=[cTx]/\tbS spG spA 269=[QvJ])/\(tbS spG spA 64=[QvD]/\tbS spG spA 65=[QvK]/\tbS spG spA 171=[cS9]/\tbS spG spA 225=[QvE])/\(tbS spG spA 179=[cIs]/\tbS spG spA 181=[QvH]/\tbS spG spA 180=[QvI]/\tbS spG spA 183=[QvL,QvM])/\(tbS spG spA 48=[QvO]/\tbS spG spA 49=[QvN]/\tbS spG spA 32=[QvC]):=⟨⟨by kernel_rfl,by kernel_rfl,by kernel_rfl,by kernel_rfl⟩,⟨by kernel_rfl,by kernel_rfl,by kernel_rfl,by kernel_rfl⟩,⟨by kernel_rfl,by kernel_rfl,by kernel_rfl,by kernel_rfl⟩,by kernel_rfl,by kernel_rfl,by kernel_rfl⟩
theorem QpL:(tbS spG spA 206=[cFs]/\tbS spG spA 207=[QvF])/\(tbS spG spA 132=[cPd]/\tbS spG spA 133=[cHd]):=⟨⟨by kernel_rfl,by kernel_rfl⟩,by kernel_rfl,by kernel_rfl⟩
theorem Y7 {x y:Nat} {k a b:Int} {cs:List Cn} (hx:ν[x]?=some a) (G:ν[y]?=some b) (h:a<=b+k) (t:v7 ν cs):v7 ν ((x,y,k)::cs):=λc C=>by
 rcases QzP.1 C with rfl |C;exact⟨a,b,hx,G,h⟩;exact t c C
theorem QfB {a b:List Cn} (ha:v7 ν a) (hb:v7 ν b):v7 ν (a++b):=λk hk=>(QzY.1 hk).elim (ha k) (hb k)
theorem Ny:v7 ν []:=λc C=>by cases C
theorem SM {k:Nat} (h:n<=k):v7 [0,(n:Int)] [(0,1,0),(1,0,(k:Int))]:=Y7 (a:=0) (b:=n) rfl rfl Wa (Y7 (a:=n) (b:=0) rfl rfl Wa Ny)
theorem LA {row:List Tp} {rows:List (List D)} (hr:∀r∈rows,Tp.u3 row r) (h:Vl.n4 [0,(rows.length:Int)] vs ds):Vl.n4 [0,(rows.length:Int)] (.ll row 1 0::vs) (.sl rows::ds):=⟨_,_,rfl,⟨rows,.inl rfl,⟨_,rfl,Wa⟩,hr⟩,h⟩
theorem Nk {t:Tp} {d:D} (hd:t.has d) (h:Vl.n4 ν vs ds):Vl.n4 ν (.ty t::vs) (d::ds):=⟨_,_,rfl,hd,h⟩
theorem QfH:∀{row:List Tp} {r:List D} {ν:List Int},Tp.u3 row r->ν[0]?=some 0->∃e:List Int,e.length=opN row/\v7 (ν++e) (CO ν.length row)/\Vl.n4 (ν++e) (opV ν.length row) r
 |[],r,ν,h,_=>⟨[],rfl,Ny,h⟩
 |t::ts,r,ν,h,hz=>by
  obtain⟨d,r,rfl,h1,h2⟩:=h
  have h0:0<ν.length:=by
   cases ν with
   |nil=>simp at hz
   |cons a l=>simp
  have other:opN (t::ts)=opN ts->CO ν.length (t::ts)=CO ν.length ts->opV ν.length (t::ts)=.ty t::opV ν.length ts->∃e:List Int,e.length=opN (t::ts)/\v7 (ν++e) (CO ν.length (t::ts))/\Vl.n4 (ν++e) (opV ν.length (t::ts)) (d::r):=λe1 e2 e3=>by
   obtain⟨e,M,G,C⟩:=QfH h2 hz;rw[e1,e2,e3];exact⟨e,M,G,Nk h1 C⟩
  have list:∀(row:List Tp) (n:Int) (lo:Int) (rows:List (List D)),isL d rows->lo<=rows.length->(rows.length:Int)<=n->(∀r∈rows,Tp.u3 row r)->opN (t::ts)=opN ts+1->CO ν.length (t::ts)=(0,ν.length, -lo)::(ν.length,0,n)::CO (ν.length+1) ts->opV ν.length (t::ts)=.ll row ν.length 0::opV (ν.length+1) ts->∃e:List Int,e.length=opN (t::ts)/\v7 (ν++e) (CO ν.length (t::ts))/\Vl.n4 (ν++e) (opV ν.length (t::ts)) (d::r):=λrow n lo rows hd V T hr e1 e2 e3=>by
   obtain⟨e,M,G,C⟩:=QfH (ν:=ν++[(rows.length:Int)]) h2 (XA _ hz);rw[e1,e2,e3];have Y:ν++[(rows.length:Int)]++e=ν++(rows.length:Int)::e:=by simp
   have el:(ν++[(rows.length:Int)]).length=ν.length+1:=by simp
   rw[Y,el]at G C;have U:(ν++(rows.length:Int)::e)[0]?=some 0:=XA _ hz;have O:(ν++(rows.length:Int)::e)[ν.length]?=some (rows.length:Int):=by simp
   exact⟨rows.length::e,by simp[M],Y7 U O Wa (Y7 O U Wa G),_,_,rfl,⟨rows,hd,⟨_,O,Wa⟩,hr⟩,C⟩
  cases t with
  |l row k=>
   obtain⟨rows,hd,T,hr⟩:=h1;exact list row k 0 rows hd Wa Wa hr rfl rfl rfl
  |lm row k=>
   obtain⟨rows,hd,T,hr⟩:=h1;exact list row k 1 rows hd Wa Wa hr rfl rfl rfl
  |i _ _ _=>exact other rfl rfl rfl
  |b=>exact other rfl rfl rfl
  |s _=>exact other rfl rfl rfl
  |c _=>exact other rfl rfl rfl
  |px _=>exact other rfl rfl rfl
theorem LB {r:List D} (h:Tp.u3 YQ r):∃a b c:Int,v7 [0,a,b,c] (CO 1 YQ)/\Vl.has [0,a,b,c] (.aa (opV 1 YQ)) (.agg r):=by
 obtain⟨e,C,M,G⟩:=QfH (ν:=[0]) h rfl;have C:e.length=3:=C
 match e,C with
 |[a,b,c],_=>exact⟨a,b,c,M,r,rfl,G⟩
theorem Ry {a b c:List UInt8} (h:Tp.u3 GN [.str a,.str b,.str c]):Vl.has ν (.aa (opV n GN)) (.agg [.str a,.str b,.str c]):=by
 obtain⟨_,_,e1,h1,_,_,rfl,h2,_,_,rfl,C,rfl⟩:=h;simp only[QA3,and_true]at e1;obtain⟨rfl,rfl,rfl⟩:=e1;exact⟨_,rfl,_,_,rfl,h1,_,_,rfl,h2,_,_,rfl,C,rfl⟩
theorem Qj2:∀n∈tName,n.length<=100:=by decide
theorem Qmn {m:Bs} (h:Tp.u3 Sx (QaZ m)):Tp.u3 YQ (ZP m.r)/\(m.pd.length<=1/\∀r∈m.pd,Tp.u3 DB r)/\m.hd.length<=1/\∀r∈m.hd,Tp.u3 QiN r:=by
 obtain⟨x,y,e,h1,h2⟩:=QgV (a:=YQ) h;have l1:x.length=9:=Tp.kb h1;obtain⟨rfl,rfl⟩:=List.append_inj (show ZP m.r++[.sl m.pd,.sl m.hd]=x++y from e) (by rw[l1];rfl)
 obtain⟨_,_,e2,⟨pr,p0,p1,p2⟩,_,_,rfl,⟨hr,h0,G,C⟩,rfl⟩:=h2;simp only[QA3,and_true]at e2;obtain⟨rfl,rfl⟩:=e2;rcases p0 with q |q<;>cases q
 rcases h0 with q |q<;>cases q;exact⟨h1,⟨p1,p2⟩,G,C⟩
theorem Qql (h:Tp.u3 YQ (ZP x)):x.nd.length<=2/\∀r∈x.nd,Tp.u3 Qc7 r:=by
 obtain⟨a,y,e,h1,d,_,rfl,⟨nr,p0,p1,p2⟩,_⟩:=QgV (a:=Qqj) h;have l1:a.length=6:=Tp.kb h1;obtain⟨_,e2⟩:=List.append_inj (show[D.str x.n,.int .i64 x.v.a,.int .i64 x.v.b,.int .i64 x.v.c,.str x.v.p,.str x.v.q]++[.sl x.nd,.sl (x.bs.map Lg),.sl x.fd]=a++_ from e) (by rw[l1];rfl)
 simp only[QA3]at e2;obtain⟨rfl,_⟩:=e2;rcases p0 with q |q<;>cases q
 exact⟨p1,p2⟩
section
variable (hm:Tryz.prog.follows .mixedOrders=true)
include hm
theorem SW {f:Nat} {c:Ct} {l:List Ct} (e:tbS spG spA f=l) (h:c∈l):c.ok Tryz.prog f:=Qjq hm (Qw8 hm) f c (by rw[e];exact h)
theorem Qft (n:List UInt8) (G:n.length<=100):∃b,Ok Tryz.prog 134 [.str n] (.bool b):=by
 obtain⟨⟨_,C,_⟩,_⟩:=RO;obtain⟨_,_,_,_,⟨b,rfl⟩,o⟩:=SW hm C (c:=QvG) Wc [0,n.length] [.str n] rfl rfl (SM Wa) ⟨_,_,rfl,⟨n,rfl,_,rfl,Wa⟩,rfl⟩;exact⟨b,o⟩
theorem QqV (hx:Tp.u3 YQ (ZP x)):∃t:List UInt8,t.length<=100000/\Ok Tryz.prog 174 [.agg (ZP x)] (.str t):=by
 obtain⟨⟨_,_,M,_⟩,_⟩:=RO;obtain⟨a,b,c,G,C⟩:=LB hx;obtain⟨_,_,_,_,⟨t,rfl,O⟩,o⟩:=SW hm M (c:=cTx) Wc [0,a,b,c] [.agg (ZP x)] rfl rfl G ⟨_,_,rfl,C,rfl⟩;exact⟨t,O,o⟩
theorem Qo2 (hx:Tp.u3 YQ (ZP x)):∃d,(∃e n:Int,d=.l7 [.int .i64 e,.int .i64 n]/\(e=0->Yq x))/\Ok Tryz.prog 131 [.agg (ZP x)] d:=by
 obtain⟨⟨U,_⟩,_⟩:=RO;obtain⟨⟨T,O⟩,_⟩:=QpL;have ho:=Yw hx;obtain⟨nl,nr⟩:=Qql hx;obtain⟨a,b,c,G,C⟩:=LB hx;obtain⟨p,hp⟩:=Qft hm x.n (by have:=Qj2 _ ho.n;omega)
 obtain⟨t,_,V⟩:=QqV hm hx;obtain⟨_,_,_,_,⟨q,rfl⟩,hf⟩:=SW hm T (c:=cFs) Wc [0,x.fd.length] [.sl x.fd] rfl rfl (SM (by have:=ho.fl;omega)) (LA ho.fd rfl)
 have he:=(ho.v.sm);refine HR (by have:=ho.bl;omega) Wa hp (Qu he.1 he.2) (HT (by have:=ho.bl;omega) Wa (by have:=ho.fl;omega) (λb hb=>?_) (λr hr=>?_) hf (λr hr=>?_)) V
 have hk:=ho.bs b hb;obtain⟨p1,h1⟩:=Qft hm b.n (by have:=Qj2 _ hk.n;omega)
 obtain⟨_,_,_,_,⟨p2,rfl⟩,h2⟩:=QvX hm (c0 [pc tRange] tb) (QzW.2 rfl) [0] [.str b.r] rfl rfl Ny (Nk ⟨b.r,hk.r,rfl⟩ rfl);obtain⟨_,_,_,_,⟨p3,rfl⟩,h3⟩:=QjO hm (c0 [pc NQ] tb) (QzW.2 rfl) [0] [.str b.w] rfl rfl Ny (Nk ⟨b.w,hk.w,rfl⟩ rfl);exact⟨_,QoS,Fs h1 h2 h3⟩;obtain⟨d,_,rfl,⟨ws,hd,hl,hw⟩,_,_,rfl,⟨s,M,rfl⟩,_,_,rfl,⟨o,Y,rfl⟩,rfl⟩:=nr r hr;refine⟨ws,s,o,hd.imp (λe=>by rw[e]) (λe=>by rw[e]), ?_⟩;obtain⟨_,_,_,_,⟨e,rfl,_⟩,h4⟩:=SW hm U (c:=cNd) Wc [0,a,b,c,ws.length] [.agg (ZP x),.agg [.sl ws,.str s,.str o]] rfl rfl (show v7 [0,a,b,c,(ws.length:Int)] (CO 1 YQ++[(0,4, -1),(4,0,2)]) from QfB (G.ext [(ws.length:Int)]) (Y7 (a:=0) (b:=ws.length) rfl rfl Wa (Y7 (a:=ws.length) (b:=0) rfl rfl Wa Ny))) ⟨_,_,rfl,C.ext [(ws.length:Int)],_,_,rfl,⟨_,rfl,_,_,rfl,⟨ws,.inl rfl,⟨ws.length,rfl,Wa⟩,hw⟩,Nk ⟨s,M,rfl⟩ (Nk ⟨o,Y,rfl⟩ rfl)⟩,rfl⟩;exact⟨e,h4⟩;obtain⟨_,_,rfl,⟨s,M,rfl⟩,d,_,rfl,⟨is,hd,hl,hi⟩,rfl⟩:=ho.fd r hr;obtain⟨_,_,_,_,⟨e,rfl,_⟩,h5⟩:=SW hm O (c:=QvF) Wc [0,a,b,c,is.length] [.agg (ZP x),.sl is] rfl rfl (show v7 [0,a,b,c,(is.length:Int)] (CO 1 YQ++[(0,4,0),(4,0,6)]) from QfB (G.ext [(is.length:Int)]) (Y7 (a:=0) (b:=is.length) rfl rfl Wa (Y7 (a:=is.length) (b:=0) rfl rfl Wa Ny))) ⟨_,_,rfl,C.ext [(is.length:Int)],_,_,rfl,⟨is,.inl rfl,⟨is.length,rfl,Wa⟩,hi⟩,rfl⟩;exact⟨s,d,is,rfl,hd,e,h5⟩
theorem Qi1 (hx:Tp.u3 YQ (ZP x)):∃s e:Int,((0<=s/\s<=18446744073709551615)/\(e=0->Yq x))/\Ok Tryz.prog 129 [.agg (ZP x)] (.l7 [.int .u64 s,.int .i64 e]):=by
 obtain⟨_,⟨_,_,G,_⟩,_⟩:=RO;obtain⟨t,O,C⟩:=QqV hm hx
 obtain⟨_,⟨s,e,rfl,h1,h2⟩,o⟩:=Fr (k:=100000) (by obtain⟨_,⟨s,e,rfl,h1,h2⟩,o⟩:=HS (Qo2 hm hx) C;exact⟨_,⟨s,e,rfl,Wa,h2⟩,o⟩) λl T=>by
  obtain⟨_,_,_,_,⟨z,rfl,M⟩,o⟩:=SW hm G (c:=cS9) Wc [0,(l.map P2).length] [.sl (l.map P2)] rfl rfl (SM Wd) (LA (λr hr=>by
   obtain⟨b,_,rfl⟩:=Qz1.1 hr;exact⟨_,_,rfl,⟨b.toNat,rfl,Wa,by have:=b.toNat_lt;omega⟩,rfl⟩) rfl)
  exact⟨z,M,o⟩
 exact⟨s,e,⟨h1,h2⟩,o⟩
theorem QhQ {ms:List Bs} (hl:ms.length<=2) (U:∀m∈ms,Tp.u3 Sx (QaZ m)):∃e n:Int,(e=0->∀m∈ms,Yq m.r)/\Ok Tryz.prog 62 [KS ms] (.l7 [.int .i64 e,.int .i64 n]):=by
 obtain⟨_,T,O⟩:=QpL
 obtain⟨_,⟨e,n,rfl,h⟩,o⟩:=HY (ms:=ms) Wa (λm C=>by
  obtain⟨h1,⟨h2,Y⟩,h4,V⟩:=Qmn (U m C);obtain⟨_,_,_,_,⟨_,rfl,_,_,rfl,⟨e1,rfl,_⟩,_,_,rfl,⟨n1,rfl⟩,rfl⟩,M⟩:=SW hm T (c:=cPd) Wc [0,m.pd.length] [.sl m.pd] rfl rfl (SM Wa) (LA Y rfl);obtain⟨_,_,_,_,⟨_,rfl,_,_,rfl,⟨e2,rfl,_⟩,_,_,rfl,⟨n2,rfl⟩,rfl⟩,G⟩:=SW hm O (c:=cHd) Wc [0,m.hd.length] [.sl m.hd] rfl rfl (SM Wa) (LA V rfl);exact HX Wa Wa (Qo2 hm h1) M G) (λm _=>⟨_,XC (l:=ms) (n:=m.r.n) Wa⟩)
 exact⟨e,n,h,o⟩
theorem Qq2:Qjp:=by
 obtain⟨⟨_,_,_,m4⟩,⟨m5,m6,_,m8⟩,_⟩:=RO;refine⟨λms T ht=>QhQ hm T ht,Qft hm,λx hx=>Qi1 hm hx,λps T hp=>?_,λa b c h=>?_,λrows T hr=>?_,λrows T hr n hn=>?_⟩;obtain⟨_,_,_,_,⟨b,rfl⟩,o⟩:=SW hm m4 (c:=QvJ) Wc [0,(ps.map Qej).length] [.sl (ps.map Qej)] rfl rfl (SM (by simpa using T)) (LA (λr hr=>by obtain⟨p,h,rfl⟩:=Qz1.1 hr;exact hp p h) rfl)
 exact⟨b,o⟩;obtain⟨_,_,_,_,⟨b,rfl⟩,o⟩:=SW hm m5 (c:=QvD) Wc [0] [.agg [.str a,.str b,.str c]] rfl rfl Ny ⟨_,_,rfl,Ry h,rfl⟩;exact⟨b,o⟩;obtain⟨e,_,_,V,⟨_,rfl,d,_,rfl,⟨pr,hd,⟨v,Y,U⟩,hp⟩,_,_,rfl,⟨x,rfl,_⟩,rfl⟩,o⟩:=SW hm m6 (c:=QvK) Wc [0,rows.length] [.sl rows] rfl rfl (SM Wa) (LA hr rfl)
 obtain⟨ps,rfl,O⟩:∃ps:List Qhn,pr=ps.map Qej/\∀p∈ps,Tp.u3 DB (Qej p):=by
  clear hd U
  induction pr with
  |nil=>exact⟨[],rfl,by simp⟩
  |cons r pr ih=>
   obtain⟨ps,rfl,h2⟩:=ih λr hr=>hp r (QAQ _ hr);have h0:=hp r Wc;have h1:=h0;obtain⟨_,_,rfl,⟨n,_,rfl⟩,_,_,rfl,⟨s,_,rfl⟩,rfl⟩:=h1
   exact⟨⟨n,s⟩::ps,rfl,λp hp=>by
    rcases QzP.1 hp with rfl |hp;exact h0;exact h2 p hp⟩
 have b4:v<=4:=by
  obtain⟨a,b,G,C,M⟩:=V (2,0,4) (show((2,0,4):Cn)∈[((0,2,0):Cn),(2,0,4),(0,3,0),(3,0,40)] by simp);have G:([0,(rows.length:Int)]++e)[2]?=some a:=G;rw[Y]at G;cases G;have C:some (0:Int)=some b:=C;cases C
  have M:v<=0+4:=M;omega
 rw[QAH]at U;exact⟨ps,x,Wa,O,Qj7 o (Sq hd (GU λr hr=>by obtain⟨p,h,rfl⟩:=Qz1.1 hr;exact O p h)) (by simp[D.wk])⟩
 obtain⟨_,_,_,V,⟨_,rfl,_,_,rfl,⟨_,rfl,d1,_,rfl,⟨r1,h1,⟨v1,Y,U⟩,t1⟩,d2,_,rfl,⟨r2,h2,⟨v2,q3,q4⟩,t2⟩,rfl⟩,_,_,rfl,⟨e,rfl,_⟩,rfl⟩,o⟩:=SW hm m8 (c:=QvE) Wc [0,rows.length] [.sl rows,.str n] rfl rfl (SM Wa) (LA hr (Nk ⟨n,rfl,hn⟩ rfl));obtain⟨a,rfl,ha⟩:=NL t1;obtain⟨b,rfl,hb⟩:=NL t2
 have l1:a.length<=1000:=by
  obtain⟨x,y,G,C,M⟩:=V (2,0,1000) (show((2,0,1000):Cn)∈[((0,2,0):Cn),(2,0,1000),(0,3,0),(3,0,1000)] by simp);simp only at G C M;rw[Y]at G;cases G;have C:some (0:Int)=some y:=C;cases C
  rw[QAH]at U;omega
 have l2:b.length<=1000:=by
  obtain⟨x,y,G,C,M⟩:=V (3,0,1000) (show((3,0,1000):Cn)∈[((0,2,0):Cn),(2,0,1000),(0,3,0),(3,0,1000)] by simp);simp only at G C M;rw[q3]at G;cases G;have C:some (0:Int)=some y:=C;cases C
  rw[QAH]at q4;omega
 refine⟨(a,b),e,⟨QiW ha (by show a.length<=_;omega),QiW hb (by show b.length<=_;omega)⟩,Qj7 o ?_ (by simp[D.wk])⟩
 have G:=Sq h1 (Xx a);have C:=Sq h2 (Xx b);simp[D.wk,wkL,Qv,G,C]
end
end Go.Proofs
namespace Go.Proofs
open Go Go.Abs M3 M25
set_option maxRecDepth 100000
set_option maxHeartbeats 0
variable {a b c f o:List UInt8} {fd:List (List D)} {r:List D}
theorem Qgq {s:JF} (h:spB 0 s.1=true/\spB 1 s.2=true):(Sm s.1/\Sm s.2)/\Kh s=true:=by
 obtain⟨T,O,C⟩:=Qkm h.1;obtain⟨M,G,_⟩:=Qkm h.2;have C:=C rfl;exact⟨⟨T,M⟩,by rw[Kh,O,G,C];rfl⟩
theorem BD {r:List AskT} (C:1<=r.length/\r.length<=4) (h:∀a∈r,Qhl a):NZ r:=
 ⟨Wa,λa ha=>⟨B9 (h a ha).n (h a ha).f,K9 _ (h a ha).n⟩,λa ha=>(Qgq ⟨(h a ha).s1,(h a ha).s2⟩).1,λa ha=>(Qgq ⟨(h a ha).s1,(h a ha).s2⟩).2⟩
theorem QcQ {ν e:List Int} {x:Nat} {k v:Int} {rc:List Cn} (U:v7 (ν++e) rc) (hm:((x,0,k):Cn)∈rc) (O:(ν++e)[0]?=some 0) (T:(ν++e)[x]?=some v):v<=k:=by
 obtain⟨a,b,G,C,M⟩:=U _ hm;simp only at G C M;rw[T]at G;cases G;rw[O]at C;cases C;omega
section
variable (hm:Tryz.prog.follows .mixedOrders=true)
include hm
theorem QtB {w:List UInt8} (hw:w∈NQ) (h:Tp.u3 GN [.str a,.str b,.str c]):∃t,Ok Tryz.prog 184 [.str w,.agg [.str a,.str b,.str c]] (.bool t):=by
 have e:spG 184=[c0 [pc NQ,.s GN] tb]:=by rfl
 obtain⟨_,_,_,_,⟨t,rfl⟩,o⟩:=gOn hm (c0 [pc NQ,.s GN] tb) (by rw[e];simp) [0] [.str w,.agg [.str a,.str b,.str c]] rfl rfl Ny (Nk ⟨w,hw,rfl⟩ ⟨_,_,rfl,Ry h,rfl⟩)
 exact⟨t,o⟩
theorem md (G:fd.length<=4) (hr:∀r∈fd,Tp.u3 Mr r) (M:f.length<=1000):∃b,Ok Tryz.prog 179 [.sl fd,.str f] (.bool b):=by
 obtain⟨_,_,⟨C,_⟩,_⟩:=RO;obtain⟨_,_,_,_,⟨b,rfl⟩,o⟩:=SW hm C (c:=cIs) Wc [0,fd.length] [.sl fd,.str f] rfl rfl (SM Wa) (LA hr (Nk ⟨f,rfl,Wa⟩ rfl));exact⟨b,o⟩
theorem Qp2 (V:fd.length<=4) (hr:∀r∈fd,Tp.u3 Mr r) (Y:f.length<=1000):∃C:List (List UInt8),C.length<=5/\(∀s∈C,s∈tItem)/\Ok Tryz.prog 181 [.sl fd,.str f] (.sl (C.map λs=>[.str s])):=by
 obtain⟨_,_,⟨_,O,_⟩,_⟩:=RO;obtain⟨e,d,_,U,⟨rows,hd,⟨v,M,G⟩,hp⟩,o⟩:=SW hm O (c:=QvH) Wc [0,fd.length] [.sl fd,.str f] rfl rfl (SM Wa) (LA hr (Nk ⟨f,rfl,Wa⟩ rfl))
 obtain⟨C,rfl,hi⟩:∃C:List (List UInt8),rows=C.map (λs=>[D.str s])/\∀s∈C,s∈tItem:=by
  clear hd G
  induction rows with
  |nil=>exact⟨[],rfl,by simp⟩
  |cons r rows ih=>
   obtain⟨C,rfl,h2⟩:=ih λr hr=>hp r (QAQ _ hr);obtain⟨_,_,rfl,⟨s,T,rfl⟩,rfl⟩:=hp r Wc
   exact⟨s::C,rfl,λx hx=>by
    rcases QzP.1 hx with rfl |hx;exact T;exact h2 x hx⟩
 have b5:=QcQ U (k:=5) (x:=2) (show((2,0,5):Cn)∈[((0,2,0):Cn),(2,0,5)] by simp) rfl M;rw[QAH]at G;exact⟨C,Wa,hi,Qal o (Sq hd (GU hp))⟩
theorem Qqb (hr:Tp.u3 YQ r) (h:Tp.u3 GN [.str a,.str b,.str c]) (ho:o∈tOpt):∃l:List (List AskT),l.length<=14/\(∀x∈l,NZ x)/\Ok Tryz.prog 180 [.agg r,.agg [.str a,.str b,.str c],.str o] (ZM l):=by
 obtain⟨_,_,⟨_,_,O,_⟩,_⟩:=RO;obtain⟨x,y,z,p1,p2⟩:=LB hr;obtain⟨e,d,_,T,⟨rows,hd,⟨v,M,V⟩,hp⟩,ok⟩:=SW hm O (c:=QvI) Wc [0,x,y,z] [.agg r,.agg [.str a,.str b,.str c],.str o] rfl rfl p1 ⟨_,_,rfl,p2,_,_,rfl,Ry h,Nk ⟨o,ho,rfl⟩ rfl⟩;obtain⟨l,G,l1,C⟩:=T2 hd hp;have U:=QcQ T (k:=14) (x:=4) (show((4,0,14):Cn)∈[((0,4,0):Cn),(4,0,14)] by simp) rfl M;exact⟨l,Wa,λx hx=>BD (C x hx).1 (C x hx).2,Qal ok G⟩
theorem QmN (hr:Tp.u3 YQ r) {n:List UInt8} (h:Tp.u3 GN [.str a,.str b,.str c]) (O:(n∈tName/\o=[120])\/(n=[]/\o=[])):∃l:List (List AskT),l.length<=14/\(∀x∈l,NZ x)/\Ok Tryz.prog 183 [.agg r,.agg [.str a,.str b,.str c],.str n,.str o] (ZM l):=by
 obtain⟨_,_,⟨_,_,_,U⟩,_⟩:=RO;obtain⟨x,y,z,p1,p2⟩:=LB hr;rcases O with⟨Y,rfl⟩ |⟨rfl,rfl⟩
 obtain⟨e,d,_,T,⟨rows,hd,⟨v,M,V⟩,hp⟩,ok⟩:=SW hm U (c:=QvM) Wc [0,x,y,z] [.agg r,.agg [.str a,.str b,.str c],.str n,.str [120]] rfl rfl p1 ⟨_,_,rfl,p2,_,_,rfl,Ry h,Nk ⟨n,Y,rfl⟩ (Nk ⟨_,by simp,rfl⟩ rfl)⟩;obtain⟨l,G,l1,C⟩:=T2 hd hp;have b14:=QcQ T (k:=14) (x:=4) (show((4,0,14):Cn)∈[((0,4,0):Cn),(4,0,14)] by simp) rfl M;exact⟨l,Wa,λx hx=>BD (C x hx).1 (C x hx).2,Qal ok G⟩;obtain⟨e,d,_,T,⟨rows,hd,⟨v,M,V⟩,hp⟩,ok⟩:=SW hm U (c:=QvL) Wc [0,x,y,z] [.agg r,.agg [.str a,.str b,.str c],.str [],.str []] rfl rfl p1 ⟨_,_,rfl,p2,_,_,rfl,Ry h,Nk ⟨_,by simp,rfl⟩ (Nk ⟨_,by simp,rfl⟩ rfl)⟩;obtain⟨l,G,l1,C⟩:=T2 hd hp;have b0:=QcQ T (k:=0) (x:=4) (show((4,0,0):Cn)∈[((0,4,0):Cn),(4,0,0)] by simp) rfl M;exact⟨l,Wa,λx hx=>BD (C x hx).1 (C x hx).2,Qal ok G⟩
end
def fsI:List Nat:=[182,95,134,135,136,197]
def itB (P:Program) (s:List UInt8):Bool:=match exX (λ_ _=>none) (Qhh P fsI) 200 182 [.str s] []with
 |some (.l7 ds,_)=>wkL ds [.int .i64 (itK s:Nat),.str (itN s),.str (itF s)]
 |_=>false
theorem QpG:tItem.all (itB Tryz.prog)=true:=by decide+kernel
theorem Ql0 (hm:Tryz.prog.follows .mixedOrders=true) {s:List UInt8} (O:s∈tItem):Ok Tryz.prog 182 [.str s] (.l7 [.int .i64 (itK s:Nat),.str (itN s),.str (itF s)]):=by
 have h:=QzX.1 QpG s O;unfold itB at h;split at h;rename_i ds H e;have o:=(H9 hm (λ_ _ _ h=>by cases h) (Gv fsI) 200 e).1 rfl
 exact⟨o.1,λK w vs hk M=>(o.2 K w vs hk M).mono λ_ _ ⟨v,K',he,hr,rest⟩=>⟨v,K',he,by
  simp only[l3]at hr ⊢;obtain⟨us,G,C⟩:=hr;exact⟨us,G,Qg1 h C⟩,rest⟩⟩
 cases h
end Go.Proofs
namespace Go.Proofs
open Go Go.Abs M3 M25
set_option maxRecDepth 100000
variable {e2 k1 k2:Int} {k:Q7} {l2:List Nat} {n:List UInt8} {ns:List (List UInt8)} {s3:JF} {y:YdT}
theorem LW (es:List GX) (k:Nat) (s:JF):∀l:List Nat,(l.flatMap (CT es k s)).Sublist (l.map (tkE es k))
 |[]=>by simp
 |x::l=>by
  rw[QAi,QAr];have h:=LW es k s l;unfold CT tkE;cases e:es[x]? with
  |none=>exact h.cons _
  |some y=>
   dsimp only;split;exact h.cons_cons _;exact h.cons _
theorem Qmi (C:YOk y) (M:k1= -1\/∃i,∃h:i<y.ms.length,k1=i/\y.ms[i].r.n=n) (G:e2=0->∃i,∃h:i<y.ss.length,k2=i/\te y.ss[i].es n l2):ya n (Qae y k1 k2 l2 e2 s3):=by
 rcases M with rfl |⟨i,hi,rfl,T⟩;rw[Pl Wa,lkU];split;rename_i e;obtain⟨j,O,rfl,U⟩:=G e
 rw[QAz,QAB O];exact ya.of (C.sh _ (QzS O)) U (LW _ _ _ _);exact ya.nil n;rw[RI hi];have h:=QzS hi;exact ya.one T (C.mv _ h) (C.mr _ h)
theorem Qmh (O:(∀m∈y.ms,Yq m.r)/\∀s∈y.ss,∀e∈s.es,Yq e.r) (M:k1= -1\/∃i,∃h:i<y.ms.length,k1=i/\y.ms[i].r.n=n) (G:e2=0->∃i,∃h:i<y.ss.length,k2=i/\te y.ss[i].es n l2):∀t∈Qae y k1 k2 l2 e2 s3,Yq t.r:=by
 rcases M with rfl |⟨i,hi,rfl,_⟩;rw[Pl Wa,lkU];split;rename_i e;obtain⟨j,T,rfl,U⟩:=G e
 rw[QAz,QAB T];intro t C;obtain⟨x,hx,rfl⟩:=Qz1.1 ((LW _ _ _ _).subset C);have h1:=(U.mem x hx).1;rw[Qcu h1];exact O.2 _ (QzS T) _ (QzS h1);simp;rw[RI hi];intro t C;rw[QzW.1 C];exact O.1 _ (QzS hi)
theorem QiC:∀n∈tName,n.length<=100:=by decide
theorem Qbb:∀n∈tFeat0,n.length<=1000:=by decide
theorem Qi5:∀n∈Qay,n∈tFeat0:=by decide
structure na (y:YdT) (lkf:List UInt8->List TkR) (W:WF):Prop where
 tk:∀n∈tName,ya n (lkf n)
 nb:∀n∈tName,∀t∈lkf n,Yq t.r
 look:∀n∈tName,∀ns,n6 Tryz.prog 186 [.agg (dYd y (.ref 1000000 0 0)),.str n] (FD lkf ns) (Pb (lkf n)) (FD lkf ns)
 on:∀w∈NQ,Ok Tryz.prog 184 [.str w,.agg [.str y.e1,.str y.e2,.str y.e3]] (.bool (W.on w))
 st:∀t∈tRange,(spB 0 (W.st t).1=true/\spB 1 (W.st t).2=true)/\Ok Tryz.prog 185 [.str t] (Li (W.st t))
 z8:∀x:JH,Tp.u3 YQ (ZP x)->∀f∈tFeat0,Ok Tryz.prog 179 [.sl x.fd,.str f] (.bool (W.z8 x f))
 hd:∀x:JH,Tp.u3 YQ (ZP x)->∀f∈tFeat0,f≠[]->∃t,W.nd x f=[⟨(x.n,[]),ZE x.v.a x.v.b x.v.c x.v.p x.v.q⟩]::t
 nd:∀x:JH,Tp.u3 YQ (ZP x)->∀f∈tFeat0,((W.nd x f).length<=90/\∀r∈W.nd x f,NZ r)/\Ok Tryz.prog 142 [.agg (ZP x),.agg [.str y.e1,.str y.e2,.str y.e3],.str f] (ZM (W.nd x f))
theorem pick {α β:Type} [Inhabited β] {p:α->Prop} {q:α->β->Prop} (h:∀x,p x->∃y,q x y):∃f:α->β,∀x,p x->q x (f x):=by
 have h2:∀x,∃y,p x->q x y:=λx=>(Classical.em (p x)).elim (λe=>(h x e).imp λ_ q _=>q) λe=>⟨default,λe2=>absurd e2 e⟩;exact Classical.axiomOfChoice h2
instance:Inhabited JF:=⟨([],[])⟩
section
variable (hm:Tryz.prog.follows .mixedOrders=true)
include hm
theorem Qmx {x:JH} (hx:Tp.u3 YQ (ZP x)) {a b c:List UInt8} (he:Tp.u3 GN [.str a,.str b,.str c]) {f:List UInt8} (hf:f∈tFeat0):∃l:List (List AskT),((l.length<=90/\∀r∈l,NZ r)/\(f≠[]->∃t,l=[⟨(x.n,[]),ZE x.v.a x.v.b x.v.c x.v.p x.v.q⟩]::t))/\Ok Tryz.prog 142 [.agg (ZP x),.agg [.str a,.str b,.str c],.str f] (ZM l):=by
 have ho:=Yw hx;obtain⟨op,G⟩:=pick (p:=λo=>o∈tOpt) (q:=λo (l:List (List AskT))=>l.length<=14/\(∀r∈l,NZ r)/\Ok Tryz.prog 180 [.agg (ZP x),.agg [.str a,.str b,.str c],.str o] (ZM l)) λo h=>Qqb hm hx he h
 by_cases e:f=[]
 subst e;obtain⟨h1,h2,_⟩:=G [] We;exact⟨op [],⟨⟨Wa,h2⟩,λh=>absurd rfl h⟩,Hz λo h=>(G o h).2.2⟩;obtain⟨pl,O⟩:=pick (α:=List UInt8 × List UInt8) (p:=λk=>(k.1∈tName/\k.2=[120])\/(k.1=[]/\k.2=[])) (q:=λk (l:List (List AskT))=>l.length<=14/\(∀r∈l,NZ r)/\Ok Tryz.prog 183 [.agg (ZP x),.agg [.str a,.str b,.str c],.str k.1,.str k.2] (ZM l)) λk h=>QmN hm hx he h;obtain⟨Y,hi1,C,hi3⟩:=Qp2 hm ho.fl ho.fd (Qbb f hf);have V:∀o∈tOpt,(op o).length<=14:=λo h=>(G o h).1;have T:∀n o,(n∈tName/\o=[120])\/(n=[]/\o=[])->(pl (n,o)).length<=14:=λn o h=>(O (n,o) h).1;have hk:=HA ho.v e (λo h=>(G o h).2.2) (pl:=λn o=>pl (n,o)) (λn o h=>(O (n,o) h).2.2) hi1 C hi3 (λs h=>Ql0 hm h) V T;have U:=Cd ho.v;refine⟨_,⟨⟨?_,λr hr=>?_⟩,λ_=>?_⟩,Ok.wh hk (Qn4 _)⟩;rw[QAH];have:=Qfu (n:=x.n) (e:=ZE x.v.a x.v.b x.v.c x.v.p x.v.q) (op:=op) (pl:=λn o=>pl (n,o)) (l:=Y) (λs M k=>V _ ((Nm _ (C s M)).resolve_right (λh=>h k))) (λs M k k2=>T _ _ ((Nn _ (C s M)).resolve_left Wa));omega;obtain⟨⟨t,r1⟩,h9,rfl⟩:=Qz1.1 hr;clear hr;have one:∀g∈tFeat0,NZ [⟨(x.n,g),ZE x.v.a x.v.b x.v.c x.v.p x.v.q⟩]:=λg hg=>⟨⟨by simp,by simp⟩,λa ha=>by rw[QzW.1 ha];exact⟨B9 ho.n hg,K9 _ ho.n⟩,λa ha=>by rw[QzW.1 ha];exact U.1,λa ha=>by rw[QzW.1 ha];exact U.2⟩
 rcases QzP.1 h9 with h |hr;cases h;exact one [] We;obtain⟨s,M,hr⟩:=QzU.1 hr
 unfold ndI at hr;split at hr;rename_i k1;rw[QzW]at hr;cases hr;exact one _ (Qi5 _ ((Qe8 _ (C s M)).resolve_right (λh=>h k1)));rename_i k1;split at hr;rename_i k2;obtain⟨r2,h2,h3⟩:=Qz1.1 hr;cases h3
 exact(G _ ((Nm _ (C s M)).resolve_right (λh=>h k2))).2.1 _ h2;rename_i k2;obtain⟨r2,h2,h3⟩:=Qz1.1 hr;cases h3
 exact(O (itN s,itF s) ((Nn _ (C s M)).resolve_left Wa)).2.1 _ h2;exact⟨_,rfl⟩
theorem QiG (C:YOk y) (T:(∀m∈y.ms,Yq m.r)/\∀s∈y.ss,∀e∈s.es,Yq e.r) (he:Tp.u3 GN [.str y.e1,.str y.e2,.str y.e3]):∃lkf W,na y lkf W:=by
 have wk:=Qq2 hm
 obtain⟨lkf,U⟩:=pick (p:=λn=>n∈tName) (q:=λn (l:List TkR)=>(ya n l/\∀t∈l,Yq t.r)/\∀lkf ns,n6 Tryz.prog 186 [.agg (dYd y (.ref 1000000 0 0)),.str n] (FD lkf ns) (Pb l) (FD lkf ns)) λn hn=>by
  obtain⟨_,⟨k1,rfl,O⟩,o1⟩:=Hv wk C.ml C.mt (n:=n);obtain⟨_,⟨k2,e2,l2,rfl,M⟩,o2⟩:=G1 wk C.sl C.st C.sh C.pl C.pt (n:=n);obtain⟨s3,e3,Y,o3⟩:=wk.og (y.ms.map QaZ) (by simpa using C.ml) (λr hr=>by obtain⟨m,h,rfl⟩:=Qz1.1 hr;exact C.mt m h) n (QiC n hn)
  exact⟨_,⟨Qmi C O M,Qmh T O M⟩,λlkf ns=>G5 C o1 O o2 M o3 Y⟩
 obtain⟨on,h1⟩:=pick (p:=λw=>w∈NQ) (q:=λw t=>Ok Tryz.prog 184 [.str w,.agg [.str y.e1,.str y.e2,.str y.e3]] (.bool t)) λw hw=>QtB hm hw he;obtain⟨st,h2⟩:=pick (p:=λt=>t∈tRange) (q:=λt (s:JF)=>(spB 0 s.1=true/\spB 1 s.2=true)/\Ok Tryz.prog 185 [.str t] (Li s)) λt ht=>Qkj hm ht;obtain⟨z8,h3⟩:=pick (α:=JH × List UInt8) (p:=λk=>Tp.u3 YQ (ZP k.1)/\k.2∈tFeat0) (q:=λk b=>Ok Tryz.prog 179 [.sl k.1.fd,.str k.2] (.bool b)) λk hk=>md hm (Yw hk.1).fl (Yw hk.1).fd (Qbb _ hk.2);obtain⟨nd,V⟩:=pick (α:=JH × List UInt8) (p:=λk=>Tp.u3 YQ (ZP k.1)/\k.2∈tFeat0) (q:=λk (l:List (List AskT))=>((l.length<=90/\∀r∈l,NZ r)/\(k.2≠[]->∃t,l=[⟨(k.1.n,[]),ZE k.1.v.a k.1.v.b k.1.v.c k.1.v.p k.1.v.q⟩]::t))/\Ok Tryz.prog 142 [.agg (ZP k.1),.agg [.str y.e1,.str y.e2,.str y.e3],.str k.2] (ZM l)) λk hk=>Qmx hm hk.1 he hk.2;exact⟨lkf,⟨on,st,λx f=>z8 (x,f),λx f=>nd (x,f)⟩,λn h=>(U n h).1.1,λn h=>(U n h).1.2,λn h ns=>(U n h).2 lkf ns,h1,h2,λx hx f G=>h3 (x,f) ⟨hx,G⟩,λx hx f G=>(V (x,f) ⟨hx,G⟩).1.2,λx hx f G=>⟨(V (x,f) ⟨hx,G⟩).1.1,(V (x,f) ⟨hx,G⟩).2⟩⟩
end
section
variable {y:YdT} {lkf:List UInt8->List TkR} {W:WF}
theorem na.ti (h:na y lkf W) (M:YOk y):WOk y lkf W:=
 ⟨M,λm hm=>(Yw (M.mr m hm)).n,h.tk,λn G t C f O=>(h.nd t.r ((h.tk n G).t t C) f O).1.2,λn G t C b hb=>((Yw ((h.tk n G).t t C)).bs b hb).n,λn G t C b hb=>Qgq (h.st _ ((Yw ((h.tk n G).t t C)).bs b hb).r).1⟩
theorem na.of (h:na y lkf W) (C:m9 ns) (h1:k.1∈tName) (h2:k.2∈tFeat0):n6 Tryz.prog 141 [.agg (dYd y (.ref 1000000 0 0)),.agg (Hp k)] (FD lkf ns) (Pb (ofM (lkf k.1) W.z8 k.2)) (FD lkf (Qdy ns k.1)):=
 FV (YY C (h.look _ h1 ns)) (h.tk _ h1).len λt G=>h.z8 t.r ((h.tk _ h1).t t G) _ h2
theorem Qjf (l:List (List QZ)):(Ky l).wk (Ky l)=true:=by
 have hw:∀x:QZ,wkL (F8 x) (F8 x)=true:=λx=>by
  have h1:=Xx x.s.1;have h2:=Xx x.s.2;simp[F8,wkL,D.wk,h1,h2]
 exact JE (λr=>by simp[Xh,wkL,D.wk,JE hw]) l
theorem QcA (c:CandT):wkL (D8 c) (Lh c)=true:=by
 have hw:∀x:QZ,wkL (F8 x) (F8 x)=true:=λx=>by
  have h1:=Xx x.s.1;have h2:=Xx x.s.2;simp[F8,wkL,D.wk,h1,h2]
 have h1:=Qjf c.ns;simp[D8,Lh,Xh,wkL,D.wk,h1,JE hw]
theorem na.row (h:na y lkf W) (O:YOk y) (hk:k∈Te) (C:m9 ns):∃ns',m9 ns'/\n6 Tryz.prog 137 [.agg (dYd y (.ref 1000000 0 0)),.agg (Hp k)] (FD lkf ns) (ZM (rwW y lkf W k)) (FD lkf ns'):=by
 rcases JZ hk with rfl |⟨h1,h2⟩;rw[rwW,if_pos rfl];exact⟨ns,C,KR O.ml O.mv⟩;have G:k≠([],[]):=λe=>by subst e;exact K9 _ h1 rfl
 rw[rwW,if_neg G];refine⟨_,Qf4 C h1,KQ G (h.of C h1 h2) (Qz6 (RX _ _ _) (h.tk _ h1).len) (λt M=>?_) (λt M=>?_)⟩;exact(h.nd t.r ((h.tk _ h1).t t (of_sub.subset M)) _ h2).2;exact(h.nd t.r ((h.tk _ h1).t t (of_sub.subset M)) _ h2).1.1
theorem Qqr (h:na y lkf W) (G:YOk y) (hk:k∈Te):(rwW y lkf W k).length<=9000:=by
 rcases JZ hk with rfl |⟨h1,h2⟩;rw[rwW,if_pos rfl];have:=G.ml
 simp only[Gs,QAH];omega;have C:k≠([],[]):=λe=>by subst e;exact K9 _ h1 rfl
 rw[rwW,if_neg C];have U:=R8 (nd:=W.nd) (f:=k.2) (l:=ofM (lkf k.1) W.z8 k.2) λt M=>(h.nd t.r ((h.tk _ h1).t t (of_sub.subset M)) _ h2).1.1;have T:=RX (lkf k.1) W.z8 k.2;have O:=(h.tk _ h1).len;omega
theorem QmQ:n∈Qdy ns n:=by
 unfold Qdy;split;assumption;simp
theorem QiO (h:n∈ns):Qdy ns n=ns:=if_pos h
theorem na.n8 (h:na y lkf W) (Y:YOk y) {all:List Q7} (hal:all.length<=26) (hk:k∈Te) (T:m9 ns):∃ns',m9 ns'/\n6 Tryz.prog 98 [.agg (dYd y (.ref 1000000 0 0)),XE all,.agg (Hp k)] (FD lkf ns) (.l7 [QaY (cfW y lkf W all k).1,.bool (cfW y lkf W all k).2]) (FD lkf ns'):=by
 rcases JZ hk with rfl |⟨h1,h2⟩;rw[cfW,if_pos rfl];exact⟨ns,T,n6.ai (Hy Y.ml Y.mv Wa) (JE QcA [_])⟩;have U:k≠([],[]):=λe=>by subst e;exact K9 _ h1 rfl
 rw[cfW,if_neg U];have M:=Qf4 T h1
 have O:n6 Tryz.prog 144 [.agg (dYd y (.ref 1000000 0 0)),.str k.1] (FD lkf (Qdy ns k.1)) (Pb (lkf k.1)) (FD lkf (Qdy ns k.1)):=by
  have:=YY M (h.look _ h1 (Qdy ns k.1))
  rwa [QiO QmQ]at this
 have G:∀t∈ofM (lkf k.1) W.z8 k.2,Tp.u3 YQ (ZP t.r):=λt C=>(h.tk _ h1).t t (of_sub.subset C);have V:=h.of T h1 h2;have hl:(ofM (lkf k.1) W.z8 k.2).length<=100:=Qz6 (RX _ _ _) (h.tk _ h1).len
 by_cases e:k.2=[]
 exact⟨_,M,Hw Wa U e V hl W (λt C=>(h.nd t.r (G t C) _ h2).2) (λt C=>(h.nd t.r (G t C) _ h2).1.1) (λt C r hr=>by have:=((h.nd t.r (G t C) _ h2).1.2 r hr).len;omega) (λt C=>by have:=(Yw (G t C)).bl;omega) (λt C b hb=>h.on _ ((Yw (G t C)).bs b hb).w) (λt C b hb=>(h.st _ ((Yw (G t C)).bs b hb).r).2) O⟩
 exact⟨_,M,n6.ai (Hx Wa U e V hl W (λt C=>(h.nd t.r (G t C) _ h2).2) (λt C=>(h.nd t.r (G t C) _ h2).1.1) (λt C r hr=>by have:=((h.nd t.r (G t C) _ h2).1.2 r hr).len;omega) (λt C=>by have:=(Yw (G t C)).bl;omega) (λt C b hb=>h.on _ ((Yw (G t C)).bs b hb).w) (λt C b hb=>(h.st _ ((Yw (G t C)).bs b hb).r).2) O) (JE QcA _)⟩
end
structure FeC (w:Qg) (n:List UInt8) (c:CandT):Prop where
 ex:∃p,∃hp:p<w.length,(w[p].n=n/\w[p].f=[])/\(∀j (hj:j<w.length),w[j].n=n->w[j].f=[]->j=p)/\(∃r,c.ns=[⟨p,ZE c.v.a c.v.b c.v.c c.v.p c.v.q⟩]::r)/\∀x∈w[p].cs,Qhe (ZE c.v.a c.v.b c.v.c c.v.p c.v.q) x.v=true->x.v=c.v
theorem Qeq:∀v∈Qkr,∀u∈Qkr,Qhe (ZE v.a v.b v.c v.p v.q) u=true->SC v u=0/\SC u v=0:=by decide+kernel
theorem QnU {l:List TkR} (h:ya n l) {a b:TkR} (ha:a∈l) (hb:b∈l) (C:Qhe (ZE a.r.v.a a.r.v.b a.r.v.c a.r.v.p a.r.v.q) b.r.v=true):b.r.v=a.r.v:=by
 have e:=Qeq _ (h.v a ha) _ (h.v b hb) C;obtain⟨i,hi,rfl⟩:=Qz9 ha;obtain⟨j,G,rfl⟩:=Qz9 hb;rcases Nat.lt_trichotomy i j with q |q |q
 have:=QBd.1 h.zc i j hi G q;omega;subst q;rfl;have:=QBd.1 h.zc j i G hi q;omega
theorem Qjg {lkf:List UInt8->List TkR} {W:WF} {all:List Q7} (h:WOk y lkf W) (hd:∀n∈tName,∀t∈lkf n,∀f∈tFeat0,f≠[]->∃l,W.nd t.r f=[⟨(t.r.n,[]),ZE t.r.v.a t.r.v.b t.r.v.c t.r.v.p t.r.v.q⟩]::l) (hR:ja (rwW y lkf W) all []):∀i (hi:i<(all.map (unM (cfW y lkf W) all)).length),((all.map (unM (cfW y lkf W) all))[i]'hi).f≠[]->∀c∈((all.map (unM (cfW y lkf W) all))[i]'hi).cs,FeC (all.map (unM (cfW y lkf W) all)) ((all.map (unM (cfW y lkf W) all))[i]'hi).n c:=λi hi hf c O=>by
 have hi':i<all.length:=by simpa using hi
 have hin:=QzS hi';have hk:=hR.key _ hin;simp only[QBc,unM]at O hf ⊢;have M:all[i]≠([],[]):=λe=>hf (by rw[e]);obtain⟨h1,h2⟩:=(JZ hk).resolve_left M;rw[cfW,if_neg M]at O;unfold Kw at O;split at O;cases O
 obtain⟨t,ht,rfl⟩:=Qz1.1 O;have G:=of_sub.subset ht;obtain⟨l,hl⟩:=hd _ h1 t G _ h2 hf;have C:=(h.tk _ h1).nm t G;have U:[⟨(t.r.n,[]),ZE t.r.v.a t.r.v.b t.r.v.c t.r.v.p t.r.v.q⟩]∈rwW y lkf W all[i]:=by rw[rwW,if_neg M];exact QzU.2 ⟨t,ht,by rw[hl];simp⟩
 have Y:(t.r.n,[])∈all:=((hR.cl _ hin).resolve_left Wc) _ U _ (QzW.2 rfl);obtain⟨p,hp,e1,e2⟩:=QfS Y;have hp0:all[p]≠([],[]):=λe=>by rw[e1]at e;simp only[QAG]at e;rw[C]at e;exact K9 _ h1 e.1
 refine⟨p,by simpa using hp,⟨by simp[unM,e1,C],by simp[unM,e1]⟩,λj hj q1 q2=>?_,⟨M7 all l, ?_⟩,λx hx hh=>?_⟩;have V:j<all.length:=by simpa using hj
 simp only[QBc,unM]at q1 q2;have e4:all[j]=all[p]:=by rw[e1];exact Prod.ext (q1.trans C.symm) q2
 rcases Nat.lt_trichotomy j p with q |q |q;exact absurd e4 (QBd.1 (Qct hR.zc) j p V hp q);exact q;exact absurd e4.symm (QBd.1 (Qct hR.zc) p j hp V q);simp[JI,hl,M7,QgW,e2];simp only[QBc,unM]at hx;rw[cfW,if_neg hp0]at hx;unfold Kw at hx;split at hx;cases hx
 obtain⟨t2,ht2,rfl⟩:=Qz1.1 hx;have e3:all[p].1=all[i].1:=by rw[e1];exact C
 have T:=of_sub.subset ht2;rw[e3]at T;exact QnU (h.tk _ h1) G T hh
structure jg (w:Qg):Prop where
 v:fc w
 nm:∀u∈w,u.n.length<=1048576/\u.f.length<=1048576
 ns:∀i (h:i<w.length),∀c∈w[i].cs,∀x∈c.bs,x.u≠i
 fe:∀i (h:i<w.length),w[i].f≠[]->∀c∈w[i].cs,FeC w w[i].n c
theorem jg.raw {w:Qg} (h:jg w):DO w:=⟨by have:=h.v.len;omega,h.nm,λu hu=>by have:=h.v.cl u hu;omega,λu hu c C=>by
 have q:=h.v.n8 u hu c C;exact⟨q.sm,by have:=q.nl;omega,by have:=q.bl;omega,λr hr=>⟨by have:=(q.rows r hr).1;omega,λx hx=>((q.rows r hr).2 x hx).sm⟩,λx hx=>(q.bars x hx).sm⟩⟩
theorem Ql6:∀k∈Te,k.1.length<=100/\k.2.length<=100:=by decide
section
variable (hm:Tryz.prog.follows .mixedOrders=true)
include hm
theorem Qd1 {ms:List Bs} {ss:List ShR} {v1 v2 v3:List UInt8} (V:ms.length<=2) (O:∀m∈ms,Tp.u3 Sx (QaZ m)/\Tp.u3 YQ (ZP m.r)) (U:ss.length<=2) (C:∀s∈ss,Tp.u3 J2 (dSh s)/\(s.n.length<=100/\s.es.length<=100)/\∀e∈s.es,Tp.u3 YQ (ZP e.r)) (he:Tp.u3 GN [.str v1,.str v2,.str v3]):∃w e,(e=0->jg w)/\Ok Tryz.prog 31 [KS ms,Lj ss,.agg [.str v1,.str v2,.str v3],.sl []] (.l7 [Q6 w,.int .i64 e]):=by
 obtain⟨_,⟨w,e,rfl,h⟩,o⟩:=HZ (Qq2 hm) (G:=jg) V (λm h=>(O m h).1) U (λs h=>⟨(C s h).2.1.1,(C s h).2.1.2,(C s h).2.2,λe he=>(Yw ((C s h).2.2 e he)).v⟩) he λn1 n2 ps hpl hpt=>by
  have T:YOk ⟨ms,ss,v1,v2,v3,ps⟩:=⟨V,λm h=>(O m h).1,λm h=>(O m h).2,λm h=>(Yw (O m h).2).v,U,λs h=>(C s h).1,λs h=>⟨(C s h).2.1.1,(C s h).2.1.2,(C s h).2.2,λe he=>(Yw ((C s h).2.2 e he)).v⟩,hpl,hpt⟩;obtain⟨lkf,W,hp⟩:=QiG hm T ⟨n1,n2⟩ he;have hw:=hp.ti T;have M:m9 []:=⟨by simp,by simp⟩;have hre:=H3 (y:=⟨ms,ss,v1,v2,v3,ps⟩) (lkf:=lkf) M (rw:=rwW _ lkf W) (λk hk ns M=>hp.row T hk M) (λk hk r hr a ha=>((QmX hw hk r hr).key a ha).1) (λk hk=>Qqr hp T hk) (λk hk r hr=>by have:=(QmX hw hk r hr).len;omega)
  obtain⟨_,_,⟨w,b,ns2,rfl,rfl,_,h2⟩,o⟩:=H4 M hre (cf:=cfW _ lkf W) λall hal k hk ns M=>hp.n8 T hal hk M;refine⟨lkf,_,_,⟨w,b,ns2,rfl,rfl,λhb=>?_⟩,o⟩;obtain⟨all,Y,rfl,hf⟩:=h2 hb
  exact⟨Qg5 hw Y hf,λu hu=>by
   obtain⟨k,hk,rfl⟩:=Qz1.1 hu;have:=Ql6 k (Y.key k hk);exact⟨by show k.1.length<=_;omega,by show k.2.length<=_;omega⟩,Qjh hw hp.nb Y,Qjg hw (λn hn t ht f hf=>hp.hd t.r ((hp.tk n hn).t t ht) f hf) Y⟩
 exact⟨w,e,h,o⟩
end
end Go.Proofs
