/- Part 37 of the means of the proof: a verified evaluator and contracts of functions. -/
import Derived.Test.YtggcpapoljmiaaaGreatDoorB36
import Derived.Test.YtggcpapoljmiaaaGreatDoorB11
import Derived.Test.YtggcpapoljmiaaaGreatDoorB12
import Derived.Test.YtggcpapoljmiaaaGreatDoorB13
import Derived.Test.YtggcpapoljmiaaaGreatDoorB14
import Derived.KernelRfl
set_option maxRecDepth 4000
set_option maxHeartbeats 4000000
set_option linter.unusedSimpArgs false
set_option linter.unusedVariables false
set_option linter.unusedSectionVars false
namespace Go.Proofs
open Go Go.Abs
set_option maxRecDepth 100000
set_option maxHeartbeats 0
set_option cbv.maxSteps 100000000
def t20:TT false Tryz.f20:=⟨_,by cbv⟩
def tf20:z5:=t20.1
theorem Qzz:Qj Tryz.prog Tryz.f20=some tf20.erase:=by kernel_rfl
open M3 M25
set_option maxRecDepth 4000
set_option maxHeartbeats 4000000
theorem YQ {l:List Int} (G:l.length<=1048576):Ok Tryz.prog 20 [Qz l,Qz l] (.bool true):=by
 refine Ok.n6 tfol Tryz.func20 Qzz (QAk Z) ?_;show TW _ _ tf20.body _ _;refine aX ?_ ?_;intro h1
 grind
 intro h1;refine Qt (ι:=Nat) (λi=>⟨[(0,Qz l),(1,Qz l),(5,.int .i64 i)],[]⟩) (λi=>i<=l.length) (λi=>l.length - i) 0 ?_ ?_ ?_;exact QB (kp3 Z Z Z);omega;intro i M;refine aB ?_ ?_;intro h2;refine aB ?_ ?_;intro C
 grind
 intro C;refine Qc (i+1) ?_ ?_ ?_;exact QB (kp3 Z Z Z);omega;omega;intro h2;rfl
end Go.Proofs
namespace M25
open Go Go.Abs M3
theorem MV {w:Qe} (hw:Po w) {c:List Int}:(wrongR w c).length<=1048576:=by
 cases h:mayC w c with
 |false=>rw[DP h];simp
 |true=>
  obtain⟨h1,h2⟩:=MH h;have C:=h1.val hw;have:=Hq C.se c c.length;rw[Hp h,SQ];have:=h2.len;have:=C.len;omega
end M25
namespace Go.Proofs
open Go Go.Abs M3 M25
section
variable {w:Qe} {c t:List Int}
theorem Qkv (hw:WSm w) (hr:WIn w) (M:T1 w c) {i:Nat} {r:List QN} (hi:i<c.length) (hp:0<=c[i]) (h:r∈Jc w c i):∀x∈r,0<=x.u/\x.u<w.length:=by
 have C:i<w.length:=by rw[<- M.len];omega
 have G:=PB (Ms M hi).2 hp;rw[KN C hi G]at h;exact hr.nr _ (QAp C) _ (QAp G) r h
end
variable {i:Nat}
section
variable {w:Qe} {c t:List Int}
theorem FC:(tidyM w c).length=c.length:=by simp[tidyM]
theorem Qjp (h:i<c.length) (h2:i<(tidyM w c).length):(tidyM w c)[i]=if nddB w c i=true then c[i]else -1:=by simp[tidyM,HX h]
theorem Bw (h:i<c.length) (h2:i<(tidyM w c).length) (C:Ndd w c i):(tidyM w c)[i]=c[i]:=by rw[Qjp h,if_pos (Qf0 C)]
theorem By (h:i<c.length) (h2:i<(tidyM w c).length) (C:¬Ndd w c i):(tidyM w c)[i]= -1:=by rw[Qjp h,QmI C];rfl
theorem Qq3 (C:T1 w c):T1 w (tidyM w c):=⟨by rw[FC];exact C.len,λu hu h2=>by
 have h1:u<c.length:=by rw[C.len];exact hu
 have hb:=C.bd u hu h1
 by_cases hn:Ndd w c u
 rw[Bw h1 h2 hn];exact hb;rw[By h1 h2 hn];omega⟩
theorem Qn6 (hw:WSm w) (G:T1 w c) {x:QN} (hx:0<=x.u/\x.u<w.length):(mtM w (tidyM w c) x=true->mtM w c x=true)/\(Ndd w c x.u.toNat->mtM w (tidyM w c) x=mtM w c x):=by
 have U:=G.len;have O:x.u.toNat<c.length:=Wa;have C:x.u.toNat<(tidyM w c).length:=by rw[FC];exact O
 have M:=Qq3 G
 have same:Ndd w c x.u.toNat->mtM w (tidyM w c) x=mtM w c x:=λT=>by
  have e:=Bw O C T
  by_cases hp:0<=c[x.u.toNat]
  rw[QfX hw M hx.1 hx.2 C (by rw[e];exact hp),QfX hw G hx.1 hx.2 O hp,e]
  rw[QdD hw M hx.1 hx.2 C (by rw[e];exact hp),QdD hw G hx.1 hx.2 O hp]
 refine⟨λh=>?_,same⟩
 by_cases T:Ndd w c x.u.toNat
 rw[<- same T];exact h;rw[QdD hw M hx.1 hx.2 C (by rw[By O C T];omega)]at h
 cases h
theorem Qn7 (hi:i<c.length) (C:Ndd w c i):Jc w (tidyM w c) i=Jc w c i:=by
 have e:cA (tidyM w c) i=cA c i:=by
  have h2:i<(tidyM w c).length:=by rw[FC];exact hi
  rw[HX h2,HX hi,Bw hi h2 C]
 unfold Jc;rw[e]
theorem Qq4 (hw:WSm w) (hr:WIn w) (C:T1 w c) (h0:0<c.length) (h:Ndd w c i):Ndd w (tidyM w c) i:=by
 induction h with
 |root h=>
  refine .root ?_;have h2:0<(tidyM w c).length:=by rw[FC];exact h0
  have e:=Bw h0 h2 (.root h);have e2:cA (tidyM w c) ((0:Nat):Int)=(tidyM w c)[0]:=HX h2;have e3:cA c ((0:Nat):Int)=c[0]:=HX h0;have M:cA (tidyM w c) 0=cA c 0:=by rw[show(0:Int)=((0:Nat):Int) from rfl,e2,e3,e]
  rw[M];exact h
 | @step i r x hn hr1 hx hm ih=>
  obtain⟨hi,hp⟩:=MJ hw hr C h0 hn;have G:Ndd w c x.u.toNat:=.step hn hr1 hx hm;refine .step ih (by rw[Qn7 hi hn];exact hr1) hx ?_
  rw[(Qn6 hw C (Qkv hw hr C hi hp hr1 x hx)).2 G];exact hm
theorem Qn5 (hw:WSm w) (hr:WIn w) (C:T1 w c) (h0:0<c.length):tidyM w (tidyM w c)=tidyM w c:=by
 refine List.ext_getElem (by rw[FC]) λi h1 h2=>?_;have hi:i<c.length:=by rw[<- FC (w:=w)];exact h2
 by_cases hn:Ndd w c i
 rw[Bw h2 h1 (Qq4 hw hr C h0 hn)]
 by_cases hn2:Ndd w (tidyM w c) i
 rw[Bw h2 h1 hn2];rw[By h2 h1 hn2,By hi h2 hn]
theorem Qci {u:Nat} {ns:List (List QN)} (h:∀r∈ns,MC w t r=false->MC w c r=false) {f:BO}:∀{i:Nat},f∈JL w t u ns i->f∈JL w c u ns i
 |0,C=>by cases C
 |i+1,C=>by
  rw[JL,QAv]at C ⊢;rcases C with C |C
  exact .inl (Qci h C);right;cases e:ns[i]? with
  |none=>rw[e]at C;cases C
  |some r=>
   rw[e]at C;simp only at C ⊢;cases e1:MC w t r with
   |true=>rw[e1]at C;cases C
   |false=>rw[e1]at C;rw[h r (QAM e) e1];exact C
theorem Qer {u:Nat} {bs:List QN} (h:∀x∈bs,mtM w t x=true->mtM w c x=true) {f:BO}:∀{i:Nat},f∈SW w t u bs i->f∈SW w c u bs i
 |0,C=>by cases C
 |i+1,C=>by
  rw[SW,QAv]at C ⊢;rcases C with C |C
  exact .inl (Qer h C);right;cases e:bs[i]? with
  |none=>rw[e]at C;cases C
  |some x=>
   rw[e]at C;simp only at C ⊢;cases e1:mtM w t x with
   |false=>rw[e1]at C;cases C
   |true=>rw[e1]at C;rw[h x (QAM e) e1];exact C
theorem QcX (hw:WSm w) (hr:WIn w) (G:T1 w c) (h0:0<c.length) {f:BO}:∀{n:Nat},n<=c.length->f∈Q4 w (tidyM w c) n->f∈Q4 w c n
 |0,_,h=>by
  have h2:0<(tidyM w c).length:=by rw[FC];exact h0
  have e2:cA (tidyM w c) ((0:Nat):Int)=(tidyM w c)[0]:=HX h2;have e3:cA c ((0:Nat):Int)=c[0]:=HX h0;rw[show((0:Nat):Int)=0 from rfl]at e2 e3;rw[Q4,e2]at h;rw[Q4,e3]
  by_cases hp:c[0]<0
  rw[if_pos hp];split at h;exact h;cases h
  rw[Bw h0 h2 (.root (by rw[e3];omega)),if_neg hp]at h
  cases h
 |n+1,hn,h=>by
  rw[Q4,QAv]at h ⊢;rcases h with h |h
  exact .inl (QcX hw hr G h0 Wa h);right;have M:n<c.length:=Wa;have h2:n<(tidyM w c).length:=by rw[FC];exact M
  have C:n<w.length:=by rw[<- G.len];exact M
  rw[HX h2]at h;rw[HX M];split at h;rename_i hp
  by_cases hN:Ndd w c n
  have e:=Bw M h2 hN;rw[e]at hp;rw[if_pos hp];have hb:=PB (Ms G M).2 hp;have U:(tidyM w c)[n].toNat<w[n].cs.length:=by rw[e];exact hb
  rw[L5 C h2 U,QiZ,QAv]at h;rw[L5 C M hb,QiZ,QAv];have e5:w[n].cs[(tidyM w c)[n].toNat]=w[n].cs[c[n].toNat]:=by simp only[e]
  rw[e5]at h;refine h.imp (Qci λr O hk=>?_) (Qer λx hx hm=>?_);have T:=hr.nr _ (QAp C) _ (QAp hb) r O;cases Y:MC w c r with
  |false=>rfl
  |true=>
   rw[MC,QBs]at Y;obtain⟨x,hx,hm⟩:=Y;have V:Ndd w c x.u.toNat:=.step hN (by rw[KN C M hb];exact O) hx hm
   rw[MC,List.any_eq_false]at hk;have:=hk x hx;rw[(Qn6 hw G (T x hx)).2 V,hm]at this;exact absurd rfl this
  exact(Qn6 hw G (hr.bw _ (QAp C) _ (QAp hb) x hx)).1 hm;rw[By M h2 hN]at hp;omega;cases h
theorem Quf (h:ya w) (M:wa w c):QwA w c (tidyR w c) (neededR w c):=by
 have hm:=Pf (DL h) M;have U:=M.ch;have h0:0<c.length:=by rw[M.len];have:=h.len;omega
 have O:=Qq3 U;have G:mayC w (tidyM w c)=true:=Pf (DL h) ⟨O.len,O.bd⟩
 have C:∀f∈wrongR w (tidyM w c),f∈wrongR w c:=λf T=>by
  rw[Hp G,SQ,FC]at T;rw[Hp hm,SQ];exact QcX h.se h.jf U h0 (QAK _) T
 rw[tidyR,if_pos hm,neededR,if_pos hm];have nd:∀i (V:i<(nddL w c).length),(nddL w c)[i]=nddB w c i:=λi V=>by simp[nddL]
 refine⟨FC,by simp[nddL],λi h1 h2 V e=>?_,λi h1 h2 V e=>?_,λi h1=>(Ms U h1).1,by rw[tidyR,if_pos G,Qn5 h.se h.jf U h0],C,λY=>?_⟩;rw[nd]at e;rw[Qjp h1,if_pos e];rw[nd]at e;rw[Qjp h1,e];rfl;simp only[holdsR,hm,G,QA6,decide_eq_true_eq,List.length_eq_zero_iff]at Y ⊢;refine List.eq_nil_iff_forall_not_mem.2 λf T=>?_;have:=C f T;rw[Y]at this;cases this
end
end Go.Proofs
namespace Go.Proofs
open Go Go.Abs
set_option maxRecDepth 100000
set_option maxHeartbeats 0
set_option cbv.maxSteps 100000000
def t4:TT false Tryz.f4:=⟨_,by cbv⟩
def tf4:z5:=t4.1
theorem tp4:Qj Tryz.prog Tryz.f4=some tf4.erase:=by kernel_rfl
open M3 M25
set_option maxRecDepth 4000
set_option maxHeartbeats 4000000
theorem Qiw {a b:BO}:Hv [0,0,0] (Qdn a) (Qdn b)=some (decide (a=b)):=by
 have:(a=b)=(a.k=b.k/\a.u=b.u/\a.a=b.a):=by cases a;cases b;simp
 simp[Qdn,Hv,this,Bool.decide_and]
theorem c_linchpinlaw19_ChoiceTidy {l m:List Int} {up:Bool} {w:Qe} (hW:Ok Tryz.prog 15 [Qz l] (QW w)) (C:Po w) (T:ya w) (hv:(∀x∈m, -9223372036854775808<=x/\x<=9223372036854775807)):Ok Tryz.prog 4 [Qz l,Qz m,.bool up,gD] (.bool true):=by
 refine Ok.ia (ds:=[Qz l,Qz m,.bool up]) (dg:=gD) tfol Tryz.func4 tp4 (QAk rfl) ?_;show TW _ _ tf4.body _ _;have hwl:=T.len;have M:wa w (YS w m up):=L9;obtain⟨c,hc⟩:∃c,c=YS w m up:=⟨_,rfl⟩;rw[<- hc]at M;have hcl:=M.len;have hk:=Quf T M;obtain⟨o,ho⟩:∃o,o=neededR w c:=⟨_,rfl⟩;obtain⟨t,ht⟩:∃t,t=tidyR w c:=⟨_,rfl⟩;rw[<- ho,<- ht]at hk;have hol:=hk.ol;have htl:=hk.len;have hfc:=@MV w C c;have hft:=@MV w C t;refine aS ?_;refine Qg hW rfl rfl (.inl rfl) (aK ?_);refine Qg (Yq C hv) rfl rfl (.inl rfl) ?_;rw[<- hc];refine aK ?_;refine Qg (Jg C (c:=c) Wa) rfl rfl (.inl rfl) ?_;rw[<- ht];refine aK ?_;refine Qg (Y0 C (c:=c) Wa) rfl rfl (.inl rfl) ?_;rw[<- ho];refine aB ?_ ?_;intro h1;omega;intro h1;refine aB ?_ ?_;intro h2;omega;intro h2;refine Qt (ι:=Nat) (λj=>⟨[(7,.ref 7 0 0),(8,Qz c),(9,Qz t),(10,X9 o),(11,.int .i64 j),(900000,gD)],[(7,⟨[[.sl (w.map Zi)]],1,25,true⟩)]⟩) (λj=>j<=c.length) (λj=>c.length - j) 0 ?_ ?_ ?_;exact Ql (l:=[7,8,9,10,11,900000]) (lH:=[7]) (Qd rfl (Qd rfl (Qd rfl (Qd rfl (Qd rfl (Qd rfl Qy)))))) (Qa rfl Qb) rfl rfl rfl;exact QAw _;intro j hj
 try dsimp only
 refine aB ?_ ?_;intro h3;have hy:=hk.yes j Wa Wa Wa;have hn:=hk.no j Wa Wa Wa;have hlo:=hk.lo j Wa;refine aB ?_ ?_;intro U;refine aB ?_ ?_;intro O;cases e:o[j]with
 |true=>exact absurd (hy e) U
 |false=>exact absurd (hn e) O
 intro O;refine aB ?_ ?_;intro G;refine aB ?_ ?_;intro h7;exfalso;have Y:0<=c[j]:=Wa;simp[Y,U]at h7;intro h7;refine Qc (j+1) ?_ ?_ ?_;exact Ql (l:=[7,8,9,10,11,900000]) (lH:=[7]) (Qd rfl (Qd rfl (Qd rfl (Qd rfl (Qd rfl (Qd rfl Qy)))))) (Qa rfl Qb) rfl rfl rfl;show j+1<=c.length;omega;omega;intro G;exact absurd (hy (by simpa using G)) U;intro U;refine aB ?_ ?_;intro O;refine aB ?_ ?_;intro G;exfalso;have q0:=hn (by simpa using O);have Y:¬0<=c[j]:=Wa;simp[Y,U]at G;intro G;refine Qc (j+1) ?_ ?_ ?_;exact Ql (l:=[7,8,9,10,11,900000]) (lH:=[7]) (Qd rfl (Qd rfl (Qd rfl (Qd rfl (Qd rfl (Qd rfl Qy)))))) (Qa rfl Qb) rfl rfl rfl;show j+1<=c.length;omega;omega;intro O;refine aB ?_ ?_;intro G;exfalso;simp[U]at G;intro G;refine Qc (j+1) ?_ ?_ ?_;exact Ql (l:=[7,8,9,10,11,900000]) (lH:=[7]) (Qd rfl (Qd rfl (Qd rfl (Qd rfl (Qd rfl (Qd rfl Qy)))))) (Qa rfl Qb) rfl rfl rfl;show j+1<=c.length;omega;omega;intro h3;refine Qg (Yw C (c:=c) Wa) rfl rfl (.inl rfl) (aK ?_);refine Qg (Yw C (c:=t) Wa) rfl rfl (.inl rfl) (aK ?_);refine Qt (ι:=Nat) (λi=>⟨[(7,.ref 7 0 0),(8,Qz c),(9,Qz t),(12,Pp (wrongR w c)),(92,Pp (wrongR w t)),(93,.int .i64 (wrongR w t).length),(94,.int .i64 i),(900000,gD)],[(7,⟨[[.sl (w.map Zi)]],1,25,true⟩)]⟩) (λi=>i<=(wrongR w t).length) (λi=>(wrongR w t).length - i) 0 ?_ ?_ ?_;exact Ql (l:=[7,8,9,12,92,93,94,900000]) (lH:=[7]) (Qd rfl (Qd rfl (Qd rfl (Qd rfl (Qd rfl (Qd rfl (Qd rfl (Qd rfl Qy)))))))) (Qa rfl Qb) rfl rfl rfl;exact QAw _;intro i hi
 try dsimp only
 refine aB ?_ ?_;intro U;refine Qt (ι:=Nat × Bool) (λk=>⟨[(7,.ref 7 0 0),(8,Qz c),(9,Qz t),(12,Pp (wrongR w c)),(14,.ref 14 0 0),(15,.bool k.2),(16,.int .i64 k.1),(92,Pp (wrongR w t)),(93,.int .i64 (wrongR w t).length),(94,.int .i64 i),(900000,gD)],[(7,⟨[[.sl (w.map Zi)]],1,25,true⟩),(14,⟨[Qdn ((wrongR w t)[i]'Wa)],3,40,true⟩)]⟩) (λk=>k.1<=(wrongR w c).length/\(k.2=true↔∃q,q<k.1/\∃h:q<(wrongR w c).length,(wrongR w c)[q]=(wrongR w t)[i]'Wa)) (λk=>(wrongR w c).length - k.1) (0,false) ?_ ?_ ?_;exact Ql (l:=[7,8,9,12,14,15,16,92,93,94,900000]) (lH:=[7,14]) (Qd rfl (Qd rfl (Qd rfl (Qd rfl (Qd rfl (Qd rfl (Qd rfl (Qd rfl (Qd rfl (Qd rfl (Qd rfl Qy))))))))))) (Qa rfl (Qa rfl Qb)) rfl rfl rfl;exact⟨QAw _,by simp⟩;intro k V
 try dsimp only
 refine aB ?_ ?_;intro O;refine aB ?_ ?_;intro G;refine Qc (k.1+1,true) ?_ ?_ ?_;exact Ql (l:=[7,8,9,12,14,15,16,92,93,94,900000]) (lH:=[7,14]) (Qd rfl (Qd rfl (Qd rfl (Qd rfl (Qd rfl (Qd rfl (Qd rfl (Qd rfl (Qd rfl (Qd rfl (Qd rfl Qy))))))))))) (Qa rfl (Qa rfl Qb)) rfl rfl rfl;obtain⟨q,Y,q2⟩:=V.2.1 G;exact⟨by show k.1+1<=(wrongR w c).length;omega,by simp only[true_iff];exact⟨q,Wa,q2⟩⟩
 show(wrongR w c).length - (k.1+1)<(wrongR w c).length - k.1;omega;intro G;refine JY rfl rfl Qiw (aK ?_);refine Qc (k.1+1,decide ((wrongR w c)[k.1]=(wrongR w t)[i])) ?_ ?_ ?_;exact Ql (l:=[7,8,9,12,14,15,16,92,93,94,900000]) (lH:=[7,14]) (Qd rfl (Qd rfl (Qd rfl (Qd rfl (Qd rfl (Qd rfl (Qd rfl (Qd rfl (Qd rfl (Qd rfl (Qd rfl Qy))))))))))) (Qa rfl (Qa rfl Qb)) rfl rfl rfl;refine⟨by show k.1+1<=(wrongR w c).length;omega, ?_⟩
 simp only[decide_eq_true_eq];constructor;intro e;exact⟨k.1,Wa,Wa,e⟩;intro ⟨q,Y,q2,e⟩
 by_cases hq:q=k.1
 subst hq;exact e;have:=V.2.2 ⟨q,Wa,q2,e⟩;rw[G]at this;cases this;show(wrongR w c).length - (k.1+1)<(wrongR w c).length - k.1;omega;intro O;refine aB ?_ ?_;intro G;exfalso;obtain⟨q,hq,e⟩:=List.getElem_of_mem (hk.sub _ (QAp (Wa:i<(wrongR w t).length)));have:=V.2.2 ⟨q,Wa,hq,e⟩
 (repeat clear hK K);simp_all
 intro G;refine Qc (i+1) ?_ ?_ ?_;exact Ql (l:=[7,8,9,12,92,93,94,900000]) (lH:=[7]) (Qd rfl (Qd rfl (Qd rfl (Qd rfl (Qd rfl (Qd rfl (Qd rfl (Qd rfl Qy)))))))) (Qa rfl Qb) rfl rfl rfl;show i+1<=(wrongR w t).length;omega;omega;intro U;refine Qg Z6 rfl rfl (.inr rfl) (aK ?_);refine Qg (Jg C (c:=t) Wa) rfl rfl (.inl rfl) ?_;rw[hk.idem];refine aK ?_;refine Qg (YQ (l:=t) Wa) rfl rfl (.inr rfl) (aK ?_);refine Qg (XB C (c:=c) Wa) rfl rfl (.inr rfl) (aB ?_ ?_);intro O;rfl;intro O;refine Qg (XB C (c:=t) Wa) rfl rfl (.inr rfl) (aK ?_);exact hk.hold O
end Go.Proofs
