/- Part 43 of the means of the proof: a verified evaluator and contracts of functions. -/
import Derived.Test.YtggcpapoljmiaaaGreatDoorC42
set_option maxRecDepth 4000
set_option maxHeartbeats 4000000
set_option linter.unusedSimpArgs false
set_option linter.unusedVariables false
set_option linter.unusedSectionVars false
namespace Go.Proofs
open Go Go.Abs M3 M25
set_option maxRecDepth 100000
variable {k:Int} {l:List Int}
theorem Qfy:fc M4:=by
 refine⟨⟨by simp[M4],by simp[M4]⟩,λu hu=>?_,λ_=>⟨rfl,rfl,rfl⟩,λi hi hp=>?_,λi hi hp=>?_,λu hu c G=>?_,λu hu j C hp=>?_⟩;simp only[M4,QzW]at hu;subst hu;simp;simp[M4]at hi;omega;simp[M4]at hi;omega;simp only[M4,QzW]at hu;subst hu;rw[QzW]at G;subst G;exact⟨⟨by simp,by simp⟩,(show Jy 0 0 0 [] []=true by decide),by simp,by simp,by simp,by simp⟩;simp only[M4,QzW]at hu;subst hu;have C:j<1:=C;omega
theorem QiD:jg M4:=by
 refine⟨Qfy,λu hu=>?_,λi hi c G x hx=>?_,λi hi C=>?_⟩;simp only[M4,QzW]at hu;subst hu;simp;obtain rfl:i=0:=by have:i<1:=hi;omega
 rw[QzW.1 (show c∈[(⟨⟨0,0,0,[],[]⟩, -1,[],[]⟩:CandT)] from G)]at hx;cases hx;obtain rfl:i=0:=by have:i<1:=hi;omega
 exact absurd rfl C
theorem QfC {lo hi:Int} (h0:lo<=k) (hk:k<=hi):v7 [0,(l.length:Int),k] [(0,1,0),(0,2, -lo),(2,0,hi)]:=Y7 (a:=0) (b:=l.length) rfl rfl Wa (Y7 (a:=0) (b:=k) rfl rfl Wa (Y7 (a:=k) (b:=0) rfl rfl Wa Ny))
theorem QlZ (hi:∀x∈l,I64 x):∀r∈l.map (λn=>[D.int .i64 n]),Tp.u3 [tI] r:=λr hr=>by
 obtain⟨n,C,rfl⟩:=Qz1.1 hr;exact⟨_,_,rfl,⟨n,rfl,(hi n C).1,(hi n C).2⟩,rfl⟩
theorem QeW (hi:∀x∈l,I64 x):Vl.n4 [0,(l.length:Int),k] [.ll [tI] 1 0,.nn .i64 2 0] [Q0 l,.int .i64 k]:=
 ⟨_,_,rfl,⟨_,.inl rfl,⟨l.length,rfl,by rw[QAH];omega⟩,QlZ hi⟩,_,_,rfl,⟨k,rfl,k,rfl,Wa⟩,rfl⟩
section
variable (hm:Tryz.prog.follows .mixedOrders=true)
include hm
theorem Qpj (hi:∀x∈l,I64 x) (h0:0<=k) (hk:k<=9000):∃a b c:List UInt8,Tp.u3 GN [.str a,.str b,.str c]/\Ok Tryz.prog 32 [Q0 l,.int .i64 k] (.agg [.str a,.str b,.str c]):=by
 obtain⟨_,_,_,_,_,me⟩:=RO;obtain⟨_,_,_,_,⟨G,rfl,_,_,rfl,⟨a,ha,rfl⟩,_,_,rfl,⟨b,hb,rfl⟩,_,_,rfl,⟨c,C,rfl⟩,rfl⟩,o⟩:=SW hm me (c:=QvC) Wc [0,l.length,k] [Q0 l,.int .i64 k] rfl rfl (QfC Wa hk) (QeW hi);exact⟨a,b,c,⟨_,_,rfl,⟨a,ha,rfl⟩,_,_,rfl,⟨b,hb,rfl⟩,_,_,rfl,⟨c,C,rfl⟩,rfl⟩,o⟩
theorem world_ok (hi:∀x∈l,I64 x):∃w,jg w/\Ok Tryz.prog 15 [Q0 l] (Q6 w):=by
 obtain⟨_,_,_,my,ms,_⟩:=RO;obtain⟨v1,v2,v3,he,U⟩:=Qpj hm hi (k:=1200) Wa Wa;obtain⟨e1,d1,_,c1,⟨M,hy,⟨x,T,q2⟩,ty⟩,Y⟩:=SW hm my (c:=QvO) Wc [0,l.length,0] [Q0 l,.int .i64 0] rfl rfl (QfC Wa Wa) (QeW hi);obtain⟨e2,d2,_,c2,⟨rs,hs,⟨z,O,q4⟩,ts⟩,V⟩:=SW hm ms (c:=QvN) Wc [0,l.length,200] [Q0 l,.int .i64 200] rfl rfl (QfC Wa Wa) (QeW hi);have b1:=QcQ c1 (k:=2) (x:=3) (show((3,0,2):Cn)∈[((0,3, -1):Cn),(3,0,2)] by simp) rfl T;have b2:=QcQ c2 (k:=2) (x:=3) (show((3,0,2):Cn)∈[((0,3, -1):Cn),(3,0,2)] by simp) rfl O;obtain⟨ms,G,l1,t1⟩:=TF QpM M ty;obtain⟨ss,C,l2,t2⟩:=TF QtQ rs ts;obtain⟨w,e,hv,ob⟩:=Qd1 hm (ms:=ms) (ss:=ss) Wa t1 Wa t2 he;have o:=GY (Qal Y (Sq hy G)) (Qal V (Sq hs C)) U ob;split at o;rename_i h;exact⟨w,hv h,o⟩;exact⟨M4,QiD,Qal o QmA⟩
end
end Go.Proofs
namespace Go.Proofs
open Go Go.Abs M3 M25
variable {c:List Int} {w:Qg}
theorem Qfz {w:Qg} {c:List Int} (C:∀j (h:j<c.length),c[j]<0) (h0:0<c.length):∀i,i<=c.length->QX w c i=[⟨1,0,0⟩]
 |0,_=>Su h0 (C 0 h0)
 |i+1,h=>by
  rw[KI (Wa:i<c.length) (by have:=C i Wa;omega)]
  exact Qfz C h0 i Wa
def QaF (k:Nat) (f:QdA):Prop:=f.k≠3/\(f.k=2->f.u=k)
theorem Tl {w:Qg} {c:List Int} {u:Nat} {ns:List (List QZ)}:∀i,∀f∈X9 w c u ns i,QaF u f
 |0,f,h=>by cases h
 |i+1,f,h=>by
  rw[X9,QzY]at h;rcases h with h |h
  exact Tl i f h;split at h;split at h;cases h
  rw[QzW.1 h];exact⟨by simp,λ_=>rfl⟩;cases h
theorem QaP {w:Qg} {c:List Int} {u:Nat} {bs:List QZ} (hb:∀x∈bs,mtM w c x=false):∀i,SY w c u bs i=[]
 |0=>rfl
 |i+1=>by
  rw[SY,QaP hb i];split;rename_i x e;rw[hb x (QAg e)];rfl;rfl
theorem TY {w:Qg} {c:List Int} {k:Nat} (G:∀j (h:j<c.length),j≠k->c[j]<0) (h1:∀f∈QmE w c k,QaF k f):∀i,i<=c.length->∀f∈QX w c i,QaF k f
 |0,_,f,h=>by
  rw[QX]at h;split at h;rw[QzW.1 h];exact⟨by decide,λe=>by cases e⟩;cases h
 |i+1,hi,f,h=>by
  have C:i<c.length:=Wa
  by_cases e:0<=c[i]
  have e2:i=k:=Classical.byContradiction λq=>by have:=G i C q;omega
  rw[Gx C e,QzY]at h;rcases h with h |h
  exact TY G h1 i Wa f h;subst e2;exact h1 f h;rw[KI C e]at h;exact TY G h1 i Wa f h
theorem Qmz (C:fc w) (hw:DO w):mayC w (List.replicate w.length (-1))=true/\wrongR w (List.replicate w.length (-1))=[⟨1,0,0⟩]:=by
 have hm:mayC w (List.replicate w.length (-1))=true:=CI (QgT C) ⟨by simp,λj h1 h2=>by simp;omega⟩
 refine⟨hm, ?_⟩;rw[Hk hm,Ss];exact Qfz (λj h=>by simp) (by have:=C.len.1;simp;omega) _ (QAe _)
theorem Qhy (hb:jg w) {k:Nat} (hk:k<w.length) (hc:0<w[k].cs.length):mayC w ((List.replicate w.length (-1)).set k 0)=true/\∀f∈wrongR w ((List.replicate w.length (-1)).set k 0),QaF k f:=by
 have O:=hb.v;have C:∀j (h:j<((List.replicate w.length (-1:Int)).set k 0).length),((List.replicate w.length (-1:Int)).set k 0)[j]=if k=j then 0 else -1:=λj h=>by simp[List.getElem_set]
 have U:xb w ((List.replicate w.length (-1)).set k 0):=⟨by simp,λj h1 h2=>by
  rw[C];split;rename_i e;subst e;omega;omega⟩
 have hm:mayC w ((List.replicate w.length (-1)).set k 0)=true:=CI (QgT O) U;refine⟨hm, ?_⟩;have V:=O.yg;have hr:=O.fh;have G:=U.ch;have hcl:=G.len;rw[Hk hm,Ss];refine TY (λj h e=>by rw[C,if_neg (λq=>e q.symm)];decide) (λf h=>?_) _ (QAe _)
 have T:k<((List.replicate w.length (-1:Int)).set k 0).length:=Wa;have e0:((List.replicate w.length (-1:Int)).set k 0)[k]=0:=by rw[C,if_pos rfl]
 have hp:(((List.replicate w.length (-1:Int)).set k 0)[k]).toNat<w[k].cs.length:=by rw[e0];exact hc
 rw[Qam hk T hp,QiE,QzY]at h;rcases h with h |h
 exact Tl _ f h;rw[QaP λx hx=>?_]at h;cases h
 have hu:=hr.bw _ (QzS hk) _ (QzS hp) x hx;have Y:=hb.ns k hk _ (QzS hp) x hx;have M:x.u.toNat<((List.replicate w.length (-1:Int)).set k 0).length:=Wa;exact Qmt V G hu.1 hu.2 M (by rw[C,if_neg Wa];decide)
theorem P4 (hw:DO w) (hc:c.length<=1048576) (hm:mayC w c=true):n6 Tryz.prog 25 [Q6 w,Q0 c,gD] [] (.s4 500000 (wrongR w c).length) [(500000,⟨(wrongR w c).map Sv,3,40,true⟩)]:=by
 refine n6.ka (ds:=[Q6 w,Q0 c]) (dg:=gD) tfol Tryz.func25 Qwf (QzN rfl) (λk hk h=>?_) (λk b h=>?_) ?_;cases h
 obtain⟨rfl,rfl⟩:=Nq h;simp[u4.ids];show TW _ _ tf25.body _ _;refine aS ?_;refine Qf (YP hw hc) rfl rfl (.inr rfl) (aV ?_ ?_);intro h1;rw[hm]at h1;cases h1;intro h1;obtain⟨hmw,hfw⟩:=RQ hm;have hv:=hmw.val hw;have V:=hv.yg;have hr:=hv.fh;have O:=hfw.ch;have hcl:=O.len;have hvl:=hv.len;refine aJ ?_;refine aZ ?_;refine FQ (ι:=Unit) (λ_=>⟨[(1,Q0 c),(2,.ref 2 0 0),(5,.s4 5 (QX w c 0).length),(900000,gD)],[(2,⟨[[.sl ((w).map Yk)]],1,25,true⟩),(5,⟨(QX w c 0).map Sv,3,40,true⟩)]⟩) (λ_=>True) ?_ ?_
 skip
 refine aB ?_ ?_;intro h2;refine Qo rfl rfl ?_;refine QaG rfl rfl (λ_ h=>YE rfl rfl rfl h) rfl (.inl rfl) Wc Wc Wc (aK ?_);refine Ze () ?_ ?_;exact le_trans (FC (l:=[1,2,900000]) (lH:=[2]) 24 5 5 (Qc rfl (Qc rfl (Qc rfl (Qs)))) (Qa rfl Qb) rfl rfl rfl rfl rfl rfl rfl) (Qn (l:=[1,2,5,900000]) (lH:=[2,5]) (Qc rfl (Qc rfl (Qc rfl (Qc rfl (Qs))))) (Qa rfl (Qa rfl Qb)) (by grind [Su]) (by rw[Su Wa h2]<;>rfl) rfl)
 simp;intro h2;refine Ze () ?_ ?_;exact le_trans (Zi 5 5 3 40 rfl rfl) (Qn (l:=[1,2,5,900000]) (lH:=[2,5]) (Qc rfl (Qc rfl (Qc rfl (Qc rfl (Qs))))) (Qa rfl (Qa rfl Qb)) (by grind [PJ]) (by rw[PJ Wa h2]<;>rfl) rfl)
 simp;intro _ hJ;refine aK ?_;refine QE (ι:=Nat) (λi=>⟨[(1,Q0 c),(2,.ref 2 0 0),(5,.s4 5 (QX w c i).length),(25,Q0 c),(26,.int .i64 c.length),(27,.int .i64 i),(900000,gD)],[(2,⟨[[.sl ((w).map Yk)]],1,25,true⟩),(5,⟨(QX w c i).map Sv,3,40,true⟩)]⟩) (λi=>i<=c.length) (λi=>c.length - i) 0 ?_ ?_ ?_;exact Qn (l:=[1,2,5,25,26,27,900000]) (lH:=[2,5]) (Qc rfl (Qc rfl (Qc rfl (Qc rfl (Qc rfl (Qc rfl (Qc rfl (Qs)))))))) (Qa rfl (Qa rfl Qb)) rfl rfl rfl;omega;intro i hI;have hlen:=Hl V c i;have hlen2:=LS V c i;refine aV ?_ ?_;intro h3;refine aB ?_ ?_;intro h4;refine Qd (i+1) ?_ ?_ ?_;exact Qn (l:=[1,2,5,25,26,27,900000]) (lH:=[2,5]) (Qc rfl (Qc rfl (Qc rfl (Qc rfl (Qc rfl (Qc rfl (Qc rfl (Qs)))))))) (Qa rfl (Qa rfl Qb)) (by grind [KI]) (by grind [KI]) rfl;omega;omega;intro h4;have C:i<w.length:=Wa;have M:i<c.length:=Wa;have hb:=BL O M;have G:=Qdm hb.2 Wa;have e1:=Qam C M G;have hwn:=V.ns _ (QzS C) _ (QzS G);have hwl:=V.nl _ (QzS C) _ (QzS G);have T:=V.nw _ (QzS C) _ (QzS G);have U:=V.bw _ (QzS C) _ (QzS G);have hrn:=hr.nr _ (QzS C) _ (QzS G);have hrb:=hr.bw _ (QzS C) _ (QzS G);obtain⟨y,hy⟩:∃y,(w[i]'C).cs[(c[i]'M).toNat]=y:=⟨_,rfl⟩;rw[hy]at e1 hwn hwl T U hrn hrb;refine aK ?_;refine QE (ι:=Nat) (λk=>⟨[(1,Q0 c),(2,.ref 2 0 0),(5,.s4 5 (QX w c i++X9 w c i y.ns k).length),(6,.int .i64 i),(8,.ref 8 0 0),(25,Q0 c),(26,.int .i64 c.length),(27,.int .i64 i),(44,Ky y.ns),(45,.int .i64 y.ns.length),(46,.int .i64 k),(900000,gD)],[(2,⟨[[.sl ((w).map Yk)]],1,25,true⟩),(5,⟨((QX w c i++X9 w c i y.ns k)).map Sv,3,40,true⟩),(8,⟨[Lh y],8,70,true⟩)]⟩) (λk=>k<=y.ns.length) (λk=>y.ns.length - k) 0 ?_ ?_ ?_;exact Qn (l:=[1,2,5,6,8,25,26,27,44,45,46,900000]) (lH:=[2,5,8]) (Qc rfl (Qc rfl (Qc rfl (Qc rfl (Qc rfl (Qc rfl (Qc rfl (Qc rfl (Qc rfl (Qc rfl (Qc rfl (Qc rfl (Qs))))))))))))) (Qa rfl (Qa rfl (Qa rfl Qb))) (by grind [X9]) (by rw[X9,QAj,<- hy]<;>rfl) rfl
 omega;intro k hQ;have Y:=KE w c i y.ns k;refine aB ?_ ?_;intro h5;refine Qf (My V O (hwl _ (QzS (Wa:k<y.ns.length))) (λx hx=>⟨hrn _ (QzS (Wa:k<y.ns.length)) x hx,T _ (QzS (Wa:k<y.ns.length)) x hx⟩)) rfl rfl (.inr rfl) (aB ?_ ?_);intro h6;refine Qo rfl rfl ?_;refine ZR rfl rfl (λ_ h=>YE rfl rfl rfl h) rfl Wc rfl rfl rfl Wb Wb (aK ?_);refine Qd (k+1) ?_ ?_ ?_;exact Qn (l:=[1,2,5,6,8,25,26,27,44,45,46,900000]) (lH:=[2,5,8]) (Qc rfl (Qc rfl (Qc rfl (Qc rfl (Qc rfl (Qc rfl (Qc rfl (Qc rfl (Qc rfl (Qc rfl (Qc rfl (Qc rfl (Qs))))))))))))) (Qa rfl (Qa rfl (Qa rfl Qb))) (by rw[Pw Wa h6,<- QAD,QAs (bs:=[_])]<;>rfl) (by rw[Pw Wa h6,<- QAD,QAM (l₂:=[_])]<;>rfl) rfl
 omega;omega;intro h6;refine Qd (k+1) ?_ ?_ ?_;exact Qn (l:=[1,2,5,6,8,25,26,27,44,45,46,900000]) (lH:=[2,5,8]) (Qc rfl (Qc rfl (Qc rfl (Qc rfl (Qc rfl (Qc rfl (Qc rfl (Qc rfl (Qc rfl (Qc rfl (Qc rfl (Qc rfl (Qs))))))))))))) (Qa rfl (Qa rfl (Qa rfl Qb))) (by grind [Pv]) (by grind [Pv]) rfl;omega;omega;intro h5;refine QE (ι:=Nat) (λk=>⟨[(1,Q0 c),(2,.ref 2 0 0),(5,.s4 5 (QX w c i++(X9 w c i y.ns y.ns.length++SY w c i y.bs k)).length),(6,.int .i64 i),(25,Q0 c),(26,.int .i64 c.length),(27,.int .i64 i),(64,Xh y.bs),(65,.int .i64 y.bs.length),(66,.int .i64 k),(900000,gD)],[(2,⟨[[.sl ((w).map Yk)]],1,25,true⟩),(5,⟨((QX w c i++(X9 w c i y.ns y.ns.length++SY w c i y.bs k))).map Sv,3,40,true⟩)]⟩) (λk=>k<=y.bs.length) (λk=>y.bs.length - k) 0 ?_ ?_ ?_;exact Qn (l:=[1,2,5,6,25,26,27,64,65,66,900000]) (lH:=[2,5]) (Qc rfl (Qc rfl (Qc rfl (Qc rfl (Qc rfl (Qc rfl (Qc rfl (Qc rfl (Qc rfl (Qc rfl (Qc rfl (Qs)))))))))))) (Qa rfl (Qa rfl Qb)) (by grind [SY]) (by grind [SY]) rfl;omega;intro k hQ;have Y:=KE w c i y.ns y.ns.length;have hlen4:=M9 w c i y.bs k;refine aB ?_ ?_;intro h7;refine Qf (JS V O (hrb _ (QzS (Wa:k<y.bs.length))) (U _ (QzS (Wa:k<y.bs.length)))) rfl rfl (.inr rfl) (aR ?_ ?_);intro h8;refine Qo rfl rfl ?_;refine ZR rfl rfl (λ_ h=>YE rfl rfl rfl h) rfl Wc rfl rfl rfl Wb Wb (aK ?_);refine Qd (k+1) ?_ ?_ ?_;exact Qn (l:=[1,2,5,6,25,26,27,64,65,66,900000]) (lH:=[2,5]) (Qc rfl (Qc rfl (Qc rfl (Qc rfl (Qc rfl (Qc rfl (Qc rfl (Qc rfl (Qc rfl (Qc rfl (Qc rfl (Qs)))))))))))) (Qa rfl (Qa rfl Qb)) (by rw[T5 Wa h8,<- QAD,<- QAD,<- QAD,QAs (bs:=[_])]<;>rfl) (by rw[T5 Wa h8,<- QAD,<- QAD,<- QAD,QAM (l₂:=[_])]<;>rfl) rfl
 omega;omega;intro h8;refine Qd (k+1) ?_ ?_ ?_;exact Qn (l:=[1,2,5,6,25,26,27,64,65,66,900000]) (lH:=[2,5]) (Qc rfl (Qc rfl (Qc rfl (Qc rfl (Qc rfl (Qc rfl (Qc rfl (Qc rfl (Qc rfl (Qc rfl (Qc rfl (Qs)))))))))))) (Qa rfl (Qa rfl Qb)) (by grind [T6]) (by grind [T6]) rfl;omega;omega;intro h7;refine Qd (i+1) ?_ ?_ ?_;exact Qn (l:=[1,2,5,25,26,27,900000]) (lH:=[2,5]) (Qc rfl (Qc rfl (Qc rfl (Qc rfl (Qc rfl (Qc rfl (Qc rfl (Qs)))))))) (Qa rfl (Qa rfl Qb)) (by grind [Gx,QiE]) (by grind [Gx,QiE]) rfl;omega;omega;intro h3;refine Mx ?_;refine Gt ?_;refine KF ?_;refine HN ?_;refine JD (Qc rfl Qs) ?_;refine Dx (FC (l:=[]) (lH:=[]) 5 500000 5 (Qs) Qb rfl rfl rfl rfl rfl rfl rfl) ?_;refine aK ?_;rw[Hk hm,Ss,show c.length=i by omega];exact ZH rfl Wl λk b h=>h
theorem QlR {ρ:Nat->Nat} {l:List QdA}:(l.map Sv).map (λr=>r.map (D.o6 ρ))=l.map Sv:=by simp[Sv,D.o6,Function.comp]
theorem Qn6 {s:St} (hw:DO w) (O:c.length<=1048576) (hm:mayC w c=true) {n:Nat} (M:n=c.length) (h0:s.ev (.s 27)=some (Q6 w)) (h1:s.ev (.s 28)=some (.s4 17 n)) (G:s.ev (.s 900000)=some gD) (h2:lk s.H 17=some ⟨c.map rI,1,3,true⟩) (U:lk s.H 29=none):
  FA Tryz.prog 25 [.s 27,.s 28,.s 900000] s [(17,⟨c.map rI,1,3,true⟩)] [(29,⟨(wrongR w c).map Sv,3,40,true⟩)] [] (.s4 29 (wrongR w c).length):=by
 subst M;refine⟨[Q6 w,.s4 17 c.length,gD],by grind [QD],λk b hk=>?_,λk b hk j C=>?_,λx hx j C=>?_,(λk b hk=>by cases hk),λk b hk=>?_,λk hk=>?_,.inl ?_⟩;obtain⟨rfl,rfl⟩:=Nq hk;omega;obtain⟨rfl,rfl⟩:=Nq hk;trivial;simp at hx;rcases hx with rfl |rfl |rfl
 trivial;simp[D.ids,D.l4]at C;subst C;rfl;trivial;obtain⟨rfl,rfl⟩:=Nq hk;grind [u4.ids];simp[D.ids,D.l4]at hk;subst hk;rfl;have G:=n6.cg (QxD (a:=500000) (b:=29) We We) (P4 hw O hm) (ds2:=[Q6 w,Q0 c,gD]) (H2:=[]) (d2:=.s4 29 (wrongR w c).length) (H2':=[(29,⟨(wrongR w c).map Sv,3,40,true⟩)]) rfl rfl rfl (by simp only[Ko,QAr,QAV,u4.o5,QlR];rfl)
 have T:=n6.ah (H:=upH [(17,⟨c.map rI,1,3,true⟩)]) (ds:=[Q6 w,D.s4 1000017 c.length,gD]) 3 G (by
  simp only[upH,QAr,QAV,u4.o5,Qqk,D.sc,D.pe,Qe];simp[upN,rI,D.pe,D.own,Q0,Q6]) rfl (λr hr d hd=>by obtain⟨v,_,rfl⟩:=Qz1.1 hr;simp[Sv]at hd;rcases hd with rfl |rfl |rfl<;>rfl) We rfl
 exact T
theorem c_linchpinlaw19_ChoiceNone {l:List Int} {at_:Int} (hW:Ok Tryz.prog 15 [Q0 l] (Q6 w)) (hb:jg w) (hm: -9223372036854775808<=at_/\at_<=9223372036854775807):Ok Tryz.prog 7 [Q0 l,.int .i64 at_,gD] (.bool true):=by
 refine Ok.ka (ds:=[Q0 l,.int .i64 at_]) (dg:=gD) tfol Tryz.func7 tp7 (QzN rfl) ?_;show TW _ _ tf7.body _ _;have C:=hb.raw;have G:=hb.v;have hwl:=G.len;refine aS ?_;refine Qf hW rfl rfl (.inl rfl) (aK ?_);refine QdG rfl rfl rfl Wa Wa Wa (aK ?_);refine QE (ι:=Nat × List Int) (λs=>⟨[(1,.int .i64 at_),(5,.ref 5 0 0),(6,.s4 17 s.2.length),(7,.int .i64 s.1),(900000,gD)],[(5,⟨[[.sl (w.map Yk)]],1,25,true⟩),(17,⟨s.2.map rI,1,3,true⟩)]⟩) (λs=>s.1<=w.length/\s.2.length=w.length/\s.2.take s.1=List.replicate s.1 (-1)) (λs=>w.length - s.1) (0,List.replicate w.length 0) ?_ ?_ ?_;exact Qn (l:=[1,5,6,7,900000]) (lH:=[5,17]) (Qc rfl (Qc rfl (Qc rfl (Qc rfl (Qc rfl Qs))))) (Qa rfl (Qa rfl Qb)) Wc (by rw[Qqp]<;>rfl) rfl
 simp;intro s hI;have T:=hI.2.1;refine aB ?_ ?_;intro h1;refine Yg rfl rfl rfl Wc Wa Wa rfl ?_;refine Jh rfl rfl (Gc Wa) rfl rfl rfl rfl rfl (aK ?_);refine Qd (s.1+1,s.2.set s.1 (-1)) ?_ ?_ ?_;exact Qn (l:=[1,5,6,7,900000]) (lH:=[5,17]) (Qc rfl (Qc rfl (Qc rfl (Qc rfl (Qc rfl Qs))))) (Qa rfl (Qa rfl Qb)) Wc (by rw[<- set_rI]<;>rfl) rfl
 grind [QlK]
 omega;intro h1
 have M:s.2=List.replicate w.length (-1):=by
  have:=hI.2.2;rw[Qz3 Wa]at this;rw[this];congr 1;omega
 obtain⟨s1,c⟩:=s;dsimp only at hI T h1 M ⊢;subst M;obtain⟨U,hz⟩:=Qmz G C;obtain⟨k,hk,ok⟩:=QfT (v:=at_) (n:=(List.replicate w.length (-1:Int)).length) ⟨Wa,Wa⟩ hm;have V:k<w.length:=Wa;refine QdC (Qn6 C Wa U rfl rfl rfl rfl rfl rfl) ?_;rw[hz];refine aK ?_;refine Qf ok rfl rfl (.inl rfl) ?_;refine Yr rfl ?_;refine Qhr (Qc rfl (Qc rfl (Qc rfl (Qc rfl (Qc rfl Qs))))) ?_;refine Kr ?_;refine DL ?_;refine Yr rfl ?_;refine Sy rfl rfl ?_;refine Qhs rfl rfl ?_;refine Yr rfl ?_;refine XU rfl rfl ?_;refine Yr rfl ?_;refine XU rfl rfl ?_;refine Yg rfl rfl rfl rfl We We rfl ?_;refine XU rfl rfl ?_;refine QG (sz:=3) (cs:=[_,_,_]) rfl rfl rfl rfl ?_;refine XU rfl rfl ?_;refine PO rfl rfl ?_;refine XU rfl rfl ?_;refine Qjn rfl rfl (show KJ [0,0,0] (Sv ⟨1,0,0⟩) (Sv ⟨1,0,0⟩)=some true by simp[KJ,Sv]) ?_;refine SS rfl rfl ?_;refine Yr rfl ?_;refine aB ?_ ?_;intro h2;refine Qf XB rfl rfl (.inr rfl) ?_;refine Yr rfl ?_;refine XU rfl rfl ?_;refine Yr rfl ?_;refine XU rfl rfl ?_;refine Sy rfl rfl ?_;refine XU rfl rfl ?_;refine QcI rfl rfl ?_;refine SS rfl rfl ?_;refine Yr rfl ?_;refine XU rfl rfl ?_;refine Yr rfl ?_;refine XU rfl rfl ?_;refine Yg rfl rfl rfl rfl We We rfl ?_;refine XU rfl rfl ?_;refine QG (sz:=3) (cs:=[_,_,_]) rfl rfl rfl rfl ?_;refine XU rfl rfl ?_;refine PO rfl rfl ?_;refine XU rfl rfl ?_;refine JO rfl rfl (show KJ [0,0,0] (Sv ⟨1,0,0⟩) (Sv ⟨1,0,0⟩)=some true by simp[KJ,Sv]) ?_;refine SS rfl rfl (aK ?_);rfl;intro h2;obtain⟨hm1,hf⟩:=Qhy hb V Wa;obtain⟨c,Y⟩:∃c,c=(List.replicate w.length (-1:Int)).set k 0:=⟨_,rfl⟩;have hcl:c.length=w.length:=by rw[Y];simp
 have hwl2:=@Qdq w C c;rw[<- Y]at hf;refine Yg rfl rfl rfl Wc Wa Wa rfl ?_;refine Jh rfl rfl (Gc Wd) rfl rfl rfl rfl rfl (aL ?_);refine Kr ?_;refine Dx (s':=⟨[(5,.ref 5 0 0),(6,Q0 c),(9,.int .i64 k),(900000,gD)],[(5,⟨[[.sl (w.map Yk)]],1,25,true⟩)]⟩) (le_trans (Cw (l:=[5,9,900000]) (lH:=[5]) 17 6 (Qc rfl (Qc rfl (Qc rfl Qs))) (Qa rfl Qb) rfl rfl rfl Wc rfl rfl rfl rfl) (Qn (l:=[5,6,9,900000]) (lH:=[5]) (Qc rfl (Qc rfl (Qc rfl (Qc rfl Qs)))) (Qa rfl Qb) (by rw[Y,show Q0 ((List.replicate w.length (-1:Int)).set k 0)=.sl (((List.replicate w.length (-1:Int)).map rI).set k [.int .i64 0]) from congrArg D.sl set_rI.symm]<;>rfl) rfl rfl)) ?_
 refine aK ?_;refine Qf (J7 C (c:=c) Wa) rfl rfl (.inl rfl) (aK ?_);refine QE (ι:=Nat) (λt=>⟨[(9,.int .i64 k),(72,Qlz (wrongR w c)),(73,.int .i64 (wrongR w c).length),(74,.int .i64 t),(900000,gD)],[]⟩) (λt=>t<=(wrongR w c).length) (λt=>(wrongR w c).length - t) 0 ?_ ?_ ?_;exact Qn (l:=[9,72,73,74,900000]) (lH:=[]) (Qc rfl (Qc rfl (Qc rfl (Qc rfl (Qc rfl Qs))))) Qb rfl rfl rfl;exact QzZ _;intro t ht;refine aB ?_ ?_;intro h3;have O:=hf _ (QzS (Wa:t<(wrongR w c).length));refine aB ?_ ?_;intro h4;exact absurd h4 O.1;intro h4;refine aB ?_ ?_;intro h5;refine aB ?_ ?_;intro h6;exact absurd (O.2 h5) h6;intro h6;refine Qd (t+1) ?_ ?_ ?_;exact Qn (l:=[9,72,73,74,900000]) (lH:=[]) (Qc rfl (Qc rfl (Qc rfl (Qc rfl (Qc rfl Qs))))) Qb rfl rfl rfl;omega;omega;intro h5;refine QP rfl (aK ?_);refine Qd (t+1) ?_ ?_ ?_;exact Qn (l:=[9,72,73,74,900000]) (lH:=[]) (Qc rfl (Qc rfl (Qc rfl (Qc rfl (Qc rfl Qs))))) Qb rfl rfl rfl;omega;omega;intro h3;refine Qf XB rfl rfl (.inr rfl) (aK ?_);rfl
end Go.Proofs
