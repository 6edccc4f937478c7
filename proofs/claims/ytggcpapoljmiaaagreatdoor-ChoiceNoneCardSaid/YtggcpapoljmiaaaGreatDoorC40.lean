/- Part 40 of the means of the proof: a verified evaluator and contracts of functions. -/
import Derived.Test.YtggcpapoljmiaaaGreatDoorC39
set_option maxRecDepth 4000
set_option maxHeartbeats 4000000
set_option linter.unusedSimpArgs false
set_option linter.unusedVariables false
set_option linter.unusedSectionVars false
namespace Go.Proofs
open Go Go.Abs M3 M25
variable {R:List (List AskT)} {i j m:Nat} {k0 x:Q7} {l seen todo:List Q7} {rw:Q7->List (List AskT)}
def tFeat0:List (List UInt8):=[]::Qay
def Te:List Q7:=([],[])::tName.flatMap λn=>tFeat0.map λf=>(n,f)
theorem Qct (h:QkR l):l.Nodup:=List.Pairwise.imp (λ{a b} C e=>by subst e;rw[Cx]at C;cases C) h
structure ja (rw:Q7->List (List AskT)) (all todo:List Q7):Prop where
 zc:QkR all
 root:([],[])∈all
 key:∀k∈all,k∈Te
 sub:∀k∈todo,k∈all
 cl:∀k∈all,k∈todo\/∀row∈rw k,∀a∈row,a.k∈all
 bd:2*(27 - all.length)+todo.length<=53
theorem ja.len {all:List Q7} (h:ja rw all todo):all.length<=26:=QbQ (t:=Te) (Qct h.zc) h.key
structure je (rw:Q7->List (List AskT)) (k0:Q7) (m:Nat) (seen all todo:List Q7):Prop where
 zc:QkR all
 root:([],[])∈all
 key:∀k∈all,k∈Te
 sub:∀k∈todo,k∈all
 cl:∀k∈all,k=k0\/k∈todo\/∀row∈rw k,∀a∈row,a.k∈all
 seen:∀k∈seen,k∈all
 mu:2*(27 - all.length)+todo.length<m
 bd:m<=53
theorem je.len {all:List Q7} (h:je rw k0 m seen all todo):all.length<=26:=QbQ (t:=Te) (Qct h.zc) h.key
theorem je.start {all rest:List Q7} (h:ja rw all (k0::rest)):je rw k0 (2*(27 - all.length)+(k0::rest).length) [] all rest:=⟨h.zc,h.root,h.key,λk hk=>h.sub k (QAQ _ hk),λk hk=>by
 rcases h.cl k hk with h1 |h1;rcases QzP.1 h1 with h1 |h1;exact .inl h1;exact .inr (.inl h1);exact .inr (.inr h1),by simp,by simp,h.bd⟩
theorem je.put {all:List Q7} (h:je rw k0 m seen all todo) (hx:x∈Te) (O:all.length<(HE all x).length):je rw k0 m (seen++[x]) (HE all x) (todo++[x]):=by
 have hm:∀k∈all,k∈HE all x:=λk hk=>GM.2 (.inr hk);have C:x∈HE all x:=GM.2 (.inl rfl);have M:=h.len;have G:=Qb5 all x;refine⟨Qb7 h.zc,hm _ h.root,λk hk=>?_,λk hk=>?_,λk hk=>?_,λk hk=>?_, ?_,h.bd⟩;rcases GM.1 hk with rfl |hk
 exact hx;exact h.key k hk;rcases QzY.1 hk with hk |hk
 exact hm _ (h.sub k hk);rw[QzW.1 hk];exact C;rcases GM.1 hk with rfl |hk
 exact .inr (.inl Wc);rcases h.cl k hk with h1 |h1 |h1
 exact .inl h1;exact .inr (.inl (by simp[h1]));exact .inr (.inr λrow hr a ha=>hm _ (h1 row hr a ha));rcases QzY.1 hk with hk |hk
 exact hm _ (h.seen k hk);rw[QzW.1 hk];exact C;have:=h.mu;rw[QAs,List.length_singleton];omega
theorem je.ri {all:List Q7} (h:je rw k0 m seen all todo) (C:¬all.length<(HE all x).length):je rw k0 m (seen++[x]) all todo:=
 ⟨h.zc,h.root,h.key,h.sub,h.cl,λk hk=>by
  rcases QzY.1 hk with hk |hk;exact h.seen k hk;rw[QzW.1 hk];exact Qb4 C,h.mu,h.bd⟩
theorem je.done {all:List Q7} (h:je rw k0 m seen all todo) (C:∀row∈rw k0,∀a∈row,a.k∈seen):ja rw all todo:=⟨h.zc,h.root,h.key,h.sub,λk hk=>by
 rcases h.cl k hk with rfl |h1 |h1;exact .inr λrow hr a ha=>h.seen _ (C row hr a ha)
 exact .inl h1;exact .inr h1,by have:=h.mu;have:=h.bd;omega⟩
theorem Ql7:∀r∈l.map Hp,∀d∈r,j∉d.l4:=λr hr d hd=>by
 obtain⟨x,_,rfl⟩:=Qz1.1 hr;simp only[Hp,QzP,QzO,or_false]at hd;rcases hd with rfl |rfl<;>simp[D.l4]
def sn (R:List (List AskT)) (i:Nat):List Q7:=(R.take i).flatMap λr=>r.map AskT.k
theorem QtV (hi:i<R.length):sn R (i+1)=sn R i++R[i].map AskT.k:=by
 rw[sn,QAZ hi,QBb];simp[sn]
theorem Qqv (hi:R.length<=i):∀row∈R,∀a∈row,a.k∈sn R i:=λrow hr a ha=>by
 rw[sn,Qz3 hi];exact QzU.2 ⟨row,hr,Qz1.2 ⟨a,ha,rfl⟩⟩
theorem Qqw {r:List AskT} (C:j<r.length):(r.take (j+1)).map AskT.k=(r.take j).map AskT.k++[r[j].k]:=by
 rw[QAZ C,QAM];rfl
theorem H3 {y:YdT} {lkf:List UInt8->List TkR} {ns:List (List UInt8)} (M:m9 ns) (U:∀k∈Te,∀ns,m9 ns->∃ns',m9 ns'/\n6 Tryz.prog 137 [.agg (dYd y (.ref 1000000 0 0)),.agg (Hp k)] (FD lkf ns) (ZM (rw k)) (FD lkf ns')) (hkey:∀k∈Te,∀row∈rw k,∀a∈row,a.k∈Te) (hlen:∀k∈Te,(rw k).length<=9000) (hl2:∀k∈Te,∀row∈rw k,row.length<=1000):∃d H',(∃all C,d=.l7 [XE all,.bool true]/\H'=FD lkf C/\m9 C/\ja rw all [])/\n6 Tryz.prog 97 [.agg (dYd y (.ref 1000000 0 0))] (FD lkf ns) d H':=by
 refine n6.jd (R:=λd H'=>∃all C,d=.l7 [XE all,.bool true]/\H'=FD lkf C/\m9 C/\ja rw all []) tfol Tryz.func97 QzF (QzN Z) ?_;show TX _ _ tf97.body _ _;refine aS ?_;refine Qo Z Z (aK ?_);refine Qo Z Z (aK ?_);refine Xg (ι:=List Q7 × List Q7 × List (List UInt8)) (λ⟨all,todo,ns⟩=>⟨[(1,.ref 1 0 0),(4,XE all),(5,.s4 5 todo.length)],[(1,⟨[dYd y (.ref 1000000 0 0)],8,127,false⟩),(5,⟨todo.map Hp,2,170,true⟩),(500000,bNs ns),(500001,bRs lkf ns),(1000000,bFd ns)]⟩) (λ⟨all,todo,ns⟩=>ja rw all todo/\m9 ns) (λ⟨all,todo,ns⟩=>2*(27 - all.length)+todo.length) ([([],[])],[([],[])],ns) ?_ ?_ ?_;exact le_trans (le_trans (Cw (l:=[1,5]) (lH:=[1,15,500000,500001,1000000]) 13 4 (kp2 Z Z) (Qa Z (Qa Z (Qa Z (Qa Z (Qa Z Qb))))) Z Z Z Wk Z Z Z Z) (FC (l:=[1,4]) (lH:=[1,500000,500001,1000000]) 15 5 5 (kp2 Z Z) (Qa Z (Qa Z (Qa Z (Qa Z Qb)))) Z Z Z Z Z Z Z)) (Qn (l:=[1,4,5]) (lH:=[1,5,500000,500001,1000000]) (kp3 Z Z Z) (Qa Z (Qa Z (Qa Z (Qa Z (Qa Z Qb))))) Z Z Z);exact⟨⟨by simp[QkR],by simp,by simp[Te],by simp,by simp,by simp⟩,M⟩;intro ⟨all,todo,ns⟩ ⟨T,M⟩
 try dsimp only at T M
 try dsimp only
 refine aB ?_ ?_;intro h1;obtain⟨k,rest,rfl⟩:∃k rest,todo=k::rest:=(by cases todo with |nil=>simp at h1 |cons k rest=>exact⟨k,rest,rfl⟩);have O:=T.key _ (T.sub _ (List.mem_cons_self ..));have hlk:=hlen k O;obtain⟨m0,hm0⟩:∃m,m=2*(27 - all.length)+(k::rest).length:=⟨_,rfl⟩;refine aK ?_;refine Yg Z Z Z Wc Wa Wc Z (aK ?_);refine Qhu Z Z Z Wc Z We Ql7 Wa (by simp only[QAt];omega) (aJ ?_)
 refine Qhx (Bw λK hK=>BB (l:=[_,_]) ?_);refine aK ?_;obtain⟨C,Y,V⟩:=U k (T.key _ (T.sub _ Wc)) ns M;refine Qdr (Ho:=[_,_,_,_,_]) (V) Z Z Z Z Z (λ_=>⟨rfl,rfl⟩) Z Z (QdO (aK ?_));refine hK _ _ (PQ (kp6 Z Z Z Z Z Z) ?_);refine aK ?_;refine Xg (ι:=Nat × List Q7 × List Q7) (λ⟨i,all,todo⟩=>⟨[(1,.ref 1 0 0),(4,XE all),(5,.s4 5 todo.length),(26,ZM (rw k)),(27,.int .i64 (rw k).length),(28,.int .i64 i)],[(1,⟨[dYd y (.ref 1000000 0 0)],8,127,false⟩),(5,⟨todo.map Hp,2,170,true⟩),(500000,bNs C),(500001,bRs lkf C),(1000000,bFd C)]⟩) (λ⟨i,all,todo⟩=>i<=(rw k).length/\je rw k m0 (sn (rw k) i) all todo) (λ⟨i,all,todo⟩=>(rw k).length - i) (0,all,rest) ?_ ?_ ?_;exact Qn (l:=[1,4,5,26,27,28]) (lH:=[1,5,500000,500001,1000000]) (kp6 Z Z Z Z Z Z) (Qa Z (Qa Z (Qa Z (Qa Z (Qa Z Qb))))) Z Z Z;exact⟨QzZ _,hm0 ▸ je.start T⟩;intro ⟨i,all,todo⟩ ⟨hI,hJ⟩
 try dsimp only at hI hJ
 try dsimp only
 refine aB ?_ ?_;intro h2;have hli:=hl2 k O _ (QzS (Wa:i<(rw k).length));refine Xg (ι:=Nat × List Q7 × List Q7) (λ⟨j,all,todo⟩=>⟨[(1,.ref 1 0 0),(4,XE all),(5,.s4 5 todo.length),(26,ZM (rw k)),(27,.int .i64 (rw k).length),(28,.int .i64 i),(32,Mc ((rw k)[i]'Wa)),(33,.int .i64 ((rw k)[i]'Wa).length),(34,.int .i64 j)],[(1,⟨[dYd y (.ref 1000000 0 0)],8,127,false⟩),(5,⟨todo.map Hp,2,170,true⟩),(500000,bNs C),(500001,bRs lkf C),(1000000,bFd C)]⟩) (λ⟨j,all,todo⟩=>j<=((rw k)[i]'Wa).length/\je rw k m0 (sn (rw k) i++(((rw k)[i]'Wa).take j).map AskT.k) all todo) (λ⟨j,all,todo⟩=>((rw k)[i]'Wa).length - j) (0,all,todo) ?_ ?_ ?_;exact Qn (l:=[1,4,5,26,27,28,32,33,34]) (lH:=[1,5,500000,500001,1000000]) (kp9 Z Z Z Z Z Z Z Z Z) (Qa Z (Qa Z (Qa Z (Qa Z (Qa Z Qb))))) Z Z Z;exact⟨QzZ _,by simpa using hJ⟩;intro ⟨j,all,todo⟩ ⟨hI2,G⟩
 try dsimp only at hI2 G
 have h26:=G.len;have hmu:=G.mu;have hbd:=G.bd
 try dsimp only
 refine aB ?_ ?_;intro h3;refine Qf (Jm (l:=all) (k:=(((rw k)[i]'Wa)[j]'Wa).k) Wa) Z Z (.inl Z) (aB ?_ ?_);intro h4;refine Qf (Jm (l:=all) (k:=(((rw k)[i]'Wa)[j]'Wa).k) Wa) Z Z (.inl Z) (aK ?_);refine Qo Z Z (ZR Z Z (λ_ h=>YE Z Z Z h) Z Wc Z Z Z Wd Wd (aK ?_));refine Qd (j+1,HE all (((rw k)[i]'Wa)[j]'Wa).k,todo++[(((rw k)[i]'Wa)[j]'Wa).k]) ?_ ?_ ?_;exact Qn (l:=[1,4,5,26,27,28,32,33,34]) (lH:=[1,5,500000,500001,1000000]) (kp9 Z Z Z Z Z Z Z Z Z) (Qa Z (Qa Z (Qa Z (Qa Z (Qa Z Qb))))) (by rw[QAs];rfl) (by rw[QAM];rfl) Z
 refine⟨Wa, ?_⟩;rw[Qqw (Wa:j<((rw k)[i]'Wa).length),<- QAD];exact G.put (hkey k O _ (QzS (Wa:i<(rw k).length)) _ (QzS Wa)) Wa;show((rw k)[i]'Wa).length - (j+1)<((rw k)[i]'Wa).length - j;omega;intro h4;refine Qd (j+1,all,todo) ?_ ?_ ?_;exact Qn (l:=[1,4,5,26,27,28,32,33,34]) (lH:=[1,5,500000,500001,1000000]) (kp9 Z Z Z Z Z Z Z Z Z) (Qa Z (Qa Z (Qa Z (Qa Z (Qa Z Qb))))) Z Z Z;refine⟨Wa, ?_⟩;rw[Qqw (Wa:j<((rw k)[i]'Wa).length),<- QAD];exact G.ri Wa;show((rw k)[i]'Wa).length - (j+1)<((rw k)[i]'Wa).length - j;omega;intro h3;refine Qd (i+1,all,todo) ?_ ?_ ?_;exact Qn (l:=[1,4,5,26,27,28]) (lH:=[1,5,500000,500001,1000000]) (kp6 Z Z Z Z Z Z) (Qa Z (Qa Z (Qa Z (Qa Z (Qa Z Qb))))) Z Z Z;refine⟨Wa, ?_⟩;rw[QtV Wa];rw[Qz3 Wa]at G;exact G;show(rw k).length - (i+1)<(rw k).length - i;omega;intro h2;refine aB ?_ ?_;intro h5;have h26:=hJ.len;exfalso;omega;intro h5;refine Qd (all,todo,C) ?_ ?_ ?_;exact Qn (l:=[1,4,5]) (lH:=[1,5,500000,500001,1000000]) (kp3 Z Z Z) (Qa Z (Qa Z (Qa Z (Qa Z (Qa Z Qb))))) Z Z Z
 ·exact⟨hJ.done (Qqv Wa),Y⟩
 exact hm0 ▸ hJ.mu;intro h1;obtain rfl:todo=[]:=(by cases todo with |nil=>rfl |cons a b=>simp at h1);exact⟨_,_,⟨all,ns,rfl,rfl,M,T⟩,MZ,Mf,Y9 Z Z ⟨rfl,rfl⟩ ⟨rfl,rfl⟩ (Xi (A:=[_,_]) rfl)⟩
theorem H4 {y:YdT} {lkf:List UInt8->List TkR} {ns:List (List UInt8)} (G:m9 ns) {rw:Q7->List (List AskT)} {cf:List Q7->Q7->List CandT × Bool} (M:∃d H',(∃all C,d=.l7 [XE all,.bool true]/\H'=FD lkf C/\m9 C/\ja rw all [])/\n6 Tryz.prog 97 [.agg (dYd y (.ref 1000000 0 0))] (FD lkf ns) d H') (hcf:∀all:List Q7,all.length<=26->∀k∈Te,∀ns,m9 ns->∃ns',m9 ns'/\n6 Tryz.prog 98 [.agg (dYd y (.ref 1000000 0 0)),XE all,.agg (Hp k)] (FD lkf ns) (.l7 [QaY (cf all k).1,.bool (cf all k).2]) (FD lkf ns')):∃d H',(∃w b C,d=.l7 [Q6 w,.bool b]/\H'=FD lkf C/\m9 C/\(b=true->∃all,ja rw all []/\w=all.map (unM cf all)/\∀k∈all,(cf all k).2=true))/\n6 Tryz.prog 67 [.agg (dYd y (.ref 1000000 0 0))] (FD lkf ns) d H':=by
 refine n6.jd (R:=λd H'=>(∃w b C,d=.l7 [Q6 w,.bool b]/\H'=FD lkf C/\m9 C/\(b=true->∃all,ja rw all []/\w=all.map (unM cf all)/\∀k∈all,(cf all k).2=true))) tfol Tryz.func67 Qzt (QzN Z) ?_;show TX _ _ tf67.body _ _;refine aZ ?_;refine aZ ?_;refine Bw λK hK=>BB (l:=[_]) ?_;refine aK ?_;obtain⟨_,_,⟨all,C,rfl,rfl,V,hR⟩,T⟩:=M;have h26:=hR.len;refine Qdr (Ho:=[_,_,_]) (T) Z Z Z Z Z (λ_=>⟨rfl,rfl⟩) Z Z (QdO (aK ?_));refine hK _ _ (PQ (kp5 Z Z Z Z Z) ?_);refine aK ?_;refine Xg (ι:=Nat × Bool × List (List UInt8)) (λ⟨i,ok,ns⟩=>⟨[(1,.ref 1 0 0),(2,.ref 2 0 0),(4,.ref 4 0 0),(5,XE all),(6,.bool ok),(7,.int .i64 i)],[(1,⟨[dYd y (.ref 1000000 0 0)],8,127,false⟩),(2,⟨[[.x7 []]],1,25,true⟩),(4,⟨[[.s4 60 ((all.take i).map (unM cf all)).length]],1,25,false⟩),(60,⟨((all.take i).map (unM cf all)).map Yk,3,58,true⟩),(500000,bNs ns),(500001,bRs lkf ns),(1000000,bFd ns)]⟩) (λ⟨i,ok,ns⟩=>i<=all.length/\m9 ns/\(ok=true->∀k∈all.take i,(cf all k).2=true)) (λ⟨i,ok,ns⟩=>all.length - i) (0,true,C) ?_ ?_ ?_;exact le_trans (Gf 4 0 60 3 58 Z Z Z Z) (Qn (l:=[1,2,4,5,6,7]) (lH:=[1,2,4,60,500000,500001,1000000]) (kp6 Z Z Z Z Z Z) (Qa Z (Qa Z (Qa Z (Qa Z (Qa Z (Qa Z (Qa Z Qb))))))) Z Z Z);exact⟨QzZ _,V,λ_=>by simp⟩;intro ⟨i,ok,ns⟩ ⟨hI,G,hO⟩
 try dsimp only at hI G hO
 try dsimp only
 refine aB ?_ ?_;intro h1;refine aV ?_ ?_;intro h2;refine aJ ?_;refine Qhx (aJ ?_);refine Qht (l1:=[_,_,_,_,_,_]) λK hK=>?_;refine aK ?_;obtain⟨Y,U,O⟩:=hcf all h26 (all[i]'Wa) (hR.key _ (QzS Wa)) ns G;refine Qdr (Ho:=[_,_,_,_]) (O) Z Z Z Z Z (λ_=>⟨rfl,rfl⟩) Z Z (aK ?_);refine hK _ _ (PQ (kp7 Z Z Z Z Z Z Z) ?_);refine aK ?_;refine Qo Z Z (YL (ds0:=[0]) Z Z Wf ⟨_,rfl,rfl,rfl,rfl,rfl⟩ Z Z Wc Z Z Wd Wd Z Z (aK ?_));refine KN (ds0:=[]) Z Z Z Z Z Z Z Z Z Z (aK ?_);refine Qd (i+1,(cf all (all[i]'Wa)).2,Y) ?_ ?_ ?_;exact le_trans (Qio (l:=[1,2,4,5,6,7]) (lH:=[1,2,500000,500001,1000000]) 50 60 4 (kp6 Z Z Z Z Z Z) (Qa Z (Qa Z (Qa Z (Qa Z (Qa Z Qb))))) Z Z Z Z Z Z Z Z) (Qn (l:=[1,2,4,5,6,7]) (lH:=[1,2,4,60,500000,500001,1000000]) (kp6 Z Z Z Z Z Z) (Qa Z (Qa Z (Qa Z (Qa Z (Qa Z (Qa Z (Qa Z Qb))))))) Z (by rw[QAZ (Wa:i<all.length),QAM,QAs,QAM];rfl) Z)
 refine⟨Wa,U,λh k hk=>?_⟩;rw[QAZ (Wa:i<all.length)]at hk;rcases QzY.1 hk with hk |hk
 exact hO h2 k hk;rw[QzW.1 hk];exact h;show all.length - (i+1)<all.length - i;omega;intro h2;refine aK ?_;exact⟨_,_,⟨((all.take i).map (unM cf all)),false,ns,rfl,rfl,G,λh=>by cases h⟩,MZ,Mf,Qb0 rfl rfl rfl rfl rfl ⟨by simp[setRow,FN,D.fz,D.o7,small,D.can,D.y6,Qe],rfl⟩ ⟨rfl,rfl⟩ (Xi (A:=[_,_,_,_,_]) rfl)⟩;intro h1;refine BA Z (aK ?_);exact⟨_,_,⟨((all.take i).map (unM cf all)),ok,ns,rfl,rfl,G,λh=>⟨all,hR,by rw[Qz3 (Wa:all.length<=i)],λk hk=>hO h k (by rw[Qz3 (Wa:all.length<=i)];exact hk)⟩⟩,MZ,Mf,Qb0 Z Z Z Z Z ⟨by simp[setRow,FN,D.fz,D.o7,small,D.can,D.y6,Qe],rfl⟩ ⟨rfl,rfl⟩ (Xi (A:=[_,_,_,_,_]) rfl)⟩
theorem HV {l:List ShR} {n:List UInt8} (C:l.length<=1000):Ok Tryz.prog 66 [Lj l,.str n] (.int .i64 (plP (nmS n) l 0)):=by
 refine Ok.b7 tfol Tryz.func66 Qzs (QzN Z) ?_;show TW _ _ tf66.body _ _;refine aS ?_;refine Qf (Z4 (l:=l) (n:=n) C) Z Z (.inr Z) (aK ?_);rfl
theorem HZ (wk:Qjp) {ms:List Bs} {ss:List ShR} {v1 v2 v3:List UInt8} {G:Qg->Prop} (O:ms.length<=2) (M:∀m∈ms,Tp.u3 Sx (QaZ m)) (hsl:ss.length<=2) (hs:∀s∈ss,Qob s) (het:Tp.u3 GN [.str v1,.str v2,.str v3]) (hw:(∀m∈ms,Yq m.r)->(∀s∈ss,∀e∈s.es,Yq e.r)->∀ps:List Qhn,ps.length<=4->(∀p∈ps,Tp.u3 DB (Qej p))->∃lkf,∃d H',(∃w b C,d=.l7 [Q6 w,.bool b]/\H'=FD lkf C/\(b=true->G w))/\n6 Tryz.prog 67 [.agg (dYd ⟨ms,ss,v1,v2,v3,ps⟩ (.ref 1000000 0 0))] (FD lkf []) d H'):∃d,(∃w e,d=.l7 [Q6 w,.int .i64 e]/\(e=0->G w))/\Ok Tryz.prog 31 [KS ms,Lj ss,.agg [.str v1,.str v2,.str v3],.sl []] d:=by
 refine Ok.jd (R:=λd=>(∃w e,d=.l7 [Q6 w,.int .i64 e]/\(e=0->G w))) tfol Tryz.func31 Qzi (QzN Z) ?_;show TX _ _ tf31.body _ _;refine aS ?_;obtain⟨e1,m1,hz1,ok1⟩:=wk.mg ms O M;refine Qf (ok1) Z Z (.inr Z) (aB ?_ ?_);intro h1;refine⟨_,⟨[],_,rfl,λh=>?_⟩,ZI Z Z Z Z Z ⟨rfl,rfl⟩⟩;exact absurd h h1;intro h1;obtain⟨_,⟨b2,rfl,hz2⟩,Y⟩:=Jl wk hsl hs;refine Qf (Y) Z Z (.inr Z) (aB ?_ ?_);intro h2;refine HH Z (aK ?_);refine⟨_,⟨[],_,rfl,λh=>?_⟩,ZI Z Z Z Z Z ⟨rfl,rfl⟩⟩;cases h
 intro h2;obtain⟨b3,V⟩:=wk.qh _ _ _ het;refine Qf (V) Z Z (.inr Z) (aB ?_ ?_);intro h3;refine⟨_,⟨[],_,rfl,λh=>?_⟩,ZI Z Z Z Z Z ⟨rfl,rfl⟩⟩;cases h
 intro h3;obtain⟨ps,e4,hps,hpt,U⟩:=wk.sg (ms.map QaZ) (by simpa using O) (λr hr=>by obtain⟨x,hx,rfl⟩:=Qz1.1 hr;exact M x hx)
 refine Qf (U) Z Z (.inl Z) (aB ?_ ?_);intro h4;refine⟨_,⟨[],_,rfl,λh=>?_⟩,ZI Z Z Z Z Z ⟨rfl,rfl⟩⟩;exact absurd h h4;intro h4;refine Xg (ι:=Nat) (λi=>⟨[(0,KS ms),(1,Lj ss),(3,.sl []),(6,.ref 6 0 0),(8,.ref 8 0 0),(12,Re ps),(14,.int .i64 i)],[(6,⟨[[.str v1,.str v2,.str v3]],3,50,true⟩),(8,⟨[[.x7 []]],1,25,true⟩)]⟩) (λi=>i<=ps.length) (λi=>ps.length - i) 0 ?_ ?_ ?_;exact Qn (l:=[0,1,3,6,8,12,14]) (lH:=[6,8]) (kp7 Z Z Z Z Z Z Z) (Qa Z (Qa Z Qb)) Z Z Z;exact QzZ _;intro i hI
 try dsimp only
 refine aV ?_ ?_;intro h5;refine aK ?_;refine Qf (HV (l:=ss) (n:=(ps[i]'Wa).s) Wa) Z Z (.inr Z) (aB ?_ ?_);intro h6;refine⟨_,⟨[],_,rfl,λh=>?_⟩,ZI Z Z Z Z Z ⟨rfl,rfl⟩⟩;cases h
 intro h6;refine Qd (i+1) ?_ ?_ ?_;exact Qn (l:=[0,1,3,6,8,12,14]) (lH:=[6,8]) (kp7 Z Z Z Z Z Z Z) (Qa Z (Qa Z Qb)) Z Z Z;omega
 first |omega |(simp only;omega) |(dsimp only;omega)
 intro h5;refine aJ ?_;refine Bw λK hK=>BB (l:=[_,_,_,_,_,_,_,_]) ?_;refine aK ?_;obtain⟨lkf,_,_,⟨w,b5,C,rfl,rfl,hG⟩,T⟩:=hw (hz1 (by simpa using h1)) (hz2 (by simpa using h2)) ps hps hpt;refine Qsm (Ho:=[_]) (T) Z (le_trans (Gf 66 0 500000 1 9 Z Z Z Z) (le_trans (Gf 66 1 500001 1 228 Z Z Z Z) (Qn (l:=[8,67]) (lH:=[8,500000,500001,66]) (kp2 Z Z) (Qa Z (Qa Z (Qa Z (Qa Z Qb)))) Z Z Z))) Z Z Z Z Z (λ_=>⟨rfl,rfl⟩) Z Z (QdO (aK ?_));refine hK _ _ (PQ (kp3 Z Z Z) ?_);refine aB ?_ ?_;intro h7;refine⟨_,⟨[],_,rfl,λh=>?_⟩,ZI Z Z Z Z Z ⟨rfl,rfl⟩⟩;cases h
 intro h7;exact⟨_,⟨w,0,rfl,λ_=>hG (by simp_all)⟩,ZI Z Z Z Z Z ⟨rfl,rfl⟩⟩
variable {op:List UInt8->List (List AskT)} {v1 v2 v3:List UInt8} {x:JH}
theorem Nm:∀s∈tItem,itN s∈tOpt\/¬itK s=2:=by decide
theorem Nn:∀s∈tItem,(itK s=1\/itK s=2)\/(itN s∈tName/\itF s=[120])\/(itN s=[]/\itF s=[]):=by decide
theorem Qe8:∀s∈tItem,itN s∈Qay\/¬itK s=1:=by decide
theorem Hz (C:∀o∈tOpt,Ok Tryz.prog 180 [.agg (ZP x),.agg [.str v1,.str v2,.str v3],.str o] (ZM (op o))):Ok Tryz.prog 142 [.agg (ZP x),.agg [.str v1,.str v2,.str v3],.str []] (ZM (op [])):=by
 refine Ok.b7 tfol Tryz.func142 QqS (QzN Z) ?_;show TW _ _ tf142.body _ _;refine aX ?_ ?_;intro h1;refine Qf (C [] We) Z Z (.inl Z) (aK ?_);refine QO Z ?_;rfl;intro h1;exact absurd trivial h1
theorem HA (hv:bb x.v) {f:List UInt8} (hf:¬f=[]) (Y:∀o∈tOpt,Ok Tryz.prog 180 [.agg (ZP x),.agg [.str v1,.str v2,.str v3],.str o] (ZM (op o))) {pl:List UInt8->List UInt8->List (List AskT)} (V:∀n o,(n∈tName/\o=[120])\/(n=[]/\o=[])->Ok Tryz.prog 183 [.agg (ZP x),.agg [.str v1,.str v2,.str v3],.str n,.str o] (ZM (pl n o))) {C:List (List UInt8)} (hil:C.length<=5) (ye:∀s∈C,s∈tItem) (hof:Ok Tryz.prog 181 [.sl x.fd,.str f] (.sl (C.map λs=>[.str s]))) (T:∀s∈tItem,Ok Tryz.prog 182 [.str s] (.l7 [.int .i64 (itK s:Nat),.str (itN s),.str (itF s)])) (O:∀o∈tOpt,(op o).length<=14) (M:∀n o,(n∈tName/\o=[120])\/(n=[]/\o=[])->(pl n o).length<=14):Ok Tryz.prog 142 [.agg (ZP x),.agg [.str v1,.str v2,.str v3],.str f] (.sl ((ndU x.n (ZE x.v.a x.v.b x.v.c x.v.p x.v.q) op pl C).map Qou)):=by
 refine Ok.b7 tfol Tryz.func142 QqS (QzN Z) ?_;show TW _ _ tf142.body _ _;refine aX ?_ ?_;intro h1;exact absurd h1 hf;intro h1;refine Qf (XY hv.sm.1 hv.sm.2) Z Z (.inl Z) (aK ?_);refine QF Z Z (Qo Z Z (aK ?_));refine Qf (hof) Z Z (.inl Z) (aK ?_);refine QE (ι:=Nat) (λi=>⟨[(3,.ref 3 0 0),(4,.ref 4 0 0),(7,.ref 7 0 0),(8,.s4 8 (ndU x.n (ZE x.v.a x.v.b x.v.c x.v.p x.v.q) op pl (C.take i)).length),(32,.sl (C.map λs=>[.str s])),(33,.int .i64 C.length),(34,.int .i64 i)],[(3,⟨[ZP x],9,100,true⟩),(4,⟨[[.str v1,.str v2,.str v3]],3,50,true⟩),(7,⟨[[Qv (ZE x.v.a x.v.b x.v.c x.v.p x.v.q).1,Qv (ZE x.v.a x.v.b x.v.c x.v.p x.v.q).2]],2,79,true⟩),(8,⟨(ndU x.n (ZE x.v.a x.v.b x.v.c x.v.p x.v.q) op pl (C.take i)).map Qou,1,222,true⟩)]⟩) (λi=>i<=C.length) (λi=>C.length - i) 0 ?_ ?_ ?_;exact le_trans (FC (l:=[3,4,7,32,33,34]) (lH:=[3,4,7]) 28 8 8 (kp6 Z Z Z Z Z Z) (Qa Z (Qa Z (Qa Z Qb))) Z Z Z Z Z Z Z) (Qn (l:=[3,4,7,8,32,33,34]) (lH:=[3,4,7,8]) (kp7 Z Z Z Z Z Z Z) (Qa Z (Qa Z (Qa Z (Qa Z Qb)))) Z Z Z);exact QzZ _;intro i hI;have hlen:(ndU x.n (ZE x.v.a x.v.b x.v.c x.v.p x.v.q) op pl (C.take i)).length<=71:=Qz6 (Qfu (λs G k=>O _ ((Nm _ (ye _ (Qz7 G))).resolve_right (λh=>h k))) (λs G k k2=>M _ _ ((Nn _ (ye _ (Qz7 G))).resolve_left Wa))) Wd
 try dsimp only
 refine aB ?_ ?_;intro h2;have G:=ye _ (QzS (Wa:i<C.length));refine aK ?_;refine Qf (T _ G) Z Z (.inl Z) (aB ?_ ?_);intro h3;refine QF Z Z (Qo Z Z (ZR Z Z (λ_ h=>YE Z Z Z h) Z Wc Z Z Z Wd Wd (aK ?_)));refine Qd (i+1) ?_ ?_ ?_;exact Qn (l:=[3,4,7,8,32,33,34]) (lH:=[3,4,7,8]) (kp7 Z Z Z Z Z Z Z) (Qa Z (Qa Z (Qa Z (Qa Z Qb)))) (by first |(rw[LO (Wa:i<C.length) Wa];done) |(rw[LO (Wa:i<C.length) Wa];rfl) |(rw[LO (Wa:i<C.length) Wa,QAs];rfl) |(simp[LO (Wa:i<C.length) Wa];done) |(simp[LO (Wa:i<C.length) Wa];omega) |rfl) (by first |(rw[LO (Wa:i<C.length) Wa];done) |(rw[LO (Wa:i<C.length) Wa];rfl) |(rw[LO (Wa:i<C.length) Wa,QAM];rfl) |(simp[LO (Wa:i<C.length) Wa];done) |rfl) Z
 omega
 first |omega |(simp only;omega) |(dsimp only;omega)
 intro h3;refine aB ?_ ?_;intro h4;have h14:=O _ ((Nm _ G).resolve_right (λh=>h Wa));refine aK ?_;refine Qf (Y _ ((Nm _ G).resolve_right (λh=>h Wa))) Z Z (.inl Z) (ZR Z Z (λ_ h=>Sf Qga h) Z Wc Z Z Z Wd Wd (aK ?_));refine Qd (i+1) ?_ ?_ ?_;exact Qn (l:=[3,4,7,8,32,33,34]) (lH:=[3,4,7,8]) (kp7 Z Z Z Z Z Z Z) (Qa Z (Qa Z (Qa Z (Qa Z Qb)))) (by rw[QpW (Wa:i<C.length) Wa,QAs,QAH,QAH];rfl) (by rw[QpW (Wa:i<C.length) Wa,QAM,Tx];rfl) Z
 omega
 first |omega |(simp only;omega) |(dsimp only;omega)
 intro h4;have U:=((Nn _ G).resolve_left Wa);have h14:=M _ _ U;refine aK ?_;refine Qf (V _ _ U) Z Z (.inl Z) (ZR Z Z (λ_ h=>Sf Qga h) Z Wc Z Z Z Wd Wd (aK ?_));refine Qd (i+1) ?_ ?_ ?_;exact Qn (l:=[3,4,7,8,32,33,34]) (lH:=[3,4,7,8]) (kp7 Z Z Z Z Z Z Z) (Qa Z (Qa Z (Qa Z (Qa Z Qb)))) (by rw[QpX (Wa:i<C.length) Wa Wa,QAs,QAH,QAH];rfl) (by rw[QpX (Wa:i<C.length) Wa Wa,QAM,Tx];rfl) Z
 omega
 first |omega |(simp only;omega) |(dsimp only;omega)
 intro h2;exact GL Z Z Z Wc (by rw[Qz3 (Wa:C.length<=i)])
variable {e:Int}
def M4:Qg:=[⟨[],[],[⟨⟨0,0,0,[],[]⟩, -1,[],[]⟩]⟩]
def dNone:D:=.agg [.sl [[.str [],.str [],.x7 [[.int .i64 0,.int .i64 0,.int .i64 0,.str [],.str [],.int .i64 (-1),.x7 [],.x7 []]]]]]
theorem QmA:dNone.wk (Q6 M4)=true:=by rfl
theorem Fv {t:List UInt8} {s:JF} (C:Ok Tryz.prog 222 [.str t] (.l7 [.agg [Qv s.1,Qv s.2],.int .i64 e])):Ok Tryz.prog 185 [.str t] (Li s):=by
 refine Ok.b7 tfol Tryz.func185 QuL (QzN Z) ?_;show TW _ _ tf185.body _ _;refine aS ?_;refine Qf (C) Z Z (.inl Z) (aK ?_);refine Zb (cs:=[_,_]) Z Z Z Z ?_;rfl
theorem GY {l:List Int} {ms:List Bs} {ss:List ShR} {v1 v2 v3:List UInt8} {w:Qg} (C:Ok Tryz.prog 48 [Q0 l,.int .i64 0] (KS ms)) (G:Ok Tryz.prog 49 [Q0 l,.int .i64 200] (Lj ss)) (he:Ok Tryz.prog 32 [Q0 l,.int .i64 1200] (.agg [.str v1,.str v2,.str v3])) (hb:Ok Tryz.prog 31 [KS ms,Lj ss,.agg [.str v1,.str v2,.str v3],.sl []] (.l7 [Q6 w,.int .i64 e])):Ok Tryz.prog 15 [Q0 l] (if e=0 then Q6 w else dNone):=by
 refine Ok.b7 tfol Tryz.func15 Qzc (QzN Z) ?_;show TW _ _ tf15.body _ _;refine aS ?_;refine Qf (C) Z Z (.inl Z) (aK ?_);refine Qf (G) Z Z (.inl Z) (aK ?_);refine Qf (he) Z Z (.inl Z) (Qf (hb) Z Z (.inl Z) (aB ?_ ?_));intro h1;refine QF Z Z (aK ?_);refine QF Z Z (aK ?_);rw[if_neg h1];exact Zb (cs:=[_]) rfl rfl rfl rfl rfl;intro h1;rw[if_pos (by simpa using h1)];exact Zb (cs:=[_]) rfl rfl rfl rfl rfl
end Go.Proofs
