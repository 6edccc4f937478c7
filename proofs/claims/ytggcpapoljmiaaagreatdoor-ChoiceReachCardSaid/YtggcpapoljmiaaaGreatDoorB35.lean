/- Part 35 of the means of the proof: a verified evaluator and contracts of functions. -/
import Derived.Test.YtggcpapoljmiaaaGreatDoorB34
set_option maxRecDepth 4000
set_option maxHeartbeats 4000000
set_option linter.unusedSimpArgs false
set_option linter.unusedVariables false
set_option linter.unusedSectionVars false
namespace Go.Proofs
open Go Go.Abs M3 M25
variable {R:List (List AskT)} {i j m:Nat} {k0 x:Za} {l seen todo:List Za} {rw:Za->List (List AskT)}
def tFeat0:List (List UInt8):=[]::Qa0
def Tv:List Za:=([],[])::tName.flatMap λn=>tFeat0.map λf=>(n,f)
theorem QkC (h:Qk7 l):l.Nodup:=List.Pairwise.imp (λ{a b} C e=>by subst e;rw[CL]at C;cases C) h
structure sa (rw:Za->List (List AskT)) (all todo:List Za):Prop where
 de:Qk7 all
 root:([],[])∈all
 key:∀k∈all,k∈Tv
 sub:∀k∈todo,k∈all
 cl:∀k∈all,k∈todo\/∀row∈rw k,∀a∈row,a.k∈all
 bd:2*(27 - all.length)+todo.length<=53
theorem sa.len {all:List Za} (h:sa rw all todo):all.length<=26:=Qch (t:=Tv) (QkC h.de) h.key
structure vd (rw:Za->List (List AskT)) (k0:Za) (m:Nat) (seen all todo:List Za):Prop where
 de:Qk7 all
 root:([],[])∈all
 key:∀k∈all,k∈Tv
 sub:∀k∈todo,k∈all
 cl:∀k∈all,k=k0\/k∈todo\/∀row∈rw k,∀a∈row,a.k∈all
 seen:∀k∈seen,k∈all
 mu:2*(27 - all.length)+todo.length<m
 bd:m<=53
theorem vd.len {all:List Za} (h:vd rw k0 m seen all todo):all.length<=26:=Qch (t:=Tv) (QkC h.de) h.key
theorem vd.start {all rest:List Za} (h:sa rw all (k0::rest)):vd rw k0 (2*(27 - all.length)+(k0::rest).length) [] all rest:=⟨h.de,h.root,h.key,λk hk=>h.sub k (QBm _ hk),λk hk=>by
 rcases h.cl k hk with h1 |h1;rcases QAm.1 h1 with h1 |h1;exact .inl h1;exact .inr (.inl h1);exact .inr (.inr h1),by simp,by simp,h.bd⟩
theorem vd.put {all:List Za} (h:vd rw k0 m seen all todo) (hx:x∈Tv) (O:all.length<(HK all x).length):vd rw k0 m (seen++[x]) (HK all x) (todo++[x]):=by
 have hm:∀k∈all,k∈HK all x:=λk hk=>GR.2 (.inr hk);have C:x∈HK all x:=GR.2 (.inl rfl);have M:=h.len;have G:=Qcz all x;refine⟨QcB h.de,hm _ h.root,λk hk=>?_,λk hk=>?_,λk hk=>?_,λk hk=>?_, ?_,h.bd⟩;rcases GR.1 hk with rfl |hk
 exact hx;exact h.key k hk;rcases QAv.1 hk with hk |hk
 exact hm _ (h.sub k hk);rw[QAt.1 hk];exact C;rcases GR.1 hk with rfl |hk
 exact .inr (.inl Wc);rcases h.cl k hk with h1 |h1 |h1
 exact .inl h1;exact .inr (.inl (by simp[h1]));exact .inr (.inr λrow hr a ha=>hm _ (h1 row hr a ha));rcases QAv.1 hk with hk |hk
 exact hm _ (h.seen k hk);rw[QAt.1 hk];exact C;have:=h.mu;rw[QAY,List.length_singleton];omega
theorem vd.ui {all:List Za} (h:vd rw k0 m seen all todo) (C:¬all.length<(HK all x).length):vd rw k0 m (seen++[x]) all todo:=
 ⟨h.de,h.root,h.key,h.sub,h.cl,λk hk=>by
  rcases QAv.1 hk with hk |hk;exact h.seen k hk;rw[QAt.1 hk];exact Qcy C,h.mu,h.bd⟩
theorem vd.done {all:List Za} (h:vd rw k0 m seen all todo) (C:∀row∈rw k0,∀a∈row,a.k∈seen):sa rw all todo:=⟨h.de,h.root,h.key,h.sub,λk hk=>by
 rcases h.cl k hk with rfl |h1 |h1;exact .inr λrow hr a ha=>h.seen _ (C row hr a ha)
 exact .inl h1;exact .inr h1,by have:=h.mu;have:=h.bd;omega⟩
theorem Qmn:∀r∈l.map Ht,∀d∈r,j∉d.l4:=λr hr d hd=>by
 obtain⟨x,_,rfl⟩:=QAy.1 hr;simp only[Ht,QAm,QAl,or_false]at hd;rcases hd with rfl |rfl<;>simp[D.l4]
def sn (R:List (List AskT)) (i:Nat):List Za:=(R.take i).flatMap λr=>r.map AskT.k
theorem Qt9 (hi:i<R.length):sn R (i+1)=sn R i++R[i].map AskT.k:=by
 rw[sn,QBv hi,QBJ];simp[sn]
theorem QqH (hi:R.length<=i):∀row∈R,∀a∈row,a.k∈sn R i:=λrow hr a ha=>by
 rw[sn,QAA hi];exact QAr.2 ⟨row,hr,QAy.2 ⟨a,ha,rfl⟩⟩
theorem QqI {r:List AskT} (C:j<r.length):(r.take (j+1)).map AskT.k=(r.take j).map AskT.k++[r[j].k]:=by
 rw[QBv C,QBi];rfl
theorem H9 {y:YdT} {lkf:List UInt8->List TkR} {ns:List (List UInt8)} (M:j9 ns) (U:∀k∈Tv,∀ns,j9 ns->∃ns',j9 ns'/\s6 Tryz.prog 137 [.agg (dYd y (.ref 1000000 0 0)),.agg (Ht k)] (FD lkf ns) (ZL (rw k)) (FD lkf ns')) (hkey:∀k∈Tv,∀row∈rw k,∀a∈row,a.k∈Tv) (hlen:∀k∈Tv,(rw k).length<=9000) (hl2:∀k∈Tv,∀row∈rw k,row.length<=1000):∃d H',(∃all C,d=.u7 [XK all,.bool true]/\H'=FD lkf C/\j9 C/\sa rw all [])/\s6 Tryz.prog 97 [.agg (dYd y (.ref 1000000 0 0))] (FD lkf ns) d H':=by
 refine s6.uf (R:=λd H'=>∃all C,d=.u7 [XK all,.bool true]/\H'=FD lkf C/\j9 C/\sa rw all []) tfol Tryz.func97 QAb (QAk Z) ?_;show TX _ _ tf97.body _ _;refine aS ?_;refine Qn Z Z (aK ?_);refine Qn Z Z (aK ?_);refine Kx (ι:=List Za × List Za × List (List UInt8)) (λ⟨all,todo,ns⟩=>⟨[(1,.ref 1 0 0),(4,XK all),(5,.s4 5 todo.length)],[(1,⟨[dYd y (.ref 1000000 0 0)],8,127,false⟩),(5,⟨todo.map Ht,2,170,true⟩),(500000,bNs ns),(500001,bRs lkf ns),(1000000,bFd ns)]⟩) (λ⟨all,todo,ns⟩=>sa rw all todo/\j9 ns) (λ⟨all,todo,ns⟩=>2*(27 - all.length)+todo.length) ([([],[])],[([],[])],ns) ?_ ?_ ?_;exact le_trans (le_trans (Qb2 (l:=[1,5]) (lH:=[1,15,500000,500001,1000000]) 13 4 (kp2 Z Z) (Qa Z (Qa Z (Qa Z (Qa Z (Qa Z Qb))))) Z Z Z Wk Z Z Z Z) (MD (l:=[1,4]) (lH:=[1,500000,500001,1000000]) 15 5 5 (kp2 Z Z) (Qa Z (Qa Z (Qa Z (Qa Z Qb)))) Z Z Z Z Z Z Z)) (Ql (l:=[1,4,5]) (lH:=[1,5,500000,500001,1000000]) (kp3 Z Z Z) (Qa Z (Qa Z (Qa Z (Qa Z (Qa Z Qb))))) Z Z Z);exact⟨⟨by simp[Qk7],by simp,by simp[Tv],by simp,by simp,by simp⟩,M⟩;intro ⟨all,todo,ns⟩ ⟨T,M⟩
 try dsimp only at T M
 try dsimp only
 refine aB ?_ ?_;intro h1;obtain⟨k,rest,rfl⟩:∃k rest,todo=k::rest:=(by cases todo with |nil=>simp at h1 |cons k rest=>exact⟨k,rest,rfl⟩);have O:=T.key _ (T.sub _ (List.mem_cons_self ..));have hlk:=hlen k O;obtain⟨m0,hm0⟩:∃m,m=2*(27 - all.length)+(k::rest).length:=⟨_,rfl⟩;refine aK ?_;refine YX Z Z Z Wc Wa Wc Z (aK ?_);refine QhQ Z Z Z Wc Z We Qmn Wa (by simp only[QAZ];omega) (aJ ?_)
 refine QhT (BX λK hK=>B4 (l:=[_,_]) ?_);refine aK ?_;obtain⟨C,Y,V⟩:=U k (T.key _ (T.sub _ Wc)) ns M;refine QdV (Ho:=[_,_,_,_,_]) (V) Z Z Z Z Z (λ_=>⟨rfl,rfl⟩) Z Z (Qej (aK ?_));refine hK _ _ (Rg (kp6 Z Z Z Z Z Z) ?_);refine aK ?_;refine Kx (ι:=Nat × List Za × List Za) (λ⟨i,all,todo⟩=>⟨[(1,.ref 1 0 0),(4,XK all),(5,.s4 5 todo.length),(26,ZL (rw k)),(27,.int .i64 (rw k).length),(28,.int .i64 i)],[(1,⟨[dYd y (.ref 1000000 0 0)],8,127,false⟩),(5,⟨todo.map Ht,2,170,true⟩),(500000,bNs C),(500001,bRs lkf C),(1000000,bFd C)]⟩) (λ⟨i,all,todo⟩=>i<=(rw k).length/\vd rw k m0 (sn (rw k) i) all todo) (λ⟨i,all,todo⟩=>(rw k).length - i) (0,all,rest) ?_ ?_ ?_;exact Ql (l:=[1,4,5,26,27,28]) (lH:=[1,5,500000,500001,1000000]) (kp6 Z Z Z Z Z Z) (Qa Z (Qa Z (Qa Z (Qa Z (Qa Z Qb))))) Z Z Z;exact⟨QAw _,hm0 ▸ vd.start T⟩;intro ⟨i,all,todo⟩ ⟨hI,hJ⟩
 try dsimp only at hI hJ
 try dsimp only
 refine aB ?_ ?_;intro h2;have hli:=hl2 k O _ (QAp (Wa:i<(rw k).length));refine Kx (ι:=Nat × List Za × List Za) (λ⟨j,all,todo⟩=>⟨[(1,.ref 1 0 0),(4,XK all),(5,.s4 5 todo.length),(26,ZL (rw k)),(27,.int .i64 (rw k).length),(28,.int .i64 i),(32,Mu ((rw k)[i]'Wa)),(33,.int .i64 ((rw k)[i]'Wa).length),(34,.int .i64 j)],[(1,⟨[dYd y (.ref 1000000 0 0)],8,127,false⟩),(5,⟨todo.map Ht,2,170,true⟩),(500000,bNs C),(500001,bRs lkf C),(1000000,bFd C)]⟩) (λ⟨j,all,todo⟩=>j<=((rw k)[i]'Wa).length/\vd rw k m0 (sn (rw k) i++(((rw k)[i]'Wa).take j).map AskT.k) all todo) (λ⟨j,all,todo⟩=>((rw k)[i]'Wa).length - j) (0,all,todo) ?_ ?_ ?_;exact Ql (l:=[1,4,5,26,27,28,32,33,34]) (lH:=[1,5,500000,500001,1000000]) (kp9 Z Z Z Z Z Z Z Z Z) (Qa Z (Qa Z (Qa Z (Qa Z (Qa Z Qb))))) Z Z Z;exact⟨QAw _,by simpa using hJ⟩;intro ⟨j,all,todo⟩ ⟨hI2,G⟩
 try dsimp only at hI2 G
 have h26:=G.len;have hmu:=G.mu;have hbd:=G.bd
 try dsimp only
 refine aB ?_ ?_;intro h3;refine Qg (Jx (l:=all) (k:=(((rw k)[i]'Wa)[j]'Wa).k) Wa) Z Z (.inl Z) (aB ?_ ?_);intro h4;refine Qg (Jx (l:=all) (k:=(((rw k)[i]'Wa)[j]'Wa).k) Wa) Z Z (.inl Z) (aK ?_);refine Qn Z Z (Zu Z Z (λ_ h=>ZN Z Z Z h) Z Wc Z Z Z Wd Wd (aK ?_));refine Qc (j+1,HK all (((rw k)[i]'Wa)[j]'Wa).k,todo++[(((rw k)[i]'Wa)[j]'Wa).k]) ?_ ?_ ?_;exact Ql (l:=[1,4,5,26,27,28,32,33,34]) (lH:=[1,5,500000,500001,1000000]) (kp9 Z Z Z Z Z Z Z Z Z) (Qa Z (Qa Z (Qa Z (Qa Z (Qa Z Qb))))) (by rw[QAY];rfl) (by rw[QBi];rfl) Z
 refine⟨Wa, ?_⟩;rw[QqI (Wa:j<((rw k)[i]'Wa).length),<- QA9];exact G.put (hkey k O _ (QAp (Wa:i<(rw k).length)) _ (QAp Wa)) Wa;show((rw k)[i]'Wa).length - (j+1)<((rw k)[i]'Wa).length - j;omega;intro h4;refine Qc (j+1,all,todo) ?_ ?_ ?_;exact Ql (l:=[1,4,5,26,27,28,32,33,34]) (lH:=[1,5,500000,500001,1000000]) (kp9 Z Z Z Z Z Z Z Z Z) (Qa Z (Qa Z (Qa Z (Qa Z (Qa Z Qb))))) Z Z Z;refine⟨Wa, ?_⟩;rw[QqI (Wa:j<((rw k)[i]'Wa).length),<- QA9];exact G.ui Wa;show((rw k)[i]'Wa).length - (j+1)<((rw k)[i]'Wa).length - j;omega;intro h3;refine Qc (i+1,all,todo) ?_ ?_ ?_;exact Ql (l:=[1,4,5,26,27,28]) (lH:=[1,5,500000,500001,1000000]) (kp6 Z Z Z Z Z Z) (Qa Z (Qa Z (Qa Z (Qa Z (Qa Z Qb))))) Z Z Z;refine⟨Wa, ?_⟩;rw[Qt9 Wa];rw[QAA Wa]at G;exact G;show(rw k).length - (i+1)<(rw k).length - i;omega;intro h2;refine aB ?_ ?_;intro h5;have h26:=hJ.len;exfalso;omega;intro h5;refine Qc (all,todo,C) ?_ ?_ ?_;exact Ql (l:=[1,4,5]) (lH:=[1,5,500000,500001,1000000]) (kp3 Z Z Z) (Qa Z (Qa Z (Qa Z (Qa Z (Qa Z Qb))))) Z Z Z
 ·exact⟨hJ.done (QqH Wa),Y⟩
 exact hm0 ▸ hJ.mu;intro h1;obtain rfl:todo=[]:=(by cases todo with |nil=>rfl |cons a b=>simp at h1);exact⟨_,_,⟨all,ns,rfl,rfl,M,T⟩,Pt,Mx,Xa Z Z ⟨rfl,rfl⟩ ⟨rfl,rfl⟩ (Xn (A:=[_,_]) rfl)⟩
theorem Gb {y:YdT} {lkf:List UInt8->List TkR} {ns:List (List UInt8)} (G:j9 ns) {rw:Za->List (List AskT)} {cf:List Za->Za->List CandT × Bool} (M:∃d H',(∃all C,d=.u7 [XK all,.bool true]/\H'=FD lkf C/\j9 C/\sa rw all [])/\s6 Tryz.prog 97 [.agg (dYd y (.ref 1000000 0 0))] (FD lkf ns) d H') (hcf:∀all:List Za,all.length<=26->∀k∈Tv,∀ns,j9 ns->∃ns',j9 ns'/\s6 Tryz.prog 98 [.agg (dYd y (.ref 1000000 0 0)),XK all,.agg (Ht k)] (FD lkf ns) (.u7 [Qbp (cf all k).1,.bool (cf all k).2]) (FD lkf ns')):∃d H',(∃w b C,d=.u7 [QW w,.bool b]/\H'=FD lkf C/\j9 C/\(b=true->∃all,sa rw all []/\w=all.map (unM cf all)/\∀k∈all,(cf all k).2=true))/\s6 Tryz.prog 67 [.agg (dYd y (.ref 1000000 0 0))] (FD lkf ns) d H':=by
 refine s6.uf (R:=λd H'=>(∃w b C,d=.u7 [QW w,.bool b]/\H'=FD lkf C/\j9 C/\(b=true->∃all,sa rw all []/\w=all.map (unM cf all)/\∀k∈all,(cf all k).2=true))) tfol Tryz.func67 QzX (QAk Z) ?_;show TX _ _ tf67.body _ _;refine aZ ?_;refine aZ ?_;refine BX λK hK=>B4 (l:=[_]) ?_;refine aK ?_;obtain⟨_,_,⟨all,C,rfl,rfl,V,hR⟩,T⟩:=M;have h26:=hR.len;refine QdV (Ho:=[_,_,_]) (T) Z Z Z Z Z (λ_=>⟨rfl,rfl⟩) Z Z (Qej (aK ?_));refine hK _ _ (Rg (kp5 Z Z Z Z Z) ?_);refine aK ?_;refine Kx (ι:=Nat × Bool × List (List UInt8)) (λ⟨i,ok,ns⟩=>⟨[(1,.ref 1 0 0),(2,.ref 2 0 0),(4,.ref 4 0 0),(5,XK all),(6,.bool ok),(7,.int .i64 i)],[(1,⟨[dYd y (.ref 1000000 0 0)],8,127,false⟩),(2,⟨[[.z7 []]],1,25,true⟩),(4,⟨[[.s4 60 ((all.take i).map (unM cf all)).length]],1,25,false⟩),(60,⟨((all.take i).map (unM cf all)).map Zi,3,58,true⟩),(500000,bNs ns),(500001,bRs lkf ns),(1000000,bFd ns)]⟩) (λ⟨i,ok,ns⟩=>i<=all.length/\j9 ns/\(ok=true->∀k∈all.take i,(cf all k).2=true)) (λ⟨i,ok,ns⟩=>all.length - i) (0,true,C) ?_ ?_ ?_;exact le_trans (Gp 4 0 60 3 58 Z Z Z Z) (Ql (l:=[1,2,4,5,6,7]) (lH:=[1,2,4,60,500000,500001,1000000]) (kp6 Z Z Z Z Z Z) (Qa Z (Qa Z (Qa Z (Qa Z (Qa Z (Qa Z (Qa Z Qb))))))) Z Z Z);exact⟨QAw _,V,λ_=>by simp⟩;intro ⟨i,ok,ns⟩ ⟨hI,G,hO⟩
 try dsimp only at hI G hO
 try dsimp only
 refine aB ?_ ?_;intro h1;refine aV ?_ ?_;intro h2;refine aJ ?_;refine QhT (aJ ?_);refine QhP (l1:=[_,_,_,_,_,_]) λK hK=>?_;refine aK ?_;obtain⟨Y,U,O⟩:=hcf all h26 (all[i]'Wa) (hR.key _ (QAp Wa)) ns G;refine QdV (Ho:=[_,_,_,_]) (O) Z Z Z Z Z (λ_=>⟨rfl,rfl⟩) Z Z (aK ?_);refine hK _ _ (Rg (kp7 Z Z Z Z Z Z Z) ?_);refine aK ?_;refine Qn Z Z (YK (ds0:=[0]) Z Z Wf ⟨_,rfl,rfl,rfl,rfl,rfl⟩ Z Z Wc Z Z Wd Wd Z Z (aK ?_));refine Xz (ds0:=[]) Z Z Z Z Z Z Z Z Z Z (aK ?_);refine Qc (i+1,(cf all (all[i]'Wa)).2,Y) ?_ ?_ ?_;exact le_trans (QiK (l:=[1,2,4,5,6,7]) (lH:=[1,2,500000,500001,1000000]) 50 60 4 (kp6 Z Z Z Z Z Z) (Qa Z (Qa Z (Qa Z (Qa Z (Qa Z Qb))))) Z Z Z Z Z Z Z Z) (Ql (l:=[1,2,4,5,6,7]) (lH:=[1,2,4,60,500000,500001,1000000]) (kp6 Z Z Z Z Z Z) (Qa Z (Qa Z (Qa Z (Qa Z (Qa Z (Qa Z (Qa Z Qb))))))) Z (by rw[QBv (Wa:i<all.length),QBi,QAY,QBi];rfl) Z)
 refine⟨Wa,U,λh k hk=>?_⟩;rw[QBv (Wa:i<all.length)]at hk;rcases QAv.1 hk with hk |hk
 exact hO h2 k hk;rw[QAt.1 hk];exact h;show all.length - (i+1)<all.length - i;omega;intro h2;refine aK ?_;exact⟨_,_,⟨((all.take i).map (unM cf all)),false,ns,rfl,rfl,G,λh=>by cases h⟩,Pt,Mx,Qcu rfl rfl rfl rfl rfl ⟨by simp[setRow,F7,D.fz,D.n7,small,D.can,D.z6,Qf],rfl⟩ ⟨rfl,rfl⟩ (Xn (A:=[_,_,_,_,_]) rfl)⟩;intro h1;refine B3 Z (aK ?_);exact⟨_,_,⟨((all.take i).map (unM cf all)),ok,ns,rfl,rfl,G,λh=>⟨all,hR,by rw[QAA (Wa:all.length<=i)],λk hk=>hO h k (by rw[QAA (Wa:all.length<=i)];exact hk)⟩⟩,Pt,Mx,Qcu Z Z Z Z Z ⟨by simp[setRow,F7,D.fz,D.n7,small,D.can,D.z6,Qf],rfl⟩ ⟨rfl,rfl⟩ (Xn (A:=[_,_,_,_,_]) rfl)⟩
theorem H5 {l:List ShR} {n:List UInt8} (C:l.length<=1000):Ok Tryz.prog 66 [Cm l,.str n] (.int .i64 (plP (nmS n) l 0)):=by
 refine Ok.n6 tfol Tryz.func66 QzW (QAk Z) ?_;show TW _ _ tf66.body _ _;refine aS ?_;refine Qg (XH (l:=l) (n:=n) C) Z Z (.inr Z) (aK ?_);rfl
theorem H7 (wk:Qla) {ms:List Qhu} {ss:List ShR} {v1 v2 v3:List UInt8} {G:Qe->Prop} (O:ms.length<=2) (M:∀m∈ms,Tp.u3 S7 (QeQ m)) (hsl:ss.length<=2) (hst:∀s∈ss,Tp.u3 XP (dSh s)) (het:Tp.u3 GS [.str v1,.str v2,.str v3]) (hw:∀ps:List QhM,ps.length<=4->(∀p∈ps,Tp.u3 BL (QeR p))->∃lkf,∃d H',(∃w b C,d=.u7 [QW w,.bool b]/\H'=FD lkf C/\(b=true->G w))/\s6 Tryz.prog 67 [.agg (dYd ⟨ms,ss,v1,v2,v3,ps⟩ (.ref 1000000 0 0))] (FD lkf []) d H'):∃d,(∃w e,d=.u7 [QW w,.int .i64 e]/\(e=0->G w))/\Ok Tryz.prog 31 [Nu ms,Cm ss,.agg [.str v1,.str v2,.str v3],.sl []] d:=by
 refine Ok.uf (R:=λd=>(∃w e,d=.u7 [QW w,.int .i64 e]/\(e=0->G w))) tfol Tryz.func31 QzJ (QAk Z) ?_;show TX _ _ tf31.body _ _;refine aS ?_;obtain⟨e1,m1,ok1⟩:=wk.lg (ms.map QeQ) (by simpa using O) (λr hr=>by obtain⟨x,hx,rfl⟩:=QAy.1 hr;exact M x hx)
 refine Qg (ok1) Z Z (.inr Z) (aB ?_ ?_);intro h1;refine⟨_,⟨[],_,rfl,λh=>?_⟩,ZI Z Z Z Z Z ⟨rfl,rfl⟩⟩;exact absurd h h1;intro h1;obtain⟨b2,Y⟩:=wk.jg (ss.map dSh) (by simpa using hsl) (λr hr=>by obtain⟨x,hx,rfl⟩:=QAy.1 hr;exact hst x hx)
 refine Qg (Y) Z Z (.inr Z) (aB ?_ ?_);intro h2;refine Rk Z (aK ?_);refine⟨_,⟨[],_,rfl,λh=>?_⟩,ZI Z Z Z Z Z ⟨rfl,rfl⟩⟩;cases h
 intro h2;obtain⟨b3,V⟩:=wk.oh _ _ _ het;refine Qg (V) Z Z (.inr Z) (aB ?_ ?_);intro h3;refine⟨_,⟨[],_,rfl,λh=>?_⟩,ZI Z Z Z Z Z ⟨rfl,rfl⟩⟩;cases h
 intro h3;obtain⟨ps,e4,hps,hpt,U⟩:=wk.sg (ms.map QeQ) (by simpa using O) (λr hr=>by obtain⟨x,hx,rfl⟩:=QAy.1 hr;exact M x hx)
 refine Qg (U) Z Z (.inl Z) (aB ?_ ?_);intro h4;refine⟨_,⟨[],_,rfl,λh=>?_⟩,ZI Z Z Z Z Z ⟨rfl,rfl⟩⟩;exact absurd h h4;intro h4;refine Kx (ι:=Nat) (λi=>⟨[(0,Nu ms),(1,Cm ss),(3,.sl []),(6,.ref 6 0 0),(8,.ref 8 0 0),(12,RF ps),(14,.int .i64 i)],[(6,⟨[[.str v1,.str v2,.str v3]],3,50,true⟩),(8,⟨[[.z7 []]],1,25,true⟩)]⟩) (λi=>i<=ps.length) (λi=>ps.length - i) 0 ?_ ?_ ?_;exact Ql (l:=[0,1,3,6,8,12,14]) (lH:=[6,8]) (kp7 Z Z Z Z Z Z Z) (Qa Z (Qa Z Qb)) Z Z Z;exact QAw _;intro i hI
 try dsimp only
 refine aV ?_ ?_;intro h5;refine aK ?_;refine Qg (H5 (l:=ss) (n:=(ps[i]'Wa).s) Wa) Z Z (.inr Z) (aB ?_ ?_);intro h6;refine⟨_,⟨[],_,rfl,λh=>?_⟩,ZI Z Z Z Z Z ⟨rfl,rfl⟩⟩;cases h
 intro h6;refine Qc (i+1) ?_ ?_ ?_;exact Ql (l:=[0,1,3,6,8,12,14]) (lH:=[6,8]) (kp7 Z Z Z Z Z Z Z) (Qa Z (Qa Z Qb)) Z Z Z;omega
 first |omega |(simp only;omega) |(dsimp only;omega)
 intro h5;refine aJ ?_;refine BX λK hK=>B4 (l:=[_,_,_,_,_,_,_,_]) ?_;refine aK ?_;obtain⟨lkf,_,_,⟨w,b5,C,rfl,rfl,hG⟩,T⟩:=hw ps hps hpt;refine QsD (Ho:=[_]) (T) Z (le_trans (Gp 66 0 500000 1 9 Z Z Z Z) (le_trans (Gp 66 1 500001 1 228 Z Z Z Z) (Ql (l:=[8,67]) (lH:=[8,500000,500001,66]) (kp2 Z Z) (Qa Z (Qa Z (Qa Z (Qa Z Qb)))) Z Z Z))) Z Z Z Z Z (λ_=>⟨rfl,rfl⟩) Z Z (Qej (aK ?_));refine hK _ _ (Rg (kp3 Z Z Z) ?_);refine aB ?_ ?_;intro h7;refine⟨_,⟨[],_,rfl,λh=>?_⟩,ZI Z Z Z Z Z ⟨rfl,rfl⟩⟩;cases h
 intro h7;exact⟨_,⟨w,0,rfl,λ_=>hG (by simp_all)⟩,ZI Z Z Z Z Z ⟨rfl,rfl⟩⟩
variable {op:List UInt8->List (List AskT)} {v1 v2 v3:List UInt8} {x:FH}
theorem NG:∀s∈tItem,itN s∈tOpt\/¬itK s=2:=by decide
theorem NH:∀s∈tItem,(itK s=1\/itK s=2)\/(itN s∈tName/\itF s=[120])\/(itN s=[]/\itF s=[]):=by decide
theorem QfD:∀s∈tItem,itN s∈Qa0\/¬itK s=1:=by decide
theorem HG (C:∀o∈tOpt,Ok Tryz.prog 180 [.agg (JC x),.agg [.str v1,.str v2,.str v3],.str o] (ZL (op o))):Ok Tryz.prog 142 [.agg (JC x),.agg [.str v1,.str v2,.str v3],.str []] (ZL (op [])):=by
 refine Ok.n6 tfol Tryz.func142 Qq6 (QAk Z) ?_;show TW _ _ tf142.body _ _;refine aX ?_ ?_;intro h1;refine Qg (C [] We) Z Z (.inl Z) (aK ?_);refine QM Z ?_;rfl;intro h1;exact absurd trivial h1
theorem HH (hv:fb x.v) {f:List UInt8} (hf:¬f=[]) (Y:∀o∈tOpt,Ok Tryz.prog 180 [.agg (JC x),.agg [.str v1,.str v2,.str v3],.str o] (ZL (op o))) {pl:List UInt8->List UInt8->List (List AskT)} (V:∀n o,(n∈tName/\o=[120])\/(n=[]/\o=[])->Ok Tryz.prog 183 [.agg (JC x),.agg [.str v1,.str v2,.str v3],.str n,.str o] (ZL (pl n o))) {C:List (List UInt8)} (hil:C.length<=5) (vf:∀s∈C,s∈tItem) (hof:Ok Tryz.prog 181 [.sl x.fd,.str f] (.sl (C.map λs=>[.str s]))) (T:∀s∈tItem,Ok Tryz.prog 182 [.str s] (.u7 [.int .i64 (itK s:Nat),.str (itN s),.str (itF s)])) (O:∀o∈tOpt,(op o).length<=14) (M:∀n o,(n∈tName/\o=[120])\/(n=[]/\o=[])->(pl n o).length<=14):Ok Tryz.prog 142 [.agg (JC x),.agg [.str v1,.str v2,.str v3],.str f] (.sl ((ndU x.n (Y9 x.v.a x.v.b x.v.c x.v.p x.v.q) op pl C).map QoJ)):=by
 refine Ok.n6 tfol Tryz.func142 Qq6 (QAk Z) ?_;show TW _ _ tf142.body _ _;refine aX ?_ ?_;intro h1;exact absurd h1 hf;intro h1;refine Qg (X5 hv.sm.1 hv.sm.2) Z Z (.inl Z) (aK ?_);refine QG Z Z (Qn Z Z (aK ?_));refine Qg (hof) Z Z (.inl Z) (aK ?_);refine Qt (ι:=Nat) (λi=>⟨[(3,.ref 3 0 0),(4,.ref 4 0 0),(7,.ref 7 0 0),(8,.s4 8 (ndU x.n (Y9 x.v.a x.v.b x.v.c x.v.p x.v.q) op pl (C.take i)).length),(32,.sl (C.map λs=>[.str s])),(33,.int .i64 C.length),(34,.int .i64 i)],[(3,⟨[JC x],9,100,true⟩),(4,⟨[[.str v1,.str v2,.str v3]],3,50,true⟩),(7,⟨[[Qw (Y9 x.v.a x.v.b x.v.c x.v.p x.v.q).1,Qw (Y9 x.v.a x.v.b x.v.c x.v.p x.v.q).2]],2,79,true⟩),(8,⟨(ndU x.n (Y9 x.v.a x.v.b x.v.c x.v.p x.v.q) op pl (C.take i)).map QoJ,1,222,true⟩)]⟩) (λi=>i<=C.length) (λi=>C.length - i) 0 ?_ ?_ ?_;exact le_trans (MD (l:=[3,4,7,32,33,34]) (lH:=[3,4,7]) 28 8 8 (kp6 Z Z Z Z Z Z) (Qa Z (Qa Z (Qa Z Qb))) Z Z Z Z Z Z Z) (Ql (l:=[3,4,7,8,32,33,34]) (lH:=[3,4,7,8]) (kp7 Z Z Z Z Z Z Z) (Qa Z (Qa Z (Qa Z (Qa Z Qb)))) Z Z Z);exact QAw _;intro i hI;have hlen:(ndU x.n (Y9 x.v.a x.v.b x.v.c x.v.p x.v.q) op pl (C.take i)).length<=71:=QAD (QfY (λs G k=>O _ ((NG _ (vf _ (QAE G))).resolve_right (λh=>h k))) (λs G k k2=>M _ _ ((NH _ (vf _ (QAE G))).resolve_left Wa))) Wd
 try dsimp only
 refine aB ?_ ?_;intro h2;have G:=vf _ (QAp (Wa:i<C.length));refine aK ?_;refine Qg (T _ G) Z Z (.inl Z) (aB ?_ ?_);intro h3;refine QG Z Z (Qn Z Z (Zu Z Z (λ_ h=>ZN Z Z Z h) Z Wc Z Z Z Wd Wd (aK ?_)));refine Qc (i+1) ?_ ?_ ?_;exact Ql (l:=[3,4,7,8,32,33,34]) (lH:=[3,4,7,8]) (kp7 Z Z Z Z Z Z Z) (Qa Z (Qa Z (Qa Z (Qa Z Qb)))) (by first |(rw[L0 (Wa:i<C.length) Wa];done) |(rw[L0 (Wa:i<C.length) Wa];rfl) |(rw[L0 (Wa:i<C.length) Wa,QAY];rfl) |(simp[L0 (Wa:i<C.length) Wa];done) |(simp[L0 (Wa:i<C.length) Wa];omega) |rfl) (by first |(rw[L0 (Wa:i<C.length) Wa];done) |(rw[L0 (Wa:i<C.length) Wa];rfl) |(rw[L0 (Wa:i<C.length) Wa,QBi];rfl) |(simp[L0 (Wa:i<C.length) Wa];done) |rfl) Z
 omega
 first |omega |(simp only;omega) |(dsimp only;omega)
 intro h3;refine aB ?_ ?_;intro h4;have h14:=O _ ((NG _ G).resolve_right (λh=>h Wa));refine aK ?_;refine Qg (Y _ ((NG _ G).resolve_right (λh=>h Wa))) Z Z (.inl Z) (Zu Z Z (λ_ h=>Pl QgB h) Z Wc Z Z Z Wd Wd (aK ?_));refine Qc (i+1) ?_ ?_ ?_;exact Ql (l:=[3,4,7,8,32,33,34]) (lH:=[3,4,7,8]) (kp7 Z Z Z Z Z Z Z) (Qa Z (Qa Z (Qa Z (Qa Z Qb)))) (by rw[Qp9 (Wa:i<C.length) Wa,QAY,QBd,QBd];rfl) (by rw[Qp9 (Wa:i<C.length) Wa,QBi,TN];rfl) Z
 omega
 first |omega |(simp only;omega) |(dsimp only;omega)
 intro h4;have U:=((NH _ G).resolve_left Wa);have h14:=M _ _ U;refine aK ?_;refine Qg (V _ _ U) Z Z (.inl Z) (Zu Z Z (λ_ h=>Pl QgB h) Z Wc Z Z Z Wd Wd (aK ?_));refine Qc (i+1) ?_ ?_ ?_;exact Ql (l:=[3,4,7,8,32,33,34]) (lH:=[3,4,7,8]) (kp7 Z Z Z Z Z Z Z) (Qa Z (Qa Z (Qa Z (Qa Z Qb)))) (by rw[Qqa (Wa:i<C.length) Wa Wa,QAY,QBd,QBd];rfl) (by rw[Qqa (Wa:i<C.length) Wa Wa,QBi,TN];rfl) Z
 omega
 first |omega |(simp only;omega) |(dsimp only;omega)
 intro h2;exact Xb Z Z Z Wc (by rw[QAA (Wa:C.length<=i)])
variable {e:Int}
def Px:Qe:=[⟨[],[],[⟨⟨0,0,0,[],[]⟩, -1,[],[]⟩]⟩]
def dNone:D:=.agg [.sl [[.str [],.str [],.z7 [[.int .i64 0,.int .i64 0,.int .i64 0,.str [],.str [],.int .i64 (-1),.z7 [],.z7 []]]]]]
theorem QmL:dNone.wk (QW Px)=true:=by rfl
theorem FP {t:List UInt8} {s:Je} (C:Ok Tryz.prog 222 [.str t] (.u7 [.agg [Qw s.1,Qw s.2],.int .i64 e])):Ok Tryz.prog 185 [.str t] (Lu s):=by
 refine Ok.n6 tfol Tryz.func185 QuY (QAk Z) ?_;show TW _ _ tf185.body _ _;refine aS ?_;refine Qg (C) Z Z (.inl Z) (aK ?_);refine Zg (cs:=[_,_]) Z Z Z Z ?_;rfl
theorem G4 {l:List Int} {ms:List Qhu} {ss:List ShR} {v1 v2 v3:List UInt8} {w:Qe} (C:Ok Tryz.prog 48 [Qz l,.int .i64 0] (Nu ms)) (G:Ok Tryz.prog 49 [Qz l,.int .i64 200] (Cm ss)) (he:Ok Tryz.prog 32 [Qz l,.int .i64 1200] (.agg [.str v1,.str v2,.str v3])) (hb:Ok Tryz.prog 31 [Nu ms,Cm ss,.agg [.str v1,.str v2,.str v3],.sl []] (.u7 [QW w,.int .i64 e])):Ok Tryz.prog 15 [Qz l] (if e=0 then QW w else dNone):=by
 refine Ok.n6 tfol Tryz.func15 Qzu (QAk Z) ?_;show TW _ _ tf15.body _ _;refine aS ?_;refine Qg (C) Z Z (.inl Z) (aK ?_);refine Qg (G) Z Z (.inl Z) (aK ?_);refine Qg (he) Z Z (.inl Z) (Qg (hb) Z Z (.inl Z) (aB ?_ ?_));intro h1;refine QG Z Z (aK ?_);refine QG Z Z (aK ?_);rw[if_neg h1];exact Zg (cs:=[_]) rfl rfl rfl rfl rfl;intro h1;rw[if_pos (by simpa using h1)];exact Zg (cs:=[_]) rfl rfl rfl rfl rfl
end Go.Proofs
