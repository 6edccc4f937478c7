/- Part 3 of the means of the proof: a verified evaluator and contracts of functions. -/
import Derived.Test.YtggcpapoljmiaaaGreatDoorC2
set_option maxRecDepth 4000
set_option maxHeartbeats 4000000
set_option linter.unusedSimpArgs false
set_option linter.unusedVariables false
set_option linter.unusedSectionVars false
namespace M3
open Go Go.Abs
variable {i:Nat} {n v:Int} {s:List UInt8}
def RK (n:Int):Bool:=decide (0<=n)&&decide (n<=9999)
def Zf (m n:Int):Int:=if m<n then -1 else if n<m then 1 else 0
def Y3 (c:UInt8):Bool:=decide (48<=c.toNat)&&decide (c.toNat<=57)
def YF (s:List UInt8):Bool:=s.all Y3&&!decide (s=[])
theorem GK (h:i<s.length) (hd:Y3 s[i]=false):YF s=false:=by
 have:s.all Y3=false:=by
  grind
 grind [YF]
theorem RU (hi:s.length<=i) (h:(s.take i).all Y3=true):YF s= !decide (s=[]):=by
 grind [List.take_of_length_le,YF]
def Y6 (v n:Int):Int:=if v.tmod n<0 then v.tmod n+n else v.tmod n
def mAt (l:List Int) (i:Int):Int:=if i<0\/(l.length:Int)<=i then 0 else l.getD i.toNat 0
def Qff (l:List Int) (i n:Int):Int:=Y6 (mAt l i) n
def Q0 (l:List Int):D:=.sl (l.map λx=>[.int .i64 x])
theorem QiJ (h:0<n):0<=Y6 v n:=by
 unfold Y6;have h1:=Int.tmod_lt_of_pos v h;have h2:=Int.lt_tmod_of_pos v h;omega
theorem QiI (h:0<n):Y6 v n<n:=by
 unfold Y6;have h1:=Int.tmod_lt_of_pos v h;omega
end M3
namespace M3
open Go Go.Abs
def Kk (c:Int):List UInt8->List UInt8->List (List UInt8)
 |[],cur=>[cur]
 |x::xs,cur=>if(x.toNat:Int)=c then cur::Kk c xs []else Kk c xs (cur++[x])
def QA (s:List UInt8) (c:Int):List (List UInt8):=Kk c s []
def XF (l:List (List UInt8)):List (List D):=l.map λx=>[.str x]
def s8 (s:List UInt8) (c:Int) (i k:Nat) (acc:List (List UInt8)):Prop:=
 i<=s.length/\k<=i/\acc.length<=i/\QA s c=acc++Kk c (s.drop i) ((s.take i).drop k)
theorem s8.zero {s:List UInt8} {c:Int}:s8 s c 0 0 []:=⟨QzZ _,QAe _,QAe _,by rfl⟩
theorem s8.ye {s:List UInt8} {c:Int} {i k:Nat} {acc:List (List UInt8)} (h:s8 s c i k acc) (hi:i<s.length) (he:((s[i]).toNat:Int)=c):s8 s c (i+1) (i+1) (acc++[(s.take i).drop k]):=by
 obtain⟨h1,h2,G,C⟩:=h;refine⟨hi,QAe _,by grind, ?_⟩;rw[Qz4 hi]at C;simp only[Kk,he,if_true]at C
 grind
theorem s8.oh {s:List UInt8} {c:Int} {i k:Nat} {acc:List (List UInt8)} (h:s8 s c i k acc) (hi:i<s.length) (he:¬((s[i]).toNat:Int)=c):s8 s c (i+1) k acc:=by
 obtain⟨h1,h2,G,C⟩:=h;refine⟨hi,Wa,Wa, ?_⟩;rw[Qz4 hi]at C;simp only[Kk,he,if_false]at C
 grind [List.take_succ_eq_append_getElem]
theorem s8.done {s:List UInt8} {c:Int} {i k:Nat} {acc:List (List UInt8)} (h:s8 s c i k acc) (hi:s.length<=i):QA s c=acc++[s.drop k]:=by
 obtain⟨h1,h2,G,C⟩:=h;rw[C,Qz8 hi,Qz3 hi];rfl
end M3
namespace M3
open Go Go.Abs
def X3 (a b:List UInt8):Int:=if Op.bytesLess a b=true then -1 else if a=b then 0 else 1
def XI (c:Int):Bool:=decide (48<=c)&&decide (c<=57)
def Kc (c:UInt8):Bool:=(decide (97<=c.toNat)&&decide (c.toNat<=122))||(decide (48<=c.toNat)&&decide (c.toNat<=57))||decide (c.toNat=45)
def Dy (s:List UInt8):Bool:=decide (1<=s.length)&&decide (s.length<=8)&&s.all Kc
def val (s:List UInt8):Nat:=s.foldl (λn c=>10*n+(c.toNat - 48)) 0
def ZD (s:List UInt8):Int × Bool:=
 if s.length<1\/9<s.length\/(1<s.length/\s.head?=some 48)\/s.all Y3=false\/9999<val s then(0,false)else((val s:Int),true)
def CC (a b:List UInt8):Int:=
 if YF a=true/\YF b=true then Zf (ZD a).1 (ZD b).1
 else if YF a=true then -1 else if YF b=true then 1 else X3 a b
def QbJ:List (List UInt8)->List (List UInt8)->Int
 |[],[]=>0
 |[],_::_=>-1
 |_::_,[]=>1
 |a::l,b::m=>if CC a b≠0 then CC a b else QbJ l m
def M2 (a b:List UInt8):Int:=if a=b then 0 else if a=[]then 1 else if b=[]then -1 else QbJ (QA a 46) (QA b 46)
def Sj (pre:Bool) (t:List UInt8):Bool:=Dy t&&!(pre&&YF t&&!(ZD t).2)
def Mk (s:List UInt8) (pre:Bool):Bool:=decide (s=[])||(decide ((QA s 46).length<=4)&&(QA s 46).all (Sj pre))
def Jy (a b c:Int) (p q:List UInt8):Bool:=RK a&&RK b&&RK c&&Mk p true&&Mk q false
def Mj (a b c:Int) (p q:List UInt8) (a' b' c':Int) (p' q':List UInt8):Int:=
 if Jy a b c p q=false\/Jy a' b' c' p' q'=false then 0
 else if Zf a a'≠0 then Zf a a' else if Zf b b'≠0 then Zf b b' else if Zf c c'≠0 then Zf c c' else M2 p p'
theorem XV {α:Type} {s:List α} {p:α->Bool} {i:Nat} (h:i<s.length) (hd:p s[i]=false):s.all p=false:=by
 grind
theorem N2 {α:Type} {s:List α} {p:α->Bool} {i:Nat} (hi:s.length<=i) (h:(s.take i).all p=true):s.all p=true:=by grind [List.take_of_length_le]
theorem Qcx {s:List UInt8} {i:Nat} (h:i<s.length):val (s.take (i+1))=10*val (s.take i)+(s[i].toNat - 48):=by
 rw[QAZ h];grind [val]
theorem QgS:∀{s:List UInt8},s.all Y3=true->val s<10 ^ s.length:=by
 intro s;rw[<- List.reverse_reverse s];generalize s.reverse=r
 induction r with
 |nil=>trivial
 |cons c r ih=>
  intro h;rw[List.reverse_cons,List.all_append,QzR]at h;have h1:=ih h.1;have h2:Y3 c=true:=by grind
  simp only[Y3,QzR,decide_eq_true_eq]at h2;rw[List.reverse_cons]
  grind [val]
theorem CE {l m:List (List UInt8)} {i:Nat} (h1:i<l.length) (h2:i<m.length) (h:CC l[i] m[i]=0):QbJ (l.drop i) (m.drop i)=QbJ (l.drop (i+1)) (m.drop (i+1)):=by
 grind [List.drop_eq_getElem_cons,QbJ]
theorem QbK {l m:List (List UInt8)} {i:Nat} (h1:i<l.length) (h2:i<m.length) (h:CC l[i] m[i]≠0):QbJ (l.drop i) (m.drop i)=CC l[i] m[i]:=by
 grind [List.drop_eq_getElem_cons,QbJ]
theorem Pp {l m:List (List UInt8)} {i:Nat} (C:i<=l.length) (hm:i<=m.length) (h:l.length<=i\/m.length<=i):QbJ (l.drop i) (m.drop i)=Zf l.length m.length:=by
 rcases QAb i l.length with h1 |h1<;>rcases QAb i m.length with h2 |h2
 omega;rw[Qz4 h1,Qz8 h2];simp only[QbJ,Zf];omega;rw[Qz4 h2,Qz8 h1];simp only[QbJ,Zf];omega;rw[Qz8 h1,Qz8 h2];simp only[QbJ,Zf];omega
end M3
namespace M3
end M3
namespace M3
theorem Qpx {s:List UInt8} (h:0<s.length) (e:((s[0]).toNat:Int)=48):s.head?=some 48:=by
 cases s with
 |nil=>grind
 |cons x r=>
  simp only[List.getElem_cons_zero]at e;have:x=48:=UInt8.toNat_inj.1 Wb
  grind
theorem QeX {s:List UInt8} (h:0<s.length) (e:¬((s[0]).toNat:Int)=48):s.head?≠some 48:=by
 cases s with
 |nil=>simp
 |cons x r=>
  simp only[List.getElem_cons_zero]at e;intro C
  (repeat clear hK K);simp_all
theorem Qj5 {s:List UInt8} {i:Nat} (h:¬(s.length<1\/9<s.length\/(1<s.length/\s.head?=some 48))) (hi:s.length<=i) (ha:(s.take i).all Y3=true) (C:val (s.take i)<=9999):ZD s=((val (s.take i):Int),true):=by
 (repeat clear hK K);simp_all [Qz3,ZD]
theorem QmC {s:List UInt8} {i:Nat} (hi:s.length<=i) (C:9999<val (s.take i)):ZD s=(0,false):=by
 (repeat clear hK K);simp_all [Qz3,ZD]
theorem LQ {s:List UInt8} {i:Nat} (h:i<s.length) (hd:Y3 s[i]=false):ZD s=(0,false):=by
 rw[ZD,if_pos (.inr (.inr (.inr (.inl (XV h hd)))))]
theorem QfA {s:List UInt8} (h:s.length<1\/9<s.length):ZD s=(0,false):=by
 rw[ZD,if_pos Wa]
theorem QbV {s:List UInt8} (h:1<s.length) (e:((s[0]).toNat:Int)=48):ZD s=(0,false):=by
 rw[ZD,if_pos (.inr (.inr (.inl ⟨h,Qpx Wa e⟩)))]
end M3
namespace M3
open Go Go.Abs
theorem Qj (l:List (List UInt8)):(XF l).length=l.length:=by simp[XF]
theorem LC {l:List (List UInt8)} {i:Nat} (h:i<l.length):(XF l)[((i:Nat):Int).toNat]?=some [.str l[i]]:=by simp[XF,h]
theorem He {c:Int}:∀(s cur:List UInt8),(Kk c s cur).length<=s.length+1/\∀x∈Kk c s cur,x.length<=s.length+cur.length
 |[],cur=>by simp[Kk]
 |x::xs,cur=>by
  simp only[Kk];split;obtain⟨h1,h2⟩:=He (c:=c) xs []
  grind
  obtain⟨h1,h2⟩:=He (c:=c) xs (cur++[x])
  grind
theorem NN {s:List UInt8} {c:Int}:(QA s c).length<=s.length+1:=(He s []).1
theorem Ja {s:List UInt8} {c:Int} {i:Nat} (h:i<(QA s c).length) (C:s.length<=1048576):((QA s c)[i]).length<=1048576:=by
 have:=(He (c:=c) s []).2 _ (QzS h)
 grind
end M3
namespace M3
open Go Go.Abs
theorem QbM {s:List UInt8} {pre:Bool} {i:Nat} (C:s≠[]) (h:i<(QA s 46).length) (hd:Sj pre (QA s 46)[i]=false):Mk s pre=false:=by
 grind [Mk]
theorem Qfm {s:List UInt8} {pre:Bool} {i:Nat} (C:(QA s 46).length<=4) (hi:(QA s 46).length<=i) (h:((QA s 46).take i).all (Sj pre)=true):Mk s pre=true:=by
 grind [Mk,N2]
def Zy:List Int->Int
 |[]=>0
 |x::r=>if x≠0 then x else Zy r
theorem BW {l:List Int} {i:Nat} (h:i<l.length) (e:¬l[i]=0):Zy (l.drop i)=l[i]:=by
 grind [List.drop_eq_getElem_cons,Zy]
theorem Cg {l:List Int} {i:Nat} (h:i<l.length) (e:l[i]=0):Zy (l.drop i)=Zy (l.drop (i+1)):=by
 grind [List.drop_eq_getElem_cons,Zy]
end M3
namespace M3
open Go Go.Abs
structure Cu where
 e:Int
 a:Int
 b:Int
 c:Int
 p:List UInt8
 q:List UInt8
 f:Bool
def XQ (e a b c:Int) (p q:List UInt8) (f:Bool):Bool:=
 if e=0 then Jy a b c p q&&decide (q=[])
 else(decide (e= -1)||decide (e=1))&&(decide (a=0)&&(decide (b=0)&&(decide (c=0)&&(decide (p=[])&&(decide (q=[])&&true)))))&&!f
def Kg (e a b c:Int) (p q:List UInt8) (f:Bool) (e' a' b' c':Int) (p' q':List UInt8) (f':Bool):Int:=
 if XQ e a b c p q f=false\/XQ e' a' b' c' p' q' f'=false then 0
 else if e≠e'\/e≠0 then Zf e e'
 else if Mj a b c p q a' b' c' p' q'≠0 then Mj a b c p q a' b' c' p' q'
 else if f=f' then 0 else if f'=true then -1 else 1
def X2 (e a b c:Int) (p q:List UInt8) (f:Bool) (a' b' c':Int) (p' q':List UInt8):Bool:=
 if XQ e a b c p q f=false\/Jy a' b' c' p' q'=false then false
 else if e≠0 then decide (e<0)
 else decide (Mj a b c p q a' b' c' p' q'<0)||(decide (Mj a b c p q a' b' c' p' q'=0)&&!f)
end M3
namespace M3
def RN (e a b c:Int) (p q:List UInt8) (f:Bool) (e' a' b' c':Int) (p' q':List UInt8) (f':Bool):Bool:=
 XQ e a b c p q f&&XQ e' a' b' c' p' q' f'&&decide (Kg e a b c p q f e' a' b' c' p' q' f'<0)
def Gj (e a b c:Int) (p q:List UInt8) (f:Bool) (e' a' b' c':Int) (p' q':List UInt8) (f':Bool) (x y z:Int) (r s:List UInt8):Bool:=
 RN e a b c p q f e' a' b' c' p' q' f'&&Jy x y z r s&&X2 e a b c p q f x y z r s&&!X2 e' a' b' c' p' q' f' x y z r s
end M3
namespace M3
open Go Go.Abs
theorem QbU {s:List UInt8} (h:s=[]\/4<s.length):ZD s=(0,false):=by
 rcases h with rfl |h;rfl;unfold ZD;split;rfl;rename_i G;exfalso;apply G
 by_cases h1:s.head?=some 48
 grind
 cases hd:s.all Y3 with
 |false=>simp
 |true=>
  refine .inr (.inr (.inr (.inr ?_)));cases s with
  |nil=>grind
  |cons x r=>
   simp only[QAK,QzR,Y3,decide_eq_true_eq]at hd;simp only[List.head?_cons,QzQ]at h1
   have hx:1<=x.toNat - 48:=by
    have:x.toNat≠48:=λe=>h1 (UInt8.toNat_inj.1 Wb);omega
   have key:∀(r:List UInt8) (n:Nat),n*10 ^ r.length<=r.foldl (λn c=>10*n+(c.toNat - 48)) n:=by
    intro r
    induction r with
    |nil=>simp
    |cons c r C=>
     intro n;simp only[List.foldl_cons,QAt];refine Qz6 ?_ (C _);rw[Nat.pow_succ,<- Nat.mul_assoc,Nat.mul_right_comm]
     grind
   have h2:=key r (10*0+(x.toNat - 48));have O:10 ^ 4<=10 ^ r.length:=QA5 Wa Wb;have M:10 ^ r.length<=(10*0+(x.toNat - 48))*10 ^ r.length:=Nat.le_mul_of_pos_left _ Wa;show 9999<(x::r).foldl (λn c=>10*n+(c.toNat - 48)) 0
   grind
theorem QmB {s:List UInt8} {i:Nat} (h:¬(s=[]\/4<s.length\/(1<s.length/\s.head?=some 48))) (hi:s.length<=i) (ha:(s.take i).all Y3=true):ZD s=((val (s.take i):Int),true):=by
 have h1:=N2 hi ha;have G:=QgS h1;have C:s.length<=4:=Nat.le_of_not_lt λq=>h (.inr (.inl q));have hp:10 ^ s.length<=10 ^ 4:=QA5 Wa C;refine Qj5 ?_ hi ha ?_
 grind
 grind [List.take_of_length_le]
end M3
namespace M3
open Go Go.Abs
def Fh (s:List UInt8):Bool:=decide ((QA s 46).length<=4)&&(QA s 46).all Dy
theorem Qml {t:List UInt8} (h0:¬t=[]) (C:t.length<=8) (h:t.all Kc=true):Dy t=true:=by
 grind [List.length_pos_iff,Dy]
theorem QbL {t:List UInt8} (h:t=[]\/8<t.length):Dy t=false:=by
 rcases h with rfl |h;rfl
 grind [Dy]
theorem Pq {t:List UInt8} (h:t.all Kc=false):Dy t=false:=by simp[Dy,h]
theorem GR {s:List UInt8} {i:Nat} (h:i<(QA s 46).length) (hd:Dy (QA s 46)[i]=false):Fh s=false:=by
 rw[Fh,XV h hd,Bool.and_false]
theorem Qgw {s:List UInt8} {i:Nat} (hi:(QA s 46).length<=i) (h:((QA s 46).take i).all Dy=true):Fh s=decide ((QA s 46).length<=4):=by
 rw[Fh,N2 hi h,Bool.and_true]
theorem K8 (s:List UInt8):Mk s false=(decide (s=[])||Fh s):=by
 grind [Sj,Mk,Fh]
end M3
namespace M3
open Go Go.Abs
def CV (t:List UInt8):Bool:=!(YF t&&!(ZD t).2)
def CD (s:List UInt8):Bool:=Fh s&&(QA s 46).all CV
theorem QmL {s:List UInt8} {i:Nat} (h:i<(QA s 46).length) (hd:CV (QA s 46)[i]=false):CD s=false:=by
 rw[CD,XV h hd,Bool.and_false]
theorem QiK {s:List UInt8} {i:Nat} (h1:Fh s=true) (hi:(QA s 46).length<=i) (h:((QA s 46).take i).all CV=true):CD s=true:=by
 grind [CD,N2]
theorem KD (s:List UInt8):Mk s true=(decide (s=[])||CD s):=by
 grind [Sj,CV,Mk,CD,Fh]
theorem Ti {a b:Int}:Zf a b=0↔a=b:=by grind [Zf]
theorem Qo6 {a b c:Int} {p q:List UInt8} {a' b' c':Int} {p' q':List UInt8} (h1:Jy a b c p q=true) (h2:Jy a' b' c' p' q'=true)
 (h:(decide (a=a')&&(decide (b=b')&&(decide (c=c')&&(decide (p=p')&&(decide (([]:List UInt8)=[])&&true)))))=true):Mj a b c p q a' b' c' p' q'=0:=by
 simp only[QzR,decide_eq_true_eq,and_true]at h;obtain⟨rfl,rfl,rfl,rfl⟩:=h;have e:∀x,Zf x x=0:=λx=>Ti.2 rfl
 grind [Mj,M2]
theorem Qlu {a b c:Int} {p q:List UInt8} {a' b' c':Int} {p' q':List UInt8} (h1:Jy a b c p q=true) (h2:Jy a' b' c' p' q'=true)
 (h:¬Zy [Zf a a',Zf b b',Zf c c']=0):Zy [Zf a a',Zf b b',Zf c c']=Mj a b c p q a' b' c' p' q':=by
 simp only[Zy,Mj,h1,h2]at h ⊢
 grind
theorem Rd {a b c:Int} {p q:List UInt8} {a' b' c':Int} {p' q':List UInt8} (h1:Jy a b c p q=true) (h2:Jy a' b' c' p' q'=true) (h:Zy [Zf a a',Zf b b',Zf c c']=0):
  Mj a b c p q a' b' c' p' q'=M2 p p':=by
 simp only[Zy]at h;simp only[Mj,h1,h2,Bool.true_eq_false,or_self,if_false];omega
theorem QjC {a b c:Int} {p:List UInt8} {a' b' c':Int} {p':List UInt8} (h:(decide (a=a')&&(decide (b=b')&&(decide (c=c')&&(decide (p=p')&&(decide (([]:List UInt8)=[])&&true)))))=false)
 (h0:Zy [Zf a a',Zf b b',Zf c c']=0):p≠p':=by
 rintro rfl
 grind [Zy,Ti]
theorem QhR {a b c:Int} {p q:List UInt8} {a' b' c':Int} {p' q':List UInt8} (h1:Jy a b c p q=true) (h2:Jy a' b' c' p' q'=true)
 (h:(decide (a=a')&&(decide (b=b')&&(decide (c=c')&&(decide (p=p')&&(decide (([]:List UInt8)=[])&&true)))))=false)
 (h0:Zy [Zf a a',Zf b b',Zf c c']=0) (hp:p=[]):Mj a b c p q a' b' c' p' q'=1:=by
 rw[Rd h1 h2 h0,M2,if_neg (QjC h h0),if_pos hp]
theorem QhS {a b c:Int} {p q:List UInt8} {a' b' c':Int} {p' q':List UInt8} (h1:Jy a b c p q=true) (h2:Jy a' b' c' p' q'=true)
 (h0:Zy [Zf a a',Zf b b',Zf c c']=0) (hp:¬p=[]) (C:p'=[]):Mj a b c p q a' b' c' p' q'= -1:=by
 (repeat clear hK K);simp_all [Rd,M2]
theorem Qlv {a b c:Int} {p q:List UInt8} {a' b' c':Int} {p' q':List UInt8} (h1:Jy a b c p q=true) (h2:Jy a' b' c' p' q'=true)
 (h:(decide (a=a')&&(decide (b=b')&&(decide (c=c')&&(decide (p=p')&&(decide (([]:List UInt8)=[])&&true)))))=false)
 (h0:Zy [Zf a a',Zf b b',Zf c c']=0) (hp:¬p=[]) (C:¬p'=[]):Mj a b c p q a' b' c' p' q'=QbJ ((QA p 46).drop 0) ((QA p' 46).drop 0):=by
 rw[Rd h1 h2 h0,M2,if_neg (QjC h h0),if_neg hp,if_neg C];rfl
end M3
namespace M3
open Go Go.Abs
theorem QhN {e a b c:Int} {p q:List UInt8} {f:Bool} {e' a' b' c':Int} {p' q':List UInt8} {f':Bool} (h1:XQ e a b c p q f=true) (h2:XQ e' a' b' c' p' q' f'=true) (h:¬e=0\/¬e'=0):
  Kg e a b c p q f e' a' b' c' p' q' f'=Zf e e':=by
 rw[Kg,h1,h2,if_neg Wc,if_pos];omega
end M3
namespace M3
open Go Go.Abs
def numT:List Int:=[0,1,2,3,0,1,10,9999]
def preT:List (List UInt8):=[[],[],[],[],[48],[49],[50],[49,49],[97],[97,46,49],[97,46,98],[98],[48,46,48],[114,99,46,49]]
def Qvt (l:List Int) (i:Int):Int:=numT.getD (Qff l i 8).toNat 0
def QzI (l:List Int) (i:Int):List UInt8:=preT.getD (Qff l i 14).toNat []
def cu (l:List Int) (i:Int):Cu:=
 if Qff l (i+5) 9<2 then⟨2*Qff l (i+5) 9 - 1,0,0,0,[],[],false⟩
 else⟨0,Qvt l i,Qvt l (i+1),Qvt l (i+2),QzI l (i+3),[],decide (Qff l (i+5) 2=1)⟩
end M3
namespace M3
open Go Go.Abs
theorem Nu {m n:Int}:Zf m n<0↔m<n:=by grind [Zf]
end M3
namespace M3
open Go Go.Abs
end M3
namespace M25
open Go Go.Abs M3
variable {a b:Int} {c:List Cu} {f:Cu->Cu->Bool} {i k n:Nat} {l out:List (Cu × Cu)} {p q:List UInt8} {s:List (Cu × Cu) × List (Cu × Cu)} {x y:Cu} {α:Type}
def ML (a b c:Int):Bool:=decide (a=0)&&decide (b=0)&&decide (c=0)
def FE (a b c:Int) (p q:List UInt8) (part:Int):Option (Int × Int × Int):=
 if Jy a b c p q=false\/part<0\/2<part then none
 else
  let o:=if part=0 then(a+1,0,0)else if part=1 then(a,b+1,0)else(a,b,c+1)
  if Jy o.1 o.2.1 o.2.2 [] []=true then some o else none
def dOV (o:Option (Int × Int × Int)):D:=.l7 [.agg [.int .i64 (o.getD (0,0,0)).1,.int .i64 (o.getD (0,0,0)).2.1,.int .i64 (o.getD (0,0,0)).2.2,.str [],.str []],.bool o.isSome]
def Xv (a b c:Int) (p q:List UInt8):Nat->Option (Int × Int × Int)
 |0=>none
 |n+1=>if(FE a b c p q n).isSome=true then FE a b c p q n else Xv a b c p q n
def Qc5 (a b c:Int) (p q:List UInt8):Option (Int × Int × Int):=
 if Jy a b c p q=false then none else if p≠[]then some (a,b,c)else Xv a b c p q 3
theorem GI {c:Int} (h:Jy a b c p q=true):(0<=a/\a<=9999)/\(0<=b/\b<=9999)/\(0<=c/\c<=9999):=by
 (repeat clear hK K);simp_all [Jy,RK]
theorem BF {c:Int} {m:Nat} (hm:0<m) (h:(FE a b c p q ((m:Int) - 1)).isSome=false):Xv a b c p q m=Xv a b c p q (m - 1):=by
 obtain⟨n,rfl⟩:∃n,m=n+1:=⟨m - 1,Wa⟩
 (repeat clear hK K);simp_all [Xv]
theorem DV {c:Int} {m:Nat} (hm:0<m) (h:(FE a b c p q ((m:Int) - 1)).isSome=true):Xv a b c p q m=FE a b c p q ((m:Int) - 1):=by
 obtain⟨n,rfl⟩:∃n,m=n+1:=⟨m - 1,Wa⟩
 (repeat clear hK K);simp_all [Xv]
def dCu (x:Cu):List D:=[.int .i64 x.e,.int .i64 x.a,.int .i64 x.b,.int .i64 x.c,.str x.p,.str x.q,.bool x.f]
def JJ (s:Cu × Cu):List D:=dCu s.1++dCu s.2
def Qv (l:List (Cu × Cu)):D:=.sl (l.map JJ)
def Li (s:List (Cu × Cu) × List (Cu × Cu)):D:=.agg [Qv s.1,Qv s.2]
def ZS:Cu:=⟨-1,0,0,0,[],[],false⟩
def XP:Cu:=⟨1,0,0,0,[],[],false⟩
def RJ (a b c:Int):Cu:=if ML a b c=true then ZS else⟨0,a,b,c,[],[],false⟩
def Nr (a b c:Int):Cu:=match Qc5 a b c [] []with
 |none=>XP
 |some o=>⟨0,o.1,o.2.1,o.2.2,[],[],false⟩
def ZE (a b c:Int) (p q:List UInt8):List (Cu × Cu) × List (Cu × Cu):=
 if Jy a b c p q=false then([],[])else if p≠[]then([],[(⟨0,a,b,c,p,[],false⟩,⟨0,a,b,c,p,[],true⟩)])else([(RJ a b c,Nr a b c)],[])
def MM (e a b c:Int) (p q:List UInt8) (f:Bool):Bool:=!decide (e=0)||(!f&&decide (p=[])&&!ML a b c)
def Cu.sm (x:Cu):Prop:=x.p.length<=1048576/\x.q.length<=1048576
def Sm (l:List (Cu × Cu)):Prop:=l.length<=4194304/\∀s∈l,Cu.sm s.1/\Cu.sm s.2
theorem Sm.at (h:Sm l) (hi:i<l.length):(l[i].1.p.length<=1048576/\l[i].1.q.length<=1048576)/\(l[i].2.p.length<=1048576/\l[i].2.q.length<=1048576):=h.2 _ (QzS hi)
def Gk (s:Cu × Cu):Bool:=RN s.1.e s.1.a s.1.b s.1.c s.1.p s.1.q s.1.f s.2.e s.2.a s.2.b s.2.c s.2.p s.2.q s.2.f
def K7 (x y:Cu):Int:=Kg x.e x.a x.b x.c x.p x.q x.f y.e y.a y.b y.c y.p y.q y.f
def QmD (l:List (Cu × Cu)) (i:Nat):Bool:=match l[i]? with
 |none=>true
 |some s=>Gk s&&(decide (i=0)||match l[i - 1]? with |none=>true |some r=>decide (K7 r.2 s.1<0))
theorem Qak (h:i<l.length):QmD l i=(Gk l[i]&&(decide (i=0)||decide (K7 (l[i - 1]'Wa).2 l[i].1<0))):=by
 unfold QmD
 grind
theorem QbX (h:i<l.length) (h1:Gk l[i]=true) (h2:i=0\/K7 (l[i - 1]'Wa).2 l[i].1<0):QmD l i=true:=by
 grind [Qak]
theorem Hq (h:i<l.length) (h1:Gk l[i]=false\/(i≠0/\0<=K7 (l[i - 1]'Wa).2 l[i].1)):QmD l i=false:=by
 rw[Qak h]
 grind
def JL (l:List (Cu × Cu)):Bool:=(List.range l.length).all (QmD l)
theorem YJ {p:Nat->Bool} (h:i<n) (hp:p i=false):(List.range n).all p=false:=by
 grind
theorem PC {p:Nat->Bool} (h:(List.range i).all p=true) (hp:p i=true):(List.range (i+1)).all p=true:=by
 grind
theorem GO {p:Nat->Bool} (h:(List.range i).all p=true) (C:n<=i):(List.range n).all p=true:=by
 grind
def RM (s:Cu × Cu) (a b c:Int) (p q:List UInt8):Bool:=Gj s.1.e s.1.a s.1.b s.1.c s.1.p s.1.q s.1.f s.2.e s.2.a s.2.b s.2.c s.2.p s.2.q s.2.f a b c p q
def SL (l:List (Cu × Cu)) (a b c:Int) (p q:List UInt8):Bool:=JL l&&l.any λs=>RM s a b c p q
theorem Ph {c:Int} (hi:l.length<=i) (h:(l.take i).any (λs=>RM s a b c p q)=false):SL l a b c p q=false:=by
 (repeat clear hK K);simp_all [Qz3,SL]
theorem Pi {c:Int} (h:JL l=false):SL l a b c p q=false:=by grind [SL]
theorem Qbo {c:Int} (h:JL l=true) (hi:i<l.length) (hp:RM l[i] a b c p q=true):SL l a b c p q=true:=by
 rw[SL,h,QAA];grind
def inC (x y:Cu) (s:Cu × Cu):Bool:=decide (K7 s.1 x<=0)&&decide (K7 y s.2<=0)
theorem QpE {s:Cu × Cu} (h1:K7 s.1 x<=0) (h2:K7 y s.2<=0):inC x y s=true:=by grind [inC]
theorem QpD {s:Cu × Cu} (h:¬K7 s.1 x<=0\/¬K7 y s.2<=0):inC x y s=false:=by
 grind [inC]
def mIn (l:List (Cu × Cu)) (x y:Cu):Bool:=l.any (inC x y)
theorem QdP {s:List α} {p:α->Bool} (h:i<s.length) (hp:p s[i]=true):s.any p=true:=QAW.2 ⟨_,QzS h,hp⟩
theorem Qjs {s:List α} {p:α->Bool} (hi:s.length<=i) (h:(s.take i).any p=false):s.any p=false:=by grind [List.take_of_length_le]
theorem PV {s:List α} {p:α->Bool} (h:i<s.length) (ha:(s.take i).any p=false) (hp:p s[i]=false):(s.take (i+1)).any p=false:=by
 grind [List.take_succ_eq_append_getElem]
def YB (x:Cu):Bool:=MM x.e x.a x.b x.c x.p x.q x.f
def Kh (s:List (Cu × Cu) × List (Cu × Cu)):Bool:=JL s.1&&JL s.2&&s.1.all λx=>YB x.1&&YB x.2
def Nt (s:List (Cu × Cu) × List (Cu × Cu)) (a b c:Int) (p q:List UInt8):Bool:=
 Kh s&&Jy a b c p q&&(if p=[]then SL s.1 a b c p q else SL s.2 a b c p q)
theorem Ml (h:JL s.1=false\/JL s.2=false):Kh s=false:=by
 grind [Kh]
theorem RP (hi:i<s.1.length) (h:YB s.1[i].1=false\/YB s.1[i].2=false):Kh s=false:=by
 have:(s.1.all λx=>YB x.1&&YB x.2)=false:=XV hi Wb;rw[Kh,this,Bool.and_false]
theorem LM (h1:JL s.1=true) (h2:JL s.2=true) (hi:s.1.length<=i) (h:(s.1.take i).all (λx=>YB x.1&&YB x.2)=true):Kh s=true:=by
 grind [List.take_of_length_le,Kh]
def SD (l:List Cu):D:=.sl (l.map dCu)
theorem C5 {l:List Cu}:∀r∈l.map dCu,r.length=7:=λr hr=>by obtain⟨x,_,rfl⟩:=Qz1.1 hr;rfl
theorem QiT {l:List Cu} {a b:Nat}:∀r∈((l.map dCu).take a).drop b,r.length=7:=λr hr=>C5 r (Qz7 (QAh hr))
def KL:List Cu->Cu->List Cu
 |[],c=>[c]
 |x::r,c=>if K7 x c<0 then x::KL r c else if K7 x c=0 then x::r else c::x::r
theorem Qfl {l:List Cu} {c:Cu} (hk:k<l.length) (h:K7 l[k] c<0) (hi:KL l c=l.take k++KL (l.drop k) c):KL l c=l.take (k+1)++KL (l.drop (k+1)) c:=by
 rw[hi,Qz4 hk,KL,if_pos h,QAZ hk,QAD];rfl
theorem Qfk {l:List Cu} {c:Cu} (hk:k<l.length) (h:K7 l[k] c=0) (hi:KL l c=l.take k++KL (l.drop k) c):KL l c=l:=by
 rw[hi,Qz4 hk,KL,if_neg Wa,if_pos h,<- Qz4 hk,QAn]
theorem QbI {l:List Cu} {c:Cu} (h:l.length<=k\/∃hk:k<l.length,¬K7 l[k] c<0/\K7 l[k] c≠0) (hi:KL l c=l.take k++KL (l.drop k) c):KL l c=l.take k++c::l.drop k:=by
 rw[hi];rcases h with h |⟨hk,h1,h2⟩
 rw[Qz8 h,KL];rw[Qz4 hk,KL,if_neg h1,if_neg h2]
theorem Po:∀(l:List Cu) (c:Cu),(KL l c).length<=l.length+1
 |[],c=>by simp[KL]
 |x::r,c=>by
  have:=Po r c
  grind [KL]
theorem LL:∀{l:List Cu} {c:Cu},(∀x∈l,Cu.sm x)->Cu.sm c->∀x∈KL l c,Cu.sm x
 |[],c,_,hc,x,hx=>by grind [KL]
 |y::r,c,hl,hc,x,hx=>by
  simp only[KL]at hx;split at hx;rcases QzP.1 hx with rfl |hx
  grind
  exact LL (λz C=>hl z Wb) hc x hx
  grind
def Yd (l:List (Cu × Cu)):List Cu:=l.foldl (λout s=>KL (KL out s.1) s.2) [ZS,XP]
theorem Qis (h:i<l.length):Yd (l.take (i+1))=KL (KL (Yd (l.take i)) l[i].1) l[i].2:=by
 grind [List.take_succ_eq_append_getElem,Yd]
theorem Tg:∀(l:List (Cu × Cu)) (out:List Cu),(l.foldl (λout s=>KL (KL out s.1) s.2) out).length<=out.length+2*l.length
 |[],out=>by simp
 |s::l,out=>by
  have h1:=Po out s.1;have h2:=Po (KL out s.1) s.2;have:=Tg l (KL (KL out s.1) s.2)
  grind
theorem Gi (l:List (Cu × Cu)):(Yd l).length<=2+2*l.length:=Tg l _
theorem Cz:∀{l:List (Cu × Cu)} {out:List Cu},(∀s∈l,Cu.sm s.1/\Cu.sm s.2)->(∀x∈out,Cu.sm x)->∀x∈l.foldl (λout s=>KL (KL out s.1) s.2) out,Cu.sm x
 |[],_,_,h=>h
 |s::l,out,hl,h=>by
  rw[List.foldl_cons];exact Cz (λt C=>hl t Wb) (LL (LL h (hl s Wc).1) (hl s Wc).2)
theorem QbG (C:∀s∈l,Cu.sm s.1/\Cu.sm s.2):∀x∈Yd l,Cu.sm x:=Cz C (by
 intro x hx;simp only[QzP,QzO,or_false]at hx;rcases hx with rfl |rfl<;>exact⟨QzZ _,QzZ _⟩)
theorem Pn (C:Sm l) (i:Nat):(Yd (l.take i)).length<=8388610/\∀x∈Yd (l.take i),Cu.sm x:=by
 refine⟨?_,QbG λs G=>C.2 s (Qz7 G)⟩;have:=Gi (l.take i);have h2:(l.take i).length<=l.length:=List.length_take_le' ..;have:=C.1;omega
def KC (l:List (Cu × Cu)) (x y:Cu):List (Cu × Cu):=match l.getLast? with
 |some s=>if K7 s.2 x=0 then l.dropLast++[(s.1,y)]else l++[(x,y)]
 |none=>l++[(x,y)]
theorem CA (hi:i+1=l.length) (h:K7 (l[i]'Wa).2 x=0):KC l x y=l.set i ((l[i]'Wa).1,y):=by
 have C:l.getLast?=some (l[i]'Wa):=by
  grind
 rw[KC,C];simp only[h,if_true];rw[List.dropLast_eq_take,show l.length - 1=i by omega,List.set_eq_take_append_cons_drop,if_pos Wa,Qz8 Wa]
theorem Ns (h:l=[]\/∃i,∃hi:i+1=l.length,K7 (l[i]'Wa).2 x≠0):KC l x y=l++[(x,y)]:=by
 rcases h with rfl |⟨i,hi,h⟩;rfl
 have C:l.getLast?=some (l[i]'Wa):=by
  grind
 rw[KC,C]
 grind
theorem Qfg (l:List (Cu × Cu)) (x y:Cu):(KC l x y).length<=l.length+1:=by
 grind [KC]
theorem Qiu (G:∀s∈l,Cu.sm s.1/\Cu.sm s.2) (hx:Cu.sm x) (C:Cu.sm y):∀s∈KC l x y,Cu.sm s.1/\Cu.sm s.2:=by
 grind [KC,List.dropLast_subset]
theorem Qe0 {β:Type} {l:List α} {f:α->β} (h:i+1<l.length):(l.map f)[((i:Int)+1).toNat]?=some (f l[i+1]):=by
 grind
def HB (f:Cu->Cu->Bool):List Cu->List (Cu × Cu)->List (Cu × Cu)
 |x::y::r,out=>HB f (y::r) (if f x y=true then KC out x y else out)
 |_,out=>out
def Qag (l:List (Cu × Cu)):List (Cu × Cu):=if l.all Gk=true then HB (mIn l) (Yd l) []else[]
theorem Th (h:i+1<c.length):HB f (c.drop i) out=HB f (c.drop (i+1)) (if f c[i] c[i+1]=true then KC out c[i] c[i+1]else out):=by
 grind [List.drop_eq_getElem_cons,HB]
theorem Qfe (h:c.length<=i+1):HB f (c.drop i) out=out:=by
 have:(c.drop i).length<=1:=by grind
 match hd:c.drop i with
 |[]=>rfl
 |[x]=>rfl
 |x::y::r=>grind
def g9 (f:Cu->Cu->Bool) (c:List Cu) (i:Nat) (out:List (Cu × Cu)):Prop:=
 out.length<=i/\(∀s∈out,Cu.sm s.1/\Cu.sm s.2)/\HB f c []=HB f (c.drop i) out
theorem g9.zero:g9 f c 0 []:=⟨QzZ _,by simp,by simp⟩
theorem g9.take (h:g9 f c i out) (C:∀x∈c,Cu.sm x) (hi:i+1<c.length) (G:f c[i] c[i+1]=true):g9 f c (i+1) (KC out c[i] c[i+1]):=by
 obtain⟨h1,h2,M⟩:=h;refine⟨Qz6 (Qfg ..) Wa,Qiu h2 (C _ (QzS _)) (C _ (QzS _)), ?_⟩
 (repeat clear hK K);simp_all [Th]
theorem g9.skip (h:g9 f c i out) (hi:i+1<c.length) (C:f c[i] c[i+1]=false):g9 f c (i+1) out:=by
 obtain⟨h1,h2,G⟩:=h;exact⟨Wa,h2,by simp_all [Th]⟩
theorem g9.done (h:g9 f c i out) (hi:c.length<=i+1):HB f c []=out:=by rw[h.2.2,Qfe hi]
theorem Zk (C:Sm l):∀x∈Yd l,Cu.sm x:=QbG C.2
def QpJ (a b:List (Cu × Cu)):List (Cu × Cu):=if JL a=true/\JL b=true then Qag (a++b)else[]
def Qiw (a:List (Cu × Cu)):List (Cu × Cu):=if JL a=true then HB (λx y=>!mIn a x y) (Yd a) []else[]
theorem Qcf:∀r∈l.map JJ,r.length=14:=λr hr=>by obtain⟨x,_,rfl⟩:=Qz1.1 hr;rfl
theorem Sm.app {a b:List (Cu × Cu)} (ha:Sm a) (hb:Sm b) (h:a.length+b.length<=4194304):Sm (a++b):=by
 refine⟨by grind,λs C=>?_⟩;rcases QzY.1 C with C |C
 exact ha.2 s C;exact hb.2 s C
theorem Qs5 {H:QzK} {S:Nat->Bool} {b:u4} (G:S k=true) (hb:lk H k=some b) (hp:b.pr=true) (C:n=b.rows.length):(D.s4 k n).fz H S=.sl b.rows:=by
 (repeat clear hK K);simp_all [D.fz,D.o7]
abbrev JF:=List (Cu × Cu) × List (Cu × Cu)
def mPl (v n:Int):Int:=if n<1 then 0 else Y6 v n
def Qv0 (l:List Int) (i:Int):Int:=if i<0\/(l.length:Int)<=i then i.tmod 3 else l.getD i.toNat 0
def I64 (x:Int):Prop:=-9223372036854775808<=x/\x<=9223372036854775807
theorem Bj (x:Int):I64 (IntKind.i64.wrap x):=by
 unfold IntKind.wrap I64;simp only[IntKind.bits,IntKind.signed,QAA]
 grind
def gB (L:List Int) (I:Int) (et:Nat):u4:=⟨[[Q0 L,.int .i64 I]],2,et,true⟩
def nxI (I:Int):Int:=IntKind.i64.wrap (I+1)
def nx (L:List Int) (I n:Int):Int:=mPl (Qv0 L (IntKind.i64.wrap (nxI I - 1))) n
def CF (h m:Int):Int:=if Ju .and .i64 h m=h then 2 else if Ju .and .i64 h m=0 then 0 else 1
structure Vr where
 a:Int
 b:Int
 c:Int
 p:List UInt8
 q:List UInt8
def NT:List Vr:=[⟨1,0,0,[],[]⟩,⟨1,2,0,[],[]⟩,⟨2,0,0,[97,46,49],[]⟩,⟨2,0,0,[],[]⟩]
theorem J1:((i:Int) - 1).toNat=i - 1:=Wa
end M25
namespace Go.Abs
open Go M3 M25
variable {K:St->Prop} {dst:Option Nat} {e:AExit} {g t:Nat} {op:z5} {q:Bool} {r:List z1}
section
variable {P:Program} {nt:Nat} {Q:AExit->St->Prop} {l:List Nat} {b:y5} {fr fr':QzL} {H:QzK} {dr:Dr} {ops:List z1} {s:St}
theorem DL (h:run P .fixed ops (λs=>TW P nt b Q ⟨Qz l s.fr,s.H⟩) ⟨fr,H⟩):TW P nt (.seq (.region false ops) l b) Q ⟨fr,H⟩:=MW λ_ C=>YC (λs h=>C s.fr s.H h) h
theorem QaI (h:run P (.drawn H [] []) ops (λs=>TW P nt b Q ⟨Qz l s.fr,s.H⟩) ⟨fr,H⟩):TW P nt (.seq (.region true ops) l b) Q ⟨fr,H⟩:=MW λ_ C=>YC (λs h=>C s.fr s.H h) h
theorem TR (h:run P .fixed ops (λs=>TX P nt b Q ⟨Qz l s.fr,s.H⟩) ⟨fr,H⟩):TX P nt (.seq (.region false ops) l b) Q ⟨fr,H⟩:=Qjo λ_ C=>YC (λs h=>C s.fr s.H h) h
theorem TQ (h:run P (.drawn H [] []) ops (λs=>TX P nt b Q ⟨Qz l s.fr,s.H⟩) ⟨fr,H⟩):TX P nt (.seq (.region true ops) l b) Q ⟨fr,H⟩:=Qjo λ_ C=>YC (λs h=>C s.fr s.H h) h
theorem Bv (h:run P .fixed ops (Q .normal) ⟨fr,H⟩):TW P nt (.region false ops) Q ⟨fr,H⟩:=Mw λ_ C=>YC C h
theorem Bu (h:run P (.drawn H [] []) ops (Q .normal) ⟨fr,H⟩):TW P nt (.region true ops) Q ⟨fr,H⟩:=Mw λ_ C=>YC C h
theorem TO (h:run P .fixed ops (Q .normal) ⟨fr,H⟩):TX P nt (.region false ops) Q ⟨fr,H⟩:=QdE λ_ C=>YC C h
theorem TN (h:run P (.drawn H [] []) ops (Q .normal) ⟨fr,H⟩):TX P nt (.region true ops) Q ⟨fr,H⟩:=QdE λ_ C=>YC C h
theorem Qhr (h:Qz l fr=fr') (k:TW P nt b Q ⟨fr',H⟩):run P dr [] (λs=>TW P nt b Q ⟨Qz l s.fr,s.H⟩) ⟨fr,H⟩:=Ji h k
theorem QkS (h:Qz l fr=fr') (k:TX P nt b Q ⟨fr',H⟩):run P dr [] (λs=>TX P nt b Q ⟨Qz l s.fr,s.H⟩) ⟨fr,H⟩:=PQ h k
theorem QdD (h:Q .normal s):run P dr [] (Q .normal) s:=h
theorem XU (h:lk fr g=some (.bool q)) (C:(op.rf&&(dr.dr&&!(D1 r).isEmpty))=false) (k:run P dr (⟨dst,op,none⟩::r) K ⟨fr,H⟩):run P dr (⟨dst,op,some (g,q)⟩::r) K ⟨fr,H⟩:=Qsl h k C
theorem Tq {q':Bool} (h:lk fr t=some (.bool q)) (he:e=.ret\/e=.normal) (hb:q=q'):s7 [.tmp t] (.bool q') e ⟨fr,H⟩:=ZJ h hb he
theorem Tr {k:IntKind} {i i':Int} (h:lk fr t=some (.int k i)) (he:e=.ret\/e=.normal) (hb:i=i'):s7 [.tmp t] (.int k i') e ⟨fr,H⟩:=R2 h hb he
theorem QkB {c:Bool} (h:lk fr g=some (.bool c)) (h1:c=true->run P dr (⟨dst,op,some (g,q)⟩::r) K ⟨fr,H⟩) (h2:c=false->run P dr (⟨dst,op,some (g,q)⟩::r) K ⟨fr,H⟩):run P dr (⟨dst,op,some (g,q)⟩::r) K ⟨fr,H⟩:=QkC h h1 h2
end
structure aI (B:Prop):Prop where x:B
theorem aJ {A B:Prop} (k:B) (h:aI B->A:=by
 intro k
 repeat (first
  |((with_reducible apply Yr);exact rfl)
  |((with_reducible apply Qsk);exact rfl)
  |((with_reducible apply XU);exact rfl;exact rfl)
  |((with_reducible apply Qhr);((repeat ((with_reducible apply Qc);exact rfl));exact Qs))
  |((with_reducible apply QdD))
  |((with_reducible apply JD);((repeat ((with_reducible apply Qc);exact rfl));exact Qs))
  |((with_reducible apply SS);exact rfl;exact rfl)
  |((with_reducible apply Xu);exact rfl;exact rfl)
  |((with_reducible apply FP);exact rfl;exact rfl;exact rfl)
  |((with_reducible apply By))
  |((with_reducible apply L9))
  |((with_reducible apply SU))
  |((with_reducible show s7 _ _ _ _);apply Tq;exact rfl;(first |exact .inl rfl |exact .inr rfl))
  |((with_reducible apply Jh);exact rfl;exact rfl;exact rfl;exact rfl;exact rfl;exact rfl;exact rfl;exact rfl)
  |((with_reducible apply Bq);exact rfl)
  |((with_reducible apply DU))
  |((with_reducible apply HO))
  |((with_reducible apply HG))
  |((with_reducible apply QkF);exact rfl;exact rfl;exact rfl)
  |((with_reducible apply Qsq);exact rfl;exact rfl)
  |((with_reducible apply KF))
  |((with_reducible apply PO);exact rfl;exact rfl)
  |((with_reducible apply HN))
  |((with_reducible apply Gt))
  |((with_reducible show s7 _ _ _ _);apply Tr;exact rfl;(first |exact .inl rfl |exact .inr rfl))
  |((with_reducible apply QkM);exact rfl)
  |((with_reducible apply PP);exact rfl;exact rfl)
  |((with_reducible apply TL);exact rfl;exact rfl)
  |((with_reducible apply Mx))
  |((with_reducible apply C3))
  |((with_reducible apply Qso);exact rfl;exact rfl)
  |((with_reducible apply Bt);exact rfl)
  |((with_reducible apply Qhs);exact rfl;exact rfl)
  |((with_reducible apply Sy);exact rfl;exact LI)
  |((with_reducible apply Sy);exact rfl;exact rfl)
  |((with_reducible apply QkH);exact rfl;exact rfl)
  |((with_reducible apply QcI);exact rfl;exact rfl)
  |((with_reducible apply Qsn);exact rfl;exact rfl)
  |((with_reducible apply TP);exact rfl)
  |((with_reducible apply Qsp);exact rfl;exact rfl)
  |((with_reducible apply QkL);exact rfl;exact rfl)
  |((with_reducible apply QkJ);exact rfl;exact rfl)
  |((with_reducible apply ZV);exact rfl;exact rfl)
  |((with_reducible apply QkK);exact rfl;exact rfl)
  |((with_reducible apply QkG);exact rfl;exact rfl)
  |((with_reducible apply QkI);exact rfl;exact rfl)
  |((with_reducible apply KM);exact rfl;exact rfl;exact rfl;omega;(first |exact Gc Wa |exact Qe0 Wa |exact JY Wa Wa |exact LC Wa);exact rfl)
  |((with_reducible apply Kp);exact rfl;exact rfl;omega;exact idx_at Wa)
  |((with_reducible apply QcH);exact rfl;exact rfl;(first |exact Z3 Wa Wa |exact GW Wa Wa |exact Mv Wa Wa))
  |((with_reducible apply QkP);exact rfl;exact rfl;(first |exact Z3 Wa Wa |exact GW Wa Wa |exact Mv Wa Wa))
  |((with_reducible apply(QG (sz:=1) (cs:=[_])));exact rfl;exact rfl;exact rfl;exact rfl)
  |((with_reducible apply(QG (sz:=2) (cs:=[_,_])));exact rfl;exact rfl;exact rfl;exact rfl)
  |((with_reducible apply(QG (sz:=3) (cs:=[_,_,_])));exact rfl;exact rfl;exact rfl;exact rfl)
  |((with_reducible apply(QG (sz:=4) (cs:=[_,_,_,_])));exact rfl;exact rfl;exact rfl;exact rfl)
  |((with_reducible apply(QG (sz:=5) (cs:=[_,_,_,_,_])));exact rfl;exact rfl;exact rfl;exact rfl)
  |((with_reducible apply(QG (sz:=6) (cs:=[_,_,_,_,_,_])));exact rfl;exact rfl;exact rfl;exact rfl)
  |((with_reducible apply(QG (sz:=7) (cs:=[_,_,_,_,_,_,_])));exact rfl;exact rfl;exact rfl;exact rfl)
  |((with_reducible apply(QG (sz:=8) (cs:=[_,_,_,_,_,_,_,_])));exact rfl;exact rfl;exact rfl;exact rfl)
  |((with_reducible apply(QG (sz:=9) (cs:=[_,_,_,_,_,_,_,_,_])));exact rfl;exact rfl;exact rfl;exact rfl)
  |((with_reducible apply(QG (sz:=10) (cs:=[_,_,_,_,_,_,_,_,_,_])));exact rfl;exact rfl;exact rfl;exact rfl)
  |((with_reducible apply(QG (sz:=11) (cs:=[_,_,_,_,_,_,_,_,_,_,_])));exact rfl;exact rfl;exact rfl;exact rfl)
  |((with_reducible apply(QG (sz:=12) (cs:=[_,_,_,_,_,_,_,_,_,_,_,_])));exact rfl;exact rfl;exact rfl;exact rfl)
  |((with_reducible apply(QG (sz:=13) (cs:=[_,_,_,_,_,_,_,_,_,_,_,_,_])));exact rfl;exact rfl;exact rfl;exact rfl)
  |((with_reducible apply(QG (sz:=14) (cs:=[_,_,_,_,_,_,_,_,_,_,_,_,_,_])));exact rfl;exact rfl;exact rfl;exact rfl)
  |((with_reducible apply NY);exact rfl;exact rfl;exact rfl;exact rfl;cbv)
  |((with_reducible apply(Qy (sz:=1) (cs:=[_])));exact rfl;exact rfl;exact rfl;exact rfl;exact rfl;cbv)
  |((with_reducible apply(Qy (sz:=2) (cs:=[_,_])));exact rfl;exact rfl;exact rfl;exact rfl;exact rfl;cbv)
  |((with_reducible apply(Qy (sz:=3) (cs:=[_,_,_])));exact rfl;exact rfl;exact rfl;exact rfl;exact rfl;cbv)
  |((with_reducible apply(Qy (sz:=4) (cs:=[_,_,_,_])));exact rfl;exact rfl;exact rfl;exact rfl;exact rfl;cbv)
  |((with_reducible apply(Qy (sz:=5) (cs:=[_,_,_,_,_])));exact rfl;exact rfl;exact rfl;exact rfl;exact rfl;cbv)
  |((with_reducible apply(Qy (sz:=6) (cs:=[_,_,_,_,_,_])));exact rfl;exact rfl;exact rfl;exact rfl;exact rfl;cbv)
  |((with_reducible apply(Qy (sz:=7) (cs:=[_,_,_,_,_,_,_])));exact rfl;exact rfl;exact rfl;exact rfl;exact rfl;cbv)
  |((with_reducible apply(Qy (sz:=8) (cs:=[_,_,_,_,_,_,_,_])));exact rfl;exact rfl;exact rfl;exact rfl;exact rfl;cbv)
  |((with_reducible apply(Qy (sz:=9) (cs:=[_,_,_,_,_,_,_,_,_])));exact rfl;exact rfl;exact rfl;exact rfl;exact rfl;cbv)
  |((with_reducible apply(Qy (sz:=10) (cs:=[_,_,_,_,_,_,_,_,_,_])));exact rfl;exact rfl;exact rfl;exact rfl;exact rfl;cbv)
  |((with_reducible apply(Qy (sz:=11) (cs:=[_,_,_,_,_,_,_,_,_,_,_])));exact rfl;exact rfl;exact rfl;exact rfl;exact rfl;cbv)
  |((with_reducible apply(Qy (sz:=12) (cs:=[_,_,_,_,_,_,_,_,_,_,_,_])));exact rfl;exact rfl;exact rfl;exact rfl;exact rfl;cbv)
  |((with_reducible apply(Qy (sz:=13) (cs:=[_,_,_,_,_,_,_,_,_,_,_,_,_])));exact rfl;exact rfl;exact rfl;exact rfl;exact rfl;cbv)
  |((with_reducible apply(Qy (sz:=14) (cs:=[_,_,_,_,_,_,_,_,_,_,_,_,_,_])));exact rfl;exact rfl;exact rfl;exact rfl;exact rfl;cbv)
  |((with_reducible apply PR))
  |((with_reducible apply Qbx))
  |((with_reducible apply QkS);((repeat ((with_reducible apply Qc);exact rfl));exact Qs))
  |((with_reducible apply Be);((repeat ((with_reducible apply Qc);exact rfl));exact Qs))
  |((with_reducible apply QkU))
  |((with_reducible apply Qcp))
  |((with_reducible apply QdM))
  |((with_reducible apply Bz))
  |((with_reducible apply Bd))
  |((with_reducible apply QdL))
  )
 exact k.x):A:=h ⟨k⟩
theorem aK {A B:Prop} (k:B) (h:aI B->A:=by
 intro k
 repeat (first
  |((with_reducible apply Yr);exact rfl)
  |((with_reducible apply Qsk);exact rfl)
  |((with_reducible apply XU);exact rfl;exact rfl)
  |((with_reducible apply Qhr);((repeat ((with_reducible apply Qc);exact rfl));exact Qs))
  |((with_reducible apply QdD))
  |((with_reducible apply JD);((repeat ((with_reducible apply Qc);exact rfl));exact Qs))
  |((with_reducible apply SS);exact rfl;exact rfl)
  |((with_reducible apply Xu);exact rfl;exact rfl)
  |((with_reducible apply FP);exact rfl;exact rfl;exact rfl)
  |((with_reducible apply By))
  |((with_reducible apply L9))
  |((with_reducible apply SU))
  |((with_reducible apply DL))
  |((with_reducible apply QaI))
  |((with_reducible apply Kr))
  |((with_reducible show s7 _ _ _ _);apply Tq;exact rfl;(first |exact .inl rfl |exact .inr rfl))
  |((with_reducible apply Jh);exact rfl;exact rfl;exact rfl;exact rfl;exact rfl;exact rfl;exact rfl;exact rfl)
  |((with_reducible apply Bq);exact rfl)
  |((with_reducible apply DU))
  |((with_reducible apply HO))
  |((with_reducible apply HG))
  |((with_reducible apply QkF);exact rfl;exact rfl;exact rfl)
  |((with_reducible apply Qsq);exact rfl;exact rfl)
  |((with_reducible apply KF))
  |((with_reducible apply PO);exact rfl;exact rfl)
  |((with_reducible apply HN))
  |((with_reducible apply Gt))
  |((with_reducible show s7 _ _ _ _);apply Tr;exact rfl;(first |exact .inl rfl |exact .inr rfl))
  |((with_reducible apply QkM);exact rfl)
  |((with_reducible apply PP);exact rfl;exact rfl)
  |((with_reducible apply TL);exact rfl;exact rfl)
  |((with_reducible apply Mx))
  |((with_reducible apply C3))
  |((with_reducible apply Qso);exact rfl;exact rfl)
  |((with_reducible apply Bt);exact rfl)
  |((with_reducible apply Qhs);exact rfl;exact rfl)
  |((with_reducible apply Sy);exact rfl;exact LI)
  |((with_reducible apply Sy);exact rfl;exact rfl)
  |((with_reducible apply QkH);exact rfl;exact rfl)
  |((with_reducible apply QcI);exact rfl;exact rfl)
  |((with_reducible apply Qsn);exact rfl;exact rfl)
  |((with_reducible apply TP);exact rfl)
  |((with_reducible apply Qsp);exact rfl;exact rfl)
  |((with_reducible apply QkL);exact rfl;exact rfl)
  |((with_reducible apply QkJ);exact rfl;exact rfl)
  |((with_reducible apply ZV);exact rfl;exact rfl)
  |((with_reducible apply QkK);exact rfl;exact rfl)
  |((with_reducible apply QkG);exact rfl;exact rfl)
  |((with_reducible apply QkI);exact rfl;exact rfl)
  |((with_reducible apply KM);exact rfl;exact rfl;exact rfl;omega;(first |exact Gc Wa |exact Qe0 Wa |exact JY Wa Wa |exact LC Wa);exact rfl)
  |((with_reducible apply Kp);exact rfl;exact rfl;omega;exact idx_at Wa)
  |((with_reducible apply QcH);exact rfl;exact rfl;(first |exact Z3 Wa Wa |exact GW Wa Wa |exact Mv Wa Wa))
  |((with_reducible apply QkP);exact rfl;exact rfl;(first |exact Z3 Wa Wa |exact GW Wa Wa |exact Mv Wa Wa))
  |((with_reducible apply(QG (sz:=1) (cs:=[_])));exact rfl;exact rfl;exact rfl;exact rfl)
  |((with_reducible apply(QG (sz:=2) (cs:=[_,_])));exact rfl;exact rfl;exact rfl;exact rfl)
  |((with_reducible apply(QG (sz:=3) (cs:=[_,_,_])));exact rfl;exact rfl;exact rfl;exact rfl)
  |((with_reducible apply(QG (sz:=4) (cs:=[_,_,_,_])));exact rfl;exact rfl;exact rfl;exact rfl)
  |((with_reducible apply(QG (sz:=5) (cs:=[_,_,_,_,_])));exact rfl;exact rfl;exact rfl;exact rfl)
  |((with_reducible apply(QG (sz:=6) (cs:=[_,_,_,_,_,_])));exact rfl;exact rfl;exact rfl;exact rfl)
  |((with_reducible apply(QG (sz:=7) (cs:=[_,_,_,_,_,_,_])));exact rfl;exact rfl;exact rfl;exact rfl)
  |((with_reducible apply(QG (sz:=8) (cs:=[_,_,_,_,_,_,_,_])));exact rfl;exact rfl;exact rfl;exact rfl)
  |((with_reducible apply(QG (sz:=9) (cs:=[_,_,_,_,_,_,_,_,_])));exact rfl;exact rfl;exact rfl;exact rfl)
  |((with_reducible apply(QG (sz:=10) (cs:=[_,_,_,_,_,_,_,_,_,_])));exact rfl;exact rfl;exact rfl;exact rfl)
  |((with_reducible apply(QG (sz:=11) (cs:=[_,_,_,_,_,_,_,_,_,_,_])));exact rfl;exact rfl;exact rfl;exact rfl)
  |((with_reducible apply(QG (sz:=12) (cs:=[_,_,_,_,_,_,_,_,_,_,_,_])));exact rfl;exact rfl;exact rfl;exact rfl)
  |((with_reducible apply(QG (sz:=13) (cs:=[_,_,_,_,_,_,_,_,_,_,_,_,_])));exact rfl;exact rfl;exact rfl;exact rfl)
  |((with_reducible apply(QG (sz:=14) (cs:=[_,_,_,_,_,_,_,_,_,_,_,_,_,_])));exact rfl;exact rfl;exact rfl;exact rfl)
  |((with_reducible apply NY);exact rfl;exact rfl;exact rfl;exact rfl;cbv)
  |((with_reducible apply(Qy (sz:=1) (cs:=[_])));exact rfl;exact rfl;exact rfl;exact rfl;exact rfl;cbv)
  |((with_reducible apply(Qy (sz:=2) (cs:=[_,_])));exact rfl;exact rfl;exact rfl;exact rfl;exact rfl;cbv)
  |((with_reducible apply(Qy (sz:=3) (cs:=[_,_,_])));exact rfl;exact rfl;exact rfl;exact rfl;exact rfl;cbv)
  |((with_reducible apply(Qy (sz:=4) (cs:=[_,_,_,_])));exact rfl;exact rfl;exact rfl;exact rfl;exact rfl;cbv)
  |((with_reducible apply(Qy (sz:=5) (cs:=[_,_,_,_,_])));exact rfl;exact rfl;exact rfl;exact rfl;exact rfl;cbv)
  |((with_reducible apply(Qy (sz:=6) (cs:=[_,_,_,_,_,_])));exact rfl;exact rfl;exact rfl;exact rfl;exact rfl;cbv)
  |((with_reducible apply(Qy (sz:=7) (cs:=[_,_,_,_,_,_,_])));exact rfl;exact rfl;exact rfl;exact rfl;exact rfl;cbv)
  |((with_reducible apply(Qy (sz:=8) (cs:=[_,_,_,_,_,_,_,_])));exact rfl;exact rfl;exact rfl;exact rfl;exact rfl;cbv)
  |((with_reducible apply(Qy (sz:=9) (cs:=[_,_,_,_,_,_,_,_,_])));exact rfl;exact rfl;exact rfl;exact rfl;exact rfl;cbv)
  |((with_reducible apply(Qy (sz:=10) (cs:=[_,_,_,_,_,_,_,_,_,_])));exact rfl;exact rfl;exact rfl;exact rfl;exact rfl;cbv)
  |((with_reducible apply(Qy (sz:=11) (cs:=[_,_,_,_,_,_,_,_,_,_,_])));exact rfl;exact rfl;exact rfl;exact rfl;exact rfl;cbv)
  |((with_reducible apply(Qy (sz:=12) (cs:=[_,_,_,_,_,_,_,_,_,_,_,_])));exact rfl;exact rfl;exact rfl;exact rfl;exact rfl;cbv)
  |((with_reducible apply(Qy (sz:=13) (cs:=[_,_,_,_,_,_,_,_,_,_,_,_,_])));exact rfl;exact rfl;exact rfl;exact rfl;exact rfl;cbv)
  |((with_reducible apply(Qy (sz:=14) (cs:=[_,_,_,_,_,_,_,_,_,_,_,_,_,_])));exact rfl;exact rfl;exact rfl;exact rfl;exact rfl;cbv)
  |((with_reducible apply Bv))
  |((with_reducible apply Bu))
  |((with_reducible apply PR))
  |((with_reducible apply Qbx))
  |((with_reducible apply QkS);((repeat ((with_reducible apply Qc);exact rfl));exact Qs))
  |((with_reducible apply Be);((repeat ((with_reducible apply Qc);exact rfl));exact Qs))
  |((with_reducible apply QkU))
  |((with_reducible apply Qcp))
  |((with_reducible apply QdM))
  |((with_reducible apply TR))
  |((with_reducible apply TQ))
  |((with_reducible apply Qhx))
  |((with_reducible apply Bz))
  |((with_reducible apply Bd))
  |((with_reducible apply QdL))
  |((with_reducible apply TO))
  |((with_reducible apply TN))
  )
 exact k.x):A:=h ⟨k⟩
theorem aS {A B:Prop} (k:B) (h:aI B->A:=by
 intro k
 first |apply DL |apply QaI |apply TR |apply TQ |skip
 refine aK ?_
 exact k.x):A:=h ⟨k⟩
theorem aL {A B:Prop} (k:B) (h:aI B->A:=by
 intro k
 repeat (first
  |((with_reducible apply Yr);exact rfl)
  |((with_reducible apply Qsk);exact rfl)
  |((with_reducible apply XU);exact rfl;exact rfl)
  |((with_reducible apply Qhr);((repeat ((with_reducible apply Qc);exact rfl));exact Qs))
  |((with_reducible apply QdD))
  |((with_reducible apply SS);exact rfl;exact rfl)
  |((with_reducible apply Xu);exact rfl;exact rfl)
  |((with_reducible apply FP);exact rfl;exact rfl;exact rfl)
  |((with_reducible apply Jh);exact rfl;exact rfl;exact rfl;exact rfl;exact rfl;exact rfl;exact rfl;exact rfl)
  |((with_reducible apply Bq);exact rfl)
  |((with_reducible apply QkF);exact rfl;exact rfl;exact rfl)
  |((with_reducible apply Qsq);exact rfl;exact rfl)
  |((with_reducible apply PO);exact rfl;exact rfl)
  |((with_reducible apply QkM);exact rfl)
  |((with_reducible apply PP);exact rfl;exact rfl)
  |((with_reducible apply TL);exact rfl;exact rfl)
  |((with_reducible apply Qso);exact rfl;exact rfl)
  |((with_reducible apply Bt);exact rfl)
  |((with_reducible apply Qhs);exact rfl;exact rfl)
  |((with_reducible apply Sy);exact rfl;exact LI)
  |((with_reducible apply Sy);exact rfl;exact rfl)
  |((with_reducible apply QkH);exact rfl;exact rfl)
  |((with_reducible apply QcI);exact rfl;exact rfl)
  |((with_reducible apply Qsn);exact rfl;exact rfl)
  |((with_reducible apply TP);exact rfl)
  |((with_reducible apply Qsp);exact rfl;exact rfl)
  |((with_reducible apply QkL);exact rfl;exact rfl)
  |((with_reducible apply QkJ);exact rfl;exact rfl)
  |((with_reducible apply ZV);exact rfl;exact rfl)
  |((with_reducible apply QkK);exact rfl;exact rfl)
  |((with_reducible apply QkG);exact rfl;exact rfl)
  |((with_reducible apply QkI);exact rfl;exact rfl)
  |((with_reducible apply KM);exact rfl;exact rfl;exact rfl;omega;(first |exact Gc Wa |exact Qe0 Wa |exact JY Wa Wa |exact LC Wa);exact rfl)
  |((with_reducible apply Kp);exact rfl;exact rfl;omega;exact idx_at Wa)
  |((with_reducible apply QcH);exact rfl;exact rfl;(first |exact Z3 Wa Wa |exact GW Wa Wa |exact Mv Wa Wa))
  |((with_reducible apply QkP);exact rfl;exact rfl;(first |exact Z3 Wa Wa |exact GW Wa Wa |exact Mv Wa Wa))
  |((with_reducible apply(QG (sz:=1) (cs:=[_])));exact rfl;exact rfl;exact rfl;exact rfl)
  |((with_reducible apply(QG (sz:=2) (cs:=[_,_])));exact rfl;exact rfl;exact rfl;exact rfl)
  |((with_reducible apply(QG (sz:=3) (cs:=[_,_,_])));exact rfl;exact rfl;exact rfl;exact rfl)
  |((with_reducible apply(QG (sz:=4) (cs:=[_,_,_,_])));exact rfl;exact rfl;exact rfl;exact rfl)
  |((with_reducible apply(QG (sz:=5) (cs:=[_,_,_,_,_])));exact rfl;exact rfl;exact rfl;exact rfl)
  |((with_reducible apply(QG (sz:=6) (cs:=[_,_,_,_,_,_])));exact rfl;exact rfl;exact rfl;exact rfl)
  |((with_reducible apply(QG (sz:=7) (cs:=[_,_,_,_,_,_,_])));exact rfl;exact rfl;exact rfl;exact rfl)
  |((with_reducible apply(QG (sz:=8) (cs:=[_,_,_,_,_,_,_,_])));exact rfl;exact rfl;exact rfl;exact rfl)
  |((with_reducible apply(QG (sz:=9) (cs:=[_,_,_,_,_,_,_,_,_])));exact rfl;exact rfl;exact rfl;exact rfl)
  |((with_reducible apply(QG (sz:=10) (cs:=[_,_,_,_,_,_,_,_,_,_])));exact rfl;exact rfl;exact rfl;exact rfl)
  |((with_reducible apply(QG (sz:=11) (cs:=[_,_,_,_,_,_,_,_,_,_,_])));exact rfl;exact rfl;exact rfl;exact rfl)
  |((with_reducible apply(QG (sz:=12) (cs:=[_,_,_,_,_,_,_,_,_,_,_,_])));exact rfl;exact rfl;exact rfl;exact rfl)
  |((with_reducible apply(QG (sz:=13) (cs:=[_,_,_,_,_,_,_,_,_,_,_,_,_])));exact rfl;exact rfl;exact rfl;exact rfl)
  |((with_reducible apply(QG (sz:=14) (cs:=[_,_,_,_,_,_,_,_,_,_,_,_,_,_])));exact rfl;exact rfl;exact rfl;exact rfl)
  |((with_reducible apply NY);exact rfl;exact rfl;exact rfl;exact rfl;cbv)
  |((with_reducible apply(Qy (sz:=1) (cs:=[_])));exact rfl;exact rfl;exact rfl;exact rfl;exact rfl;cbv)
  |((with_reducible apply(Qy (sz:=2) (cs:=[_,_])));exact rfl;exact rfl;exact rfl;exact rfl;exact rfl;cbv)
  |((with_reducible apply(Qy (sz:=3) (cs:=[_,_,_])));exact rfl;exact rfl;exact rfl;exact rfl;exact rfl;cbv)
  |((with_reducible apply(Qy (sz:=4) (cs:=[_,_,_,_])));exact rfl;exact rfl;exact rfl;exact rfl;exact rfl;cbv)
  |((with_reducible apply(Qy (sz:=5) (cs:=[_,_,_,_,_])));exact rfl;exact rfl;exact rfl;exact rfl;exact rfl;cbv)
  |((with_reducible apply(Qy (sz:=6) (cs:=[_,_,_,_,_,_])));exact rfl;exact rfl;exact rfl;exact rfl;exact rfl;cbv)
  |((with_reducible apply(Qy (sz:=7) (cs:=[_,_,_,_,_,_,_])));exact rfl;exact rfl;exact rfl;exact rfl;exact rfl;cbv)
  |((with_reducible apply(Qy (sz:=8) (cs:=[_,_,_,_,_,_,_,_])));exact rfl;exact rfl;exact rfl;exact rfl;exact rfl;cbv)
  |((with_reducible apply(Qy (sz:=9) (cs:=[_,_,_,_,_,_,_,_,_])));exact rfl;exact rfl;exact rfl;exact rfl;exact rfl;cbv)
  |((with_reducible apply(Qy (sz:=10) (cs:=[_,_,_,_,_,_,_,_,_,_])));exact rfl;exact rfl;exact rfl;exact rfl;exact rfl;cbv)
  |((with_reducible apply(Qy (sz:=11) (cs:=[_,_,_,_,_,_,_,_,_,_,_])));exact rfl;exact rfl;exact rfl;exact rfl;exact rfl;cbv)
  |((with_reducible apply(Qy (sz:=12) (cs:=[_,_,_,_,_,_,_,_,_,_,_,_])));exact rfl;exact rfl;exact rfl;exact rfl;exact rfl;cbv)
  |((with_reducible apply(Qy (sz:=13) (cs:=[_,_,_,_,_,_,_,_,_,_,_,_,_])));exact rfl;exact rfl;exact rfl;exact rfl;exact rfl;cbv)
  |((with_reducible apply(Qy (sz:=14) (cs:=[_,_,_,_,_,_,_,_,_,_,_,_,_,_])));exact rfl;exact rfl;exact rfl;exact rfl;exact rfl;cbv)
  |((with_reducible apply QkS);((repeat ((with_reducible apply Qc);exact rfl));exact Qs))
  )
 exact k.x):A:=h ⟨k⟩
theorem aY {A B:Prop} (k:B) (h:aI B->A:=by
 intro k
 first |apply DL |apply QaI |apply TR |apply TQ |apply Bv |apply Bu |apply TO |apply TN
 refine aL ?_
 exact k.x):A:=h ⟨k⟩
theorem aZ {A B:Prop} (k:B) (h:aI B->A:=by
 intro k
 first |apply DL |apply QaI |apply TR |apply TQ |apply Bv |apply Bu |apply TO |apply TN
 refine aJ ?_
 exact k.x):A:=h ⟨k⟩
theorem aC {A B:Prop} {t c:Bool} (k:B) (h:aI B->t=c->A:=by
 intro k h
 try rw[h]
 try simp only[decide_eq_true_eq,decide_eq_false_iff_not,Bool.not_eq_eq_eq_not,Bool.not_true,Bool.not_false,QAH]at h
 refine aK ?_
 try revert h
 exact k.x):t=c->A:=h ⟨k⟩
theorem aB {A B C:Prop} (k:B) (k':C) (h:aI B->aI C->A:=by
 intro k k'
 refine aK ?_
 first
  |((with_reducible apply DN);exact rfl;exact aC k.x;exact aC k'.x)
  |((with_reducible apply QkB);exact rfl;exact aC k.x;exact aC k'.x)
  |((with_reducible apply DP);exact rfl;exact aC k.x;exact aC k'.x)):A:=h ⟨k⟩ ⟨k'⟩
theorem aD {A B:Prop} {t c:Bool} (k:B) (h:aI B->t=c->A:=by
 intro k h
 try rw[h]
 try simp only[decide_eq_true_eq,decide_eq_false_iff_not,Bool.not_eq_eq_eq_not,Bool.not_true,Bool.not_false,QAH]at h
 try revert h
 exact k.x):t=c->A:=h ⟨k⟩
theorem aV {A B C:Prop} (k:B) (k':C) (h:aI B->aI C->A:=by
 intro k k'
 refine aK ?_
 first
  |((with_reducible apply DN);exact rfl;exact aD k.x;exact aD k'.x)
  |((with_reducible apply QkB);exact rfl;exact aD k.x;exact aD k'.x)
  |((with_reducible apply DP);exact rfl;exact aD k.x;exact aD k'.x)):A:=h ⟨k⟩ ⟨k'⟩
theorem aE {A B:Prop} {t c:Bool} (k:B) (h:aI B->t=c->A:=by
 intro k h
 try rw[h]
 refine aK ?_
 try revert h
 exact k.x):t=c->A:=h ⟨k⟩
theorem aR {A B C:Prop} (k:B) (k':C) (h:aI B->aI C->A:=by
 intro k k'
 refine aK ?_
 first
  |((with_reducible apply DN);exact rfl;exact aE k.x;exact aE k'.x)
  |((with_reducible apply QkB);exact rfl;exact aE k.x;exact aE k'.x)
  |((with_reducible apply DP);exact rfl;exact aE k.x;exact aE k'.x)):A:=h ⟨k⟩ ⟨k'⟩
theorem aX {A B C:Prop} (k:B) (k':C) (h:aI B->aI C->A:=by
 intro k k'
 refine aS ?_
 exact aB k.x k'.x):A:=h ⟨k⟩ ⟨k'⟩
end Go.Abs
namespace Go.Abs
open Go
variable {d p q:D} {l0:Nat} {kk:D->Prop} {s:St} {α β:Type}
def QoV (op:BinOp) (k:IntKind) (x y:Int):Option D:=
 match op with
 | .add=>some (.int k (k.wrap (x+y)))
 | .sub=>some (.int k (k.wrap (x - y)))
 | .mul=>some (.int k (k.wrap (x*y)))
 | .quo=>if y≠0 then some (.int k (k.wrap (x.tdiv y)))else none
 | .rem=>if y≠0 then some (.int k (x.tmod y))else none
 | .and=>some (.int k (Ju .and k x y))
 | .or=>some (.int k (Ju .or k x y))
 | .xor=>some (.int k (Ju .xor k x y))
 | .andNot=>some (.int k (Ju .andNot k x y))
 | .shl=>if 0<=y then some (.int k (k.wrap (x*2 ^ min y.toNat k.bits)))else none
 | .shr=>if 0<=y then some (.int k (x.fdiv (2 ^ min y.toNat k.bits)))else none
 | .eql=>some (.bool (decide (x=y)))
 | .neq=>some (.bool (!decide (x=y)))
 | .lss=>some (.bool (decide (x<y)))
 | .leq=>some (.bool (decide (x<=y)))
 | .gtr=>some (.bool (decide (y<x)))
 | .geq=>some (.bool (decide (y<=x)))
def QsF (op:BinOp) (bt:Bool) (p q:D):Option D:=
 match p,q with
 | .int k m,.int j n=>if Mi op=true\/k=j then QoV op k m n else none
 | .bool m,.bool n=>if bt=true then(match op with
  | .eql=>some (.bool (decide (m=n)))
  | .neq=>some (.bool (!decide (m=n)))
  |_=>none)else none
 | .str m,.str n=>match op with
  | .add=>if m.length+n.length<=9223372036854775807 then some (.str (m++n))else none
  | .eql=>some (.bool (decide (m=n)))
  | .neq=>some (.bool (!decide (m=n)))
  | .lss=>some (.bool (Op.bytesLess m n))
  | .leq=>some (.bool (Op.bytesLess m n||decide (m=n)))
  | .gtr=>some (.bool (!(Op.bytesLess m n||decide (m=n))))
  | .geq=>some (.bool (!Op.bytesLess m n))
  |_=>none
 |_,_=>none
theorem QcO {op:BinOp} {bt:Bool} (h:QsF op bt p q=some d) (hk:kk d):QdX op bt p q kk:=by
 unfold QsF at h;split at h
 ·split at h
  case isFalse=>cases h
  rename_i C;refine⟨C, ?_⟩;unfold QoV at h
  grind [QcP]
 ·split at h
  case isFalse=>cases h
  rename_i hb;refine⟨hb, ?_⟩;cases op<;>simp only[QzQ,reduceCtorEq]at h<;>subst h<;>exact hk
 grind [QdX,QhF]
 grind
def Qbc (s:St) (off:Nat) (p:D):Option D:=
 match p with
 | .ptr cells=>if off<=cells.length then some (.ptr (cells.drop off))else none
 | .ref k i j=>if(lk s.H k).isSome=true then some (.ref k i (j+off))else none
 |_=>none
theorem ME {off:Nat} (h:Qbc s off p=some d) (hk:kk d):MF s off p kk:=by
 unfold Qbc at h;split at h;split at h;cases h;trivial
 grind
 split at h;cases h;trivial
 grind
 grind
def Qrz (rows:List (List D)) (n:Int) (l0:Nat):Option (List D):=
 if 0<=n then match rows[n.toNat]? with
  |some row=>if row.length=l0 then some row else none
  |none=>none
 else none
theorem Tw {rows:List (List D)} {n:Int} {row:List D} {kk:List D->Prop} (h:Qrz rows n l0=some row) (hk:kk row):R1 rows n l0 kk:=by
 unfold Qrz at h;split at h
 case isFalse=>cases h
 split at h
 case h_2=>cases h
 split at h
 case isFalse=>cases h
 cases h
 exact⟨_,Wa,Wa,Wa,hk⟩
def QqK (s:St) (l0:Nat) (q:D):Option (List (List D) × Bool):=
 match q with
 | .sl rs=>if(rs.all λr=>decide (r.length=l0))=true then some (rs,true)else none
 | .x7 rs=>if(rs.all λr=>decide (r.length=l0))=true then some (rs,true)else none
 | .s4 j n=>match lk s.H j with
  |some b=>if n=b.rows.length/\b.l0=l0 then some (b.rows,b.pr)else none
  |none=>none
 |_=>none
theorem N1 {rs:List (List D)} (h:(rs.all λr=>decide (r.length=l0))=true):∀r∈rs,r.length=l0:=λr hr=>by
 grind
theorem Mt {ys:List (List D)} {pr:Bool} (h:QqK s l0 q=some (ys,pr)):s.src l0 q ys pr/\∀kk:List (List D)->Bool->Prop,kk ys pr->Dd s l0 q kk:=by
 unfold QqK at h;split at h;split at h;cases h;exact⟨⟨rfl,N1 Wa,rfl⟩,λ_ hk=>⟨N1 Wa,hk⟩⟩
 grind
 split at h;cases h;exact⟨⟨rfl,N1 Wa,rfl⟩,λ_ hk=>⟨N1 Wa,hk⟩⟩
 grind
 split at h;rename_i b hb;split at h;rename_i C;cases h;exact⟨⟨b,hb,C.1,C.2,rfl,rfl⟩,λ_ hk=>⟨b,hb,C.1,C.2,hk⟩⟩
 all_goals grind
abbrev ob (o:Option α) (f:α->Option β):Option β:=match o with |some a=>f a |none=>none
theorem Qh {o:Option α} {f:α->Option β} {b:β} (h:ob o f=some b):∃a,o=some a/\f a=some b:=by
 grind
def gd (c:Bool) (x:Option α):Option α:=match c with |true=>x |false=>none
theorem Q2 {c:Bool} {x:Option α} {b:α} (h:gd c x=some b):c=true/\x=some b:=by
 cases c
 trivial;trivial
def LP (o:Option α):Bool:=match o with |none=>true |some _=>false
theorem GJ {o:Option α} (h:LP o=true):o=none:=by cases o<;>simp[LP]at h ⊢
def Qi0 (call:Nat->List D->Option D) (op:z5) (dst:Option Nat) (dr:Bool) (s:St):Option St:=
 match op with
 | .we x=>ob (s.ev x) λd=>some (s.apply dst d none)
 | .pick c x y=>ob (s.ev c) λcd=>match cd with
  | .bool t=>ob (s.ev (if t=true then x else y)) λd=>some (s.apply dst d none)
  |_=>none
 | .alloc et cells=>ob dst λt=>gd (LP (lk s.H t)) (some (s.apply dst (.ref t 0 0) (some (Qha et cells))))
 | .box et x=>ob dst λt=>ob (s.ev x) λv=>ob v.cells λcells=>gd (LP (lk s.H t)) (some (s.apply dst (.ref t 0 0) (some (Qha et cells))))
 | .build zero parts=>ob (Y1 s parts) λqs=>ob (Rj zero qs) λds=>some (s.apply dst (.agg ds) none)
 | .buildSlice l0 et parts=>ob (Yz s l0 parts) λrows=>match rows.all λr=>r.all λd=>d.l4.isEmpty with
  |true=>some (s.apply dst (.x7 rows) none)
  |false=>ob dst λt=>gd (LP (lk s.H t)) (some (s.apply dst (.s4 t parts.length) (some ⟨rows,l0,et,rows.all λr=>r.all λd=>d.l4.isEmpty⟩)))
 | .load agg sz x=>ob (s.ev x) λp=>ob (s.ad p) λcells=>match agg with
  |true=>gd (Nat.ble sz cells.length) (some (s.apply dst (.agg (cells.take sz)) none))
  |false=>ob cells.head? λd=>some (s.apply dst d none)
 | .store sz x v=>ob (s.ev x) λp=>match p with
  | .ref kk i off=>ob (lk s.H kk) λb=>ob b.rows[i]? λrow=>ob (s.ev v) λq=>ob q.cells λcells=>gd (decide (cells.length=sz)&&Nat.ble (off+sz) row.length)
   (some (St.apply {s with H:=(kk,{b with rows:=b.rows.set i (setRow row off cells),pr:=b.pr&&cells.all λd=>d.l4.isEmpty})::s.H} dst .undef none))
  |_=>none
 | .nilCheck x=>ob (s.ev x) λp=>gd p.kd (some (s.apply dst p none))
 | .bin op bt x y=>ob (s.ev x) λp=>ob (s.ev y) λq=>ob (QsF op bt p q) λd=>some (s.apply dst d none)
 | .eqs neg ks x y=>ob (s.ev x) λp=>ob (s.ev y) λq=>ob (Qds p) λxs=>ob (Qds q) λys=>ob (KJ ks xs ys) λb=>some (s.apply dst (.bool (if neg=true then !b else b)) none)
 | .un op x=>ob (s.ev x) λp=>match op,p with
  | .not,.bool b=>some (s.apply dst (.bool (!b)) none)
  | .neg,.int k n=>some (s.apply dst (.int k (k.wrap (0 - n))) none)
  |_,_=>none
 | .conv kk x=>ob (s.ev x) λp=>ob (Qly kk p) λd=>some (s.apply dst d none)
 | .slice l0 x lo hi mx=>ob (s.ev x) λp=>match p.rows? with
  |some rows=>ob (s.va lo 0) λl=>ob (s.va hi rows.length) λh=>gd (decide (0<=l)&&(decide (l<=h)&&(decide (h<=rows.length)&&rows.all λr=>decide (r.length=l0)))) (match mx with
   |none=>some (s.apply dst (.sl ((rows.take h.toNat).drop l.toNat)) none)
   |some m=>gd (decide (s.va (some m) 0=some h)&&hi.isSome) (some (s.apply dst (.x7 ((rows.take h.toNat).drop l.toNat)) none)))
  |none=>match p with
   | .s4 j n=>gd (mx.isNone&&decide (s.va lo 0=some 0)) (ob (s.va hi n) λm=>gd (decide (0<=m)&&decide (m<=n)) (some (s.apply dst (.s4 j m.toNat) none)))
   |_=>none
 | .k9 sb x=>ob (s.ev x) λp=>match sb with
  |true=>ob (Qdk p) λl=>some (s.apply dst (.sl (l.map P2)) none)
  |false=>ob (QqK s 1 p) λ(ys,_)=>ob (Ks ys) λl=>some (s.apply dst (.str l) none)
 | .nc x=>ob (s.ev x) λp=>match p with
  | .x7 rows=>some (s.apply dst (.int .i64 rows.length) none)
  |_=>none
 | .a8 x lo hi=>ob (s.ev x) λp=>ob (Qdk p) λc=>ob (s.va lo 0) λl=>ob (s.va hi c.length) λh=>gd (decide (0<=l)&&(decide (l<=h)&&decide (h<=c.length))) (some (s.apply dst (.str ((c.take h.toNat).drop l.toNat)) none))
 | .fieldAddr off x=>ob (s.ev x) λp=>ob (Qbc s off p) λd=>some (s.apply dst d none)
 | .field agg off sz x=>ob (s.ev x) λp=>ob (Qds p) λcells=>match agg with
  |true=>gd (Nat.ble (off+sz) cells.length) (some (s.apply dst (.agg ((cells.drop off).take sz)) none))
  |false=>ob cells[off]? λd=>some (s.apply dst d none)
 | .indexAddr l0 x i=>ob (s.ev i) λnd=>ob (Qe3 nd) λn=>ob (s.ev x) λp=>match p with
  | .sl rows=>ob (Qrz rows n l0) λrow=>some (s.apply dst (.ptr row) none)
  | .x7 rows=>ob (Qrz rows n l0) λrow=>some (s.apply dst (.ptr row) none)
  | .s4 j m=>ob (lk s.H j) λb=>gd (decide (m=b.rows.length)&&(decide (0<=n)&&(decide (n<m)&&decide (b.l0=l0)))) (some (s.apply dst (.ref j n.toNat 0) none))
  |_=>none
 | .k8 x i=>ob (s.ev i) λnd=>ob (Qe3 nd) λn=>ob (s.ev x) λp=>ob (Qdk p) λl=>gd (decide (0<=n)) (ob l[n.toNat]? λc=>some (s.apply dst (.int .u8 c.toNat) none))
 | .extract i x=>ob (s.ev x) λp=>ob (QqU p) λds=>ob ds[i]? λd=>some (s.apply dst d none)
 | .len x=>ob (s.ev x) λp=>ob (Qhf p) λn=>some (s.apply dst (.int .i64 n) none)
 | .o9 x=>ob (s.ev x) λp=>ob (Qdk p) λl=>some (s.apply dst (.int .i64 l.length) none)
 | .min x y=>ob (s.ev x) λp=>ob (s.ev y) λq=>match p,q with
  | .int k m,.int _ n=>some (s.apply dst (.int k (min m n)) none)
  |_,_=>none
 | .max x y=>ob (s.ev x) λp=>ob (s.ev y) λq=>match p,q with
  | .int k m,.int _ n=>some (s.apply dst (.int k (max m n)) none)
  |_,_=>none
 | .append l0 et bytes x y=>ob (s.ev x) λp=>ob (s.ev y) λq=>ob (QqK s l0 q) λ(ys,pr)=>match p with
  | .x7 rows=>ob dst λt=>gd (LP (lk s.H t)&&((rows.isEmpty||!ys.isEmpty)&&((rows.all λr=>decide (r.length=l0))&&(Nat.ble ((rows.length+ys.length)*bytes) 140737488355328&&Nat.ble (rows.length+ys.length) 4611686018427387904))))
   (some (s.apply dst (.s4 t (rows.length+ys.length)) (some ⟨rows++ys,l0,et,pr⟩)))
  | .s4 k n=>gd (!dr&&Nat.ble (k+1) 1000000) (ob (lk s.H k) λb=>gd (decide (n=b.rows.length)&&(decide (b.l0=l0)&&(decide (b.et=et)&&((b.pr&&pr)&&(Nat.ble ((n+ys.length)*bytes) 140737488355328&&Nat.ble (n+ys.length) 4611686018427387904)))))
   (some (St.apply {fr:=(s.z2 k).fr,H:=(k,⟨b.rows++ys,l0,et,b.pr&&pr⟩)::(s.z2 k).H} dst (.s4 k (n+ys.length)) none)))
  |_=>none
 | .makeSlice l0 et bytes zero x y=>ob (s.ev x) λp=>ob (s.ev y) λq=>match p,q with
  | .int _ m,.int _ n=>ob dst λt=>gd (LP (lk s.H t)&&(decide (m=n)&&(decide (0<=n)&&(Nat.ble (n.toNat*bytes) 281474976710656&&Nat.ble n.toNat 4611686018427387904))))
   (some (s.apply dst (.s4 t n.toNat) (some ⟨List.replicate n.toNat zero,l0,et,true⟩)))
  |_,_=>none
 | .b8 len l0 x i=>ob (s.ev i) λnd=>ob (Qe3 nd) λn=>ob (s.ev x) λp=>gd (decide (0<=n)&&decide (n<len)) (ob (Qbc s (n.toNat*l0) p) λd=>some (s.apply dst d none))
 | .j8 agg len l0 x i=>ob (s.ev i) λnd=>ob (Qe3 nd) λn=>ob (s.ev x) λp=>ob (Qds p) λcells=>gd (decide (0<=n)&&decide (n<len)) (match agg with
  |true=>gd (Nat.ble (n.toNat*l0+l0) cells.length) (some (s.apply dst (.agg ((cells.drop (n.toNat*l0)).take l0)) none))
  |false=>ob cells[n.toNat*l0]? λd=>some (s.apply dst d none))
 | .call f args=>ob (QD s args) λds=>ob (call f (ds.map (XL s))) λd=>gd (ds.all D.pure||d.flat) (some (s.apply dst d none))
 |_=>none
section
variable {P:Program} {call:Nat->List D->Option D}
theorem Si (hc:∀f ds d,call f ds=some d->Ok P f ds d) {op:z5} {dst:Option Nat} {dr:Bool} {s':St} (h:Qi0 call op dst dr s=some s') {k:St->Prop} (hk:k s'):step P dr op dst s k:=by
 cases op<;>simp only[Qi0,reduceCtorEq]at h<;>simp only[step]
 case we x=>obtain⟨d,h1,h2⟩:=Qh h;cases h2;exact⟨d,h1,hk⟩
 case pick c x y=>
  obtain⟨cd,h1,h2⟩:=Qh h;split at h2;obtain⟨d,C,G⟩:=Qh h2;cases G;exact⟨_,h1,_,rfl,d,C,hk⟩
  grind
 case alloc et cells=>
  obtain⟨t,h1,h2⟩:=Qh h;obtain⟨C,G⟩:=Q2 h2;cases G;exact⟨t,h1,GJ C,hk⟩
 case box et x=>
  obtain⟨t,h1,h2⟩:=Qh h;obtain⟨v,C,G⟩:=Qh h2;obtain⟨cs,U,O⟩:=Qh G;obtain⟨M,h8⟩:=Q2 O;cases h8;exact⟨t,h1,v,C,cs,U,GJ M,hk⟩
 case build zero parts=>
  obtain⟨qs,h1,h2⟩:=Qh h;obtain⟨ds,C,G⟩:=Qh h2;cases G;exact⟨qs,h1,ds,C,hk⟩
 case buildSlice l0 et parts=>
  obtain⟨rows,C,h2⟩:=Qh h;split at h2;rename_i hp;cases h2;exact .inr ⟨rows,C,hp,hk⟩;obtain⟨t,h1,G⟩:=Qh h2;obtain⟨U,O⟩:=Q2 G;cases O;exact .inl ⟨t,h1,rows,C,GJ U,hk⟩
 case load agg sz x=>
  obtain⟨p,h1,h2⟩:=Qh h;obtain⟨cells,C,G⟩:=Qh h2;refine⟨p,h1,cells,C, ?_⟩;cases agg
  obtain⟨d,U,O⟩:=Qh G;cases O;exact⟨d,U,hk⟩
  grind [Q2,Nat.le_of_ble_eq_true]
 case store sz x v=>
  obtain⟨p,h1,h2⟩:=Qh h;split at h2;obtain⟨b,C,G⟩:=Qh h2;obtain⟨row,U,O⟩:=Qh G;obtain⟨q,M,h8⟩:=Qh O;obtain⟨cells,V,T⟩:=Qh h8;obtain⟨Y,h12⟩:=Q2 T;simp only[QzR,decide_eq_true_eq]at Y;cases h12
  exact⟨_,h1,b,C,row,U,q,M,cells,V,Y.1,QzN Y.2,hk⟩
  grind
 case nilCheck x=>
  obtain⟨p,h1,h2⟩:=Qh h;obtain⟨C,G⟩:=Q2 h2;cases G;exact⟨p,h1,C,hk⟩
 case bin op bt x y=>
  obtain⟨p,h1,h2⟩:=Qh h;obtain⟨q,C,G⟩:=Qh h2;obtain⟨d,U,O⟩:=Qh G;cases O;exact⟨p,h1,q,C,QcO U hk⟩
 case eqs neg ks x y=>
  obtain⟨p,h1,h2⟩:=Qh h;obtain⟨q,C,G⟩:=Qh h2;obtain⟨xs,U,O⟩:=Qh G;obtain⟨ys,M,h8⟩:=Qh O;obtain⟨b,V,T⟩:=Qh h8;cases T;exact⟨p,h1,q,C,xs,U,ys,M,b,V,hk⟩
 case un op x=>
  obtain⟨p,h1,h2⟩:=Qh h;refine⟨p,h1, ?_⟩;split at h2;cases h2;exact hk;cases h2;exact hk
  grind
 case conv kk x=>
  obtain⟨p,h1,h2⟩:=Qh h;obtain⟨d,C,G⟩:=Qh h2;cases G;exact⟨p,h1,d,C,hk⟩
 case slice l0 x lo hi mx=>
  obtain⟨p,h1,h2⟩:=Qh h;split at h2;rename_i rows hr;obtain⟨l,C,G⟩:=Qh h2;obtain⟨hh,U,O⟩:=Qh G;obtain⟨M,h8⟩:=Q2 O;simp only[QzR,decide_eq_true_eq]at M;refine .inl ⟨p,h1,rows,hr,l,C,hh,U,M.1,M.2.1,M.2.2.1,N1 M.2.2.2, ?_⟩;cases mx
  grind
  obtain⟨V,T⟩:=Q2 h8
  grind
  split at h2;obtain⟨C,G⟩:=Q2 h2;obtain⟨m,U,O⟩:=Qh G;obtain⟨M,h8⟩:=Q2 O;simp only[QzR,decide_eq_true_eq,Option.isNone_iff_eq_none]at C M;cases h8
  exact .inr (.inl ⟨C.1,C.2,_,h1,m,U,M.1,M.2,hk⟩)
  grind
 case k9 sb x=>
  obtain⟨p,h1,h2⟩:=Qh h;refine⟨p,h1, ?_⟩;cases sb
  obtain⟨⟨ys,pr⟩,C,G⟩:=Qh h2;obtain⟨l,U,O⟩:=Qh G;cases O
  exact(Mt C).2 (λys _=>QB (Ks ys) λl=>k (s.apply dst (.str l) none)) ⟨l,U,hk⟩;obtain⟨l,C,G⟩:=Qh h2;cases G;exact⟨l,C,hk⟩
 case nc x=>
  obtain⟨p,h1,h2⟩:=Qh h;split at h2;cases h2;exact⟨_,h1,hk⟩
  grind
 case a8 x lo hi=>
  obtain⟨p,h1,h2⟩:=Qh h;obtain⟨c,C,G⟩:=Qh h2;obtain⟨l,U,O⟩:=Qh G;obtain⟨hh,M,h8⟩:=Qh O;obtain⟨V,T⟩:=Q2 h8;simp only[QzR,decide_eq_true_eq]at V;cases T;exact⟨p,h1,c,C,l,U,hh,M,V.1,V.2.1,V.2.2,hk⟩
 case fieldAddr off x=>
  obtain⟨p,h1,h2⟩:=Qh h;obtain⟨d,C,G⟩:=Qh h2;cases G;exact⟨p,h1,ME C hk⟩
 case field agg off sz x=>
  obtain⟨p,h1,h2⟩:=Qh h;obtain⟨cells,C,G⟩:=Qh h2;refine⟨p,h1,cells,C, ?_⟩;cases agg
  obtain⟨d,U,O⟩:=Qh G;cases O;exact⟨d,U,hk⟩;obtain⟨U,O⟩:=Q2 G;simp_all
 case indexAddr l0 x i=>
  obtain⟨nd,h1,h2⟩:=Qh h;obtain⟨n,C,G⟩:=Qh h2;obtain⟨p,U,O⟩:=Qh G;cases nd<;>simp only[Qe3,QzQ,reduceCtorEq]at C;subst C;refine⟨_,h1,p,U, ?_⟩;split at O;obtain⟨row,M,h8⟩:=Qh O;cases h8;exact Tw M hk;obtain⟨row,M,h8⟩:=Qh O;cases h8;exact Tw M hk;obtain⟨b,M,h8⟩:=Qh O;obtain⟨V,T⟩:=Q2 h8;simp only[QzR,decide_eq_true_eq]at V;cases T;exact⟨b,M,V.1,V.2.1,V.2.2.1,V.2.2.2,hk⟩
  grind
 case k8 x i=>
  obtain⟨nd,h1,h2⟩:=Qh h;obtain⟨n,C,G⟩:=Qh h2;obtain⟨p,U,O⟩:=Qh G;obtain⟨l,M,h8⟩:=Qh O;obtain⟨V,T⟩:=Q2 h8;obtain⟨c,Y,h12⟩:=Qh T;cases nd<;>simp only[Qe3,QzQ,reduceCtorEq]at C;subst C;cases p<;>simp only[Qdk,QzQ,reduceCtorEq]at M;subst M;cases h12;exact⟨_,h1,_,U,c,by grind,Y,hk⟩
 case extract i x=>
  obtain⟨p,h1,h2⟩:=Qh h;obtain⟨ds,C,G⟩:=Qh h2;obtain⟨d,U,O⟩:=Qh G;cases O;exact⟨p,h1,ds,C,d,U,hk⟩
 case len x=>
  obtain⟨p,h1,h2⟩:=Qh h;obtain⟨n,C,G⟩:=Qh h2;cases G;exact⟨p,h1,n,C,hk⟩
 case o9 x=>
  obtain⟨p,h1,h2⟩:=Qh h;obtain⟨n,C,G⟩:=Qh h2;cases G;exact⟨p,h1,n,C,hk⟩
 case min x y=>
  obtain⟨p,h1,h2⟩:=Qh h;obtain⟨q,C,G⟩:=Qh h2;refine⟨p,h1,q,C, ?_⟩;split at G;cases G;exact hk
  grind
 case max x y=>
  obtain⟨p,h1,h2⟩:=Qh h;obtain⟨q,C,G⟩:=Qh h2;refine⟨p,h1,q,C, ?_⟩;split at G;cases G;exact hk
  grind
 case append l0 et bytes x y=>
  obtain⟨p,h1,h2⟩:=Qh h;obtain⟨q,C,G⟩:=Qh h2;obtain⟨⟨ys,pr⟩,U,O⟩:=Qh G;refine⟨p,h1,q,C,(Mt U).2 _ ?_⟩;dsimp only at O;split at O;obtain⟨t,M,h8⟩:=Qh O;obtain⟨V,T⟩:=Q2 h8;simp only[QzR,QAT,QAR,QAU]at V;cases T
  exact⟨t,M,GJ V.1,V.2.1.imp id (λe e2=>by grind),N1 V.2.2.1,QzN V.2.2.2.1,QzN V.2.2.2.2,hk⟩;obtain⟨M,h8⟩:=Q2 O;obtain⟨b,V,T⟩:=Qh h8;obtain⟨Y,h12⟩:=Q2 T;simp only[QzR,decide_eq_true_eq,QAU]at M Y;cases h12
  exact⟨M.1,QzN M.2,b,V,Y.1,Y.2.1,Y.2.2.1,.inl Wb,QzN Y.2.2.2.2.1,QzN Y.2.2.2.2.2,hk⟩
  grind
 case makeSlice l0 et bytes zero x y=>
  obtain⟨p,h1,h2⟩:=Qh h;obtain⟨q,C,G⟩:=Qh h2;refine⟨p,h1,q,C, ?_⟩;split at G;obtain⟨t,U,O⟩:=Qh G;obtain⟨M,h8⟩:=Q2 O;simp only[QzR,decide_eq_true_eq]at M;cases h8
  exact⟨t,U,GJ M.1,M.2.1,M.2.2.1,QzN M.2.2.2.1,QzN M.2.2.2.2,hk⟩
  grind
 case b8 len l0 x i=>
  obtain⟨nd,h1,h2⟩:=Qh h;obtain⟨n,C,G⟩:=Qh h2;obtain⟨p,U,O⟩:=Qh G;obtain⟨M,h8⟩:=Q2 O;obtain⟨d,V,T⟩:=Qh h8;cases nd<;>simp only[Qe3,QzQ,reduceCtorEq]at C;subst C;cases T;simp only[QzR,decide_eq_true_eq]at M;exact⟨_,h1,p,U,M.1,M.2,ME V hk⟩
 case j8 agg len l0 x i=>
  obtain⟨nd,h1,h2⟩:=Qh h;obtain⟨n,C,G⟩:=Qh h2;obtain⟨p,U,O⟩:=Qh G;obtain⟨cells,M,h8⟩:=Qh O;obtain⟨V,T⟩:=Q2 h8;simp only[QzR,decide_eq_true_eq]at V;refine⟨nd,h1,n,C,p,U,cells,M,V.1,V.2, ?_⟩;cases agg
  obtain⟨d,Y,h12⟩:=Qh T;cases h12;exact⟨d,Y,hk⟩;obtain⟨Y,h12⟩:=Q2 T;simp_all
 case call f args=>
  obtain⟨ds,h1,h2⟩:=Qh h;obtain⟨d,C,G⟩:=Qh h2;obtain⟨U,O⟩:=Q2 G;cases O
  exact⟨ds,h1,d,hc _ _ _ C,by grind,hk⟩
end
def efE (dr:Dr) (op:z5) (dst:Option Nat) (s:St):Option (List Nat × List Nat × D × QzK):=
 match dr.dr,op,dst with
 |true,.append l0 et bytes x y,some t=>match s.ev x with
  |some (.s4 k n)=>ob (s.ev y) λe=>ob (QqK s l0 e) λ(ys,pr)=>ob (lk s.H k) λb=>
   gd (Nat.ble (k+1) 1000000&&(LP (lk s.H t)&&(Nat.ble (t+1) 1000000&&(decide (n=b.rows.length)&&(decide (b.l0=l0)&&(decide (b.et=et)&&(!e.ids.contains k&&(Nat.ble ((n+ys.length)*bytes) 140737488355328&&Nat.ble (n+ys.length) 4611686018427387904))))))))
    (some (k::e.ids,[k],.s4 t (n+ys.length),[(t,⟨b.rows++ys,l0,et,b.pr&&pr⟩),(k,Zr)]))
  |_=>none
 |_,_,_=>none
section
variable {P:Program} {call:Nat->List D->Option D}
theorem Qek {dr:Dr} {op:z5} {dst:Option Nat} {p q:List Nat} {ef:QzK} (h:efE dr op dst s=some (p,q,d,ef)):EF P dr.B op dst s p q d ef/\∀r,MX op dst r=ZL dst.toList r:=by
 unfold efE at h;split at h;split at h;rename_i k n hx;obtain⟨e,h1,h2⟩:=Qh h;obtain⟨⟨ys,pr⟩,U,T⟩:=Qh h2;obtain⟨b,O,M⟩:=Qh T;obtain⟨C,G⟩:=Q2 M;simp only[QzR,decide_eq_true_eq,QAU]at C;cases G
 exact⟨⟨_,k,n,b,e,ys,pr,rfl,hx,QzN C.1,GJ C.2.1,QzN C.2.2.1,O,C.2.2.2.1,C.2.2.2.2.1,C.2.2.2.2.2.1,h1,by grind,(Mt U).1,QzN C.2.2.2.2.2.2.2.1,QzN C.2.2.2.2.2.2.2.2,rfl,rfl,rfl,rfl⟩,λ_=>rfl⟩
 grind
 grind
def Qcm (call:Nat->List D->Option D) (w:Bool):Dr->List z1->St->Option St
 |_,[],s=>some s
 |dr,⟨dst,op,g⟩::r,s=>
  match gw s g with
  |none=>none
  |some false=>Qcm call w dr r (s.apply dst .undef none)
  |some true=>match efE dr op dst s with
   |some (p,q,d,ef)=>gd (dr.ok r.length (tkR w op s p) (tkW w op s q)) (Qcm call w (dr.nx (ZL dst.toList r) (tkR w op s p) (tkW w op s q)) r (s.g8 dst d ef))
   |none=>gd (dr.ok r.length (tkR w op s (pk op s)) (tkW w op s (wk op s))) (ob (Qi0 call op dst dr.dr s) λs'=>Qcm call w (dr.nx (Lk w op dst r) (tkR w op s (pk op s)) (tkW w op s (wk op s))) r s')
theorem ZW (C:∀f ds d,call f ds=some d->Ok P f ds d) {w:Bool} {K:St->Prop}:∀{l:List z1} {dr:Dr} {s s':St},Qcm call w dr l s=some s'->K s'->Qde P w dr l K s
 |[],_,_,_,h,hk=>by simp only[Qcm,QzQ]at h;subst h;cases w<;>exact hk
 |⟨dst,op,g⟩::r,dr,s,s',h,hk=>by
  simp only[Qcm]at h;split at h
  grind
  rename_i M;cases g with
  |none=>grind [gw]
  |some tb=>
   obtain⟨t,b⟩:=tb;simp only[gw]at M;split at M;rename_i c G;exact Qgg G (λe=>by grind) (ZW C h hk);rename_i G;exact Qgi G (ZW C h hk)
   grind
  rename_i M
  have main:Qrm P w dr op dst r s λdr s=>Qde P w dr r K s:=by
   split at h;rename_i p q d ef he;obtain⟨h1,h2⟩:=Q2 h;obtain⟨T,O⟩:=Qek (P:=P) he;exact .inr ⟨p,q,d,ef,T,h1,O r,ZW C h2 hk⟩;obtain⟨h1,h2⟩:=Q2 h;obtain⟨s2,T,O⟩:=Qh h2;exact .inl ⟨h1,Si C T (ZW C O hk)⟩
  cases g with
  |none=>grind [PE]
  |some tb=>
   grind [gw,Qgh]
def Qbj (H:QzK):Nat:=1+H.foldl (λa p=>max a p.1) 500000
def QeG (s:St) (o:z1):St:=
 match o.dst with
 |some t=>match LP (lk s.H t)with
  |true=>s
  |false=>match Nat.ble (t+1) 1000000&&Nat.ble (Qbj s.H+1) 1000000 with
   |true=>s.o5 (Zw t (Qbj s.H))
   |false=>s
 |none=>s
theorem QeH (s:St) (o:z1):s.le (QeG s o):=by
 unfold QeG;split;split
 grind [le_refl]
 split;rename_i h;simp only[QzR]at h;exact KZ _ _ (QzN h.1) (QzN h.2) s
 grind [le_refl]
 grind [le_refl]
def JX:List z1->St->St
 |[],s=>s
 |o::r,s=>JX r (QeG s o)
theorem XG:∀(l:List z1) (s:St),s.le (JX l s)
 |[],s=>le_refl s
 |o::r,s=>le_trans (QeH s o) (XG r _)
def Qkc (H:QzK):Nat->List Nat->List Nat
 |0,ks=>ks
 |n+1,ks=>Qkc H n ((ks++ks.flatMap λk=>match lk H k with |some b=>b.ids |none=>[]).eraseDups)
def QgL (l:List Nat) (s:St):St:=
 match Qz l s.fr with
 |fr=>match Zs (Qkc s.H 3 (fr.flatMap λp=>p.2.ids)) s.H with
  |H=>match ua H fr&&QdW s.H H with
   |true=>⟨fr,H⟩
   |false=>⟨fr,s.H⟩
theorem Qcw (l:List Nat) (s:St):s.le (QgL l s):=by
 obtain⟨fr,H⟩:=s;unfold QgL;dsimp only;split;rename_i h;simp only[QzR]at h;exact Qn rfl rfl rfl rfl h.1 h.2
 grind [KY]
def Qot (has:Nat->Bool) (ops:List z1):Nat->n5->n5
 |0,x=>x
 |n+1,.s t=>if has t=true then .s t else match ops.find? λo=>decide (o.dst=some t)with
  |some o=>(match o.op with
   | .we y=>Qot has ops n y
   |_=>.s t)
  |none=>.s t
 |_,x=>x
def Qhd (ops:List z1) (s:St):St:=s.v8 ((ops.flatMap λo=>match o.op with
 | .buildSlice _ _ parts=>parts.flatMap λx=>Qbr (s.ev (Qot (λt=>(lk s.fr t).isSome) ops 3 x))
 |_=>[]).filter λk=>Nat.ble (k+1) 1000000)
theorem Mg:∀(ks:List Nat) (s:St),(∀k∈ks,k<1000000)->s.le (s.v8 ks)
 |[],s,_=>le_refl s
 |k::ks,s,h=>le_trans (RC k s (h k Wc)) (Mg ks _ λj C=>h j Wb)
theorem Rp (ops:List z1) (s:St):s.le (Qhd ops s):=Mg _ s λk hk=>QzN (List.mem_filter.1 hk).2
def exC (call:Nat->List D->Option D):Nat->y5->St->Option (AExit × St)
 |0,_,_=>none
 |n+1,c,s=>match c with
  | .skip=>some (.normal,s)
  | .region dr ops=>ob (Qcm call false (Dr.of (JX ops (Qhd ops s)).H dr) ops (JX ops (Qhd ops s))) λs1=>some (.normal,s1)
  | .ba ops=>ob (Qcm call true (Dr.of (JX ops (Qhd ops s)).H true) ops (JX ops (Qhd ops s))) λs1=>some (.normal,s1)
  | .seq a l b=>ob (exC call n a s) λ(e,s1)=>match e with
   | .normal=>exC call n b (QgL l s1)
   | .exit i=>some (.exit i,s1)
   | .ret=>some (.ret,s1)
  | .cond c a b=>ob (s.ev c) λd=>match d with
   | .bool true=>exC call n a s
   | .bool false=>exC call n b s
   |_=>none
  | .block id a=>ob (exC call n a s) λ(e,s1)=>match e with
   | .exit i=>if i=id then some (.normal,s1)else some (.exit i,s1)
   | .normal=>some (.normal,s1)
   | .ret=>some (.ret,s1)
  | .loop a=>ob (exC call n a s) λ(e,s1)=>match e with
   | .normal=>exC call n (.loop a) s1
   | .exit i=>some (.exit i,s1)
   | .ret=>some (.ret,s1)
  | .scope a=>exC call n a s
  | .exit id=>some (.exit id,s)
  | .ret=>some (.ret,s)
  | .l8 _ _ _ _=>none
theorem Cb (T:∀f ds d,call f ds=some d->Ok P f ds d) {nt:Nat}:∀(n:Nat),(∀{c:y5} {s s1:St} {e:AExit},exC call n c s=some (e,s1)->TW P nt c (λe2 s2=>e2=e/\s2=s1) s)/\
  ∀{a:y5} {s s1:St} {e:AExit},exC call n (.loop a) s=some (e,s1)->∃m,x8 P nt a e s1 m s
 |0=>⟨λh=>(by cases h),λh=>(by cases h)⟩
 |n+1=>by
  obtain⟨C,O⟩:=Cb T (nt:=nt) n
  have U:∀{a:y5} {s s1:St} {e:AExit},exC call (n+1) (.loop a) s=some (e,s1)->∃m,x8 P nt a e s1 m s:=by
   intro a s s1 e h;simp only[exC]at h;obtain⟨⟨e2,s2⟩,h1,h2⟩:=Qh h;dsimp only at h2;have G:=C h1;split at h2
   ·obtain⟨m,V⟩:=O h2;exact⟨m+1,.next G (le_refl _) V⟩
   cases h2;exact⟨0,.stop G Wc⟩
   cases h2;exact⟨0,.stop G Wc⟩
  refine⟨?_,U⟩;intro c s s1 e h;cases c with
  |skip=>simp only[exC,QzQ,QAG]at h;obtain⟨rfl,rfl⟩:=h;exact SU ⟨rfl,rfl⟩
  |region dr ops=>
   simp only[exC]at h;obtain⟨s2,h1,h2⟩:=Qh h;cases h2
   exact Dx (le_trans (Rp ops s) (XG ops _)) (Mw λK M=>ZW T h1 (M _ ⟨rfl,rfl⟩))
  |ba ops=>
   simp only[exC]at h;obtain⟨s2,h1,h2⟩:=Qh h;cases h2
   exact Dx (le_trans (Rp ops s) (XG ops _)) (TM λK M=>ZW (w:=true) T h1 (M _ ⟨rfl,rfl⟩))
  |seq a l b=>
   simp only[exC]at h;obtain⟨⟨e2,s2⟩,h1,h2⟩:=Qh h;dsimp only at h2;have G:=C h1;split at h2;exact FQ (ι:=Unit) (λ_=>QgL l s2) (λ_=>True) (Zh (λ_ _ ⟨p,q⟩=>by subst p q;exact⟨(),Qcw l _,trivial⟩) G) λ_ _=>C h2
   cases h2;exact Kr (Zh (λ_ _ ⟨p,q⟩=>by subst p q;trivial) G)
   cases h2;exact Kr (Zh (λ_ _ ⟨p,q⟩=>by subst p q;trivial) G)
  |cond c a b=>
   grind [exC,Qx,QP]
  |block id a=>
   simp only[exC]at h;obtain⟨⟨e2,s2⟩,h1,h2⟩:=Qh h;dsimp only at h2;have G:=C h1;refine HG (Zh (λe3 s3 ⟨p,q⟩=>?_) G);subst p q;split at h2;split at h2
   (repeat clear M K);simp_all [YX]
   (repeat clear M K);simp_all [YX]
   cases h2;trivial
   cases h2;trivial
  |loop a=>obtain⟨m,h1⟩:=U h;exact h1.tw
  |scope a=>grind [exC,PR]
  |exit id=>simp only[exC,QzQ,QAG]at h;obtain⟨rfl,rfl⟩:=h;exact Mx ⟨rfl,rfl⟩
  |ret=>simp only[exC,QzQ,QAG]at h;obtain⟨rfl,rfl⟩:=h;exact By ⟨rfl,rfl⟩
  |l8 x p q a=>trivial
def QtM (s:St):Xy->Option D
 | .tmp t=>ob (lk s.fr t) λp=>some (FN JG s p)
 | .cell t agg sz=>ob (lk s.fr t) λp=>ob (s.ad p) λcells=>match agg with
  |true=>gd (Nat.ble sz cells.length) (some (FN JG s (.agg (cells.take sz))))
  |false=>ob cells.head? λq=>some (FN JG s q)
theorem Tu {r:Xy} (h:QtM s r=some d):QtL s r d:=by
 cases r with
 |tmp t=>
  obtain⟨p,h1,h2⟩:=Qh h;cases h2;exact⟨p,h1,rfl⟩
 |cell t agg sz=>
  obtain⟨p,h1,h2⟩:=Qh h;obtain⟨cells,G,C⟩:=Qh h2;refine⟨p,cells,h1,HK.2 G, ?_⟩;cases agg
  grind
  obtain⟨O,M⟩:=Q2 C;simp_all
def Qda (s:St):List Xy->Option (List D)
 |[]=>some []
 |r::rs=>ob (QtM s r) λd=>ob (Qda s rs) λds=>some (d::ds)
theorem FK {s:St}:∀{rs:List Xy} {ds:List D},Qda s rs=some ds->Tt s rs ds
 |[],ds,h=>by simp only[Qda,QzQ]at h;exact h.symm
 |r::rs,ds,h=>by
  obtain⟨d,h1,h2⟩:=Qh h;obtain⟨ds',G,C⟩:=Qh h2;cases C;exact⟨d,ds',rfl,Tu h1,FK G⟩
def QtN (s:St) (rs:List Xy):Option D:=
 match rs with
 |[r]=>QtM s r
 |rs=>ob (Qda s rs) λds=>some (.l7 ds)
theorem GP {rs:List Xy} (h:QtN s rs=some d):QiS s rs d:=by
 cases rs with
 |nil=>
  have h:ob (Qda s []) (λds=>some (.l7 ds))=some d:=h;obtain⟨ds,h1,h2⟩:=Qh h;cases h2
  unfold QiS;exact⟨ds,rfl,FK h1⟩
 |cons a l=>
  cases l with
  |nil=>exact Tu h
  |cons b l=>
   have h:ob (Qda s (a::b::l)) (λds=>some (.l7 ds))=some d:=h;obtain⟨ds,h1,h2⟩:=Qh h;cases h2
   unfold QiS;exact⟨ds,rfl,FK h1⟩
def QcK (P:Program) (tab:List (Nat × a6)):Prop:=∀f tf,lk tab f=some tf->HD f=[]/\∃fn,P.funcs[f]?=some fn/\Qk P fn=some tf.erase
theorem QnS:QcK P []:=λ_ _ h=>by cases h
theorem Qi4 {f:Nat} {tf:a6} {fn:Func} {l:List (Nat × a6)} (G:P.funcs[f]?=some fn) (hp:Qk P fn=some tf.erase) (h:QcK P l) (C:HD f=[]:=by rfl):QcK P ((f,tf)::l):=λg tg e=>by
 rw[Qe]at e;split at e
 grind
 exact h g tg e
def exF (tab:List (Nat × a6)):Nat->Nat->List D->Option D
 |0,_,_=>none
 |n+1,f,ds=>ob (lk tab f) λtf=>gd (Nat.ble ds.length tf.nt) (ob (exC (exF tab n) n tf.body ⟨MB 0 ds,[]⟩) λ(e,s)=>match e with
  | .exit _=>none
  |_=>QtN s tf.rs)
theorem Cc (hm:P.follows .mixedOrders=true) {C:List (Nat × a6)} (M:QcK P C):∀(n:Nat) {f:Nat} {ds:List D} {d:D},exF C n f ds=some d->Ok P f ds d
 |0,_,_,_,h=>by cases h
 |n+1,f,ds,d,h=>by
  simp only[exF]at h;obtain⟨tf,h1,h2⟩:=Qh h;obtain⟨Y,V⟩:=Q2 h2;obtain⟨⟨e,s⟩,U,G⟩:=Qh V;obtain⟨O,fn,T,hp⟩:=M f tf h1;refine Ok.b7 hm T hp (QzN Y) (Zh (λe2 s2 ⟨p,q⟩=>?_) ((Cb (λf ds d h=>Cc hm M n h) n).1 U)) O;subst p q;dsimp only at G;cases e2 with
  |exit i=>grind
  |normal=>exact GP G
  |ret=>exact GP G
end
variable {x:Nat} {ν:List Int}
abbrev Cn:=Nat × Nat × Int
def Cn.ok (ν:List Int) (c:Cn):Prop:=∃a b,ν[c.1]?=some a/\ν[c.2.1]?=some b/\a<=b+c.2.2
def v7 (ν:List Int) (cs:List Cn):Prop:=∀c∈cs,c.ok ν
def ent (cs:List Cn):Nat->Nat->Nat->Int->Bool
 |0,x,y,c=>Nat.beq x y&&decide (0<=c)
 |f+1,x,y,c=>(Nat.beq x y&&decide (0<=c))||cs.any λk=>Nat.beq k.1 x&&ent cs f k.2.1 y (c - k.2.2)
theorem F9 {cs:List Cn} {ν:List Int} (h:v7 ν cs):∀{f x y:Nat} {c a:Int},ent cs f x y c=true->ν[x]?=some a->∃b,ν[y]?=some b/\a<=b+c
 |0,x,y,c,a,he,ha=>by
  simp only[ent,QzR,decide_eq_true_eq]at he
  grind [Nat.eq_of_beq_eq_true]
 |f+1,x,y,c,a,he,ha=>by
  simp only[ent,QAT,QzR,decide_eq_true_eq,QAW]at he;rcases he with he |⟨k,hk,e,he⟩
  grind [Nat.eq_of_beq_eq_true]
  have:=QA6 e;subst this;obtain⟨U,T,h2,C,O⟩:=h k hk;obtain⟨b,M,G⟩:=F9 h he C
  grind
def isL (d:D) (rows:List (List D)):Prop:=d=.sl rows\/d=.x7 rows
open M3 M25 in
def Qoy:List D->Option (Cu × List D)
 | .int .i64 e::.int .i64 a::.int .i64 b::.int .i64 c::.str p::.str q::.bool f::r=>some (⟨e,a,b,c,p,q,f⟩,r)
 |_=>none
open M3 M25 in
theorem QgN {l r:List D} {x:Cu} (h:Qoy l=some (x,r)):l=dCu x++r:=by
 unfold Qoy at h;split at h;cases h;rfl;cases h
open M3 M25 in
def Bi:List (List D)->Option (List (Cu × Cu))
 |[]=>some []
 |r::rs=>match Qoy r with
  |some (x,r2)=>(match Qoy r2 with
   |some (y,[])=>(match Bi rs with
    |some l=>some ((x,y)::l)
    |none=>none)
   |_=>none)
  |none=>none
open M3 M25 in
theorem NS:∀{rs:List (List D)} {l:List (Cu × Cu)},Bi rs=some l->rs=l.map JJ
 |[],l,h=>by cases h;rfl
 |r::rs,l,h=>by
  unfold Bi at h;split at h;rename_i x C e1;split at h;rename_i y e2;split at h;rename_i l2 e3;cases h
  rw[QgN e1,QgN e2,NS e3];simp[JJ];cases h
  cases h
  cases h
open M3 M25 in
def spB (k:Nat) (l:List (Cu × Cu)):Bool:=Nat.ble l.length 9&&(l.all λs=>Nat.ble s.1.p.length 40&&(Nat.ble s.1.q.length 40&&(Nat.ble s.2.p.length 40&&Nat.ble s.2.q.length 40)))&&JL l&&(!Nat.beq k 0||l.all λx=>YB x.1&&YB x.2)
def xB (k:Nat) (rows:List (List D)):Bool:=match Bi rows with
 |some l=>spB k l
 |none=>false
inductive Tp where
 |i (k:IntKind) (lo hi:Int)
 |b
 |s (n:Nat)
 |c (ls:List (List UInt8))
 |l (row:List Tp) (n:Nat)
 |lm (row:List Tp) (n:Nat)
 |px (k:Nat)
mutual
def Tp.has:Tp->D->Prop
 | .i k lo hi,d=>∃n:Int,d=.int k n/\lo<=n/\n<=hi
 | .b,d=>∃b,d=.bool b
 | .s n,d=>∃l,d=.str l/\l.length<=n
 | .c ls,d=>∃l,l∈ls/\d=.str l
 | .l row n,d=>∃rows,isL d rows/\rows.length<=n/\∀r∈rows,Tp.u3 row r
 | .lm row n,d=>∃rows,isL d rows/\(1<=rows.length/\rows.length<=n)/\∀r∈rows,Tp.u3 row r
 | .px k,d=>∃rows,isL d rows/\xB k rows=true
def Tp.u3:List Tp->List D->Prop
 |[],ds=>ds=[]
 |t::ts,ds=>∃d r,ds=d::r/\t.has d/\Tp.u3 ts r
end
mutual
def Tp.le:Tp->Tp->Bool
 | .i k lo hi,t=>match t with
  | .i k' lo' hi'=>decide (k=k')&&(decide (lo'<=lo)&&decide (hi<=hi'))
  |_=>false
 | .b,t=>match t with
  | .b=>true
  |_=>false
 | .s n,t=>match t with
  | .s m=>Nat.ble n m
  |_=>false
 | .c ls,t=>match t with
  | .s m=>ls.all λl=>Nat.ble l.length m
  | .c ms=>ls.all λl=>ms.contains l
  |_=>false
 | .l row n,t=>match t with
  | .l row' m=>Nat.ble n m&&(Nat.beq n 0||Tp.ib row row')
  |_=>false
 | .lm row n,t=>match t with
  | .l row' m=>Nat.ble n m&&Tp.ib row row'
  | .lm row' m=>Nat.ble n m&&Tp.ib row row'
  |_=>false
 | .px k,t=>match t with
  | .px j=>Nat.beq k j
  |_=>false
def Tp.ib:List Tp->List Tp->Bool
 |[],ts=>match ts with
  |[]=>true
  |_=>false
 |t::r,ts=>match ts with
  |t'::r'=>Tp.le t t'&&Tp.ib r r'
  |_=>false
end
mutual
theorem Tp.mb:∀{t C:Tp} {d:D},t.le C=true->t.has d->C.has d
 | .i k lo hi,C,d,h,hd=>by
  simp only[Tp.le]at h;split at h;simp only[QzR,decide_eq_true_eq]at h;obtain⟨n,rfl,h1,h2⟩:=hd;obtain⟨rfl,G,M⟩:=h;exact⟨n,rfl,Wa,Wa⟩
  grind
 | .b,C,d,h,hd=>by
  grind [Tp.le]
 | .s n,C,d,h,hd=>by
  simp only[Tp.le]at h;split at h;obtain⟨l,rfl,h1⟩:=hd;exact⟨l,rfl,Qz6 h1 (QzN h)⟩
  grind
 | .c ls,C,d,h,hd=>by
  simp only[Tp.le]at h;obtain⟨l,h1,rfl⟩:=hd;split at h;exact⟨l,rfl,QzN (QzX.1 h l h1)⟩;exact⟨l,by grind,rfl⟩
  grind
 | .l row n,C,d,h,hd=>by
  simp only[Tp.le]at h;split at h;simp only[QzR,QAT]at h;obtain⟨rows,h0,h1,h2⟩:=hd;refine⟨rows,h0,Qz6 h1 (QzN h.1),λr hr=>?_⟩;rcases h.2 with e |e
  (repeat clear hK K);simp_all
  exact Tp.n7 e (h2 r hr)
  grind
 | .lm row n,C,d,h,hd=>by
  simp only[Tp.le]at h;obtain⟨rows,h0,⟨h1,h2⟩,G⟩:=hd;split at h;simp only[QzR]at h;exact⟨rows,h0,Qz6 h2 (QzN h.1),λr hr=>Tp.n7 h.2 (G r hr)⟩;simp only[QzR]at h;exact⟨rows,h0,⟨h1,Qz6 h2 (QzN h.1)⟩,λr hr=>Tp.n7 h.2 (G r hr)⟩
  grind
 | .px k,C,d,h,hd=>by
  simp only[Tp.le]at h;split at h;cases QA6 h;exact hd;cases h
theorem Tp.n7:∀{t C:List Tp} {ds:List D},Tp.ib t C=true->Tp.u3 t ds->Tp.u3 C ds
 |[],C,ds,h,hd=>by
  grind [Tp.ib]
 |t::ts,C,ds,h,hd=>by
  simp only[Tp.ib]at h;split at h;simp only[QzR]at h;obtain⟨d,r,rfl,h1,h2⟩:=hd;exact⟨d,r,rfl,Tp.mb h.1 h1,Tp.n7 h.2 h2⟩
  grind
end
def MP (ls:List (List UInt8)):Nat:=ls.foldl (λm l=>max m l.length) 0
def jnC (l m:List (List UInt8)):Tp:=
 match l++m.filter λx=>!l.contains x with
 |z=>if Nat.ble z.length 40=true then .c z else .s (MP z)
mutual
def Tp.jn:Tp->Tp->Option Tp
 | .i k lo hi,t=>match t with
  | .i j lo2 hi2=>if k=j then some (.i k (min lo lo2) (max hi hi2))else none
  |_=>none
 | .b,t=>match t with
  | .b=>some .b
  |_=>none
 | .s n,t=>match t with
  | .s m=>some (.s (max n m))
  | .c ls=>some (.s (max n (MP ls)))
  |_=>none
 | .c l1,t=>match t with
  | .s m=>some (.s (max m (MP l1)))
  | .c m=>some (jnC l1 m)
  |_=>none
 | .l r n,t=>match t with
  | .l q m=>if Nat.beq n 0=true then some (.l q m)else if Nat.beq m 0=true then some (.l r n)else(match Tp.fg r q with
   |some z=>some (.l z (max n m))
   |none=>none)
  | .lm q m=>if Nat.beq n 0=true then some (.l q m)else(match Tp.fg r q with
   |some z=>some (.l z (max n m))
   |none=>none)
  |_=>none
 | .lm r n,t=>match t with
  | .l q m=>if Nat.beq m 0=true then some (.l r n)else(match Tp.fg r q with
   |some z=>some (.l z (max n m))
   |none=>none)
  | .lm q m=>(match Tp.fg r q with
   |some z=>some (.lm z (max n m))
   |none=>none)
  |_=>none
 | .px k,t=>match t with
  | .px j=>if Nat.beq k j=true then some (.px k)else none
  |_=>none
def Tp.fg:List Tp->List Tp->Option (List Tp)
 |[],ts=>match ts with
  |[]=>some []
  |_=>none
 |t::r,ts=>match ts with
  |t'::r'=>(match Tp.jn t t',Tp.fg r r' with
   |some a1,some b1=>some (a1::b1)
   |_,_=>none)
  |_=>none
end
theorem Tp.l4 {t:Tp} {d:D} (h:t.has d):d.l4=[]:=by
 cases t<;>simp only[Tp.has]at h<;>obtain⟨_,h⟩:=h
 obtain⟨rfl,_⟩:=h;rfl;subst h;rfl;obtain⟨rfl,_⟩:=h;rfl;obtain⟨_,rfl⟩:=h;rfl;obtain⟨h,_⟩:=h;rcases h with rfl |rfl<;>rfl
 obtain⟨h,_⟩:=h;rcases h with rfl |rfl<;>rfl
 obtain⟨h,_⟩:=h;rcases h with rfl |rfl<;>rfl
theorem Tp.ids {t:Tp} {d:D} (h:t.has d):d.ids=[]:=by
 cases t<;>simp only[Tp.has]at h<;>obtain⟨_,h⟩:=h
 obtain⟨rfl,_⟩:=h;rfl;subst h;rfl;obtain⟨rfl,_⟩:=h;rfl;obtain⟨_,rfl⟩:=h;rfl;obtain⟨h,_⟩:=h;rcases h with rfl |rfl<;>rfl
 obtain⟨h,_⟩:=h;rcases h with rfl |rfl<;>rfl
 obtain⟨h,_⟩:=h;rcases h with rfl |rfl<;>rfl
theorem Tp.kb:∀{ts:List Tp} {ds:List D},Tp.u3 ts ds->ds.length=ts.length
 |[],ds,h=>by grind [Tp.u3]
 |t::ts,ds,h=>by
  simp only[Tp.u3]at h;obtain⟨d,r,rfl,_,h⟩:=h;simp[Tp.kb h]
theorem Tp.xf:∀{ts:List Tp} {ds:List D},Tp.u3 ts ds->∀d∈ds,d.l4=[]
 |[],ds,h=>by grind [Tp.u3]
 |t::ts,ds,h=>by
  simp only[Tp.u3]at h;obtain⟨d,r,rfl,h1,h⟩:=h;intro x hx;rcases QzP.1 hx with rfl |hx
  grind [Tp.l4]
  exact Tp.xf h x hx
inductive Vl where
 |ty (t:Tp)
 |nn (k:IntKind) (x:Nat) (o:Int)
 |ii (k:IntKind)
 |bf (tt ff:List Cn)
 |ss (x:Nat) (o:Int)
 |ll (row:List Tp) (x:Nat) (o:Int)
 |ld (row:List Tp) (hx:Nat) (ho:Int) (lx:Nat) (lo:Int)
 |fl (rows:List (List Vl))
 |oo (k:Nat) (x:Nat) (o:Int)
 |rr (k off:Nat)
 |qq (k:Nat) (x:Nat) (o:Int) (off:Nat)
 |pp (cells:List Tp)
 |pv (cells:List Vl)
 |fx (rows:List (List Vl))
 |lf (row:List Tp) (x:Nat) (o:Int)
 |aa (cells:List Vl)
 |uu (vs:List Vl)
 |ei (k:IntKind) (lo hi:Int) (tt:List Cn)
 |tp (cells:List Vl) (w:Vl)
 |dd (d:D)
def x6 (ν:List Int) (x:Nat) (o n:Int):Prop:=∃v,ν[x]?=some v/\n=v+o
def uh (ν:List Int) (hx:Nat) (ho:Int) (lx:Nat) (lo n:Int):Prop:=∃a b,x6 ν hx ho a/\x6 ν lx lo b/\n=a - b
section
variable (ν:List Int)
mutual
def Vl.has:Vl->D->Prop
 | .ty t,d=>t.has d
 | .nn k x o,d=>∃n,d=.int k n/\x6 ν x o n
 | .ii k,d=>∃n,d=.int k n
 | .bf tt ff,d=>∃b,d=.bool b/\(b=true->v7 ν tt)/\(b=false->v7 ν ff)
 | .ss x o,d=>∃l,d=.str l/\x6 ν x o l.length
 | .ll row x o,d=>∃rows,isL d rows/\x6 ν x o rows.length/\∀r∈rows,Tp.u3 row r
 | .ld row hx ho lx lo,d=>∃rows,isL d rows/\uh ν hx ho lx lo rows.length/\∀r∈rows,Tp.u3 row r
 | .fl rows,d=>∃rs,d=.x7 rs/\Vl.k7 rows rs
 | .oo k x o,d=>∃n:Nat,d=.s4 k n/\x6 ν x o n
 | .rr k off,d=>d=.ref k 0 off
 | .qq k x o off,d=>∃i:Nat,d=.ref k i off/\x6 ν x o i
 | .pp cells,d=>∃ds,d=.ptr ds/\Tp.u3 cells ds
 | .pv cells,d=>∃ds,d=.ptr ds/\Vl.n4 cells ds
 | .fx rows,d=>∃rs,isL d rs/\Vl.k7 rows rs
 | .lf row x o,d=>∃rows,d=.x7 rows/\x6 ν x o rows.length/\∀r∈rows,Tp.u3 row r
 | .aa cells,d=>∃ds,d=.agg ds/\Vl.n4 cells ds
 | .uu vs,d=>∃ds,d=.l7 ds/\Vl.n4 vs ds
 | .ei k lo hi tt,d=>∃n:Int,d=.int k n/\(lo<=n/\n<=hi)/\(n=0->v7 ν tt)
 | .tp cells w,d=>∃ds d2,d=.w9 ds d2/\Vl.n4 cells ds/\w.has d2
 | .dd d2,d=>d=d2
def Vl.n4:List Vl->List D->Prop
 |[],ds=>ds=[]
 |v::vs,ds=>∃d r,ds=d::r/\v.has d/\Vl.n4 vs r
def Vl.k7:List (List Vl)->List (List D)->Prop
 |[],rs=>rs=[]
 |v::vs,rs=>∃r q,rs=r::q/\Vl.n4 v r/\Vl.k7 vs q
end
end
theorem XA {a:Int} (e:List Int) (h:ν[x]?=some a):(ν++e)[x]?=some a:=by
 grind
theorem x6.ext {o n:Int} (e:List Int) (h:x6 ν x o n):x6 (ν++e) x o n:=let⟨v,h1,h2⟩:=h;⟨v,XA e h1,h2⟩
theorem uh.ext {ν:List Int} {x y:Nat} {o p n:Int} (e:List Int) (h:uh ν x o y p n):uh (ν++e) x o y p n:=let⟨a,b,h1,h2,h3⟩:=h;⟨a,b,h1.ext e,h2.ext e,h3⟩
theorem v7.ext {cs:List Cn} (e:List Int) (h:v7 ν cs):v7 (ν++e) cs:=λc C=>let⟨a,b,h1,h2,h3⟩:=h c C;⟨a,b,XA e h1,XA e h2,h3⟩
section
variable {ν:List Int} (e:List Int)
mutual
theorem Vl.has.ext:∀{v:Vl} {d:D},v.has ν d->v.has (ν++e) d
 | .ty t,d,h=>h
 | .nn k x o,d,h=>let⟨n,h1,h2⟩:=h;⟨n,h1,h2.ext e⟩
 | .ii k,d,h=>h
 | .bf tt ff,d,h=>let⟨b,h1,h2,h3⟩:=h;⟨b,h1,λq=>(h2 q).ext e,λq=>(h3 q).ext e⟩
 | .ss x o,d,h=>let⟨l,h1,h2⟩:=h;⟨l,h1,h2.ext e⟩
 | .ll row x o,d,h=>let⟨l,h1,h2,h3⟩:=h;⟨l,h1,h2.ext e,h3⟩
 | .ld row hx ho lx lo,d,h=>let⟨l,h1,h2,h3⟩:=h;⟨l,h1,h2.ext e,h3⟩
 | .fl rows,d,h=>let⟨rs,h1,h2⟩:=h;⟨rs,h1,Vl.k7.ext h2⟩
 | .oo k x o,d,h=>let⟨n,h1,h2⟩:=h;⟨n,h1,h2.ext e⟩
 | .rr k off,d,h=>h
 | .qq k x o off,d,h=>let⟨n,h1,h2⟩:=h;⟨n,h1,h2.ext e⟩
 | .pp cells,d,h=>h
 | .pv cells,d,h=>let⟨ds,h1,h2⟩:=h;⟨ds,h1,Vl.n4.ext h2⟩
 | .fx rows,d,h=>let⟨rs,h1,h2⟩:=h;⟨rs,h1,Vl.k7.ext h2⟩
 | .lf row x o,d,h=>let⟨l,h1,h2,h3⟩:=h;⟨l,h1,h2.ext e,h3⟩
 | .aa cells,d,h=>let⟨ds,h1,h2⟩:=h;⟨ds,h1,Vl.n4.ext h2⟩
 | .uu cells,d,h=>let⟨ds,h1,h2⟩:=h;⟨ds,h1,Vl.n4.ext h2⟩
 | .ei k lo hi tt,d,h=>let⟨n,h1,h2,h3⟩:=h;⟨n,h1,h2,λq=>(h3 q).ext e⟩
 | .tp cells w,d,h=>let⟨ds,d2,h1,h2,h3⟩:=h;⟨ds,d2,h1,Vl.n4.ext h2,Vl.has.ext h3⟩
 | .dd d2,d,h=>h
theorem Vl.n4.ext:∀{vs:List Vl} {ds:List D},Vl.n4 ν vs ds->Vl.n4 (ν++e) vs ds
 |[],ds,h=>h
 |v::vs,ds,h=>let⟨d,r,h1,h2,h3⟩:=h;⟨d,r,h1,Vl.has.ext h2,Vl.n4.ext h3⟩
theorem Vl.k7.ext:∀{vs:List (List Vl)} {ds:List (List D)},Vl.k7 ν vs ds->Vl.k7 (ν++e) vs ds
 |[],ds,h=>h
 |v::vs,ds,h=>let⟨d,r,h1,h2,h3⟩:=h;⟨d,r,h1,Vl.n4.ext h2,Vl.k7.ext h3⟩
end
end
inductive Bx where
 |cc (cells:List Vl) (et:Nat) (pr:Bool)
 |ww (row:List Tp) (x:Nat) (o:Int) (l0 et:Nat)
def Bx.has (ν:List Int):Bx->u4->Prop
 | .cc cells et pr,b=>∃ds,b=⟨[ds],ds.length,et,pr⟩/\Vl.n4 ν cells ds
 | .ww row x o l0 et,b=>∃rows,b=⟨rows,l0,et,true⟩/\x6 ν x o rows.length/\∀r∈rows,Tp.u3 row r
theorem Bx.has.ext {ν:List Int} (e:List Int) {b:Bx} {x:u4} (h:b.has ν x):b.has (ν++e) x:=by
 cases b with
 |cc=>obtain⟨ds,h1,h2⟩:=h;exact⟨ds,h1,h2.ext e⟩
 |ww=>obtain⟨ds,h1,h2,C⟩:=h;exact⟨ds,h1,h2.ext e,C⟩
def RL {α β:Type} (R:α->β->Prop):List (Nat × α)->List (Nat × β)->Prop
 |[],m=>m=[]
 |p::l,m=>∃b r,m=(p.1,b)::r/\R p.2 b/\RL R l r
theorem RL.mono {α β:Type} {R R':α->β->Prop} (C:∀a b,R a b->R' a b):∀{l:List (Nat × α)} {m:List (Nat × β)},RL R l m->RL R' l m
 |[],m,h=>h
 |p::l,m,h=>let⟨b,r,h1,h2,h3⟩:=h;⟨b,r,h1,C _ _ h2,RL.mono C h3⟩
theorem RL.get {α β:Type} {R:α->β->Prop}:∀{l:List (Nat × α)} {m:List (Nat × β)} {t:Nat} {a:α},RL R l m->lk l t=some a->∃b,Go.Abs.lk m t=some b/\R a b
 |[],m,t,a,h,C=>by cases C
 |p::l,m,t,a,h,C=>by
  obtain⟨b,r,rfl,h1,h2⟩:=h;obtain⟨q,x⟩:=p;rw[Qe]at C ⊢;split at C
  grind
  rename_i e;rw[if_neg e];exact RL.get h2 C
theorem RL.get_none {α β:Type} {R:α->β->Prop}:∀{l:List (Nat × α)} {m:List (Nat × β)} {t:Nat},RL R l m->lk l t=none->Go.Abs.lk m t=none
 |[],m,t,h,C=>by simp only[RL]at h;subst h;rfl
 |p::l,m,t,h,C=>by
  obtain⟨b,r,rfl,h1,h2⟩:=h;obtain⟨q,x⟩:=p;rw[Qe]at C ⊢;split at C
  grind
  rename_i e;rw[if_neg e];exact RL.get_none h2 C
structure AS where
 fr:List (Nat × Vl)
 H:List (Nat × Bx)
 cs:List Cn
 nx:Nat
structure AS.ok (ν:List Int) (a:AS) (s:St):Prop where
 fr:RL (Vl.has ν) a.fr s.fr
 H:RL (Bx.has ν) a.H s.H
 cs:v7 ν a.cs
 nx:ν.length=a.nx
 z:ν[0]?=some 0
variable {a a':AS} {cs:List Cn} {o u:Int} {v:Vl} {y:Nat}
def Qg9:Cn:=(0,0, -1)
def cVl:D->Vl
 | .int k n=>.nn k 0 n
 | .bool true=>.bf [] [Qg9]
 | .bool false=>.bf [Qg9] []
 | .str l=>.ty (.c [l])
 | .x7 []=>.fl []
 |d=>.dd d
theorem QL:v7 ν []:=λc C=>by grind
theorem DX (z:ν[0]?=some 0) (d:D):(cVl d).has ν d:=by
 unfold cVl;split;exact⟨_,rfl,0,z,Wa⟩;exact⟨true,rfl,λ_=>QL,λh=>(by cases h)⟩;exact⟨false,rfl,λh=>(by cases h),λ_=>QL⟩;exact⟨_,QzW.2 rfl,rfl⟩;exact⟨_,rfl,rfl⟩;rfl
def evA (a:AS):n5->Option Vl
 | .s t=>lk a.fr t
 | .c d=>some (cVl d)
theorem Qp (h:a.ok ν s):∀{x:n5} {v:Vl},evA a x=some v->∃d,s.ev x=some d/\v.has ν d
 | .s t,v,hx=>RL.get h.fr hx
 | .c d,v,hx=>by simp only[evA,QzQ]at hx;subst hx;exact⟨d,rfl,DX h.z d⟩
theorem AS.ok.ext {ν:List Int} {a:AS} {s:St} (h:a.ok ν s) (e:List Int) {cs:List Cn} {n:Nat} (G:a.nx+e.length=n) (C:v7 (ν++e) cs):(⟨a.fr,a.H,cs,n⟩:AS).ok (ν++e) s:=
 ⟨RL.mono (λ_ _ h=>h.ext e) h.fr,RL.mono (λ_ _ h=>h.ext e) h.H,C,by rw[QAs,h.nx];omega,XA e h.z⟩
def AS.sym (a:AS) (cs:List Cn):AS:=⟨a.fr,a.H,cs++a.cs,a.nx+1⟩
theorem v7.app {a b:List Cn} (h:v7 ν a) (h2:v7 ν b):v7 ν (a++b):=λc C=>(QzY.1 C).elim (h c) (h2 c)
theorem AS.ok.sym {ν:List Int} {a:AS} {s:St} (h:a.ok ν s) (v:Int) {cs:List Cn} (C:v7 (ν++[v]) cs):(a.sym cs).ok (ν++[v]) s:=h.ext [v] rfl (C.app (h.cs.ext [v]))
theorem AS.ok.new (h:a.ok ν s) (v:Int):(ν++[v])[a.nx]?=some v:=by rw[<- h.nx];simp
def DC (a:AS) (dst:Option Nat) (v:Vl):AS:=
 match dst with
 |some t=>⟨(t,v)::a.fr,a.H,a.cs,a.nx⟩
 |none=>a
theorem Xe (h:a.ok ν s) {dst:Option Nat} (C:v.has ν d):(DC a dst v).ok ν (s.apply dst d none):=by
 cases dst with
 |none=>exact h
 |some t=>exact⟨⟨d,s.fr,rfl,C,h.fr⟩,h.H,h.cs,h.nx,h.z⟩
def ubC (cs:List Cn):Nat->Nat->Option Int
 |0,x=>if Nat.beq x 0=true then some 0 else none
 |f+1,x=>cs.foldl (λm k=>if Nat.beq k.1 x=true then(match ubC cs f k.2.1 with
   |some u=>(match m with
    |some q=>some (min q (u+k.2.2))
    |none=>some (u+k.2.2))
   |none=>m)else m) (if Nat.beq x 0=true then some 0 else none)
def lbC (cs:List Cn):Nat->Nat->Option Int
 |0,x=>if Nat.beq x 0=true then some 0 else none
 |f+1,x=>cs.foldl (λm k=>if Nat.beq k.2.1 x=true then(match lbC cs f k.1 with
   |some u=>(match m with
    |some q=>some (max q (u - k.2.2))
    |none=>some (u - k.2.2))
   |none=>m)else m) (if Nat.beq x 0=true then some 0 else none)
theorem Ro {α β:Type} {p:β->Prop} {f:β->α->β}:∀{l:List α} {b:β},p b->(∀b,∀x∈l,p b->p (f b x))->p (l.foldl f b)
 |[],b,hb,h=>hb
 |x::l,b,hb,h=>Ro (l:=l) (h b x Wc hb) λb y C hp=>h b y (QAQ _ C) hp
theorem Sn {cs:List Cn} {ν:List Int} (h:v7 ν cs) (z:ν[0]?=some 0):∀{f x:Nat} {u v:Int},ubC cs f x=some u->ν[x]?=some v->v<=u
 |0,x,u,v,hu,hv=>by
  simp only[ubC]at hu
  (repeat clear hK K);simp_all
 |f+1,x,u,v,hu,hv=>by
  simp only[ubC]at hu;refine Ro (p:=λm=>∀u,m=some u->v<=u) ?_ ?_ u hu;intro G C
  (repeat clear hK K);simp_all
  intro m k hk hm G C;split at C;rename_i e;have:=QA6 e;subst this;obtain⟨a,b,h1,h2,M⟩:=h k hk;rw[hv]at h1;cases h1;split at C;rename_i w hw;have:=Sn h z hw h2
  grind
  grind
  grind
theorem Gd {cs:List Cn} {ν:List Int} (h:v7 ν cs) (z:ν[0]?=some 0):∀{f x:Nat} {u v:Int},lbC cs f x=some u->ν[x]?=some v->u<=v
 |0,x,u,v,hu,hv=>by
  simp only[lbC]at hu
  (repeat clear hK K);simp_all
 |f+1,x,u,v,hu,hv=>by
  simp only[lbC]at hu;refine Ro (p:=λm=>∀u,m=some u->u<=v) ?_ ?_ u hu;intro G C
  (repeat clear hK K);simp_all
  intro m k hk hm G C;split at C;rename_i e;have:=QA6 e;subst this;obtain⟨a,b,h1,h2,M⟩:=h k hk;rw[hv]at h2;cases h2;split at C;rename_i w hw;have:=Gd h z hw h1
  grind
  grind
  grind
def fuC:Nat:=2
def Qok (cs:List Cn) (x y:Nat) (c:Int):Bool:=ent cs fuC x y c||ent cs 4 x y c
theorem GD (h:v7 ν cs) {c a:Int} (he:Qok cs x y c=true) (ha:ν[x]?=some a):∃b,ν[y]?=some b/\a<=b+c:=by
 simp only[Qok,QAT]at he
 grind [F9]
def ubX (cs:List Cn) (x:Nat):Option Int:=
 match ubC cs fuC x with
 |some u=>some u
 |none=>ubC cs 4 x
def lbX (cs:List Cn) (x:Nat):Option Int:=
 match lbC cs fuC x with
 |some u=>some u
 |none=>lbC cs 4 x
theorem Bh (h:v7 ν cs) (z:ν[0]?=some 0) {v:Int} (hu:ubX cs x=some u) (C:ν[x]?=some v):v<=u:=by
 unfold ubX at hu;split at hu;rename_i e;cases hu;exact Sn h z e C;exact Sn h z hu C
theorem Cv (h:v7 ν cs) (z:ν[0]?=some 0) {v:Int} (hu:lbX cs x=some u) (C:ν[x]?=some v):u<=v:=by
 unfold lbX at hu;split at hu;rename_i e;cases hu;exact Gd h z e C;exact Gd h z hu C
def XO (cs:List Cn) (x:Nat) (o:Int) (y:Nat) (p:Int):Bool:=Qok cs x y (p - o)
theorem Qm (h:v7 ν cs) {p m n:Int} (he:XO cs x o y p=true) (hm:x6 ν x o m) (C:x6 ν y p n):m<=n:=by
 obtain⟨a,h1,rfl⟩:=hm;obtain⟨b,h2,rfl⟩:=C;obtain⟨c,M,G⟩:=GD h he h1
 grind
theorem YU (z:ν[0]?=some 0) (n:Int):x6 ν 0 n n:=⟨0,z,Wa⟩
def toN (a:AS):Vl->Option (IntKind × Nat × Int × AS)
 | .nn k x o=>some (k,x,o,a)
 | .ty (.i k lo hi)=>some (k,a.nx,0,a.sym [(0,a.nx, -lo),(a.nx,0,hi)])
 | .ii k=>some (k,a.nx,0,a.sym [])
 |_=>none
theorem Zd {k:IntKind} (h:a.ok ν s) (he:toN a v=some (k,x,o,a')) (C:v.has ν d):∃e n,d=.int k n/\x6 (ν++e) x o n/\a'.ok (ν++e) s:=by
 unfold toN at he;split at he;cases he
 obtain⟨n,rfl,h1⟩:=C;exact⟨[],n,rfl,h1.ext [],by grind⟩;cases he
 obtain⟨n,rfl,h1,h2⟩:=C;have G:=h.new n;refine⟨[n],n,rfl,⟨n,G,Wa⟩,h.sym n λc M=>?_⟩;have z:=XA [n] h.z;simp only[QzP,QzO,or_false]at M;rcases M with rfl |rfl
 exact⟨0,n,z,G,by grind⟩;exact⟨n,0,G,z,by grind⟩;cases he
 obtain⟨n,rfl⟩:=C;exact⟨[n],n,rfl,⟨n,h.new n,Wa⟩,h.sym n QL⟩
 grind
def toL (a:AS):Vl->Option (List Tp × Nat × Int × AS)
 | .ll row x o=>some (row,x,o,a)
 | .ty (.l row n)=>some (row,a.nx,0,a.sym [(0,a.nx,0),(a.nx,0,(n:Int))])
 | .ty (.lm row n)=>some (row,a.nx,0,a.sym [(0,a.nx, -1),(a.nx,0,(n:Int))])
 |_=>none
theorem QgH {row:List Tp} (h:a.ok ν s) (he:toL a v=some (row,x,o,a')) (M:v.has ν d):∃e rows,isL d rows/\x6 (ν++e) x o rows.length/\(∀r∈rows,Tp.u3 row r)/\a'.ok (ν++e) s:=by
 unfold toL at he;split at he;cases he
 obtain⟨n,h0,h1,h2⟩:=M;exact⟨[],n,h0,h1.ext [],h2,by grind⟩;cases he
 obtain⟨rows,h0,h1,h2⟩:=M;have C:=h.new (rows.length:Int);refine⟨[(rows.length:Int)],rows,h0,⟨_,C,Wa⟩,h2,h.sym _ λc G=>?_⟩;have z:=XA [(rows.length:Int)] h.z;simp only[QzP,QzO,or_false]at G;rcases G with rfl |rfl
 exact⟨0,_,z,C,by simp⟩;exact⟨_,0,C,z,by grind⟩;cases he
 obtain⟨rows,h0,⟨O,h1⟩,h2⟩:=M;have C:=h.new (rows.length:Int);refine⟨[(rows.length:Int)],rows,h0,⟨_,C,Wa⟩,h2,h.sym _ λc G=>?_⟩;have z:=XA [(rows.length:Int)] h.z;simp only[QzP,QzO,or_false]at G;rcases G with rfl |rfl
 exact⟨0,_,z,C,by simp only;omega⟩
 exact⟨_,0,C,z,by grind⟩
 grind
theorem Qfq {ls:List (List UInt8)} {l:List UInt8} (h:l∈ls):l.length<=MP ls:=by
 unfold MP
 have key:∀(ls:List (List UInt8)) (m:Nat),m<=ls.foldl (λm l=>max m l.length) m/\∀l∈ls,l.length<=ls.foldl (λm l=>max m l.length) m:=by
  intro ls
  induction ls with
  |nil=>simp
  |cons x ls ih=>
   grind
 grind
def qf (a:AS):Vl->Option (Nat × Int × AS)
 | .ss x o=>some (x,o,a)
 | .ty (.s n)=>some (a.nx,0,a.sym [(0,a.nx,0),(a.nx,0,(n:Int))])
 | .ty (.c ls)=>some (a.nx,0,a.sym [(0,a.nx,0),(a.nx,0,(MP ls:Int))])
 |_=>none
theorem XK (h:a.ok ν s) (he:qf a v=some (x,o,a')) (C:v.has ν d):∃e l,d=.str l/\x6 (ν++e) x o l.length/\a'.ok (ν++e) s:=by
 have key:∀(l:List UInt8) (n:Nat),l.length<=n->∃e,x6 (ν++e) a.nx 0 l.length/\(a.sym [(0,a.nx,0),(a.nx,0,(n:Int))]).ok (ν++e) s:=λl n O=>by
  have G:=h.new (l.length:Int);refine⟨[(l.length:Int)],⟨_,G,Wa⟩,h.sym _ λc M=>?_⟩;have z:=XA [(l.length:Int)] h.z;simp only[QzP,QzO,or_false]at M;rcases M with rfl |rfl
  exact⟨0,_,z,G,by simp⟩;exact⟨_,0,G,z,by grind⟩
 unfold qf at he;split at he;cases he
 obtain⟨n,rfl,h1⟩:=C;exact⟨[],n,rfl,h1.ext [],by grind⟩;cases he
 obtain⟨l,rfl,h1⟩:=C
 grind
 cases he
 obtain⟨l,h1,rfl⟩:=C;obtain⟨e,h2,T⟩:=key l _ (Qfq h1)
 grind
 grind
end Go.Abs
namespace Go.Abs
open Go
variable {W:(D->Prop)->Prop} {a:AS} {cs:List Cn} {hi lo m n o u:Int} {k:IntKind} {s:St} {v:Vl} {x y:Nat} {ν:List Int}
def RS (a:AS) (k:IntKind) (lo hi:Int) (cs:List Cn):AS × Vl:=(a.sym ((0,a.nx, -lo)::(a.nx,0,hi)::cs),.nn k a.nx 0)
theorem Qmy (h:a.ok ν s) (h1:lo<=n) (h2:n<=hi) (M:v7 (ν++[n]) cs):(RS a k lo hi cs).1.ok (ν++[n]) s/\(RS a k lo hi cs).2.has (ν++[n]) (.int k n):=by
 have G:=h.new n;have z:=XA [n] h.z;refine⟨h.sym n λc C=>?_,n,rfl,n,G,Wa⟩;simp only[QzP]at C;rcases C with rfl |rfl |C
 exact⟨0,n,z,G,by grind⟩;exact⟨n,0,G,z,by grind⟩;exact M c C
def inK (a:AS) (k:IntKind) (x:Nat) (o:Int):Bool:=XO a.cs 0 k.min x o&&XO a.cs x o 0 k.max
theorem QpF (h:a.ok ν s) (hi:inK a k x o=true) (C:x6 ν x o n):k.min<=n/\n<=k.max:=by
 simp only[inK,QzR]at hi;exact⟨Qm h.cs hi.1 (YU h.z _) C,Qm h.cs hi.2 C (YU h.z _)⟩
def bdN (a:AS) (x:Nat) (o:Int):Option (Int × Int):=
 match lbX a.cs x,ubX a.cs x with
 |some l,some u=>some (l+o,u+o)
 |_,_=>none
theorem Yy (h:a.ok ν s) {l:Int} (hb:bdN a x o=some (l,u)) (C:x6 ν x o n):l<=n/\n<=u:=by
 unfold bdN at hb;split at hb;rename_i l1 u1 e1 e2;cases hb
 obtain⟨v,h1,rfl⟩:=C;have:=Cv h.cs h.z e1 h1;have:=Bh h.cs h.z e2 h1;omega
 grind
def ltF (x:Nat) (o:Int) (y:Nat) (u:Int):Vl:=.bf [(x,y,u - o - 1)] [(y,x,o - u)]
def leF (x:Nat) (o:Int) (y:Nat) (u:Int):Vl:=.bf [(x,y,u - o)] [(y,x,o - u - 1)]
def neL (a:AS) (x:Nat) (o:Int) (y:Nat) (u:Int):List Cn:=(if ent a.cs fuC y x (o - u)=true then[(y,x,o - u - 1)]else[])++(if ent a.cs fuC x y (u - o)=true then[(x,y,u - o - 1)]else[])
def eqL (x:Nat) (o:Int) (y:Nat) (u:Int):List Cn:=[(x,y,u - o),(y,x,o - u)]
theorem MQ {c:Int} (hm:x6 ν x o m) (C:x6 ν y u n) (h:m<=n+(c - u+o)):v7 ν [(x,y,c)]:=λk hk=>by
 simp only[QzW]at hk;subst hk;obtain⟨v,h1,rfl⟩:=hm;obtain⟨w,h2,rfl⟩:=C;exact⟨v,w,h1,h2,by grind⟩
theorem QjU (hm:x6 ν x o m) (C:x6 ν y u n):(ltF x o y u).has ν (.bool (decide (m<n))):=
 ⟨_,rfl,λh=>MQ hm C Wb,λh=>MQ C hm Wb⟩
theorem QjT (hm:x6 ν x o m) (C:x6 ν y u n):(leF x o y u).has ν (.bool (decide (m<=n))):=
 ⟨_,rfl,λh=>MQ hm C Wb,λh=>MQ C hm Wb⟩
theorem QjK (hm:x6 ν x o m) (C:x6 ν y u n) (e:m=n):v7 ν (eqL x o y u):=
 (MQ hm C Wa).app (MQ C hm Wa)
theorem QjJ (h:v7 ν cs) {f:Nat} {p:Int} (he:ent cs f x y (p - o)=true) (hm:x6 ν x o m) (C:x6 ν y p n):m<=n:=by
 obtain⟨a,h1,rfl⟩:=hm;obtain⟨b,h2,rfl⟩:=C
 grind [F9]
theorem Qj3 (h:a.ok ν s) (hm:x6 ν x o m) (C:x6 ν y u n) (e:¬m=n):v7 ν (neL a x o y u):=by
 refine v7.app ?_ ?_;split;rename_i q;have:=QjJ h.cs q C hm;grind [MQ];exact QL;split;rename_i q;have:=QjJ h.cs q hm C;grind [MQ];exact QL
def Qms (a:AS) (k:IntKind) (x:Nat) (o:Int):AS × Vl:=if inK a k x o=true then(a,.nn k x o)else RS a k k.min k.max []
def Qoc (a:AS) (k:IntKind) (x:Nat) (o:Int) (y:Nat) (u:Int):AS × Vl:=
 if Nat.beq y 0=true then Qms a k x (o+u)
 else if Nat.beq x 0=true then Qms a k y (o+u)
 else match bdN a x o,bdN a y u with
  |some (l1,h1),some (l2,h2)=>if k.min<=l1+l2/\h1+h2<=k.max then RS a k (l1+l2) (h1+h2) []else RS a k k.min k.max []
  |_,_=>RS a k k.min k.max []
def QnQ (a:AS) (k:IntKind) (x:Nat) (o:Int) (y:Nat) (u:Int):AS × Vl:=
 if Nat.beq y 0=true then Qms a k x (o - u)
 else match bdN a x o,bdN a y u with
  |some (l1,h1),some (l2,h2)=>if k.min<=l1 - h2/\h1 - l2<=k.max then RS a k (l1 - h2) (h1 - l2) [(a.nx,x,o - l2),(x,a.nx,h2 - o)]else RS a k k.min k.max []
  |_,_=>RS a k k.min k.max []
def Qoq (a:AS) (k:IntKind) (x:Nat) (o:Int) (y:Nat) (u:Int):AS × Vl:=
 match bdN a x o,bdN a y u with
 |some (l1,h1),some (l2,h2)=>if 0<=l1/\0<=l2/\k.min<=0/\h1*h2<=k.max then RS a k (l1*l2) (h1*h2) []else RS a k k.min k.max []
 |_,_=>RS a k k.min k.max []
def QsG (a:AS) (op:BinOp) (k:IntKind) (x:Nat) (o:Int) (y:Nat) (u:Int):Option (AS × Vl):=
 match op with
 | .add=>some (Qoc a k x o y u)
 | .sub=>some (QnQ a k x o y u)
 | .mul=>some (Qoq a k x o y u)
 | .quo=>if XO a.cs 0 1 y u=true then(match bdN a x o with
   |some (l,h)=>if 0<=l/\k.min<=0/\h<=k.max then(if Nat.beq y 0=true then some (RS a k (l / u) (h / u) [])else some (RS a k 0 h []))else some (a,.ii k)
   |none=>some (a,.ii k))else none
 | .rem=>if XO a.cs 0 1 y u=true then(match bdN a x o,bdN a y u with
   |some (l,_),some (_,h)=>if 0<=l then some (RS a k 0 (h - 1) [])else some (RS a k (1 - h) (h - 1) [])
   |_,some (_,h)=>some (RS a k (1 - h) (h - 1) [])
   |_,none=>some (a,.ii k))else none
 | .and | .or | .xor | .andNot=>some (RS a k k.min k.max [])
 | .shl | .shr=>if XO a.cs 0 0 y u=true then some (a,.ii k)else none
 | .eql=>some (a,.bf (eqL x o y u) (neL a x o y u))
 | .neq=>some (a,.bf (neL a x o y u) (eqL x o y u))
 | .lss=>some (a,ltF x o y u)
 | .leq=>some (a,leF x o y u)
 | .gtr=>some (a,ltF y u x o)
 | .geq=>some (a,leF y u x o)
abbrev z9 (ν:List Int) (a':AS) (s:St) (v:Vl) (W:(D->Prop)->Prop):Prop:=∃e d,a'.ok (ν++e) s/\v.has (ν++e) d/\∀kk:D->Prop,kk d->W kk
theorem z9.same {d:D} (h:a.ok ν s) (C:v.has ν d) (G:∀kk:D->Prop,kk d->W kk):z9 ν a s v W:=⟨[],d,by grind,C.ext [],G⟩
theorem Mu {e:Int} (h1:k.min<=e) (h2:e<=k.max):k.wrap e=e:=by
 unfold IntKind.wrap
 cases k<;>simp only[IntKind.min,IntKind.max,IntKind.bits,IntKind.signed,if_true,QzV,if_false,QAA,Bool.false_and]at h1 h2 ⊢<;>first
  |omega
  |(grind)
theorem Zz (k:IntKind) (n:Int):k.min<=k.wrap n/\k.wrap n<=k.max:=by
 cases k<;>simp only[IntKind.wrap,IntKind.min,IntKind.max,IntKind.bits,IntKind.signed]<;>simp<;>(try split)<;>omega
section
variable {ν:List Int} {a:AS} {s:St} (h:a.ok ν s) {k:IntKind} {x y:Nat} {o u m n:Int}
include h
theorem Q9 {r:Int} (h1:lo<=r) (h2:r<=hi) (C:v7 (ν++[r]) cs) (hw:∀kk:D->Prop,kk (.int k r)->W kk):z9 ν (RS a k lo hi cs).1 s (RS a k lo hi cs).2 W:=
 let⟨q1,q2⟩:=Qmy h h1 h2 C
 ⟨[r],_,q1,q2,hw⟩
theorem LN (hm:x6 ν x o m) (hw:∀kk:D->Prop,kk (.int k (k.wrap m))->W kk):z9 ν (Qms a k x o).1 s (Qms a k x o).2 W:=by
 unfold Qms;split;rename_i hi;obtain⟨h1,h2⟩:=QpF h hi hm;rw[Mu h1 h2]at hw;exact z9.same h ⟨m,rfl,hm⟩ hw;exact Q9 h (Zz k _).1 (Zz k _).2 QL hw
theorem QkY (hm:x6 ν x o m) (C:x6 ν y u n):z9 ν (Qoc a k x o y u).1 s (Qoc a k x o y u).2 (λkk=>kk (.int k (k.wrap (m+n)))):=by
 unfold Qoc;split;rename_i e;have:=QA6 e;subst this;obtain⟨w,h1,rfl⟩:=C;rw[h.z]at h1;cases h1;obtain⟨v,h2,rfl⟩:=hm;exact LN h ⟨v,h2,Wa⟩ λkk q=>q;split;rename_i e;have:=QA6 e;subst this;obtain⟨w,h1,rfl⟩:=hm;rw[h.z]at h1;cases h1;obtain⟨v,h2,rfl⟩:=C;exact LN h ⟨v,h2,Wa⟩ λkk q=>q;split;rename_i l1 h1 l2 h2 e1 e2;have O:=Yy h e1 hm;have M:=Yy h e2 C;split;rename_i G;rw[Mu (k:=k) (e:=m+n) Wa Wa];exact Q9 h Wa Wa QL λkk q=>q;exact Q9 h (Zz k _).1 (Zz k _).2 QL λkk q=>q;exact Q9 h (Zz k _).1 (Zz k _).2 QL λkk q=>q
theorem Qgt (hm:x6 ν x o m) (C:x6 ν y u n):z9 ν (QnQ a k x o y u).1 s (QnQ a k x o y u).2 (λkk=>kk (.int k (k.wrap (m - n)))):=by
 unfold QnQ;split;rename_i e;have:=QA6 e;subst this;obtain⟨w,h1,rfl⟩:=C;rw[h.z]at h1;cases h1;obtain⟨v,h2,rfl⟩:=hm;exact LN h ⟨v,h2,Wa⟩ λkk q=>q;split;rename_i l1 h1 l2 h2 e1 e2;have Y:=Yy h e1 hm;have V:=Yy h e2 C;split;rename_i T;rw[Mu (k:=k) (e:=m - n) Wa Wa];refine Q9 h Wa Wa (λc G=>?_) λkk q=>q;obtain⟨v,O,U⟩:=hm.ext [m - n];have M:=h.new (m - n);simp only[QzP,QzO,or_false]at G;rcases G with rfl |rfl
 exact⟨_,_,M,O,by grind⟩;exact⟨_,_,O,M,by grind⟩;exact Q9 h (Zz k _).1 (Zz k _).2 QL λkk q=>q;exact Q9 h (Zz k _).1 (Zz k _).2 QL λkk q=>q
theorem Qmv (hm:x6 ν x o m) (M:x6 ν y u n):z9 ν (Qoq a k x o y u).1 s (Qoq a k x o y u).2 (λkk=>kk (.int k (k.wrap (m*n)))):=by
 unfold Qoq;split;rename_i l1 h1 l2 h2 e1 e2;have G:=Yy h e1 hm;have C:=Yy h e2 M;split;rename_i O;have p0:0<=m*n:=Int.mul_nonneg Wa Wa;have p1:m*n<=h1*h2:=Int.mul_le_mul G.2 C.2 Wa Wa;have p2:l1*l2<=m*n:=Int.mul_le_mul G.1 C.1 O.2.1 Wa;rw[Mu (k:=k) (e:=m*n) Wa Wa];exact Q9 h p2 p1 QL λkk q=>q;exact Q9 h (Zz k _).1 (Zz k _).2 QL λkk q=>q;exact Q9 h (Zz k _).1 (Zz k _).2 QL λkk q=>q
theorem Qlh {op:BinOp} {a':AS} (he:QsG a op k x o y u=some (a',v)) (hm:x6 ν x o m) (C:x6 ν y u n):z9 ν a' s v (QcP op k m n):=by
 cases op<;>simp only[QsG]at he
 case add=>
  have e:=QA1 he;rw[<- show(Qoc a k x o y u).1=a' from congrArg Prod.fst e,<- show(Qoc a k x o y u).2=v from congrArg Prod.snd e];exact QkY h hm C
 case sub=>
  have e:=QA1 he;rw[<- show(QnQ a k x o y u).1=a' from congrArg Prod.fst e,<- show(QnQ a k x o y u).2=v from congrArg Prod.snd e];exact Qgt h hm C
 case mul=>
  have e:=QA1 he;rw[<- show(Qoq a k x o y u).1=a' from congrArg Prod.fst e,<- show(Qoq a k x o y u).2=v from congrArg Prod.snd e];exact Qmv h hm C
 case quo=>
  split at he;rename_i q;have h1:=Qm h.cs q (YU h.z 1) C;have h0:n≠0:=Wa;split at he;rename_i l hi e;have b:=Yy h e hm;split at he;rename_i M;have p0:0<=m.tdiv n:=Int.tdiv_nonneg Wa Wa
  have p1:m.tdiv n<=m:=by
   rw[Int.tdiv_eq_ediv_of_nonneg Wa];exact Int.ediv_le_self n Wa
  split at he;rename_i G;cases he
  have G:=QA6 G;subst G
  have hu:n=u:=by
   obtain⟨w,O,V⟩:=C;rw[h.z]at O;grind
  subst hu;have p2:m.tdiv n=m / n:=Int.tdiv_eq_ediv_of_nonneg Wa;have p3:l / n<=m / n:=Int.ediv_le_ediv Wa b.1;have Y:m / n<=hi / n:=Int.ediv_le_ediv Wa b.2;refine Q9 h (r:=m.tdiv n) Wa Wa QL λkk q=>⟨h0, ?_⟩
  grind [Mu]
  cases he
  refine Q9 h p0 Wa QL λkk q=>⟨h0, ?_⟩
  grind [Mu]
  cases he;exact z9.same h ⟨_,rfl⟩ λkk q=>⟨h0,q⟩
  cases he;exact z9.same h ⟨_,rfl⟩ λkk q=>⟨h0,q⟩
  grind
 case rem=>
  split at he;rename_i q;have h1:=Qm h.cs q (YU h.z 1) C;have h0:n≠0:=Wa
  have lo:1 - n<=m.tmod n:=by
   have h2:=Int.natAbs_tmod m n;have T:m.natAbs % n.natAbs<n.natAbs:=Nat.mod_lt _ Wa;omega
  have hi:m.tmod n<=n - 1:=by
   have h2:=Int.natAbs_tmod m n;have T:m.natAbs % n.natAbs<n.natAbs:=Nat.mod_lt _ Wa;omega
  split at he;rename_i l _ _ M e1 e2;have b1:=Yy h e1 hm;have U:=Yy h e2 C;split at he;cases he
  have:0<=m.tmod n:=Int.tmod_nonneg _ Wa;exact Q9 h Wa Wa QL λkk q=>⟨h0,q⟩;cases he
  exact Q9 h Wa Wa QL λkk q=>⟨h0,q⟩;rename_i _ M e2 _;have U:=Yy h e2 C;cases he
  exact Q9 h Wa Wa QL λkk q=>⟨h0,q⟩;cases he;exact z9.same h ⟨_,rfl⟩ λkk q=>⟨h0,q⟩
  grind
 case and=>cases he;exact Q9 h (r:=Ju .and k m n) (Zz k _).1 (Zz k _).2 QL λkk q=>q
 case or=>cases he;exact Q9 h (r:=Ju .or k m n) (Zz k _).1 (Zz k _).2 QL λkk q=>q
 case xor=>cases he;exact Q9 h (r:=Ju .xor k m n) (Zz k _).1 (Zz k _).2 QL λkk q=>q
 case andNot=>cases he;exact Q9 h (r:=Ju .andNot k m n) (Zz k _).1 (Zz k _).2 QL λkk q=>q
 case shl=>
  split at he;rename_i q;cases he;exact z9.same h ⟨_,rfl⟩ λkk p=>⟨Qm h.cs q (YU h.z 0) C,p⟩
  grind
 case shr=>
  split at he;rename_i q;cases he;exact z9.same h ⟨_,rfl⟩ λkk p=>⟨Qm h.cs q (YU h.z 0) C,p⟩
  grind
 case eql=>
  cases he
  exact z9.same h ⟨decide (m=n),rfl,λe=>QjK hm C (of_decide_eq_true e),λe=>Qj3 h hm C (of_decide_eq_false e)⟩ λkk q=>q
 case neq=>
  cases he
  refine z9.same h ⟨!decide (m=n),rfl,λe=>Qj3 h hm C ?_,λe=>QjK hm C ?_⟩ λkk q=>q
  grind
  grind
 case lss=>cases he;exact z9.same h (QjU hm C) λkk q=>q
 case leq=>cases he;exact z9.same h (QjT hm C) λkk q=>q
 case gtr=>cases he;exact z9.same h (QjU C hm) λkk q=>q
 case geq=>cases he;exact z9.same h (QjT C hm) λkk q=>q
end
end Go.Abs
namespace Go.Abs
open Go
variable {a:AS} {d:D} {s:St} {v:Vl} {ν:List Int}
mutual
def Qbf (a:AS):Vl->Tp->Bool
 | .ty t2,t=>t2.le t
 | .nn k x o,t=>match t with
  | .i k2 lo hi=>decide (k=k2)&&(XO a.cs 0 lo x o&&XO a.cs x o 0 hi)
  |_=>false
 | .bf _ _,t=>match t with
  | .b=>true
  |_=>false
 | .ss x o,t=>match t with
  | .s n=>XO a.cs x o 0 n
  |_=>false
 | .ll row x o,t=>match t with
  | .l row2 n=>(XO a.cs x o 0 0||Tp.ib row row2)&&XO a.cs x o 0 n
  | .lm row2 n=>Tp.ib row row2&&(XO a.cs 0 1 x o&&XO a.cs x o 0 n)
  |_=>false
 | .fl rows,t=>match t with
  | .l row n=>Nat.ble rows.length n&&Rl a rows row
  | .lm row n=>Nat.ble 1 rows.length&&(Nat.ble rows.length n&&Rl a rows row)
  |_=>false
 | .fx rows,t=>match t with
  | .l row n=>Nat.ble rows.length n&&Rl a rows row
  | .lm row n=>Nat.ble 1 rows.length&&(Nat.ble rows.length n&&Rl a rows row)
  |_=>false
 | .ei k lo hi _,t=>match t with
  | .i k2 lo2 hi2=>decide (k=k2)&&(decide (lo2<=lo)&&decide (hi<=hi2))
  |_=>false
 |_,_=>false
def Qdw (a:AS):List Vl->List Tp->Bool
 |[],ts=>match ts with
  |[]=>true
  |_=>false
 |v::vs,ts=>match ts with
  |t::ts=>Qbf a v t&&Qdw a vs ts
  |_=>false
def Rl (a:AS):List (List Vl)->List Tp->Bool
 |[],_=>true
 |r::rs,ts=>Qdw a r ts&&Rl a rs ts
end
section
variable {ν:List Int} {a:AS} {s:St} (h:a.ok ν s)
include h
mutual
theorem Qbg:∀{v:Vl} {t:Tp} {d:D},Qbf a v t=true->v.has ν d->t.has d
 | .ty t2,t,d,C,hv=>Tp.mb C hv
 | .nn k x o,t,d,C,hv=>by
  unfold Qbf at C;split at C;simp only[QzR,decide_eq_true_eq]at C;obtain⟨n,rfl,h1⟩:=hv;obtain⟨rfl,h2,G⟩:=C;exact⟨n,rfl,Qm h.cs h2 (YU h.z _) h1,Qm h.cs G h1 (YU h.z _)⟩
  grind
 | .bf _ _,t,d,C,hv=>by
  unfold Qbf at C;split at C;obtain⟨b,rfl,_⟩:=hv;exact⟨b,rfl⟩
  grind
 | .ss x o,t,d,C,hv=>by
  unfold Qbf at C;split at C;obtain⟨l,rfl,h1⟩:=hv;have:=Qm h.cs C h1 (YU h.z _);exact⟨l,rfl,Wa⟩
  grind
 | .ll row x o,t,d,C,hv=>by
  unfold Qbf at C;split at C;simp only[QzR,QAT]at C;obtain⟨rows,h0,h1,h2⟩:=hv;have:=Qm h.cs C.2 h1 (YU h.z _);refine⟨rows,h0,Wa,λr hr=>?_⟩;rcases C.1 with q |q
  have:=Qm h.cs q h1 (YU h.z _)
  grind
  grind [Tp.n7]
  simp only[QzR]at C;obtain⟨rows,h0,h1,h2⟩:=hv;have O:=Qm h.cs C.2.1 (YU h.z _) h1;have M:=Qm h.cs C.2.2 h1 (YU h.z _);exact⟨rows,h0,⟨Wa,Wa⟩,λr hr=>Tp.n7 C.1 (h2 r hr)⟩
  grind
 | .fl rows,t,d,C,hv=>by
  unfold Qbf at C;split at C;simp only[QzR]at C;obtain⟨rs,rfl,h1⟩:=hv;obtain⟨h2,G⟩:=Y2 C.2 h1;exact⟨rs,.inr rfl,by simp_all,h2⟩;simp only[QzR]at C;obtain⟨rs,rfl,h1⟩:=hv;obtain⟨h2,G⟩:=Y2 C.2.2 h1;exact⟨rs,.inr rfl,⟨by rw[G];exact QzN C.1,by rw[G];exact QzN C.2.1⟩,h2⟩
  grind
 | .fx rows,t,d,C,hv=>by
  unfold Qbf at C;split at C;simp only[QzR]at C;obtain⟨rs,hd,h1⟩:=hv;obtain⟨h2,G⟩:=Y2 C.2 h1;exact⟨rs,hd,by simp_all,h2⟩;simp only[QzR]at C;obtain⟨rs,hd,h1⟩:=hv;obtain⟨h2,G⟩:=Y2 C.2.2 h1;exact⟨rs,hd,⟨by rw[G];exact QzN C.1,by rw[G];exact QzN C.2.1⟩,h2⟩
  grind
 | .ei k lo hi tt,t,d,C,hv=>by
  unfold Qbf at C;split at C;simp only[QzR,decide_eq_true_eq]at C;obtain⟨n,rfl,h1,_⟩:=hv;obtain⟨rfl,h2,G⟩:=C;exact⟨n,rfl,Wa,Wa⟩
  grind
 | .tp _ _,_,_,C,_=>by cases C
 | .pv _,_,_,C,_=>by cases C
 | .ii _,_,_,C,_=>by cases C
 | .ld _ _ _ _ _,_,_,C,_=>by cases C
 | .lf _ _ _,_,_,C,_=>by cases C
 | .oo _ _ _,_,_,C,_=>by cases C
 | .rr _ _,_,_,C,_=>by cases C
 | .qq _ _ _ _,_,_,C,_=>by cases C
 | .pp _,_,_,C,_=>by cases C
 | .aa _,_,_,C,_=>by cases C
 | .uu _,_,_,C,_=>by cases C
 | .dd _,_,_,C,_=>by cases C
theorem Ln:∀{vs:List Vl} {ts:List Tp} {ds:List D},Qdw a vs ts=true->Vl.n4 ν vs ds->Tp.u3 ts ds
 |[],ts,ds,hf,hd=>by
  grind [Qdw,Vl.n4,Tp.u3]
 |v::vs,ts,ds,hf,hd=>by
  unfold Qdw at hf;split at hf;simp only[QzR]at hf;obtain⟨d,r,rfl,h1,h2⟩:=hd;exact⟨d,r,rfl,Qbg hf.1 h1,Ln hf.2 h2⟩
  grind
theorem Y2:∀{rows:List (List Vl)} {ts:List Tp} {rs:List (List D)},Rl a rows ts=true->Vl.k7 ν rows rs->(∀r∈rs,Tp.u3 ts r)/\rs.length=rows.length
 |[],ts,rs,hf,hd=>by
  simp only[Vl.k7]at hd;grind
 |v::vs,ts,rs,hf,hd=>by
  simp only[Rl,QzR]at hf;obtain⟨d,r,rfl,h1,h2⟩:=hd;obtain⟨M,G⟩:=Y2 hf.2 h2;have C:=Ln hf.1 h1
  grind
end
end
theorem Lp {t:Tp} (h:a.ok ν s) (G:Qbf a v t=true) (C:v.has ν d):t.has d:=Qbg h G C
theorem BX (h:a.ok ν s) {vs:List Vl} {ts:List Tp} {ds:List D} (C:Qdw a vs ts=true) (hd:Vl.n4 ν vs ds):Tp.u3 ts ds:=Ln h C hd
mutual
def Qwh (a:AS):Vl->Option Tp
 | .ty t=>some t
 | .nn k x o=>(match bdN a x o with
  |some (l,h)=>some (.i k l h)
  |none=>none)
 | .bf _ _=>some .b
 | .ss x o=>(match bdN a x o with
  |some (_,h)=>some (.s h.toNat)
  |none=>none)
 | .ll row x o=>(match bdN a x o with
  |some (l,h)=>some (if 0<l then .lm row h.toNat else .l row h.toNat)
  |none=>none)
 | .fl rows=>(match rows with
  |[]=>some (.l [] 0)
  |_=>(match Qkh a rows with
   |some r=>some (.lm r rows.length)
   |none=>none))
 | .fx rows=>(match rows with
  |[]=>some (.l [] 0)
  |_=>(match Qkh a rows with
   |some r=>some (.lm r rows.length)
   |none=>none))
 |_=>none
def QnV (a:AS):List Vl->Option (List Tp)
 |[]=>some []
 |v::vs=>match Qwh a v,QnV a vs with
  |some t,some ts=>some (t::ts)
  |_,_=>none
def Qkh (a:AS):List (List Vl)->Option (List Tp)
 |[]=>none
 |q::qs=>match QnV a q with
  |some r=>(match Qkh a qs with
   |some r2=>Tp.fg r r2
   |none=>(match qs with
    |[]=>some r
    |_=>none))
  |none=>none
end
def Qhi (a:AS):Vl->Option (List Tp × Nat × Int × AS)
 | .fl rows=>(match rows with
  |[]=>some ([],0,0,a)
  |_=>(match Qkh a rows with
   |some r=>if Rl a rows r=true then some (r,0,rows.length,a)else none
   |none=>none))
 | .fx rows=>(match rows with
  |[]=>some ([],0,0,a)
  |_=>(match Qkh a rows with
   |some r=>if Rl a rows r=true then some (r,0,rows.length,a)else none
   |none=>none))
 | .ld row hx ho lx lo=>some (row,a.nx,0,a.sym ((0,a.nx,0)::(match lbC a.cs fuC lx with
  |some m=>[(a.nx,hx,ho - (m+lo))]
  |none=>[])))
 | .lf row x o=>some (row,x,o,a)
 |v=>toL a v
theorem Yp {a':AS} {row:List Tp} {x:Nat} {o:Int} (h:a.ok ν s) (he:Qhi a v=some (row,x,o,a')) (C:v.has ν d):∃e rows,isL d rows/\x6 (ν++e) x o rows.length/\(∀r∈rows,Tp.u3 row r)/\a'.ok (ν++e) s:=by
 unfold Qhi at he;split at he;split at he;cases he
 obtain⟨rs,rfl,hr⟩:=C;simp only[Vl.k7]at hr;subst hr;exact⟨[],[],.inr rfl,by rw[QAj];exact YU h.z _,(λr hr=>by grind),by grind⟩
 split at he;split at he;rename_i O;cases he
 obtain⟨rs,rfl,hr⟩:=C;obtain⟨h1,h2⟩:=Y2 h O hr;exact⟨[],rs,.inr rfl,by rw[QAj,h2];exact YU h.z _,h1,by grind⟩
 grind
 grind
 split at he;cases he
 obtain⟨rs,hd,hr⟩:=C;simp only[Vl.k7]at hr;subst hr;exact⟨[],[],hd,by rw[QAj];exact YU h.z _,(λr hr=>by grind),by grind⟩
 split at he;split at he;rename_i O;cases he
 obtain⟨rs,hd,hr⟩:=C;obtain⟨h1,h2⟩:=Y2 h O hr;exact⟨[],rs,hd,by rw[QAj,h2];exact YU h.z _,h1,by grind⟩
 grind
 grind
 rename_i T hx ho lx lo;cases he
 obtain⟨rows,hd,⟨m,n,h1,h2,h3⟩,Y⟩:=C;have M:=h.new (rows.length:Int);refine⟨[(rows.length:Int)],rows,hd,⟨_,M,Wa⟩,Y,h.sym _ λc G=>?_⟩;have z:=XA [(rows.length:Int)] h.z;rcases QzP.1 G with rfl |G
 exact⟨0,_,z,M,by simp⟩;split at G;rename_i q e1;have G:=QzW.1 G;subst G;obtain⟨v,V,q2⟩:=h1;obtain⟨w,U,q4⟩:=h2;have:=Gd h.cs h.z e1 U;exact⟨_,v,M,XA _ V,by grind⟩
 grind
 cases he
 obtain⟨rows,rfl,h1,h2⟩:=C;exact⟨[],rows,.inr rfl,h1.ext [],h2,by grind⟩
 grind [QgH]
end Go.Abs
namespace Go.Abs
open Go
variable {d:D} {v:Vl} {ν:List Int}
section
variable {ν:List Int}
theorem ZF:∀{vs:List Vl} {ds:List D},Vl.n4 ν vs ds->ds.length=vs.length
 |[],ds,h=>by grind [Vl.n4]
 |v::vs,ds,h=>by obtain⟨d,r,rfl,_,h⟩:=h;simp[ZF h]
theorem KW:∀{vs:List Vl} {ds:List D} {i:Nat} {v:Vl},Vl.n4 ν vs ds->vs[i]?=some v->∃d,ds[i]?=some d/\v.has ν d
 |[],ds,i,v,h,hi=>by grind
 |x::vs,ds,i,v,h,hi=>by
  obtain⟨d,r,rfl,h1,h⟩:=h;cases i with
  |zero=>grind
  |succ i=>simp only[List.getElem?_cons_succ]at hi ⊢;exact KW h hi
theorem Kz:∀{vs:List Vl} {ds:List D} (n:Nat),Vl.n4 ν vs ds->Vl.n4 ν (vs.drop n) (ds.drop n)
 |vs,ds,0,h=>h
 |[],ds,n+1,h=>by grind [Vl.n4]
 |v::vs,ds,n+1,h=>by obtain⟨d,r,rfl,_,h⟩:=h;exact Kz n h
theorem XH:∀{vs:List Vl} {ds:List D} (n:Nat),Vl.n4 ν vs ds->Vl.n4 ν (vs.take n) (ds.take n)
 |vs,ds,0,h=>by rfl
 |[],ds,n+1,h=>by grind [Vl.n4]
 |v::vs,ds,n+1,h=>by obtain⟨d,r,rfl,h1,h⟩:=h;exact⟨d,_,rfl,h1,XH n h⟩
theorem Ng:∀{vs ws:List Vl} {ds es:List D},Vl.n4 ν vs ds->Vl.n4 ν ws es->Vl.n4 ν (vs++ws) (ds++es)
 |[],ws,ds,es,h,h2=>by grind [Vl.n4]
 |v::vs,ws,ds,es,h,h2=>by obtain⟨d,r,rfl,h1,h⟩:=h;exact⟨d,_,rfl,h1,Ng h h2⟩
theorem Lz:∀{ts:List Tp} {ds:List D},Tp.u3 ts ds->Vl.n4 ν (ts.map Vl.ty) ds
 |[],ds,h=>h
 |t::ts,ds,h=>by obtain⟨d,r,rfl,h1,h⟩:=h;exact⟨d,r,rfl,h1,Lz h⟩
theorem Qbp (z:ν[0]?=some 0):∀(ds:List D),Vl.n4 ν (ds.map cVl) ds
 |[]=>rfl
 |d::ds=>⟨d,ds,rfl,DX z d,Qbp z ds⟩
theorem Ni:∀{ts:List Tp} {ds:List D} (n:Nat),Tp.u3 ts ds->Tp.u3 (ts.drop n) (ds.drop n)
 |ts,ds,0,h=>h
 |[],ds,n+1,h=>by grind [Tp.u3]
 |v::vs,ds,n+1,h=>by obtain⟨d,r,rfl,_,h⟩:=h;exact Ni n h
theorem Cr:∀{ts:List Tp} {ds:List D} (n:Nat),Tp.u3 ts ds->Tp.u3 (ts.take n) (ds.take n)
 |ts,ds,0,h=>by rfl
 |[],ds,n+1,h=>by grind [Tp.u3]
 |v::vs,ds,n+1,h=>by obtain⟨d,r,rfl,h1,h⟩:=h;exact⟨d,_,rfl,h1,Cr n h⟩
theorem Cp {vs:List Vl} {ds:List D} (h:Vl.n4 ν vs ds) (C:vs.head?=some v):∃d,ds.head?=some d/\v.has ν d:=by
 cases vs with
 |nil=>grind
 |cons x vs=>obtain⟨d,r,rfl,h1,_⟩:=h;grind
end
def Qoh:Vl->Option (List Vl)
 | .aa cs=>some cs
 | .ty t=>some [.ty t]
 | .nn k x o=>some [.nn k x o]
 | .ii k=>some [.ii k]
 | .bf t f=>some [.bf t f]
 | .ss x o=>some [.ss x o]
 | .ll r x o=>some [.ll r x o]
 | .fl r=>some [.fl r]
 | .fx r=>some [.fx r]
 | .lf r x o=>some [.lf r x o]
 | .pv r=>some [.pv r]
 | .oo k x o=>some [.oo k x o]
 | .rr k o=>some [.rr k o]
 | .qq k x o j=>some [.qq k x o j]
 | .pp c=>some [.pp c]
 |_=>none
theorem Qi8 {t:Tp} (h:t.has d):d.cells=some [d]:=by
 cases t<;>simp only[Tp.has]at h<;>obtain⟨_,h⟩:=h
 obtain⟨rfl,_⟩:=h;rfl;subst h;rfl;obtain⟨rfl,_⟩:=h;rfl;obtain⟨_,rfl⟩:=h;rfl;obtain⟨h,_⟩:=h;rcases h with rfl |rfl<;>rfl
 obtain⟨h,_⟩:=h;rcases h with rfl |rfl<;>rfl
 obtain⟨h,_⟩:=h;rcases h with rfl |rfl<;>rfl
theorem Lf {cs:List Vl} (G:Qoh v=some cs) (h:v.has ν d):∃ds,d.cells=some ds/\Vl.n4 ν cs ds:=by
 have one:∀{v:Vl},v.has ν d->d.cells=some [d]->∃ds,d.cells=some ds/\Vl.n4 ν [v] ds:=λh e=>⟨[d],e,d,[],rfl,h,rfl⟩;cases v<;>simp only[Qoh,QzQ,reduceCtorEq]at G<;>subst G
 case aa=>obtain⟨ds,rfl,h⟩:=h;exact⟨ds,rfl,h⟩
 case ty=>exact one h (Qi8 h)
 case nn=>have C:=h;obtain⟨n,rfl,_⟩:=C;exact one h rfl
 case ii=>have C:=h;obtain⟨n,rfl⟩:=C;exact one h rfl
 case bf=>have C:=h;obtain⟨n,rfl,_⟩:=C;exact one h rfl
 case ss=>have C:=h;obtain⟨n,rfl,_⟩:=C;exact one h rfl
 case ll=>have C:=h;obtain⟨n,C,_⟩:=C;rcases C with rfl |rfl<;>exact one h rfl
 case fl=>have C:=h;obtain⟨n,rfl,_⟩:=C;exact one h rfl
 case lf=>have C:=h;obtain⟨n,rfl,_⟩:=C;exact one h rfl
 case oo=>have C:=h;obtain⟨n,rfl,_⟩:=C;exact one h rfl
 case rr=>have C:=h;simp only[Vl.has]at C;subst C;exact one h rfl
 case qq=>have C:=h;obtain⟨n,rfl,_⟩:=C;exact one h rfl
 case pp=>have C:=h;obtain⟨n,rfl,_⟩:=C;exact one h rfl
 case pv=>have C:=h;obtain⟨n,rfl,_⟩:=C;exact one h rfl
 case fx=>have C:=h;obtain⟨n,C,_⟩:=C;rcases C with rfl |rfl<;>exact one h rfl
def QjQ:Vl->Option IntKind
 | .nn k _ _=>some k
 | .ii k=>some k
 | .ty (.i k _ _)=>some k
 |_=>none
theorem LF {k:IntKind} (h:v.has ν d) (hk:QjQ v=some k):∃n,d=.int k n:=by
 unfold QjQ at hk;split at hk<;>cases hk;obtain⟨n,h,_⟩:=h;grind;trivial;obtain⟨n,h,_⟩:=h;grind
def Qdv:Vl->Bool
 | .bf _ _=>true
 | .ty .b=>true
 |_=>false
theorem KP (h:v.has ν d) (hk:Qdv v=true):∃b,d=.bool b:=by
 unfold Qdv at hk;split at hk;obtain⟨n,h,_⟩:=h;grind;trivial
 grind
def QnP:Vl->Bool
 | .ss _ _=>true
 | .ty (.s _)=>true
 | .ty (.c _)=>true
 |_=>false
theorem Dg (h:v.has ν d) (hk:QnP v=true):∃l,d=.str l:=by
 unfold QnP at hk;split at hk;obtain⟨n,h,_⟩:=h;grind;obtain⟨n,h,_⟩:=h;grind;obtain⟨n,_,h⟩:=h;grind
 grind
def anyB:Vl:=.bf [] []
theorem Fp (b:Bool):anyB.has ν (.bool b):=⟨b,rfl,λ_=>QL,λ_=>QL⟩
def Qol:List Nat->List Vl->List Vl->Bool
 |[],[],[]=>true
 |0::ks,v::vs,w::ws=>(match QjQ v,QjQ w with
  |some k,some j=>decide (k=j)
  |_,_=>false)&&Qol ks vs ws
 |1::ks,v::vs,w::ws=>(Qdv v&&Qdv w)&&Qol ks vs ws
 |2::ks,v::vs,w::ws=>(QnP v&&QnP w)&&Qol ks vs ws
 |_,_,_=>false
theorem Ll {ν:List Int}:∀{ks:List Nat} {vs ws:List Vl} {xs ys:List D},Qol ks vs ws=true->Vl.n4 ν vs xs->Vl.n4 ν ws ys->∃b,KJ ks xs ys=some b
 |ks,vs,ws,xs,ys,h,hx,C=>by
  unfold Qol at h;split at h;simp only[Vl.n4]at hx C;subst hx C;trivial;obtain⟨d,r,rfl,h1,hx⟩:=hx;obtain⟨e,q,rfl,h2,C⟩:=C;simp only[QzR]at h;obtain⟨b,hb⟩:=Ll h.2 hx C;have hk:=h.1;split at hk;rename_i k j e1 e2;obtain⟨m,rfl⟩:=LF h1 e1;obtain⟨n,rfl⟩:=LF h2 e2;exact⟨decide (m=n)&&b,by simp_all [KJ]⟩
  grind
  obtain⟨d,r,rfl,h1,hx⟩:=hx;obtain⟨e,q,rfl,h2,C⟩:=C;simp only[QzR]at h;obtain⟨b,hb⟩:=Ll h.2 hx C;obtain⟨m,rfl⟩:=KP h1 h.1.1;obtain⟨n,rfl⟩:=KP h2 h.1.2
  grind [KJ]
  obtain⟨d,r,rfl,h1,hx⟩:=hx;obtain⟨e,q,rfl,h2,C⟩:=C;simp only[QzR]at h;obtain⟨b,hb⟩:=Ll h.2 hx C;obtain⟨m,rfl⟩:=Dg h1 h.1.1;obtain⟨n,rfl⟩:=Dg h2 h.1.2
  grind [KJ]
  grind
variable {a a':AS} {bt:Bool} {e:D} {op:BinOp} {p q:Vl} {s:St}
abbrev u7 (ν:List Int) (a':AS) (s:St) (v:Vl) (op:z5):Prop:=∃e d,a'.ok (ν++e) s/\v.has (ν++e) d/\∀(P:Program) (dr:Bool) (dst:Option Nat) (k:St->Prop),k (s.apply dst d none)->step P dr op dst s k
theorem u7.same {op:z5} (h:a.ok ν s) (C:v.has ν d) (G:∀(P:Program) (dr:Bool) (dst:Option Nat) (k:St->Prop),k (s.apply dst d none)->step P dr op dst s k):u7 ν a s v op:=⟨[],d,by grind,C.ext [],G⟩
theorem u7.more {e:List Int} {op:z5} (h:u7 (ν++e) a s v op):u7 ν a s v op:=by
 grind
theorem u7.bc {op:z5} {W:(D->Prop)->Prop} (h:z9 ν a s v W) (C:∀(P:Program) (dr:Bool) (dst:Option Nat) (k:St->Prop),W (λd=>k (s.apply dst d none))->step P dr op dst s k):u7 ν a s v op:=by
 grind
def Qk7 (cs:List Cn):Bool:=cs.any λc=>Nat.beq c.1 0&&(Nat.beq c.2.1 0&&decide (c.2.2<0))
theorem P0 {cs:List Cn} (z:ν[0]?=some 0) (h:Qk7 cs=true):¬v7 ν cs:=λC=>by
 simp only[Qk7,QAW,QzR,decide_eq_true_eq]at h;obtain⟨c,h1,h2,U,T⟩:=h;obtain⟨a,b,O,M,G⟩:=C c h1
 grind [Nat.eq_of_beq_eq_true]
def QbA:Vl->Option Bool
 | .bf t f=>if Qk7 f=true then some true else if Qk7 t=true then some false else none
 |_=>none
theorem RB {b:Bool} (z:ν[0]?=some 0) (h:v.has ν d) (hk:QbA v=some b):d=.bool b:=by
 unfold QbA at hk;split at hk;obtain⟨c,rfl,h1,h2⟩:=h;split at hk;rename_i e;cases hk
 cases c
 exact absurd (h2 rfl) (P0 z e);rfl;split at hk;rename_i e;cases hk
 cases c
 rfl;exact absurd (h1 rfl) (P0 z e)
 grind
 grind
def Qi2 (a:AS) (x:Nat) (o:Int) (y:Nat) (u:Int):Nat × Int × AS:=
 if Nat.beq y 0=true then(x,o+u,a)
 else if Nat.beq x 0=true then(y,o+u,a)
 else(a.nx,0,a.sym ((match bdN a y u with
  |some (l,h)=>[(a.nx,x,o+h),(x,a.nx, -(o+l))]
  |none=>[])++(match bdN a x o with
  |some (l,h)=>[(a.nx,y,u+h),(y,a.nx, -(u+l))]
  |none=>[])))
theorem Qax {x y:Nat} {o u m n:Int} (h:a.ok ν s) (hm:x6 ν x o m) (G:x6 ν y u n):∃e,x6 (ν++e) (Qi2 a x o y u).1 (Qi2 a x o y u).2.1 (m+n)/\(Qi2 a x o y u).2.2.ok (ν++e) s:=by
 unfold Qi2;split;rename_i e;have:=QA6 e;subst this;obtain⟨w,h1,rfl⟩:=G;rw[h.z]at h1;cases h1;obtain⟨v,h2,rfl⟩:=hm;exact⟨[],⟨v,by grind,by grind⟩,by grind⟩;split;rename_i e;have:=QA6 e;subst this;obtain⟨w,h1,rfl⟩:=hm;rw[h.z]at h1;cases h1;obtain⟨v,h2,rfl⟩:=G;exact⟨[],⟨v,by grind,by grind⟩,by grind⟩;have hw:=h.new (m+n);obtain⟨v,h2,e2⟩:=hm.ext [m+n];obtain⟨w,M,e3⟩:=G.ext [m+n];refine⟨[m+n],⟨_,hw,(Int.add_zero _).symm⟩,h.sym _ (v7.app ?_ ?_)⟩;split;rename_i l hi e;have b:=Yy h e G;intro c C;simp only[QzP,QzO,or_false]at C;rcases C with rfl |rfl
 exact⟨_,_,hw,h2,by grind⟩;exact⟨_,_,h2,hw,by grind⟩;exact QL;split;rename_i l hi e;have b:=Yy h e hm;intro c C;simp only[QzP,QzO,or_false]at C;rcases C with rfl |rfl
 exact⟨_,_,hw,M,by grind⟩;exact⟨_,_,M,hw,by grind⟩;exact QL
def Qlc (a:AS) (op:BinOp) (bt:Bool) (p q:Vl):Option (AS × Vl):=
 match toN a p with
 |some (k,x,o,a1)=>match toN a1 q with
  |some (j,y,u,a2)=>if Mi op=true\/k=j then QsG a2 op k x o y u else none
  |none=>none
 |none=>if QnP p=true/\QnP q=true then(match op with
   | .add=>match qf a p with
    |some (x,o,a1)=>match qf a1 q with
     |some (y,u,a2)=>match bdN a2 x o,bdN a2 y u with
      |some (_,h1),some (_,h2)=>if h1+h2<=9223372036854775807 then some ((Qi2 a2 x o y u).2.2,.ss (Qi2 a2 x o y u).1 (Qi2 a2 x o y u).2.1)else none
      |_,_=>none
     |none=>none
    |none=>none
   | .eql | .neq | .lss | .leq | .gtr | .geq=>some (a,anyB)
   |_=>none)
  else if Qdv p=true/\Qdv q=true/\bt=true then(match op with
   | .eql | .neq=>some (a,anyB)
   |_=>none)
  else none
theorem QhE (h:a.ok ν s) (he:Qlc a op bt p q=some (a',v)) (hp:p.has ν d) (G:q.has ν e):z9 ν a' s v (QdX op bt d e):=by
 unfold Qlc at he;split at he;rename_i k x o a1 e1;split at he;rename_i j y u a2 e2;split at he;rename_i C;obtain⟨f1,m,rfl,h1,h2⟩:=Zd h e1 hp;obtain⟨f2,n,rfl,h3,h4⟩:=Zd h2 e2 (G.ext f1);obtain⟨f3,r,h5,h6,h7⟩:=Qlh h4 he (h1.ext f2) h3;refine⟨f1++(f2++f3),r,by grind,by grind,λkk hk=>⟨C,h7 kk hk⟩⟩
 grind
 grind
 split at he
 ·rename_i C;obtain⟨l1,rfl⟩:=Dg hp C.1;obtain⟨l2,rfl⟩:=Dg G C.2;cases op<;>simp only[reduceCtorEq]at he
  case add=>
   split at he;rename_i x o a1 e1;split at he;rename_i y u a2 e2;split at he;rename_i _ h1 _ h2 V U;split at he;rename_i hh;cases he
   obtain⟨f1,m,em,T,Y⟩:=XK h e1 hp;cases em
   obtain⟨f2,n,en,O,M⟩:=XK Y e2 (G.ext f1);cases en
   have c1:=Yy M V (T.ext f2);have c2:=Yy M U O;obtain⟨f3,q5,q6⟩:=Qax M (T.ext f2) O;refine⟨f1++(f2++f3),.str (l1++l2),by grind,⟨_,rfl, ?_⟩,λkk hk=>⟨Wa,hk⟩⟩
   grind
   grind
   grind
   grind
   grind
  all_goals (cases he;exact z9.same h (Fp _) λkk hk=>hk)
 split at he
 ·rename_i C;obtain⟨V,rfl⟩:=KP hp C.1;obtain⟨U,rfl⟩:=KP G C.2.1;cases op<;>simp only[reduceCtorEq]at he
  all_goals (cases he;exact z9.same h (Fp _) λkk hk=>⟨C.2.2,hk⟩)
 grind
def Qt0 (op:BinOp) (p q:Vl):Option Vl:=
 match op,p,q with
 | .add,.ty (.c l),.ty (.c m)=>if Nat.ble (l.length*m.length) 40=true/\(l.all λx=>m.all λy=>Nat.ble (x.length+y.length) 100000)=true then some (.ty (.c (l.flatMap λx=>m.map λy=>x++y)))else none
 | .eql,.ty (.c l),.ty (.c m)=>if(l.all λx=>!m.contains x)=true then some (.bf [Qg9] [])else(match l,m with
   |[x],[y]=>if x=y then some (.bf [] [Qg9])else none
   |_,_=>none)
 | .neq,.ty (.c l),.ty (.c m)=>if(l.all λx=>!m.contains x)=true then some (.bf [] [Qg9])else(match l,m with
   |[x],[y]=>if x=y then some (.bf [Qg9] [])else none
   |_,_=>none)
 | .eql,.ei k _ _ tt,.nn j 0 0=>if k=j then some (.bf tt [])else none
 | .neq,.ei k _ _ tt,.nn j 0 0=>if k=j then some (.bf [] tt)else none
 |_,_,_=>none
theorem QnR (h:a.ok ν s) (he:Qt0 op p q=some v) (hp:p.has ν d) (T:q.has ν e):z9 ν a s v (QdX op bt d e):=by
 have M:(Vl.bf [] [Qg9]).has ν (.bool true):=⟨true,rfl,λ_=>QL,λh=>by cases h⟩;have O:(Vl.bf [Qg9] []).has ν (.bool false):=⟨false,rfl,(λh=>by cases h),λ_=>QL⟩;unfold Qt0 at he;split at he;rename_i l m;split at he;rename_i Y;cases he
 obtain⟨x,hx,rfl⟩:=hp;obtain⟨y,G,rfl⟩:=T;have hb:=QzN (QzX.1 (QzX.1 Y.2 x hx) y G);exact z9.same h (d:=.str (x++y)) ⟨_,QzU.2 ⟨x,hx,Qz1.2 ⟨y,G,rfl⟩⟩,rfl⟩ λkk hk=>⟨Wa,hk⟩
 grind
 rename_i l m;obtain⟨x,hx,rfl⟩:=hp;obtain⟨y,G,rfl⟩:=T;split at he;rename_i Y;cases he
 have V:¬x=y:=λe=>by grind
 exact z9.same h O λkk hk=>by show kk (.bool (decide (x=y)));grind
 split at he;split at he;rename_i e;cases he
 cases QzW.1 hx;cases QzW.1 G;subst e
 exact z9.same h M λkk hk=>by show kk (.bool (decide (x=x)));grind
 grind
 grind
 rename_i l m;obtain⟨x,hx,rfl⟩:=hp;obtain⟨y,G,rfl⟩:=T;split at he;rename_i Y;cases he
 have V:¬x=y:=λe=>by grind
 exact z9.same h M λkk hk=>by show kk (.bool (!decide (x=y)));grind
 split at he;split at he;rename_i e;cases he
 cases QzW.1 hx;cases QzW.1 G;subst e
 exact z9.same h O λkk hk=>by show kk (.bool (!decide (x=x)));grind
 grind
 grind
 split at he;rename_i hk;cases he
 obtain⟨n,rfl,_,h1⟩:=hp;obtain⟨m,rfl,hm⟩:=T;have hm:m=0:=by obtain⟨z,U,q2⟩:=hm;rw[h.z]at U;grind
 subst hm;exact z9.same h (d:=.bool (decide (n=0))) ⟨_,rfl,λq=>h1 (of_decide_eq_true q),λ_=>QL⟩ λkk C=>⟨.inr hk,C⟩
 grind
 split at he;rename_i hk;cases he
 obtain⟨n,rfl,_,h1⟩:=hp;obtain⟨m,rfl,hm⟩:=T;have hm:m=0:=by obtain⟨z,U,q2⟩:=hm;rw[h.z]at U;grind
 subst hm;exact z9.same h (d:=.bool (!decide (n=0))) ⟨_,rfl,λ_=>QL,λq=>h1 (of_decide_eq_true Wb)⟩ λkk C=>⟨.inr hk,C⟩
 grind
 grind
def QsE (a:AS) (op:BinOp) (bt:Bool) (p q:Vl):Option (AS × Vl):=
 match Qt0 op p q with
 |some v=>some (a,v)
 |none=>Qlc a op bt p q
theorem Qld (h:a.ok ν s) (he:QsE a op bt p q=some (a',v)) (hp:p.has ν d) (C:q.has ν e):z9 ν a' s v (QdX op bt d e):=by
 unfold QsE at he;split at he;rename_i w e1;cases he
 exact QnR h e1 hp C
 grind [QhE]
end Go.Abs
namespace Go.Abs
open Go
variable {a a':AS} {d e:D} {i p v:Vl} {n o:Int} {s:St} {x:Nat} {ν:List Int}
def Qtd (a:AS):Vl->Option (AS × Vl)
 | .oo k x o=>some (a,.nn .i64 x o)
 | .fl rows=>some (a,.nn .i64 0 rows.length)
 |v=>match Qhi a v with
  |some (_,x,o,a1)=>some (a1,.nn .i64 x o)
  |none=>none
theorem Rx {ν:List Int}:∀{vs:List (List Vl)} {rs:List (List D)},Vl.k7 ν vs rs->rs.length=vs.length
 |[],rs,h=>by grind [Vl.k7]
 |v::vs,rs,h=>by obtain⟨d,r,rfl,_,h⟩:=h;simp[Rx h]
theorem Qmb (h:a.ok ν s) (he:Qtd a p=some (a',v)) (hp:p.has ν d):∃e n,Qhf d=some n/\a'.ok (ν++e) s/\v.has (ν++e) (.int .i64 n):=by
 have same:∀{n:Int} {x:Nat} {o:Int},Qhf d=some n->x6 ν x o n->∃e n,Qhf d=some n/\a.ok (ν++e) s/\(Vl.nn .i64 x o).has (ν++e) (.int .i64 n):=λ{n x o} h1 h2=>⟨[],n,h1,by grind,n,rfl,h2.ext []⟩;unfold Qtd at he;split at he;cases he
 obtain⟨n,rfl,h1⟩:=hp;exact same rfl h1;cases he
 obtain⟨rs,rfl,h1⟩:=hp;exact same (n:=(rs.length:Int)) rfl (by rw[Rx h1];exact YU h.z _)
 split at he;rename_i e1;cases he
 obtain⟨f1,rows,h0,h1,_,h2⟩:=Yp h e1 hp;exact⟨f1,rows.length,by rcases h0 with rfl |rfl<;>rfl,h2,rows.length,rfl,h1⟩
 grind
def Qrk (a:AS) (k:IntKind) (x:Nat) (o:Int) (y:Nat) (u:Int):AS × Vl:=
 match bdN a x o,bdN a y u with
 |some (l1,h1),some (l2,h2)=>RS a k (min l1 l2) (min h1 h2) [(a.nx,x,o),(a.nx,y,u)]
 |_,_=>(a,.ii k)
def Qrj (a:AS) (k:IntKind) (x:Nat) (o:Int) (y:Nat) (u:Int):AS × Vl:=
 match bdN a x o,bdN a y u with
 |some (l1,h1),some (l2,h2)=>RS a k (max l1 l2) (max h1 h2) [(x,a.nx, -o),(y,a.nx, -u)]
 |_,_=>(a,.ii k)
section
variable {ν:List Int} {a:AS} {s:St} (h:a.ok ν s) {k:IntKind} {x y:Nat} {o u m n:Int}
include h
theorem Qmr (hm:x6 ν x o m) (C:x6 ν y u n):z9 ν (Qrk a k x o y u).1 s (Qrk a k x o y u).2 (λkk=>kk (.int k (min m n))):=by
 unfold Qrk;split;rename_i l1 h1 l2 h2 e1 e2;have b1:=Yy h e1 hm;have Y:=Yy h e2 C;refine Q9 h Wa Wa (λc G=>?_) λkk q=>q;obtain⟨v,T,V⟩:=hm.ext [min m n];obtain⟨w,O,U⟩:=C.ext [min m n];have M:=h.new (min m n);simp only[QzP,QzO,or_false]at G;rcases G with rfl |rfl
 exact⟨_,_,M,T,by grind⟩;exact⟨_,_,M,O,by grind⟩;exact z9.same h ⟨_,rfl⟩ λkk q=>q
theorem Qmo (hm:x6 ν x o m) (C:x6 ν y u n):z9 ν (Qrj a k x o y u).1 s (Qrj a k x o y u).2 (λkk=>kk (.int k (max m n))):=by
 unfold Qrj;split;rename_i l1 h1 l2 h2 e1 e2;have b1:=Yy h e1 hm;have Y:=Yy h e2 C;refine Q9 h Wa Wa (λc G=>?_) λkk q=>q;obtain⟨v,T,V⟩:=hm.ext [max m n];obtain⟨w,O,U⟩:=C.ext [max m n];have M:=h.new (max m n);simp only[QzP,QzO,or_false]at G;rcases G with rfl |rfl
 exact⟨_,_,T,M,by grind⟩;exact⟨_,_,O,M,by grind⟩;exact z9.same h ⟨_,rfl⟩ λkk q=>q
end
def atA (a:AS):Vl->Option (List Vl)
 | .pp cells=>some (cells.map Vl.ty)
 | .pv cells=>some cells
 | .rr k off=>match lk a.H k with
  |some (.cc cells _ _)=>some (cells.drop off)
  |_=>none
 | .qq k x o off=>match lk a.H k with
  |some (.ww row y u _ _)=>if XO a.cs 0 0 x o=true/\XO a.cs x (o+1) y u=true then some ((row.drop off).map Vl.ty)else none
  |_=>none
 |_=>none
theorem QaM {cs:List Vl} (h:a.ok ν s) (he:atA a p=some cs) (hp:p.has ν d):∃ds,s.ad d=some ds/\Vl.n4 ν cs ds:=by
 unfold atA at he;split at he;cases he
 obtain⟨ds,rfl,h1⟩:=hp;exact⟨ds,rfl,Lz h1⟩;cases he
 obtain⟨ds,rfl,h1⟩:=hp;exact⟨ds,rfl,h1⟩;split at he;rename_i e1;cases he
 obtain⟨b,hb,h1⟩:=RL.get h.H e1;obtain⟨ds,rfl,h2⟩:=h1
 (repeat clear hK K);simp_all [Vl.has,St.ad,Kz]
 grind
 split at he;rename_i e1;split at he;rename_i C;cases he
 obtain⟨b,hb,h1⟩:=RL.get h.H e1;obtain⟨rows,rfl,h2,M⟩:=h1;obtain⟨i,rfl,G⟩:=hp;have O:=Qm h.cs C.2 (show x6 ν _ _ ((i:Int)+1) from let⟨v,w1,w2⟩:=G;⟨v,w1,Wa⟩) h2
 have hi:i<rows.length:=Wa;refine⟨(rows[i]).drop _,by grind [St.ad],Lz (Ni _ (M _ (QzS hi)))⟩
 all_goals grind
def QpH (a:AS) (agg:Bool) (sz:Nat) (p:Vl):Option Vl:=
 match atA a p with
 |some cs=>match agg with
  |true=>if Nat.ble sz cs.length=true then some (.aa (cs.take sz))else none
  |false=>cs.head?
 |none=>none
def QvW:Vl->Nat->Int->Option (List Vl)
 | .fx rows,x,o=>if Nat.beq x 0=true then rows[o.toNat]? else none
 |_,_,_=>none
theorem Cs {ν:List Int}:∀{vs:List (List Vl)} {rs:List (List D)} {i:Nat} {v:List Vl},Vl.k7 ν vs rs->vs[i]?=some v->∃r,rs[i]?=some r/\Vl.n4 ν v r
 |[],rs,i,v,h,hi=>by grind
 |w::vs,rs,0,v,h,hi=>by
  obtain⟨r,q,rfl,h1,h2⟩:=h
  grind
 |w::vs,rs,i+1,v,h,hi=>by
  obtain⟨r,q,rfl,h1,h2⟩:=h;rw[List.getElem?_cons_succ]at hi ⊢;exact Cs h2 hi
def Qs8 (a:AS) (l0:Nat) (p i:Vl):Option (AS × Vl):=
 match toN a i with
 |some (_,x,o,a1)=>if XO a1.cs 0 0 x o=true then(match p with
   | .oo k y u=>(match lk a1.H k with
    |some (.ww row z w e _)=>if XO a1.cs x (o+1) y u=true/\Nat.beq e l0=true/\Nat.beq y z=true/\decide (u=w)=true then some (a1,.qq k x o 0)else none
    |_=>none)
   |p=>(match QvW p x o with
    |some row=>if Nat.beq row.length l0=true then some (a1,.pv row)else none
    |none=>(match Qhi a1 p with
     |some (row,y,u,a2)=>if XO a2.cs x (o+1) y u=true/\Nat.beq row.length l0=true then some (a2,.pp row)else none
     |none=>none)))else none
 |none=>none
theorem x6.up (h:x6 ν x o n) (c:Int):x6 ν x (o+c) (n+c):=let⟨v,h1,h2⟩:=h;⟨v,h1,Wa⟩
theorem x6.inj {m:Int} (h:x6 ν x o n) (h2:x6 ν x o m):n=m:=by
 obtain⟨v,h1,rfl⟩:=h;obtain⟨w,C,rfl⟩:=h2
 grind
theorem QlW {l0:Nat} (h:a.ok ν s) (he:Qs8 a l0 p i=some (a',v)) (hp:p.has ν d) (hi:i.has ν e):z9 ν a' s v (Qbs s l0 e d):=by
 unfold Qs8 at he;split at he;rename_i k0 x o a1 e1;obtain⟨f1,n,rfl,M,C⟩:=Zd h e1 hi;split at he;rename_i h0;have U:=Qm C.cs h0 (YU C.z 0) M;split at he;rename_i k y u;split at he;rename_i row z w ee et e2;split at he;rename_i G;cases he
 obtain⟨b,hb,h1⟩:=RL.get C.H e2;obtain⟨rows,rfl,h2,T⟩:=h1;obtain⟨m,rfl,h4⟩:=hp;have O:=h4.ext f1;have e5:=QA6 G.2.2.1;have e6:=of_decide_eq_true G.2.2.2;subst e5 e6;have e7:=x6.inj O h2;have e8:=Qm C.cs G.1 (M.up 1) O;refine⟨f1,.ref k n.toNat 0,C,⟨n.toNat,rfl,by grind⟩,λkk hk=>⟨_,hb,by grind,U,Wa,QA6 G.2.1,hk⟩⟩
 grind
 grind
 rename_i pv _;split at he;rename_i row e2;split at he;rename_i G;cases he
 unfold QvW at e2;split at e2;split at e2;rename_i hx;rw[QA6 hx]at M;have Y:n=o:=x6.inj M (YU C.z o);subst Y;obtain⟨rs,hd,h1⟩:=hp;obtain⟨r,h2,T⟩:=Cs h1 e2;refine⟨f1,.ptr r,C,⟨r,rfl,T.ext f1⟩,λkk hk=>?_⟩;have key:R1 rs n l0 λrow=>kk (.ptr row):=⟨r,U,h2,by rw[ZF T];simp_all,hk⟩
 rcases hd with rfl |rfl<;>exact key
 grind
 grind
 grind
 split at he;rename_i row y u a2 e2;split at he;rename_i G;cases he
 obtain⟨f2,rows,hd,h1,h2,T⟩:=Yp C e2 (hp.ext f1);have e8:=Qm T.cs G.1 ((M.ext f2).up 1) h1;have V:n.toNat<rows.length:=Wa;refine⟨f1++f2,.ptr rows[n.toNat],by grind,⟨_,rfl,h2 _ (QzS V)⟩,λkk hk=>?_⟩;have key:R1 rows n l0 λrow=>kk (.ptr row):=⟨rows[n.toNat],U,by simp, ?_,hk⟩;rcases hd with rfl |rfl<;>exact key
 rw[Tp.kb (h2 _ (QzS V))];simp_all
 all_goals grind
def Qs9 (a:AS) (p i:Vl):Option (AS × Vl):=
 match toN a i with
 |some (_,x,o,a1)=>(match qf a1 p with
  |some (y,u,a2)=>if XO a2.cs 0 0 x o=true/\XO a2.cs x (o+1) y u=true then some (RS a2 .u8 0 255 [])else none
  |none=>none)
 |none=>none
theorem QlX (h:a.ok ν s) (he:Qs9 a p i=some (a',v)) (hp:p.has ν d) (hi:i.has ν e):z9 ν a' s v (Nl e d):=by
 unfold Qs9 at he;split at he;rename_i k0 x o a1 e1;obtain⟨f1,n,rfl,M,Y⟩:=Zd h e1 hi;split at he;rename_i y u a2 e2;split at he;rename_i O;have G:=QA1 he;obtain⟨f2,l,rfl,h1,C⟩:=XK Y e2 (hp.ext f1);have n0:=Qm C.cs O.1 (YU C.z 0) (M.ext f2);have e8:=Qm C.cs O.2 ((M.ext f2).up 1) h1;have hl:n.toNat<l.length:=Wa;have hc:l[n.toNat].toNat<=255:=by have:=l[n.toNat].toNat_lt;omega
 obtain⟨f3,dd,V,U,T⟩:=Q9 C (k:=.u8) (lo:=0) (hi:=255) (r:=l[n.toNat].toNat) (cs:=[]) Wa Wa QL (W:=λkk=>kk (.int .u8 l[n.toNat].toNat)) λkk q=>q;rw[G]at V U;exact⟨f1++(f2++f3),dd,by grind,by grind,λkk hk=>⟨l[n.toNat],n0,by simp,T kk hk⟩⟩
 all_goals grind
end Go.Abs
namespace Go.Abs
open Go
variable {a a':AS} {d:D} {l0 hx lx:Nat} {hi lo:Option n5} {ho m n:Int} {p v:Vl} {s:St} {x:n5} {ν:List Int}
def bdA (a:AS) (x:Option n5) (dx:Nat) (d0:Int):Option (Nat × Int × AS):=
 match x with
 |none=>some (dx,d0,a)
 |some y=>match evA a y with
  |some v=>(match toN a v with
   |some (_,x,o,a1)=>some (x,o,a1)
   |none=>none)
  |none=>none
theorem P1 {x:Option n5} {C z:Nat} {d0 o:Int} {df:Nat} (h:a.ok ν s) (he:bdA a x C d0=some (z,o,a')) (hd:x6 ν C d0 df):∃e n,s.va x df=some n/\x6 (ν++e) z o n/\a'.ok (ν++e) s:=by
 unfold bdA at he;split at he;cases he
 exact⟨[],df,rfl,hd.ext [],by grind⟩;split at he;rename_i v G;split at he;rename_i e1;cases he
 obtain⟨d,h1,h2⟩:=Qp h G;obtain⟨f,n,rfl,O,M⟩:=Zd h e1 h2
 grind [St.va]
 grind
 grind
def BN (a:AS) (hx:Nat) (ho:Int) (lx:Nat) (lo:Int):Nat × Int × AS:=
 if Nat.beq lx 0=true then(hx,ho - lo,a)
 else if Nat.beq hx lx=true then(0,ho - lo,a)
 else(a.nx,0,a.sym [(0,a.nx,0),(a.nx,hx,match lbC a.cs fuC lx with
  |some m=>ho - (m+lo)
  |none=>ho)])
theorem BO {lo:Int} (h:a.ok ν s) (hm:x6 ν hx ho m) (C:x6 ν lx lo n) (h0:0<=n) (hle:n<=m):∃e,x6 (ν++e) (BN a hx ho lx lo).1 (BN a hx ho lx lo).2.1 (m - n)/\(BN a hx ho lx lo).2.2.ok (ν++e) s:=by
 unfold BN;split;rename_i e;have:=QA6 e;subst this;obtain⟨w,h1,rfl⟩:=C;rw[h.z]at h1;cases h1;obtain⟨v,h2,rfl⟩:=hm;exact⟨[],⟨v,by grind,by grind⟩,by grind⟩;split;rename_i e;have:=QA6 e;subst this;obtain⟨w,h1,rfl⟩:=C;obtain⟨v,h2,rfl⟩:=hm;rw[h1]at h2;cases h2;exact⟨[],⟨0,by rw[QAj];exact h.z,by grind⟩,by grind⟩
 have hw:=h.new (m - n);obtain⟨v,h2,e2⟩:=hm.ext [m - n];refine⟨[m - n],⟨_,hw,(Int.add_zero _).symm⟩,h.sym _ λc G=>?_⟩;have z:=XA [m - n] h.z;simp only[QzP,QzO,or_false]at G;rcases G with rfl |rfl
 exact⟨0,_,z,hw,by grind⟩;refine⟨_,_,hw,h2, ?_⟩;simp only;split;rename_i q e;obtain⟨w,h1,e1⟩:=C;have:=Gd h.cs h.z e h1;omega;omega
def Qq9 (a:AS) (row:List Tp) (hx:Nat) (ho:Int) (lx:Nat) (lo:Int):AS × Vl:=
 if Nat.beq lx 0=true\/Nat.beq hx lx=true then((BN a hx ho lx lo).2.2,.ll row (BN a hx ho lx lo).1 (BN a hx ho lx lo).2.1)else(a,.ld row hx ho lx lo)
theorem QlB {row:List Tp} {lo:Int} {rows:List (List D)} (h:a.ok ν s) (hm:x6 ν hx ho m) (C:x6 ν lx lo n) (h0:0<=n) (hle:n<=m) (M:(rows.length:Int)=m - n) (hr:∀r∈rows,Tp.u3 row r):∃e,(Qq9 a row hx ho lx lo).1.ok (ν++e) s/\(Qq9 a row hx ho lx lo).2.has (ν++e) (.sl rows):=by
 unfold Qq9;split;obtain⟨e,O,G⟩:=BO h hm C h0 hle;exact⟨e,G,rows,.inl rfl,by grind,hr⟩;exact⟨[],by grind,rows,.inl rfl,⟨m,n,hm.ext [],C.ext [],M⟩,hr⟩
def QtS (a:AS) (l0:Nat) (p:Vl) (lo hi:Option n5):Option (AS × Vl):=
 match Qhi a p with
 |some (row,y,u,a1)=>(match bdA a1 lo 0 0 with
  |some (lx,lo',a2)=>(match bdA a2 hi y u with
   |some (hx,ho,a3)=>if XO a3.cs 0 0 lx lo'=true/\XO a3.cs lx lo' hx ho=true/\XO a3.cs hx ho y u=true/\(Nat.beq row.length l0||(Nat.beq y 0&&decide (u=0)))=true then
     some (Qq9 a3 row hx ho lx lo')else none
   |none=>none)
  |none=>none)
 |none=>none
theorem Qm1 (h:a.ok ν s) (he:QtS a l0 p lo hi=some (a',v)) (hx:s.ev x=some d) (hp:p.has ν d):u7 ν a' s v (.slice l0 x lo hi none):=by
 unfold QtS at he;split at he;rename_i row y u a1 e1;split at he;rename_i lx lo' a2 e2;split at he;rename_i hx' ho a3 e3;split at he;rename_i M;have he:=QA1 he;obtain⟨f1,rows,hd,V,Y,U⟩:=Yp h e1 hp;obtain⟨f2,l,q4,T,q6⟩:=P1 (df:=0) U e2 (YU U.z 0);obtain⟨f3,m,q7,O,G⟩:=P1 (df:=rows.length) q6 e3 (V.ext f2);have c1:=Qm G.cs M.1 (YU G.z 0) (T.ext f3);have c2:=Qm G.cs M.2.1 (T.ext f3) O;have c3:=Qm G.cs M.2.2.1 O ((V.ext f2).ext f3);have e:((((rows.take m.toNat).drop l.toNat).length:Nat):Int)=m - l:=by grind
 obtain⟨f4,w2,w1⟩:=QlB (row:=row) (rows:=(rows.take m.toNat).drop l.toNat) G O (T.ext f3) c1 c2 e λr hr=>Y r (Qz7 (QAh hr));rw[he]at w1 w2;refine⟨f1++(f2++(f3++f4)),.sl ((rows.take m.toNat).drop l.toNat),by grind,by grind,λP dr dst k hk=>.inl ⟨_,hx,rows,by rcases hd with rfl |rfl<;>rfl,l,q4,m,q7,c1,c2,c3,λr hr=>?_,hk⟩⟩
 have C:=M.2.2.2;simp only[QAT,QzR,decide_eq_true_eq]at C;rcases C with e |⟨e,rfl⟩
 rw[Tp.kb (Y r hr)];simp_all;have e:=QA6 e;subst e;have e2:=x6.inj V (YU U.z 0)
 all_goals grind
def QtT (a:AS) (l0:Nat) (p:Vl) (hi m:n5):Option (AS × Vl):=
 match Qhi a p with
 |some (row,y,u,a1)=>(match bdA a1 (some hi) 0 0 with
  |some (hx,ho,a2)=>(match bdA a2 (some m) 0 0 with
   |some (mx,mo,a3)=>if Nat.beq hx mx=true/\decide (ho=mo)=true/\XO a3.cs 0 0 hx ho=true/\XO a3.cs hx ho y u=true/\Nat.beq row.length l0=true then some (a3,.lf row hx ho)else none
   |none=>none)
  |none=>none)
 |none=>none
theorem Qm2 {hi m:n5} (h:a.ok ν s) (he:QtT a l0 p hi m=some (a',v)) (hx:s.ev x=some d) (hp:p.has ν d):u7 ν a' s v (.slice l0 x none (some hi) (some m)):=by
 unfold QtT at he;split at he;rename_i row y u a1 e1;split at he;rename_i hx' ho a2 e2;split at he;rename_i mx mo a3 e3;split at he;rename_i C;cases he
 obtain⟨f1,rows,hd,q1,U,T⟩:=Yp h e1 hp;obtain⟨f2,l,Y,V,O⟩:=P1 (df:=0) T e2 (YU T.z 0);obtain⟨f3,k,q7,M,G⟩:=P1 (df:=0) O e3 (YU O.z 0);have e4:=QA6 C.1;have e5:=of_decide_eq_true C.2.1;subst e4 e5;have e6:l=k:=x6.inj (V.ext f3) M;subst e6;have c2:=Qm G.cs C.2.2.1 (YU G.z 0) M;have c3:=Qm G.cs C.2.2.2.1 M ((q1.ext f2).ext f3);have hl:∀r∈rows,r.length=l0:=λr hr=>by rw[Tp.kb (U r hr)];simp_all
 have e:(((rows.take l.toNat).length:Nat):Int)=l:=by grind
 refine⟨f1++(f2++f3),.x7 (rows.take l.toNat),by grind,⟨_,rfl,by grind,λr hr=>U r (Qz7 hr)⟩,λP dr dst kk hk=>.inl ⟨_,hx,rows,by rcases hd with rfl |rfl<;>rfl,0,rfl,l,Y, ?_⟩⟩
 trivial
 all_goals grind
def QtU (a:AS) (p:Vl) (lo hi:Option n5):Option (AS × Vl):=
 match qf a p with
 |some (y,u,a1)=>(match bdA a1 lo 0 0 with
  |some (lx,lo',a2)=>(match bdA a2 hi y u with
   |some (hx,ho,a3)=>if XO a3.cs 0 0 lx lo'=true/\XO a3.cs lx lo' hx ho=true/\XO a3.cs hx ho y u=true then
     some ((BN a3 hx ho lx lo').2.2,.ss (BN a3 hx ho lx lo').1 (BN a3 hx ho lx lo').2.1)else none
   |none=>none)
  |none=>none)
 |none=>none
theorem Qm3 (h:a.ok ν s) (he:QtU a p lo hi=some (a',v)) (hx:s.ev x=some d) (hp:p.has ν d):u7 ν a' s v (.a8 x lo hi):=by
 unfold QtU at he;split at he;rename_i y u a1 e1;split at he;rename_i lx lo' a2 e2;split at he;rename_i hx' ho a3 e3;split at he;rename_i O;cases he
 obtain⟨f1,c,rfl,U,T⟩:=XK h e1 hp;obtain⟨f2,l,q4,M,q6⟩:=P1 (df:=0) T e2 (YU T.z 0);obtain⟨f3,m,q7,G,C⟩:=P1 (df:=c.length) q6 e3 (U.ext f2);have Y:=Qm C.cs O.1 (YU C.z 0) (M.ext f3);have V:=Qm C.cs O.2.1 (M.ext f3) G;have c3:=Qm C.cs O.2.2 G ((U.ext f2).ext f3);obtain⟨f4,w1,w2⟩:=BO C G (M.ext f3) Y V;refine⟨f1++(f2++(f3++f4)),.str ((c.take m.toNat).drop l.toNat),by grind,⟨_,rfl, ?_⟩,λP dr dst k hk=>⟨_,hx,c,rfl,l,q4,m,q7,Y,V,c3,hk⟩⟩
 all_goals grind
def CQ (a:AS):List (Nat × Nat × n5)->List Vl->Option (List Vl)
 |[],vs=>some vs
 |(off,size,x)::r,vs=>match evA a x with
  |some v=>(match Qoh v with
   |some cs=>if cs.length=size/\off+size<=vs.length then CQ a r (vs.take off++cs++vs.drop (off+size))else none
   |none=>none)
  |none=>none
theorem CS {ν:List Int} {a:AS} {s:St} (h:a.ok ν s):∀{parts:List (Nat × Nat × n5)} {vs ws:List Vl} {ds:List D},CQ a parts vs=some ws->Vl.n4 ν vs ds->∃C es,Y1 s parts=some C/\Rj ds C=some es/\Vl.n4 ν ws es
 |[],vs,ws,ds,he,hv=>by simp only[CQ,QzQ]at he;subst he;exact⟨[],ds,rfl,rfl,hv⟩
 |(off,size,x)::r,vs,ws,ds,he,hv=>by
  simp only[CQ]at he;split at he;rename_i v e1;split at he;rename_i cs e2;split at he;rename_i O;obtain⟨d,h1,h2⟩:=Qp h e1;obtain⟨M,Y,G⟩:=Lf e2 h2;have l1:=ZF G;have l2:=ZF hv;obtain⟨C,es,V,U,T⟩:=CS h he (Ng (Ng (XH off hv) G) (Kz (off+size) hv))
  (repeat clear hK K);simp_all [Y1,Rj]
  grind
  grind
  grind
def Qrb (a:AS) (off:Nat):Vl->Option Vl
 | .pp cells=>if off<=cells.length then some (.pp (cells.drop off))else none
 | .pv cells=>if off<=cells.length then some (.pv (cells.drop off))else none
 | .rr k j=>match lk a.H k with
  |some _=>some (.rr k (j+off))
  |none=>none
 | .qq k x o j=>match lk a.H k with
  |some _=>some (.qq k x o (j+off))
  |none=>none
 |_=>none
theorem Qer {off:Nat} (h:a.ok ν s) (he:Qrb a off p=some v) (hp:p.has ν d):∃e,v.has ν e/\∀kk:D->Prop,kk e->MF s off d kk:=by
 unfold Qrb at he;split at he;split at he;rename_i C;cases he
 obtain⟨ds,rfl,h1⟩:=hp;exact⟨_,⟨_,rfl,Ni off h1⟩,λkk hk=>⟨by grind [Tp.kb],hk⟩⟩
 grind
 split at he;rename_i C;cases he
 obtain⟨ds,rfl,h1⟩:=hp;exact⟨_,⟨_,rfl,Kz off h1⟩,λkk hk=>⟨by grind [ZF],hk⟩⟩
 grind
 split at he;rename_i e1;cases he
 obtain⟨b,hb,_⟩:=RL.get h.H e1;simp only[Vl.has]at hp;subst hp;exact⟨_,rfl,λkk hk=>⟨by grind,hk⟩⟩
 grind
 split at he;rename_i e1;cases he
 obtain⟨b,hb,_⟩:=RL.get h.H e1;obtain⟨i,rfl,h1⟩:=hp;exact⟨_,⟨i,rfl,h1⟩,λkk hk=>⟨by grind,hk⟩⟩
 grind
 grind
variable {e:D} {i:Vl}
def Vl.l4:Vl->List Nat
 | .oo k _ _=>[k]
 | .rr k _=>[k]
 | .qq k _ _ _=>[k]
 | .dd d=>d.l4
 |_=>[]
def Vl.ids:Vl->List Nat
 | .aa cs=>cs.flatMap Vl.l4
 | .tp cs _=>cs.flatMap Vl.l4
 | .dd d=>d.ids
 |v=>v.l4
theorem Vl.wb (h:v.has ν d):d.l4=v.l4:=by
 cases v<;>simp only[Vl.l4]
 case ty=>exact Tp.l4 h
 case nn=>obtain⟨n,rfl,_⟩:=h;rfl
 case ii=>obtain⟨n,rfl⟩:=h;rfl
 case bf=>obtain⟨n,rfl,_⟩:=h;rfl
 case ss=>obtain⟨n,rfl,_⟩:=h;rfl
 case ll=>obtain⟨n,h,_⟩:=h;rcases h with rfl |rfl<;>rfl
 case ld=>obtain⟨n,h,_⟩:=h;rcases h with rfl |rfl<;>rfl
 case fx=>obtain⟨n,h,_⟩:=h;rcases h with rfl |rfl<;>rfl
 case fl=>obtain⟨n,rfl,_⟩:=h;rfl
 case lf=>obtain⟨n,rfl,_⟩:=h;rfl
 case oo=>obtain⟨n,rfl,_⟩:=h;rfl
 case rr=>simp only[Vl.has]at h;subst h;rfl
 case qq=>obtain⟨n,rfl,_⟩:=h;rfl
 case pp=>obtain⟨n,rfl,_⟩:=h;rfl
 case pv=>obtain⟨n,rfl,_⟩:=h;rfl
 case aa=>obtain⟨n,rfl,_⟩:=h;rfl
 case uu=>obtain⟨n,rfl,_⟩:=h;rfl
 case ei=>obtain⟨n,rfl,_⟩:=h;rfl
 case tp=>obtain⟨n,m,rfl,_⟩:=h;rfl
 grind [Vl.has]
theorem FL {ν:List Int}:∀{vs:List Vl} {ds:List D},Vl.n4 ν vs ds->ds.flatMap D.l4=vs.flatMap Vl.l4
 |[],ds,h=>by grind [Vl.n4]
 |v::vs,ds,h=>by
  obtain⟨d,r,rfl,h1,h⟩:=h;rw[QAi,QAi,Vl.wb h1,FL h]
theorem TU {ν:List Int}:∀{vs:List Vl} {ds:List D},Vl.n4 ν vs ds->(ds.all λd=>d.l4.isEmpty)=vs.all λv=>v.l4.isEmpty
 |[],ds,h=>by grind [Vl.n4]
 |v::vs,ds,h=>by
  obtain⟨d,r,rfl,h1,h⟩:=h;rw[QAK,QAK,Vl.wb h1,TU h]
theorem Vl.w7 (h:v.has ν d):d.ids=v.ids:=by
 have key:∀{d:D},d.ids=d.l4->v.has ν d->v.ids=v.l4->d.ids=v.ids:=λe h e2=>by grind [Vl.wb]
 cases v
 case ty=>exact key ((Tp.ids h).trans (Tp.l4 h).symm) h rfl
 case nn=>have C:=h;obtain⟨n,rfl,_⟩:=C;rfl
 case ii=>have C:=h;obtain⟨n,rfl⟩:=C;rfl
 case bf=>have C:=h;obtain⟨n,rfl,_⟩:=C;rfl
 case ss=>have C:=h;obtain⟨n,rfl,_⟩:=C;rfl
 case ll=>have C:=h;obtain⟨n,C,_⟩:=C;rcases C with rfl |rfl<;>exact key rfl h rfl
 case ld=>have C:=h;obtain⟨n,C,_⟩:=C;rcases C with rfl |rfl<;>exact key rfl h rfl
 case fx=>have C:=h;obtain⟨n,C,_⟩:=C;rcases C with rfl |rfl<;>exact key rfl h rfl
 case fl=>have C:=h;obtain⟨n,rfl,_⟩:=C;rfl
 case lf=>have C:=h;obtain⟨n,rfl,_⟩:=C;rfl
 case oo=>have C:=h;obtain⟨n,rfl,_⟩:=C;rfl
 case rr=>have C:=h;simp only[Vl.has]at C;subst C;rfl
 case qq=>have C:=h;obtain⟨n,rfl,_⟩:=C;rfl
 case pp=>have C:=h;obtain⟨n,rfl,_⟩:=C;rfl
 case pv=>have C:=h;obtain⟨n,rfl,_⟩:=C;rfl
 case aa=>obtain⟨ds,rfl,h⟩:=h;exact FL h
 case uu=>have C:=h;obtain⟨n,rfl,_⟩:=C;rfl
 case ei=>have C:=h;obtain⟨n,rfl,_⟩:=C;rfl
 case tp=>obtain⟨ds,m,rfl,h,_⟩:=h;exact FL h
 case dd=>simp only[Vl.has]at h;subst h;rfl
def jnT:List Vl->Option Tp
 |[]=>none
 |[.ty t]=>some t
 |[.nn k 0 o]=>some (.i k o o)
 |[.bf _ _]=>some .b
 |v::r=>match v,jnT r with
  | .ty (.c l),some (.c m)=>some (.c (l++m))
  | .nn k 0 o,some (.i j lo hi)=>some (.i j (min lo o) (max hi o))
  | .bf _ _,some .b=>some .b
  |_,_=>none
def elA (a:AS) (len:Nat) (cells:List Vl) (i:Vl):Option (AS × Vl):=
 match toN a i with
 |some (_,x,o,a1)=>if XO a1.cs 0 0 x o=true/\XO a1.cs x (o+1) 0 len=true/\Nat.ble len cells.length=true then(if Nat.beq x 0=true then(match cells[o.toNat]? with
   |some v=>some (a1,v)
   |none=>none)else(match jnT cells with
   |some t=>if(cells.all λv=>Qbf a1 v t)=true then some (a1,.ty t)else none
   |none=>none))else none
 |none=>none
theorem Qpd {len:Nat} {cells:List Vl} {ds:List D} (h:a.ok ν s) (he:elA a len cells i=some (a',v)) (G:Vl.n4 ν cells ds) (hi:i.has ν e):∃f n d,e=.int (match e with | .int k _=>k |_=>.i64) n/\0<=n/\n<len/\ds[n.toNat]?=some d/\a'.ok (ν++f) s/\v.has (ν++f) d:=by
 unfold elA at he;split at he;rename_i k x o a1 e1;split at he;rename_i C;split at he;rename_i hx;split at he;rename_i v0 e2;cases he
 obtain⟨f,n,rfl,h1,h2⟩:=Zd h e1 hi;have c0:=Qm h2.cs C.1 (YU h2.z 0) h1;have V:=Qm h2.cs C.2.1 (h1.up 1) (YU h2.z len);rw[QA6 hx]at h1;have T:n=o:=x6.inj h1 (YU h2.z o);subst T;obtain⟨d,O,M⟩:=KW (G.ext f) e2
 grind
 grind
 split at he;rename_i t e2;split at he;rename_i U;cases he
 obtain⟨f,n,rfl,h1,h2⟩:=Zd h e1 hi;have c0:=Qm h2.cs C.1 (YU h2.z 0) h1;have V:=Qm h2.cs C.2.1 (h1.up 1) (YU h2.z len);have cl:=QzN C.2.2;have Y:=ZF G;have hb:n.toNat<cells.length:=Wa;obtain⟨d,O,M⟩:=KW (G.ext f) (QAB hb);exact⟨f,n,d,rfl,c0,Wa,O,h2,Lp h2 (QzX.1 U _ (QzS hb)) M⟩
 all_goals grind
def QsB (a:AS) (len l0:Nat) (p i:Vl):Option (AS × Vl):=
 match toN a i with
 |some (_,x,o,a1)=>if Nat.beq x 0=true/\0<=o/\o<len then(match Qrb a1 (o.toNat*l0) p with
   |some v=>some (a1,v)
   |none=>none)else none
 |none=>none
theorem Qk6 {len l0:Nat} {p:Vl} (h:a.ok ν s) (he:QsB a len l0 p i=some (a',v)) (hp:p.has ν d) (hi:i.has ν e):∃f q,a'.ok (ν++f) s/\v.has (ν++f) q/\∀kk:D->Prop,kk q->Qvz s len l0 e d kk:=by
 unfold QsB at he;split at he;rename_i k x o T e1;split at he;rename_i C;split at he;rename_i v0 e2;cases he
 obtain⟨f,n,rfl,h1,h2⟩:=Zd h e1 hi;rw[QA6 C.1]at h1;have G:n=o:=x6.inj h1 (YU h2.z o);subst G;obtain⟨q,O,M⟩:=Qer h2 e2 (hp.ext f);exact⟨f,q,h2,O,λkk hk=>⟨C.2.1,C.2.2,M kk hk⟩⟩
 all_goals grind
def Qdd (a:AS) (l0:Nat):List n5->Option (List (List Vl))
 |[]=>some []
 |x::r=>match evA a x with
  |some v=>(match Qoh v with
   |some cs=>if Nat.beq cs.length l0=true then(match Qdd a l0 r with
     |some q=>some (cs::q)
     |none=>none)else none
   |none=>none)
  |none=>none
theorem L5 {ν:List Int} {a:AS} {s:St} (h:a.ok ν s) {l0:Nat}:∀{parts:List n5} {vs:List (List Vl)},Qdd a l0 parts=some vs->∃rs,Yz s l0 parts=some rs/\Vl.k7 ν vs rs
 |[],vs,he=>by simp only[Qdd,QzQ]at he;subst he;exact⟨[],rfl,rfl⟩
 |x::r,vs,he=>by
  simp only[Qdd]at he;split at he;rename_i v e1;split at he;rename_i cs e2;split at he;rename_i T;split at he;rename_i q e3;cases he
  obtain⟨d,h1,h2⟩:=Qp h e1;obtain⟨ds,O,C⟩:=Lf e2 h2;obtain⟨rs,M,G⟩:=L5 h e3;exact⟨ds::rs,by simp only[Yz,h1,M,O];rw[if_pos (by rw[ZF C];simp_all)],ds,rs,rfl,C,G⟩
  grind
  grind
  grind
  grind
theorem QaJ {ν:List Int}:∀{vs:List (List Vl)} {rs:List (List D)},Vl.k7 ν vs rs->(rs.all λr=>r.all λd=>d.l4.isEmpty)=vs.all λr=>r.all λv=>v.l4.isEmpty
 |[],rs,h=>by grind [Vl.k7]
 |v::vs,rs,h=>by
  obtain⟨d,r,rfl,h1,h⟩:=h;rw[QAK,QAK,TU h1,QaJ h]
theorem DW:∀{rows:List (List D)},(∀r∈rows,Tp.u3 [.i .u8 0 255] r)->∃l,Ks rows=some l/\l.length=rows.length
 |[],_=>⟨[],rfl,rfl⟩
 |r::rows,h=>by
  obtain⟨l,h1,h2⟩:=DW (rows:=rows) λq G=>h q (QAQ _ G);obtain⟨d,q,rfl,⟨n,rfl,_⟩,C⟩:=h r Wc;simp only[Tp.u3]at C;subst C
  grind [Ks]
def QqY (a:AS) (op:z5):Option (AS × Vl):=
 match op with
 | .we x=>match evA a x with
  |some v=>some (a,v)
  |none=>none
 | .pick c x y=>match evA a c with
  |some cv=>(match QbA cv with
   |some true=>(match evA a x with
    |some v=>some (a,v)
    |none=>none)
   |some false=>(match evA a y with
    |some v=>some (a,v)
    |none=>none)
   |none=>(match evA a x,evA a y with
    |some v,some w=>if Qdv cv=true/\Qdv v=true/\Qdv w=true then some (a,anyB)else none
    |_,_=>none))
  |none=>none
 | .build zero parts=>match CQ a parts (zero.map cVl)with
  |some vs=>some (a,.aa vs)
  |none=>none
 | .buildSlice l0 _ parts=>match Qdd a l0 parts with
  |some rows=>if(rows.all λr=>r.all λv=>v.l4.isEmpty)=true then some (a,.fl rows)else none
  |none=>none
 | .load agg sz x=>match evA a x with
  |some p=>(match QpH a agg sz p with
   |some v=>some (a,v)
   |none=>none)
  |none=>none
 | .nilCheck x=>match evA a x with
  |some (.rr k o)=>some (a,.rr k o)
  |some (.pp c)=>some (a,.pp c)
  |some (.pv c)=>some (a,.pv c)
  |_=>none
 | .bin op bt x y=>match evA a x,evA a y with
  |some p,some q=>QsE a op bt p q
  |_,_=>none
 | .eqs _ ks x y=>match evA a x,evA a y with
  |some (.aa vs),some (.aa ws)=>if Qol ks vs ws=true then some (a,anyB)else none
  |_,_=>none
 | .un op x=>match evA a x,op with
  |some (.bf t f),.not=>some (a,.bf f t)
  |some (.ty .b),.not=>some (a,anyB)
  |some v,.neg=>(match toN a v with
   |some (k,x,o,a1)=>some (QnQ a1 k 0 0 x o)
   |none=>none)
  |_,_=>none
 | .conv kk x=>match evA a x with
  |some p=>(match toN a p with
   |some (_,x,o,a1)=>some (Qms a1 kk x o)
   |none=>none)
  |none=>none
 | .k9 true x=>match evA a x with
  |some p=>(match qf a p with
   |some (x,o,a1)=>some (a1,.ll [.i .u8 0 255] x o)
   |none=>none)
  |none=>none
 | .k9 false x=>match evA a x with
  |some p=>(match Qhi a p with
   |some (row,x,o,a1)=>if Tp.ib row [.i .u8 0 255]=true/\XO a1.cs 0 0 x o=true then some (a1,.ss x o)else none
   |none=>none)
  |none=>none
 | .slice l0 x lo hi mx=>match evA a x,mx with
  |some p,none=>QtS a l0 p lo hi
  |some p,some m=>(match lo,hi with
   |none,some h=>QtT a l0 p h m
   |_,_=>none)
  |none,_=>none
 | .a8 x lo hi=>match evA a x with
  |some p=>QtU a p lo hi
  |none=>none
 | .fieldAddr off x=>match evA a x with
  |some p=>(match Qrb a off p with
   |some v=>some (a,v)
   |none=>none)
  |none=>none
 | .field agg off sz x=>match evA a x with
  |some (.aa cells)=>(match agg with
   |true=>if Nat.ble (off+sz) cells.length=true then some (a,.aa ((cells.drop off).take sz))else none
   |false=>(match cells[off]? with
    |some v=>some (a,v)
    |none=>none))
  |_=>none
 | .indexAddr l0 x i=>match evA a i,evA a x with
  |some n,some p=>Qs8 a l0 p n
  |_,_=>none
 | .k8 x i=>match evA a i,evA a x with
  |some n,some p=>Qs9 a p n
  |_,_=>none
 | .j8 agg len l0 x i=>match agg,l0,evA a i,evA a x with
  |false,1,some n,some (.aa cells)=>elA a len cells n
  |_,_,_,_=>none
 | .b8 len l0 x i=>match evA a i,evA a x with
  |some n,some p=>QsB a len l0 p n
  |_,_=>none
 | .extract i x=>match evA a x with
  |some (.uu vs)=>(match vs[i]? with
   |some v=>some (a,v)
   |none=>none)
  |some (.tp cs w)=>(match i with
   |0=>some (a,.aa cs)
   |1=>some (a,w)
   |_=>none)
  |_=>none
 | .len x=>match evA a x with
  |some p=>Qtd a p
  |none=>none
 | .o9 x=>match evA a x with
  |some p=>(match qf a p with
   |some (x,o,a1)=>some (a1,.nn .i64 x o)
   |none=>none)
  |none=>none
 | .min x y=>match evA a x,evA a y with
  |some p,some q=>(match toN a p with
   |some (k,x,o,a1)=>(match toN a1 q with
    |some (_,y,u,a2)=>some (Qrk a2 k x o y u)
    |none=>none)
   |none=>none)
  |_,_=>none
 | .max x y=>match evA a x,evA a y with
  |some p,some q=>(match toN a p with
   |some (k,x,o,a1)=>(match toN a1 q with
    |some (_,y,u,a2)=>some (Qrj a2 k x o y u)
    |none=>none)
   |none=>none)
  |_,_=>none
 |_=>none
theorem QlU {vs:List Vl} {ds:List D} (h:Vl.n4 ν vs ds) (off sz:Nat):Vl.n4 ν ((vs.drop off).take sz) ((ds.drop off).take sz):=XH sz (Kz off h)
theorem Qn0 {a a':AS} {s:St} {op:z5} {v:Vl} (h:a.ok ν s) (he:QqY a op=some (a',v)):u7 ν a' s v op:=by
 cases op<;>simp only[QqY,reduceCtorEq]at he
 case we x=>
  split at he;rename_i w e1;cases he
  obtain⟨d,h1,h2⟩:=Qp h e1;exact u7.same h h2 λP dr dst k hk=>⟨d,h1,hk⟩
  grind
 case pick c x y=>
  split at he;rename_i cv e1;obtain⟨cd,h1,h2⟩:=Qp h e1;split at he;rename_i hk;have hc:=RB h.z h2 hk;subst hc;split at he;rename_i w e2;cases he
  obtain⟨d,C,G⟩:=Qp h e2;exact u7.same h G λP dr dst k hk=>⟨_,h1,true,rfl,d,C,hk⟩
  grind
  rename_i hk;have hc:=RB h.z h2 hk;subst hc;split at he;rename_i w e2;cases he
  obtain⟨d,C,G⟩:=Qp h e2;exact u7.same h G λP dr dst k hk=>⟨_,h1,false,rfl,d,C,hk⟩
  grind
  split at he;rename_i w w2 e2 e3;split at he;rename_i T;cases he
  obtain⟨b,rfl⟩:=KP h2 T.1;obtain⟨d,C,G⟩:=Qp h e2;obtain⟨d2,V,U⟩:=Qp h e3;obtain⟨b1,rfl⟩:=KP G T.2.1;obtain⟨b2,rfl⟩:=KP U T.2.2;refine u7.same h (Fp (if b=true then b1 else b2)) λP dr dst k hk=>⟨_,h1,b,rfl,.bool (if b=true then b1 else b2), ?_,hk⟩
  grind
  grind
  grind
  grind
 case build zero parts=>
  split at he;rename_i vs e1;cases he
  obtain⟨qs,es,h1,h2,C⟩:=CS h e1 (Qbp h.z zero);exact u7.same h ⟨es,rfl,C⟩ λP dr dst k hk=>⟨qs,h1,es,h2,hk⟩
  grind
 case buildSlice l0 et parts=>
  split at he;rename_i rows e1;split at he;rename_i T;cases he
  obtain⟨rs,h1,h2⟩:=L5 h e1;exact u7.same h ⟨rs,rfl,h2⟩ λP dr dst k hk=>.inr ⟨rs,h1,by grind [QaJ],hk⟩
  grind
  grind
 case load agg sz x=>
  split at he;rename_i p e1;split at he;rename_i w e2;cases he
  obtain⟨d,h1,h2⟩:=Qp h e1;unfold QpH at e2;split at e2;rename_i cs e3;obtain⟨ds,C,G⟩:=QaM h e3 h2;split at e2;split at e2;rename_i T;cases e2
  exact u7.same h ⟨_,rfl,XH sz G⟩ λP dr dst k hk=>⟨d,h1,ds,C,by rw[ZF G];simp_all,hk⟩
  grind
  obtain⟨d2,V,U⟩:=Cp G e2;exact u7.same h U λP dr dst k hk=>⟨d,h1,ds,C,d2,V,hk⟩
  grind
  grind
  grind
 case nilCheck x=>
  split at he;rename_i e1;cases he
  obtain⟨d,h1,h2⟩:=Qp h e1;have O:=h2;simp only[Vl.has]at O;subst O;exact u7.same h h2 λP dr dst k hk=>⟨_,h1,rfl,hk⟩;rename_i e1;cases he
  obtain⟨d,h1,h2⟩:=Qp h e1;have O:=h2;obtain⟨ds,rfl,_⟩:=O;exact u7.same h h2 λP dr dst k hk=>⟨_,h1,rfl,hk⟩;rename_i e1;cases he
  obtain⟨d,h1,h2⟩:=Qp h e1;have O:=h2;obtain⟨ds,rfl,_⟩:=O;exact u7.same h h2 λP dr dst k hk=>⟨_,h1,rfl,hk⟩
  grind
 case bin op bt x y=>
  split at he;rename_i p q e1 e2;obtain⟨d,h1,h2⟩:=Qp h e1;obtain⟨e,C,G⟩:=Qp h e2;exact u7.bc (Qld h he h2 G) λP dr dst k hk=>⟨d,h1,e,C,hk⟩
  grind
 case eqs neg ks x y=>
  split at he;rename_i vs ws e1 e2;split at he;rename_i T;cases he
  obtain⟨d,h1,xs,rfl,h2⟩:=Qp h e1;obtain⟨e,C,ys,rfl,G⟩:=Qp h e2;obtain⟨b,hb⟩:=Ll T h2 G;exact u7.same h (Fp _) λP dr dst k hk=>⟨_,h1,_,C,xs,rfl,ys,rfl,b,hb,hk⟩
  grind
  grind
 case un op x=>
  split at he;rename_i e1;cases he
  obtain⟨d,h1,b,rfl,h2,C⟩:=Qp h e1;refine u7.same h (d:=.bool (!b)) ⟨!b,rfl,λe=>C Wb,λe=>h2 Wb⟩ λP dr dst k hk=>⟨_,h1,hk⟩;rename_i e1;cases he
  obtain⟨d,h1,b,rfl⟩:=Qp h e1;exact u7.same h (Fp (!b)) λP dr dst k hk=>⟨_,h1,hk⟩;rename_i p _ _ e1;split at he;rename_i k0 x0 o Y e2;have M:=QA1 he;obtain⟨d,h1,h2⟩:=Qp h e1;obtain⟨f,n,rfl,C,G⟩:=Zd h e2 h2;have:=Qgt (k:=k0) G (YU G.z 0) C;rw[M]at this;exact u7.more (u7.bc this λP dr dst k hk=>⟨_,h1,hk⟩)
  grind
  grind
 case k9 sb x=>
  cases sb
  simp only[QqY]at he;split at he;rename_i p e1;split at he;rename_i row x0 o Y e2;split at he;rename_i T;cases he
  obtain⟨d,h1,h2⟩:=Qp h e1;obtain⟨f,rows,hd,C,G,V⟩:=Yp h e2 h2;have U:∀r∈rows,Tp.u3 [.i .u8 0 255] r:=λr hr=>Tp.n7 T.1 (G r hr);obtain⟨l,h7,h8⟩:=DW U;have hl:∀r∈rows,r.length=1:=λr hr=>Tp.kb (U r hr);refine⟨f,.str l,V,⟨l,rfl,by grind⟩,λP dr dst k hk=>⟨d,h1, ?_⟩⟩;rcases hd with rfl |rfl<;>exact⟨hl,l,h7,hk⟩
  grind
  grind
  grind
  simp only[QqY]at he;split at he;rename_i p e1;split at he;rename_i x0 o Y e2;cases he
  obtain⟨d,h1,h2⟩:=Qp h e1;obtain⟨f,l,rfl,C,G⟩:=XK h e2 h2;refine⟨f,.sl (l.map P2),G,⟨_,.inl rfl,by grind,λr hr=>?_⟩,λP dr dst k hk=>⟨_,h1,l,rfl,hk⟩⟩;obtain⟨c,_,rfl⟩:=Qz1.1 hr;exact⟨_,[],rfl,⟨_,rfl,Wa,by have:=c.toNat_lt;omega⟩,rfl⟩
  grind
  grind
 case conv kk x=>
  split at he;rename_i p e1;split at he;rename_i k0 x0 o Y e2;have M:=QA1 he;obtain⟨d,h1,h2⟩:=Qp h e1;obtain⟨f,n,rfl,C,G⟩:=Zd h e2 h2;have:=LN (k:=kk) (W:=λq=>q (.int kk (kk.wrap n))) G C λq hq=>hq;rw[M]at this;exact u7.more (u7.bc this λP dr dst k hk=>⟨_,h1,_,rfl,hk⟩)
  grind
  grind
 case slice l0 x lo hi mx=>
  grind [Qp,Qm1,Qm2]
 case a8 x lo hi=>
  grind [Qp,Qm3]
 case fieldAddr off x=>
  split at he;rename_i p e1;split at he;rename_i w e2;cases he
  obtain⟨d,h1,h2⟩:=Qp h e1;obtain⟨e,C,G⟩:=Qer h e2 h2;exact u7.same h C λP dr dst k hk=>⟨d,h1,G _ hk⟩
  grind
  grind
 case field agg off sz x=>
  split at he;rename_i cells e1;obtain⟨d,h1,ds,rfl,h2⟩:=Qp h e1;split at he;split at he;rename_i T;cases he
  exact u7.same h ⟨_,rfl,QlU h2 off sz⟩ λP dr dst k hk=>⟨_,h1,ds,rfl,by rw[ZF h2];simp_all,hk⟩
  grind
  split at he;rename_i w e2;cases he
  obtain⟨d2,C,G⟩:=KW h2 e2;exact u7.same h G λP dr dst k hk=>⟨_,h1,ds,rfl,d2,C,hk⟩
  grind
  grind
 case indexAddr l0 x i=>
  split at he;rename_i n p e1 e2;obtain⟨d,h1,h2⟩:=Qp h e1;obtain⟨e,C,G⟩:=Qp h e2;exact u7.bc (QlW h he G h2) λP dr dst k hk=>⟨d,h1,e,C,hk⟩
  grind
 case k8 x i=>
  split at he;rename_i n p e1 e2;obtain⟨d,h1,h2⟩:=Qp h e1;obtain⟨e,C,G⟩:=Qp h e2;exact u7.bc (QlX h he G h2) λP dr dst k hk=>⟨d,h1,e,C,hk⟩
  grind
 case j8 agg len l0 x i=>
  split at he;rename_i n cells e1 e2;obtain⟨d,h1,h2⟩:=Qp h e1;obtain⟨e,C,ds,rfl,G⟩:=Qp h e2;obtain⟨f,m,q,r1,r2,r3,r4,r5,r6⟩:=Qpd h he G h2;exact⟨f,q,r5,r6,λP dr dst k hk=>⟨d,h1,m,by rw[r1];rfl,_,C,ds,rfl,r2,r3,q,by grind,hk⟩⟩
  grind
 case b8 len l0 x i=>
  split at he;rename_i n p e1 e2;obtain⟨d,h1,h2⟩:=Qp h e1;obtain⟨e,C,G⟩:=Qp h e2;obtain⟨f,q,r1,r2,r3⟩:=Qk6 h he G h2;exact⟨f,q,r1,r2,λP dr dst k hk=>⟨d,h1,e,C,r3 _ hk⟩⟩
  grind
 case extract i x=>
  split at he;rename_i vs e1;split at he;rename_i w e2;cases he
  obtain⟨d,h1,ds,rfl,h2⟩:=Qp h e1;obtain⟨d2,C,G⟩:=KW h2 e2;exact u7.same h G λP dr dst k hk=>⟨_,h1,ds,rfl,d2,C,hk⟩
  grind
  rename_i cs w e1;obtain⟨d,h1,ds,d2,rfl,h2,C⟩:=Qp h e1;split at he;cases he
  exact u7.same h (d:=.agg ds) ⟨_,rfl,h2⟩ λP dr dst k hk=>⟨_,h1,_,rfl,_,rfl,hk⟩;cases he
  exact u7.same h (d:=d2) C λP dr dst k hk=>⟨_,h1,_,rfl,_,rfl,hk⟩
  grind
  grind
 case len x=>
  split at he;rename_i p e1;obtain⟨d,h1,h2⟩:=Qp h e1;obtain⟨f,n,C,G,V⟩:=Qmb h he h2;exact⟨f,_,G,V,λP dr dst k hk=>⟨d,h1,n,C,hk⟩⟩
  grind
 case o9 x=>
  split at he;rename_i p e1;split at he;rename_i e2;cases he
  obtain⟨d,h1,h2⟩:=Qp h e1;obtain⟨f,l,rfl,C,G⟩:=XK h e2 h2;exact⟨f,.int .i64 l.length,G,⟨_,rfl,C⟩,λP dr dst k hk=>⟨_,h1,l,rfl,hk⟩⟩
  grind
  grind
 case min x y=>
  split at he;rename_i p q e1 e2;split at he;rename_i k x o Y e3;split at he;rename_i k2 y u a2 e4;have M:=QA1 he;obtain⟨d,h1,h2⟩:=Qp h e1;obtain⟨e,C,G⟩:=Qp h e2;obtain⟨f1,m,rfl,q1,q2⟩:=Zd h e3 h2;obtain⟨f2,n,rfl,q3,q4⟩:=Zd q2 e4 (G.ext f1);have:=Qmr (k:=k) q4 (q1.ext f2) q3;rw[M]at this;exact u7.more (u7.more (u7.bc this λP dr dst kk hk=>⟨_,h1,_,C,hk⟩))
  grind
  grind
  grind
 case max x y=>
  split at he;rename_i p q e1 e2;split at he;rename_i k x o Y e3;split at he;rename_i k2 y u a2 e4;have M:=QA1 he;obtain⟨d,h1,h2⟩:=Qp h e1;obtain⟨e,C,G⟩:=Qp h e2;obtain⟨f1,m,rfl,q1,q2⟩:=Zd h e3 h2;obtain⟨f2,n,rfl,q3,q4⟩:=Zd q2 e4 (G.ext f1);have:=Qmo (k:=k) q4 (q1.ext f2) q3;rw[M]at this;exact u7.more (u7.more (u7.bc this λP dr dst kk hk=>⟨_,h1,_,C,hk⟩))
  grind
  grind
  grind
variable {b:Bx} {dst:Option Nat} {k:Nat} {op:z5} {x:u4}
def Vl.z2 (k:Nat):Vl->Vl
 | .oo j x o=>if j=k then .dd .top else .oo j x o
 | .rr j off=>if j=k then .dd .top else .rr j off
 | .qq j x o off=>if j=k then .dd .top else .qq j x o off
 | .aa cs=>if k∈cs.flatMap Vl.l4 then .dd .top else .aa cs
 | .tp cs w=>if k∈cs.flatMap Vl.l4 then .dd .top else .tp cs w
 | .dd d=>.dd (d.z2 k)
 |v=>v
theorem Vl.yb (h:v.has ν d):(v.z2 k).has ν (d.z2 k):=by
 cases v<;>simp only[Vl.z2]
 case ty=>
  have:=Tp.l4 h
  have e:d.z2 k=d:=by
   rename_i t;cases t<;>simp only[Vl.has,Tp.has]at h<;>obtain⟨_,h⟩:=h;obtain⟨rfl,_⟩:=h;rfl;subst h;rfl;obtain⟨rfl,_⟩:=h;rfl;obtain⟨_,rfl⟩:=h;rfl;obtain⟨h,_⟩:=h;rcases h with rfl |rfl<;>rfl
   obtain⟨h,_⟩:=h;rcases h with rfl |rfl<;>rfl
   obtain⟨h,_⟩:=h;rcases h with rfl |rfl<;>rfl
  grind
 case nn=>have C:=h;obtain⟨n,rfl,_⟩:=C;exact h
 case ii=>have C:=h;obtain⟨n,rfl⟩:=C;exact h
 case bf=>have C:=h;obtain⟨n,rfl,_⟩:=C;exact h
 case ss=>have C:=h;obtain⟨n,rfl,_⟩:=C;exact h
 case ll=>have C:=h;obtain⟨n,C,_⟩:=C;rcases C with rfl |rfl<;>exact h
 case ld=>have C:=h;obtain⟨n,C,_⟩:=C;rcases C with rfl |rfl<;>exact h
 case fx=>have C:=h;obtain⟨n,C,_⟩:=C;rcases C with rfl |rfl<;>exact h
 case fl=>have C:=h;obtain⟨n,rfl,_⟩:=C;exact h
 case lf=>have C:=h;obtain⟨n,rfl,_⟩:=C;exact h
 case oo=>
  have C:=h;obtain⟨n,rfl,_⟩:=C;simp only[D.z2];split;rfl;omega
 case rr=>
  grind [Vl.has,D.z2]
 case qq=>
  have C:=h;obtain⟨n,rfl,_⟩:=C;simp only[D.z2];split;rfl;omega
 case pp=>have C:=h;obtain⟨n,rfl,_⟩:=C;exact h
 case pv=>have C:=h;obtain⟨n,rfl,_⟩:=C;exact h
 case aa=>
  have C:=h;obtain⟨ds,rfl,h1⟩:=C;simp only[D.z2,FL h1];split;rfl;omega
 case uu=>have C:=h;obtain⟨n,rfl,_⟩:=C;exact h
 case ei=>have C:=h;obtain⟨n,rfl,_⟩:=C;exact h
 case tp=>
  have C:=h;obtain⟨ds,m,rfl,h1,_⟩:=C;simp only[D.z2,FL h1];split;rfl;omega
 grind [Vl.has]
def Vl.a7 (k:Nat):Vl->Vl
 | .oo j x o=>if j=k then .dd .r8 else .oo j x o
 | .rr j off=>if j=k then .dd .r8 else .rr j off
 | .qq j x o off=>if j=k then .dd .r8 else .qq j x o off
 | .dd d=>.dd (d.a7 k)
 |v=>v
theorem Vl.ze (h:v.has ν d):(v.a7 k).has ν (d.a7 k):=by
 cases v<;>simp only[Vl.a7]
 case ty=>
  have e:d.a7 k=d:=by
   rename_i t;cases t<;>simp only[Vl.has,Tp.has]at h<;>obtain⟨_,h⟩:=h;obtain⟨rfl,_⟩:=h;rfl;subst h;rfl;obtain⟨rfl,_⟩:=h;rfl;obtain⟨_,rfl⟩:=h;rfl;obtain⟨h,_⟩:=h;rcases h with rfl |rfl<;>rfl
   obtain⟨h,_⟩:=h;rcases h with rfl |rfl<;>rfl
   obtain⟨h,_⟩:=h;rcases h with rfl |rfl<;>rfl
  grind
 case nn=>have C:=h;obtain⟨n,rfl,_⟩:=C;exact h
 case ii=>have C:=h;obtain⟨n,rfl⟩:=C;exact h
 case bf=>have C:=h;obtain⟨n,rfl,_⟩:=C;exact h
 case ss=>have C:=h;obtain⟨n,rfl,_⟩:=C;exact h
 case ll=>have C:=h;obtain⟨n,C,_⟩:=C;rcases C with rfl |rfl<;>exact h
 case ld=>have C:=h;obtain⟨n,C,_⟩:=C;rcases C with rfl |rfl<;>exact h
 case fx=>have C:=h;obtain⟨n,C,_⟩:=C;rcases C with rfl |rfl<;>exact h
 case fl=>have C:=h;obtain⟨n,rfl,_⟩:=C;exact h
 case lf=>have C:=h;obtain⟨n,rfl,_⟩:=C;exact h
 case oo=>
  have C:=h;obtain⟨n,rfl,_⟩:=C;simp only[D.a7];split;rfl;omega
 case rr=>
  grind [Vl.has,D.a7]
 case qq=>
  have C:=h;obtain⟨n,rfl,_⟩:=C;simp only[D.a7];split;rfl;omega
 case pp=>have C:=h;obtain⟨n,rfl,_⟩:=C;exact h
 case pv=>have C:=h;obtain⟨n,rfl,_⟩:=C;exact h
 case aa=>have C:=h;obtain⟨ds,rfl,h1⟩:=C;exact h
 case uu=>have C:=h;obtain⟨n,rfl,_⟩:=C;exact h
 case ei=>have C:=h;obtain⟨n,rfl,_⟩:=C;exact h
 case tp=>have C:=h;obtain⟨n,m,rfl,_⟩:=C;exact h
 grind [Vl.has]
theorem Nh {ν:List Int} {f:Vl->Vl} {g:D->D} (C:∀v d,v.has ν d->(f v).has ν (g d)):∀{vs:List Vl} {ds:List D},Vl.n4 ν vs ds->Vl.n4 ν (vs.map f) (ds.map g)
 |[],ds,h=>by grind [Vl.n4]
 |v::vs,ds,h=>by obtain⟨d,r,rfl,h1,h⟩:=h;exact⟨_,_,rfl,C _ _ h1,Nh C h⟩
def Bx.z2 (k:Nat):Bx->Bx
 | .cc cells et true=>.cc cells et true
 | .cc cells et false=>.cc (cells.map (Vl.a7 k)) et false
 |b=>b
theorem Bx.yb (h:b.has ν x):(b.z2 k).has ν (x.z2 k):=by
 cases b with
 |cc cells et pr=>
  obtain⟨ds,rfl,h1⟩:=h;cases pr
  exact⟨ds.map (D.a7 k),by simp[u4.z2],Nh (λv d h=>Vl.ze h) h1⟩;exact⟨ds,rfl,h1⟩
 |ww row x o l0 et=>
  have C:=h;obtain⟨rows,rfl,h1⟩:=C;exact h
theorem RL.map {α β:Type} {R:α->β->Prop} {f:α->α} {g:β->β} (C:∀a b,R a b->R (f a) (g b)):∀{l:List (Nat × α)} {m:List (Nat × β)},RL R l m->RL R (l.map λp=>(p.1,f p.2)) (m.map λp=>(p.1,g p.2))
 |[],m,h=>by grind [RL]
 |p::l,m,h=>by obtain⟨b,r,rfl,h1,h2⟩:=h;exact⟨_,_,rfl,C _ _ h1,RL.map C h2⟩
def AS.z2 (k:Nat) (a:AS):AS:=⟨a.fr.map λp=>(p.1,p.2.z2 k),a.H.map λp=>(p.1,p.2.z2 k),a.cs,a.nx⟩
theorem AS.ok.z2 {ν:List Int} {a:AS} {s:St} (h:a.ok ν s) (k:Nat):(a.z2 k).ok ν (s.z2 k):=
 ⟨RL.map (λv d h=>Vl.yb h) h.fr,RL.map (λv d h=>Bx.yb h) h.H,h.cs,h.nx,h.z⟩
def QcL (a:AS) (t:Nat) (b:Bx):AS:=⟨a.fr,(t,b)::a.H,a.cs,a.nx⟩
theorem TS (h:a.ok ν s) {t:Nat} (hb:b.has ν x):(QcL a t b).ok ν ⟨s.fr,(t,x)::s.H⟩:=⟨h.fr,⟨x,s.H,rfl,hb,h.H⟩,h.cs,h.nx,h.z⟩
abbrev za (ν:List Int) (a':AS) (s:St) (dr:Bool) (op:z5) (dst:Option Nat):Prop:=∃e s',a'.ok (ν++e) s'/\∀(P:Program) (k:St->Prop),k s'->step P dr op dst s k
theorem za.wi (h:u7 ν a s v op) (dr:Bool) (dst:Option Nat):za ν (DC a dst v) s dr op dst:=by
 obtain⟨e,d,h1,h2,C⟩:=h;exact⟨e,_,Xe h1 h2,λP k hk=>C P dr dst k hk⟩
theorem za.same {s':St} {dr:Bool} (h:a.ok ν s') (hk:∀(P:Program) (k:St->Prop),k s'->step P dr op dst s k):za ν a s dr op dst:=⟨[],s',by grind,hk⟩
def bxA (a:AS) (dst:Option Nat) (et:Nat) (cs:List Vl):Option AS:=
 match dst with
 |some t=>(match lk a.H t with
  |none=>some (DC (QcL a t (.cc cs et (cs.all λv=>v.l4.isEmpty))) (some t) (.rr t 0))
  |some _=>none)
 |none=>none
theorem Qjz {a':AS} {et:Nat} {cs:List Vl} {ds:List D} (h:a.ok ν s) (he:bxA a dst et cs=some a') (hd:Vl.n4 ν cs ds):∃t,dst=some t/\lk s.H t=none/\a'.ok ν (s.apply dst (.ref t 0 0) (some (Qha et ds))):=by
 unfold bxA at he;split at he;rename_i t;split at he;rename_i e1;cases he
 refine⟨t,rfl,RL.get_none h.H e1, ?_⟩;have hb:(Bx.cc cs et (cs.all λv=>v.l4.isEmpty)).has ν (Qha et ds):=⟨ds,by rw[<- TU hd];rfl,hd⟩
 exact Xe (d:=.ref t 0 0) (dst:=some t) (TS h hb) rfl
 grind
 grind
def QtZ (a:AS) (sz:Nat) (p v:Vl):Option AS:=
 match Qoh v with
 |none=>none
 |some cs=>if Nat.beq cs.length sz=true then(match p with
   | .rr k off=>(match lk a.H k with
    |some (.cc cells et pr)=>if Nat.ble (off+sz) cells.length=true then some (QcL a k (.cc (cells.take off++cs++cells.drop (off+cs.length)) et (pr&&cs.all λv=>v.l4.isEmpty)))else none
    |_=>none)
   | .qq k x o off=>(match lk a.H k with
    |some (.ww row y u l0 et)=>if XO a.cs x (o+1) y u=true/\Nat.ble (off+sz) row.length=true/\Qdw a cs ((row.drop off).take sz)=true then some (QcL a k (.ww row y u l0 et))else none
    |_=>none)
   |_=>none)else none
variable {x:Nat} {o:Int} {r:List Tp} {ys:List (List D)}
theorem GF:∀{ts us:List Tp} {ds es:List D},Tp.u3 ts ds->Tp.u3 us es->Tp.u3 (ts++us) (ds++es)
 |[],us,ds,es,h,h2=>by grind [Tp.u3]
 |t::ts,us,ds,es,h,h2=>by obtain⟨d,r,rfl,h1,h⟩:=h;exact⟨d,_,rfl,h1,GF h h2⟩
theorem QnO {sz:Nat} {p:Vl} {x y:n5} {q:D} {dr:Bool} {dst:Option Nat} (h:a.ok ν s) (he:QtZ a sz p v=some a') (hx:s.ev x=some d) (hp:p.has ν d) (hy:s.ev y=some q) (hv:v.has ν q):za ν (DC a' dst (.dd .undef)) s dr (.store sz x y) dst:=by
 unfold QtZ at he;split at he
 grind
 rename_i cs e0;obtain⟨C,hc,T⟩:=Lf e0 hv;have hcl:=ZF T;split at he;rename_i U;have U:=QA6 U;split at he;rename_i k off;split at he;rename_i cells et pr e1;split at he;rename_i hb;have hb:=QzN hb;cases he
 obtain⟨b,M,ds,rfl,O⟩:=RL.get h.H e1;have hdl:=ZF O;simp only[Vl.has]at hp;subst hp;refine za.same (s':=St.apply ⟨s.fr,(k,⟨[setRow ds off C],ds.length,et,pr&&C.all λd=>d.l4.isEmpty⟩)::s.H⟩ dst .undef none) (Xe (TS h ?_) rfl) λP kk hk=>⟨_,hx,_,M,ds,rfl,q,hy,C,hc,Wa,Wa,hk⟩;refine⟨setRow ds off C, ?_, ?_⟩
 grind [TU,setRow]
 have:=Ng (Ng (XH off O) T) (Kz (off+cs.length) O);rw[<- hcl]at this ⊢;trivial
 grind
 grind
 rename_i k x0 o off;split at he;rename_i row y0 u l0 et e1;split at he;rename_i hh;cases he
 obtain⟨b,M,rows,rfl,h1,h2⟩:=RL.get h.H e1;obtain⟨i,rfl,h3⟩:=hp;have hi:=Qm h.cs hh.1 (h3.up 1) h1;have hi':i<rows.length:=Wa;have hoff:=QzN hh.2.1;have Y:=BX h hh.2.2 T;have G:=h2 _ (QzS hi');have hrl:=Tp.kb G
 have hnew:Tp.u3 row (setRow rows[i] off C):=by
  have:=GF (GF (Cr off G) Y) (Ni (off+sz) G);rw[show row.take off++(row.drop off).take sz++row.drop (off+sz)=row by grind [List.take_append_drop]]at this;rw[show off+sz=off+C.length by omega]at this;trivial
 have V:(C.all λd=>d.l4.isEmpty)=true:=by
  grind [Tp.xf]
 refine za.same (s':=St.apply ⟨s.fr,(k,⟨rows.set i (setRow rows[i] off C),l0,et,true&&C.all λd=>d.l4.isEmpty⟩)::s.H⟩ dst .undef none) (Xe (TS h ?_) rfl) λP kk hk=>⟨_,hx,_,M,rows[i],by simp,q,hy,C,hc,Wa,Wa,hk⟩;refine⟨_,by rw[V];rfl,by grind,λr hr=>?_⟩
 all_goals grind
theorem Qfb:∀{r q:List Tp},Tp.ib r q=true->r.length=q.length
 |[],q,h=>by
  grind [Tp.ib]
 |t::r,q,h=>by
  simp only[Tp.ib]at h;split at h;simp only[QzR]at h;simp[Qfb h.2]
  grind
def QtY (a:AS) (l0:Nat) (v:Vl):Option (List Tp × Nat × Int × AS):=
 match v with
 | .oo k x o=>(match lk a.H k with
  |some (.ww r y u e _)=>if Nat.beq e l0=true/\Nat.beq r.length l0=true/\Nat.beq x y=true/\decide (o=u)=true then some (r,x,o,a)else none
  |_=>none)
 |v=>(match Qhi a v with
  |some (r,x,o,a1)=>if Nat.beq r.length l0=true then some (r,x,o,a1)else if XO a1.cs x o 0 0=true then some (List.replicate l0 .b,0,0,a1)else none
  |none=>none)
abbrev Qsv (ν:List Int) (a':AS) (s:St) (l0:Nat) (d:D) (r:List Tp) (x:Nat) (o:Int):Prop:=r.length=l0/\∃e ys,x6 (ν++e) x o (ys.length:Nat)/\(∀y∈ys,Tp.u3 r y)/\a'.ok (ν++e) s/\∀kk:List (List D)->Bool->Prop,kk ys true->Dd s l0 d kk
theorem QnM (h:a.ok ν s) (he:QtY a l0 v=some (r,x,o,a')) (M:v.has ν d):Qsv ν a' s l0 d r x o:=by
 unfold QtY at he;split at he;rename_i k U V;split at he;rename_i r0 y u e0 et e1;split at he;rename_i C;obtain⟨b,hb,rows,rfl,h1,h2⟩:=RL.get h.H e1;obtain⟨n,rfl,G⟩:=M;cases he
 have O:=QA6 C.2.2.1;have e6:=of_decide_eq_true C.2.2.2;subst O e6;have e7:=x6.inj G h1;exact⟨QA6 C.2.1,[],rows,by grind,h2,by grind,λkk hk=>⟨_,hb,by grind,QA6 C.1,hk⟩⟩
 grind
 grind
 split at he;rename_i r0 U V a1 e1;split at he;rename_i C;cases he
 obtain⟨f,rows,hd,h1,h2,G⟩:=Yp h e1 M;have Y:=QA6 C;refine⟨Y,f,rows,h1,h2,G,λkk hk=>?_⟩;have key:(∀r∈rows,r.length=l0)/\kk rows true:=⟨λy T=>by grind [Tp.kb],hk⟩;rcases hd with rfl |rfl<;>exact key
 split at he;rename_i C;cases he
 obtain⟨f,rows,hd,h1,h2,G⟩:=Yp h e1 M;have e4:=Qm G.cs C h1 (YU G.z 0);have O:rows=[]:=QAq Wa;subst O;refine⟨List.length_replicate,f,[],YU G.z 0,(λy T=>by grind),G,λkk hk=>?_⟩;have key:(∀r∈([]:List (List D)),r.length=l0)/\kk [] true:=⟨(λy T=>by grind),hk⟩;rcases hd with rfl |rfl<;>exact key
 grind
 grind
def QnK (a:AS) (l0:Nat) (row:Option (List Tp)) (v:Vl):Option (List Tp × Nat × Int × AS):=
 match v with
 | .fl rows=>(match row with
  |some r=>if(rows.all λq=>Qdw a q r)=true/\Nat.beq r.length l0=true then some (r,0,(rows.length:Int),a)else none
  |none=>(match Qkh a rows with
   |some r=>if(rows.all λq=>Qdw a q r)=true/\Nat.beq r.length l0=true then some (r,0,(rows.length:Int),a)else none
   |none=>none))
 |v=>(match QtY a l0 v with
  |some (r,x,o,a1)=>(match row with
   |none=>some (r,x,o,a1)
   |some q=>if Tp.ib r q=true\/(Nat.beq q.length l0=true/\Nat.beq x 0=true/\decide (o=0)=true)then some (q,x,o,a1)else none)
  |none=>none)
theorem Qbe {ν:List Int} {a:AS} {s:St} (h:a.ok ν s) {r:List Tp}:∀{vs:List (List Vl)} {rs:List (List D)},(vs.all λq=>Qdw a q r)=true->Vl.k7 ν vs rs->∀x∈rs,Tp.u3 r x
 |[],rs,_,hd=>by grind [Vl.k7]
 |v::vs,rs,hf,hd=>by
  obtain⟨d,q,rfl,h1,h2⟩:=hd;simp only[QAK,QzR]at hf;intro x hx;rcases QzP.1 hx with rfl |hx
  grind [BX]
  exact Qbe h hf.2 h2 x hx
theorem QnL {rows:List (List Vl)} (h:a.ok ν s) (M:(rows.all λq=>Qdw a q r)=true) (C:Nat.beq r.length l0=true) (G:(Vl.fl rows).has ν d):Qsv ν a s l0 d r 0 rows.length:=by
 obtain⟨rs,rfl,h1⟩:=G;have h2:=Qbe h M h1;have C:=QA6 C;exact⟨C,[],rs,by rw[QAj,Rx h1];exact YU h.z _,h2,by grind,λkk hk=>⟨λy O=>by grind [Tp.kb],hk⟩⟩
theorem Dc {row:Option (List Tp)} (h:a.ok ν s) (he:QnK a l0 row v=some (r,x,o,a')) (G:v.has ν d):(∀q,row=some q->r=q)/\Qsv ν a' s l0 d r x o:=by
 unfold QnK at he;split at he
 grind [QnL]
 split at he;rename_i r0 T U a1 e1;have h1:=QnM h e1 G;split at he
 grind
 split at he;rename_i q C;cases he
 obtain⟨h2,f,ys,O,h4,M,Y⟩:=h1;rcases C with C |⟨V,hx,ho⟩
 grind [Qfb,Tp.n7]
 have e2:=QA6 hx;have e3:=of_decide_eq_true ho;subst e2 e3;have e4:=x6.inj O (YU M.z 0)
 grind [Nat.eq_of_beq_eq_true]
 grind
 grind
def GT (a:AS) (q:Vl) (x:Nat) (o:Int) (y:Nat) (u:Int):Nat × Int × AS:=
 match q with
 | .ld _ hx ho lx lo=>if Nat.beq lx x=true then(hx,o+ho - lo,a)else Qi2 a x o y u
 |_=>Qi2 a x o y u
theorem QnN {rows:List (List D)} (hd:isL d rows) (h:∀kk:List (List D)->Bool->Prop,kk ys true->Dd s l0 d kk):rows=ys:=by
 have:=h (λy _=>y=ys) rfl;rcases hd with rfl |rfl<;>exact this.2
theorem QaA {f:List Int} {O:St} {q:Vl} {y:Nat} {u n:Int} (h:a.ok (ν++f) s) (U:q.has ν d) (T:∀kk:List (List D)->Bool->Prop,kk ys true->Dd O l0 d kk) (hm:x6 (ν++f) x o n) (hn:x6 (ν++f) y u (ys.length:Nat)):∃e,x6 (ν++f++e) (GT a q x o y u).1 (GT a q x o y u).2.1 (n+(ys.length:Nat))/\(GT a q x o y u).2.2.ok (ν++f++e) s:=by
 unfold GT;split;rename_i row hx ho lx lo;split;rename_i e;have e:=QA6 e;subst e;obtain⟨rows,hd,⟨a1,b1,h1,h2,h3⟩,_⟩:=U;have:=QnN hd T;subst this;obtain⟨v,M,w2⟩:=h1.ext f;obtain⟨v2,G,Y⟩:=h2.ext f;obtain⟨v3,C,V⟩:=hm;rw[G]at C;cases C;exact⟨[],x6.ext [] (show x6 (ν++f) hx (o+ho - lo) (n+(rows.length:Nat)) from⟨v,M,Wa⟩),by grind⟩
 grind [Qax]
 grind [Qax]
variable {bytes et t:Nat} {q:Vl} {rows:List (List D)} {y:n5}
def Rk (a:AS) (x:Nat) (o:Int) (bytes:Nat):Bool:=
 match bdN a x o with
 |some (_,hi)=>decide (hi*(bytes:Int)<=140737488355328)&&decide (hi<=4611686018427387904)
 |none=>false
theorem Ga {n:Nat} (h:a.ok ν s) (C:Rk a x o bytes=true) (G:x6 ν x o n):n*bytes<=140737488355328/\n<=4611686018427387904:=by
 unfold Rk at C;split at C;rename_i l hi e;simp only[QzR,decide_eq_true_eq]at C;have b:=Yy h e G;have h1:(n:Int)*bytes<=hi*bytes:=Int.mul_le_mul_of_nonneg_right b.2 Wa;omega
 grind
theorem HI (h:a.ok ν s) {row:List Tp} (C:x6 ν x o (rows.length:Nat)) (hr:∀r∈rows,Tp.u3 row r):(QcL a t (.ww row x o l0 et)).ok ν ⟨s.fr,(t,⟨rows,l0,et,true⟩)::s.H⟩:=TS h ⟨rows,rfl,C,hr⟩
def QtX (a:AS) (l0:Nat) (r:List Tp) (q:Vl) (emp:Bool):List Tp:=
 match QnK a l0 none q with
 |some (r2,_,_,_)=>(match emp with
  |true=>r2
  |false=>(Tp.fg r r2).getD r)
 |none=>r
theorem Qel {r C:List Tp} (z:ν[0]?=some 0) (h:(Tp.ib r C||(Nat.beq x 0&&decide (o=0)))=true) (G:x6 ν x o (rows.length:Nat)) (hr:∀y∈rows,Tp.u3 r y):∀y∈rows,Tp.u3 C y:=by
 simp only[QAT,QzR,decide_eq_true_eq]at h;rcases h with h |⟨e,rfl⟩
 grind [Tp.n7]
 have e:=QA6 e;subst e;have e2:=x6.inj G (YU z 0)
 grind
def Qsz (a:AS) (dr:Bool) (l0 et bytes t:Nat) (p q:Vl):Option AS:=
 match p with
 | .fl []=>(match QnK a l0 none q with
  |some (r,x,o,a1)=>(match lk a1.H t with
   |none=>if Rk a1 x o bytes=true then some (DC (QcL a1 t (.ww r x o l0 et)) (some t) (.oo t x o))else none
   |some _=>none)
  |none=>none)
 | .lf row x o=>(match QnK a l0 (some (QtX a l0 row q (Nat.beq x 0&&decide (o=0)))) q with
  |some (r2,sx,so,a1)=>(match lk a1.H t with
   |none=>if Rk (GT a1 q x o sx so).2.2 (GT a1 q x o sx so).1 (GT a1 q x o sx so).2.1 bytes=true/\(Tp.ib row r2||(Nat.beq x 0&&decide (o=0)))=true/\Nat.beq row.length l0=true/\XO a1.cs 0 1 sx so=true then
     some (DC (QcL (GT a1 q x o sx so).2.2 t (.ww r2 (GT a1 q x o sx so).1 (GT a1 q x o sx so).2.1 l0 et)) (some t) (.oo t (GT a1 q x o sx so).1 (GT a1 q x o sx so).2.1))else none
   |some _=>none)
  |none=>none)
 | .oo k x o=>(match lk a.H k with
  |some (.ww r y u e et2)=>if dr=false/\Nat.ble (k+1) 1000000=true/\Nat.beq e l0=true/\Nat.beq et2 et=true/\Nat.beq x y=true/\decide (o=u)=true then(match QnK a l0 (some (QtX a l0 r q (Nat.beq x 0&&decide (o=0)))) q with
    |some (r2,sx,so,a1)=>if Rk (GT a1 q x o sx so).2.2 (GT a1 q x o sx so).1 (GT a1 q x o sx so).2.1 bytes=true/\(Tp.ib r r2||(Nat.beq x 0&&decide (o=0)))=true then
      some (DC (QcL ((GT a1 q x o sx so).2.2.z2 k) k (.ww r2 (GT a1 q x o sx so).1 (GT a1 q x o sx so).2.1 l0 et)) (some t) (.oo k (GT a1 q x o sx so).1 (GT a1 q x o sx so).2.1))else none
    |none=>none)else none
  |_=>none)
 |_=>none
theorem Qk0 {dr:Bool} {x:n5} (h:a.ok ν s) (he:Qsz a dr l0 et bytes t p q=some a') (hx:s.ev x=some d) (hp:p.has ν d) (C:s.ev y=some e) (hq:q.has ν e):za ν a' s dr (.append l0 et bytes x y) (some t):=by
 have hy':=C;unfold Qsz at he;split at he;split at he;rename_i r V o a1 e1;split at he;rename_i e2;split at he;rename_i T;cases he
 obtain⟨_,hl,f,ys,h1,h2,M,U⟩:=Dc h e1 hq;obtain⟨rs,rfl,hr⟩:=hp;simp only[Vl.k7]at hr;subst hr;obtain⟨b1,b2⟩:=Ga M T h1;have hn:=RL.get_none M.H e2;refine⟨f,s.apply (some t) (.s4 t (0+ys.length)) (some ⟨[]++ys,l0,et,true⟩), ?_,λP k hk=>⟨_,hx,_,C,U _ ⟨t,rfl,hn,.inl rfl,(λr hr=>by grind),by grind,by grind,hk⟩⟩⟩;refine Xe (dst:=some t) (d:=.s4 t (0+ys.length)) (HI M h1 h2) ⟨_,rfl, ?_⟩
 grind
 grind
 grind
 grind
 rename_i row V o;split at he;rename_i r2 sx so a1 e2;split at he;rename_i e3;split at he;rename_i O;cases he
 obtain⟨T,hle,hel,hne⟩:=O;obtain⟨_,hl,f,ys,h1,h2,M,U⟩:=Dc h e2 hq;obtain⟨rows,rfl,Y,h6⟩:=hp;have hn:lk s.H t=none:=RL.get_none M.H e3;obtain⟨f2,w1,w2⟩:=QaA M hq U (Y.ext f) h1;have G:x6 (ν++f++f2) (GT a1 q V o sx so).1 (GT a1 q V o sx so).2.1 ((rows.length+ys.length:Nat):Int):=by grind
 obtain⟨b1,b2⟩:=Ga w2 T G;have C:ys≠[]:=λe=>by subst e;have:=Qm M.cs hne (YU M.z 1) h1;grind
 refine⟨f++f2,s.apply (some t) (.s4 t (rows.length+ys.length)) (some ⟨rows++ys,l0,et,true⟩), ?_,λP k hk=>⟨_,hx,_,hy',U _ ⟨t,rfl,hn,.inr C,(λr hr=>by rw[Tp.kb (h6 r hr)];simp_all),b1,b2,hk⟩⟩⟩
 rw[<- QAD];refine Xe (dst:=some t) (d:=.s4 t (rows.length+ys.length)) (HI (rows:=rows++ys) w2 Wb λy C=>?_) ⟨_,rfl,G⟩;rcases QzY.1 C with C |C
 exact Qel h.z hle Y h6 y C
 grind
 grind
 grind
 grind
 rename_i k V o;split at he;rename_i r y0 u e0 et2 e1;split at he;rename_i O;split at he;rename_i r2 sx so a1 e2;split at he;rename_i T;cases he
 obtain⟨T,hle⟩:=T;obtain⟨_,hl,f,ys,h1,h2,M,U⟩:=Dc h e2 hq;obtain⟨b,hb,rows,rfl,Y,h6⟩:=RL.get h.H e1;obtain⟨n,rfl,h7⟩:=hp;have q1:=QA6 O.2.2.2.2.1;have q2:=of_decide_eq_true O.2.2.2.2.2;subst q1 q2;have q3:=x6.inj h7 Y;have q3:n=rows.length:=Wa;subst q3;have q4:=QA6 O.2.2.1;have q5:=QA6 O.2.2.2.1;subst q4 q5;obtain⟨f2,w1,w2⟩:=QaA M hq U (Y.ext f) h1;have G:x6 (ν++f++f2) (GT a1 q V o sx so).1 (GT a1 q V o sx so).2.1 ((rows.length+ys.length:Nat):Int):=by grind
 obtain⟨b1,b2⟩:=Ga w2 T G;refine⟨f++f2,St.apply ⟨(s.z2 k).fr,(k,⟨rows++ys,e0,et2,true⟩)::(s.z2 k).H⟩ (some t) (.s4 k (rows.length+ys.length)) none, ?_,λP kk hk=>⟨_,hx,_,C,U _ ⟨O.1,QzN O.2.1,_,hb,rfl,rfl,rfl,.inl rfl,b1,b2,hk⟩⟩⟩;rw[<- QAD];refine Xe (dst:=some t) (d:=.s4 k (rows.length+ys.length)) (HI (rows:=rows++ys) (w2.z2 k) Wb λy C=>?_) ⟨_,rfl,G⟩;rcases QzY.1 C with C |C
 exact Qel h.z hle Y h6 y C
 all_goals grind
def mkA (a:AS) (l0 et bytes:Nat) (zero:List D) (t:Nat) (p q:Vl):Option AS:=
 match toN a p with
 |some (_,x,o,a1)=>(match q with
  | .nn _ y u=>if Nat.beq x y=true/\decide (o=u)=true/\XO a1.cs 0 0 x o=true/\Rk a1 x o bytes=true then(match QnV a1 (zero.map cVl),lk a1.H t with
    |some r,none=>if Qdw a1 (zero.map cVl) r=true then some (DC (QcL a1 t (.ww r x o l0 et)) (some t) (.oo t x o))else none
    |_,_=>none)else none
  |_=>none)
 |none=>none
theorem QpP {dr:Bool} {zero:List D} {x:n5} (h:a.ok ν s) (he:mkA a l0 et bytes zero t p q=some a') (hx:s.ev x=some d) (hp:p.has ν d) (Y:s.ev y=some e) (hq:q.has ν e):za ν a' s dr (.makeSlice l0 et bytes zero x y) (some t):=by
 unfold mkA at he;split at he;rename_i k0 O o a1 e1;split at he;rename_i k1 y0 u;split at he;rename_i G;split at he;rename_i r e2 e3;split at he;rename_i hf;cases he
 obtain⟨f,n,rfl,h1,h2⟩:=Zd h e1 hp;obtain⟨m,rfl,h3⟩:=hq;have V:=QA6 G.1;have U:=of_decide_eq_true G.2.1;subst V U;have T:=x6.inj h1 (h3.ext f);subst T;have M:=Qm h2.cs G.2.2.1 (YU h2.z 0) h1;have hnn:((n.toNat:Nat):Int)=n:=Int.toNat_of_nonneg M;have C:x6 (ν++f) O o (n.toNat:Nat):=by grind
 obtain⟨b1,b2⟩:=Ga h2 G.2.2.2 C;have hz:=BX h2 hf (Qbp h2.z zero);refine⟨f,s.apply (some t) (.s4 t n.toNat) (some ⟨List.replicate n.toNat zero,l0,et,true⟩), ?_,λP k hk=>⟨_,hx,_,Y,t,rfl,RL.get_none h2.H e3,rfl,M,Wa,b2,hk⟩⟩;refine Xe (dst:=some t) (d:=.s4 t n.toNat) (HI (rows:=List.replicate n.toNat zero) h2 Wb λr hr=>?_) ⟨_,rfl,C⟩
 all_goals grind
def opA (a:AS) (dr:Bool) (op:z5) (dst:Option Nat):Option AS:=
 match op with
 | .alloc et cells=>bxA a dst et (cells.map cVl)
 | .box et x=>(match evA a x with
  |some v=>(match Qoh v with
   |some cs=>bxA a dst et cs
   |none=>none)
  |none=>none)
 | .store sz x v=>(match evA a x,evA a v with
  |some p,some q=>(match QtZ a sz p q with
   |some a1=>some (DC a1 dst (.dd .undef))
   |none=>none)
  |_,_=>none)
 | .append l0 et bytes x y=>(match evA a x,evA a y,dst with
  |some p,some q,some t=>Qsz a dr l0 et bytes t p q
  |_,_,_=>none)
 | .makeSlice l0 et bytes zero x y=>(match evA a x,evA a y,dst with
  |some p,some q,some t=>mkA a l0 et bytes zero t p q
  |_,_,_=>none)
 |op=>(match QqY a op with
  |some (a1,v)=>some (DC a1 dst v)
  |none=>none)
theorem QfF {dr:Bool} {op:z5} {dst:Option Nat} (h:a.ok ν s) (he:opA a dr op dst=some a'):za ν a' s dr op dst:=by
 unfold opA at he;split at he;rename_i et cells;obtain⟨t,rfl,h1,h2⟩:=Qjz h he (Qbp h.z cells);exact za.same h2 λP k hk=>⟨t,rfl,h1,hk⟩;rename_i et x;split at he;rename_i v e1;split at he;rename_i cs e2;obtain⟨d,h1,h2⟩:=Qp h e1;obtain⟨ds,G,C⟩:=Lf e2 h2;obtain⟨t,rfl,O,M⟩:=Qjz h he C;exact za.same M λP k hk=>⟨t,rfl,d,h1,ds,G,O,hk⟩
 grind
 grind
 split at he;rename_i p q e1 e2;split at he;rename_i T e3;cases he
 obtain⟨d,h1,h2⟩:=Qp h e1;obtain⟨e,G,C⟩:=Qp h e2;exact QnO h e3 h1 h2 G C
 grind
 grind
 grind [Qp,Qk0]
 split at he;rename_i p q t e1 e2;obtain⟨d,h1,h2⟩:=Qp h e1;obtain⟨e,G,C⟩:=Qp h e2;exact QpP h he h1 h2 G C
 grind
 split at he;rename_i T v e1;cases he
 exact za.wi (Qn0 h e1) dr dst
 grind
end Go.Abs
namespace Go.Abs
open Go
abbrev Sg:=List (Nat × Int)
def Sg.at (σ:Sg) (x:Nat):Nat × Int:=σ.getD x (0,0)
def Cn.sub (σ:Sg) (c:Cn):Cn:=((σ.at c.1).1,(σ.at c.2.1).1,c.2.2+(σ.at c.2.1).2 - (σ.at c.1).2)
mutual
def Vl.sub (σ:Sg):Vl->Vl
 | .ty t=>.ty t
 | .nn k x o=>.nn k (σ.at x).1 ((σ.at x).2+o)
 | .ii k=>.ii k
 | .bf t f=>.bf (t.map (Cn.sub σ)) (f.map (Cn.sub σ))
 | .ss x o=>.ss (σ.at x).1 ((σ.at x).2+o)
 | .ll row x o=>.ll row (σ.at x).1 ((σ.at x).2+o)
 | .ld row hx ho lx lo=>.ld row (σ.at hx).1 ((σ.at hx).2+ho) (σ.at lx).1 ((σ.at lx).2+lo)
 | .fl rows=>.fl (Vl.ve σ rows)
 | .oo k x o=>.oo k (σ.at x).1 ((σ.at x).2+o)
 | .rr k off=>.rr k off
 | .qq k x o off=>.qq k (σ.at x).1 ((σ.at x).2+o) off
 | .pp c=>.pp c
 | .pv c=>.pv (Vl.sd σ c)
 | .fx rows=>.fx (Vl.ve σ rows)
 | .lf row x o=>.lf row (σ.at x).1 ((σ.at x).2+o)
 | .aa cs=>.aa (Vl.sd σ cs)
 | .uu cs=>.uu (Vl.sd σ cs)
 | .ei k lo hi tt=>.ei k lo hi (tt.map (Cn.sub σ))
 | .tp cs w=>.tp (Vl.sd σ cs) (w.sub σ)
 | .dd d=>.dd d
def Vl.sd (σ:Sg):List Vl->List Vl
 |[]=>[]
 |v::vs=>v.sub σ::Vl.sd σ vs
def Vl.ve (σ:Sg):List (List Vl)->List (List Vl)
 |[]=>[]
 |v::vs=>Vl.sd σ v::Vl.ve σ vs
end
def Sg.ok (ν μ:List Int) (σ:Sg):Prop:=∀x n,μ[x]?=some n->x6 ν (σ.at x).1 (σ.at x).2 n
section
variable {ν μ:List Int} {σ:Sg} (hσ:σ.ok ν μ)
include hσ
theorem x6.sub {x:Nat} {o n:Int} (h:x6 μ x o n):x6 ν (σ.at x).1 ((σ.at x).2+o) n:=by
 obtain⟨v,h1,rfl⟩:=h;obtain⟨w,h2,C⟩:=hσ x v h1;exact⟨w,h2,Wa⟩
theorem v7.sub {cs:List Cn} (h:v7 μ cs):v7 ν (cs.map (Cn.sub σ)):=λc G=>by
 obtain⟨c0,C,rfl⟩:=Qz1.1 G;obtain⟨a,b,h1,h2,V⟩:=h c0 C;obtain⟨v,O,U⟩:=hσ _ _ h1;obtain⟨w,M,T⟩:=hσ _ _ h2;exact⟨v,w,O,M,by grind [Cn.sub]⟩
mutual
theorem Vl.la:∀{v:Vl} {d:D},v.has μ d->(v.sub σ).has ν d
 | .ty t,d,h=>h
 | .nn k x o,d,h=>let⟨n,h1,h2⟩:=h;⟨n,h1,h2.sub hσ⟩
 | .ii k,d,h=>h
 | .bf t f,d,h=>let⟨b,h1,h2,h3⟩:=h;⟨b,h1,λq=>(h2 q).sub hσ,λq=>(h3 q).sub hσ⟩
 | .ss x o,d,h=>let⟨n,h1,h2⟩:=h;⟨n,h1,h2.sub hσ⟩
 | .ll row x o,d,h=>let⟨n,h1,h2,h3⟩:=h;⟨n,h1,h2.sub hσ,h3⟩
 | .ld row hx ho lx lo,d,h=>let⟨n,h1,⟨a,b,h4,h5,h6⟩,h3⟩:=h;⟨n,h1,⟨a,b,h4.sub hσ,h5.sub hσ,h6⟩,h3⟩
 | .fl rows,d,h=>let⟨n,h1,h2⟩:=h;⟨n,h1,Vl.dc h2⟩
 | .oo k x o,d,h=>let⟨n,h1,h2⟩:=h;⟨n,h1,h2.sub hσ⟩
 | .rr k off,d,h=>h
 | .qq k x o off,d,h=>let⟨n,h1,h2⟩:=h;⟨n,h1,h2.sub hσ⟩
 | .pp c,d,h=>h
 | .pv c,d,h=>let⟨n,h1,h2⟩:=h;⟨n,h1,Vl.da h2⟩
 | .fx c,d,h=>let⟨n,h1,h2⟩:=h;⟨n,h1,Vl.dc h2⟩
 | .lf row x o,d,h=>let⟨n,h1,h2,h3⟩:=h;⟨n,h1,h2.sub hσ,h3⟩
 | .aa cs,d,h=>let⟨n,h1,h2⟩:=h;⟨n,h1,Vl.da h2⟩
 | .uu cs,d,h=>let⟨n,h1,h2⟩:=h;⟨n,h1,Vl.da h2⟩
 | .ei k lo hi tt,d,h=>let⟨n,h1,h2,h3⟩:=h;⟨n,h1,h2,λq=>(h3 q).sub hσ⟩
 | .tp cs w,d,h=>let⟨n,m,h1,h2,h3⟩:=h;⟨n,m,h1,Vl.da h2,Vl.la h3⟩
 | .dd d2,d,h=>h
theorem Vl.da:∀{vs:List Vl} {ds:List D},Vl.n4 μ vs ds->Vl.n4 ν (Vl.sd σ vs) ds
 |[],ds,h=>h
 |v::vs,ds,h=>let⟨d,r,h1,h2,h3⟩:=h;⟨d,r,h1,Vl.la h2,Vl.da h3⟩
theorem Vl.dc:∀{vs:List (List Vl)} {ds:List (List D)},Vl.k7 μ vs ds->Vl.k7 ν (Vl.ve σ vs) ds
 |[],ds,h=>h
 |v::vs,ds,h=>let⟨d,r,h1,h2,h3⟩:=h;⟨d,r,h1,Vl.da h2,Vl.dc h3⟩
end
end
structure Ct where
 az:List Vl
 nx:Nat
 cs:List Cn
 rv:Vl
 mx:Nat
 rc:List Cn
def Ct.ok (P:Program) (f:Nat) (c:Ct):Prop:=∀(μ:List Int) (ds:List D),μ.length=c.nx->μ[0]?=some 0->v7 μ c.cs->Vl.n4 μ c.az ds->∃e d,(μ++e).length=c.mx/\v7 (μ++e) c.rc/\c.rv.has (μ++e) d/\Ok P f ds d
def Qk2 (a:AS):Vl->Option Vl
 | .ty t=>some (.ty t)
 | .nn k x o=>some (.nn k x o)
 | .ii k=>some (.ii k)
 | .bf t f=>some (.bf t f)
 | .ss x o=>some (.ss x o)
 | .ll row x o=>some (.ll row x o)
 | .ld row hx ho lx lo=>some (.ld row hx ho lx lo)
 | .lf row x o=>some (.ll row x o)
 | .fl rows=>some (.fx rows)
 | .fx rows=>some (.fx rows)
 | .ei k lo hi _=>some (.ty (.i k lo hi))
 | .oo k x o=>(match lk a.H k with
  |some (.ww row y u _ _)=>if Nat.beq x y=true/\decide (o=u)=true then some (.ll row x o)else none
  |_=>none)
 |_=>none
end Go.Abs
namespace Go.Abs
open Go
variable {a:AS} {d:D} {s:St} {v w:Vl} {ν:List Int}
theorem QqW {t:Tp} (h:t.has d) (H:QzK):t.has ((d.o7 H JG).y6)/\(d.fz H JG).can=(d.o7 H JG).y6:=by
 cases t<;>simp only[Tp.has]at h<;>obtain⟨x,h⟩:=h
 obtain⟨rfl,h1⟩:=h;exact⟨⟨_,rfl,h1⟩,rfl⟩;subst h;exact⟨⟨_,rfl⟩,rfl⟩;obtain⟨rfl,h1⟩:=h;exact⟨⟨_,rfl,h1⟩,rfl⟩;obtain⟨h1,rfl⟩:=h;exact⟨⟨_,h1,rfl⟩,rfl⟩;obtain⟨h,h1⟩:=h;rcases h with rfl |rfl<;>exact⟨⟨_,.inl rfl,h1⟩,rfl⟩
 obtain⟨h,h1⟩:=h;rcases h with rfl |rfl<;>exact⟨⟨_,.inl rfl,h1⟩,rfl⟩
 obtain⟨h,h1⟩:=h;rcases h with rfl |rfl<;>exact⟨⟨_,.inl rfl,h1⟩,rfl⟩
theorem PW (h:a.ok ν s) (he:Qk2 a v=some w) (C:v.has ν d):w.has ν ((d.o7 s.H JG).y6)/\(d.fz s.H JG).can=(d.o7 s.H JG).y6:=by
 unfold Qk2 at he;split at he;cases he;exact QqW C _;cases he;have G:=C;obtain⟨n,rfl,_⟩:=G;trivial;cases he;have G:=C;obtain⟨n,rfl⟩:=G;trivial;cases he;have G:=C;obtain⟨n,rfl,_⟩:=G;trivial;cases he;have G:=C;obtain⟨n,rfl,_⟩:=G;trivial;cases he;obtain⟨rows,h0,h1⟩:=C;rcases h0 with rfl |rfl<;>exact⟨⟨rows,.inl rfl,h1⟩,rfl⟩
 cases he;obtain⟨rows,h0,h1⟩:=C;rcases h0 with rfl |rfl<;>exact⟨⟨rows,.inl rfl,h1⟩,rfl⟩
 cases he;obtain⟨rows,rfl,h1⟩:=C;exact⟨⟨rows,.inl rfl,h1⟩,rfl⟩
 cases he;obtain⟨rs,rfl,hr⟩:=C;exact⟨⟨rs,.inl rfl,hr⟩,rfl⟩
 cases he;obtain⟨rs,hd,hr⟩:=C;rcases hd with rfl |rfl<;>exact⟨⟨rs,.inl rfl,hr⟩,rfl⟩
 cases he;obtain⟨n,rfl,h1,_⟩:=C;exact⟨⟨n,rfl,h1⟩,rfl⟩
 rename_i k x o;split at he;rename_i row y u l0 et e1;split at he;rename_i M;cases he
 obtain⟨b,hb,rows,rfl,h1,h2⟩:=RL.get h.H e1;obtain⟨n,rfl,O⟩:=C;have V:=QA6 M.1;have U:=of_decide_eq_true M.2;subst V U;have Y:=x6.inj O h1;have T:n=rows.length:=Wa;subst T;have key:(D.s4 k rows.length).o7 s.H JG=.sl rows:=by grind [D.o7,JG]
 refine⟨?_, ?_⟩;rw[key];exact⟨rows,.inl rfl,h1,h2⟩;show((D.s4 k rows.length).o7 s.H JG).can=_;rw[key];rfl
 all_goals grind
def QoP (a:AS):List Vl->Option (List Vl)
 |[]=>some []
 |v::vs=>match Qk2 a v,QoP a vs with
  |some w,some ws=>some (w::ws)
  |_,_=>none
theorem QdQ {ν:List Int} {a:AS} {s:St} (h:a.ok ν s):∀{vs ws:List Vl} {ds:List D},QoP a vs=some ws->Vl.n4 ν vs ds->Vl.n4 ν ws (ds.map λd=>(d.o7 s.H JG).y6)
 |[],ws,ds,he,hv=>by
  grind [QoP,Vl.n4]
 |v::vs,ws,ds,he,hv=>by
  simp only[QoP]at he;split at he;rename_i w C e1 e2;cases he
  obtain⟨d,r,rfl,h1,h2⟩:=hv;exact⟨_,_,rfl,(PW h e1 h1).1,QdQ h e2 h2⟩
  grind
def Qju (a:AS) (v:Vl):Option Vl:=
 match v with
 | .aa cs=>(match QoP a cs with
  |some ws=>some (.aa ws)
  |none=>none)
 |v=>Qk2 a v
theorem N3 (h:a.ok ν s) (he:Qju a v=some w) (C:v.has ν d):w.has ν (XL s d):=by
 unfold Qju at he;split at he;split at he;rename_i ws e1;cases he
 obtain⟨ds,rfl,h1⟩:=C;refine⟨_,rfl, ?_⟩;have:=QdQ h e1 h1;rw[QA7];trivial
 grind
 obtain⟨h1,h2⟩:=PW h he C
 grind [XL]
def QdR (a:AS):List n5->Option (List Vl)
 |[]=>some []
 |x::r=>match evA a x with
  |some v=>(match Qju a v,QdR a r with
   |some w,some ws=>some (w::ws)
   |_,_=>none)
  |none=>none
theorem QaL {ν:List Int} {a:AS} {s:St} (h:a.ok ν s):∀{xs:List n5} {ws:List Vl},QdR a xs=some ws->∃ds,QD s xs=some ds/\Vl.n4 ν ws (ds.map (XL s))
 |[],ws,he=>by simp only[QdR,QzQ]at he;subst he;exact⟨[],rfl,rfl⟩
 |x::r,ws,he=>by
  simp only[QdR]at he;split at he;rename_i v e1;split at he;rename_i w C e2 e3;cases he
  obtain⟨d,h1,h2⟩:=Qp h e1;obtain⟨ds,M,G⟩:=QaL h e3;exact⟨d::ds,by grind [QD],_,_,rfl,N3 h e2 h2,G⟩
  grind
  grind
def Qrc (a:AS):List Vl->List Vl->Bool
 |[],[]=>true
 |v::vs,.ty t::ps=>Qbf a v t&&Qrc a vs ps
 |_,_=>false
def Qh8 (a:AS):List (List Vl)->List (List Vl)->Bool
 |[],[]=>true
 |r::rs,p::ps=>Qrc a r p&&Qh8 a rs ps
 |_,_=>false
theorem QeA {ν μ:List Int} {a:AS} {s:St} (h:a.ok ν s):∀{vs ps:List Vl} {ds:List D},Qrc a vs ps=true->Vl.n4 ν vs ds->Vl.n4 μ ps ds
 |[],[],_,_,hv=>hv
 |v::vs,p::ps,ds,hf,hv=>by
  obtain⟨d,r,rfl,h1,h2⟩:=hv;cases p with
  |ty t=>
   simp only[Qrc,QzR]at hf;exact⟨d,r,rfl,Lp h hf.1 h1,QeA h hf.2 h2⟩
  |_=>trivial
 |[],_::_,_,hf,_=>by trivial
 |_::_,[],_,hf,_=>by trivial
theorem Qbh {ν μ:List Int} {a:AS} {s:St} (h:a.ok ν s):∀{rs ps:List (List Vl)} {ds:List (List D)},Qh8 a rs ps=true->Vl.k7 ν rs ds->Vl.k7 μ ps ds
 |[],[],_,_,hv=>hv
 |v::vs,p::ps,ds,hf,hv=>by
  obtain⟨d,r,rfl,h1,h2⟩:=hv;simp only[Qh8,QzR]at hf;exact⟨d,r,rfl,QeA h hf.1 h1,Qbh h hf.2 h2⟩
 |[],_::_,_,hf,_=>by trivial
 |_::_,[],_,hf,_=>by trivial
def mtV (a:AS) (σ:Sg) (v p:Vl):Option (Sg × AS):=
 match p with
 | .ty t=>if Qbf a v t=true then some (σ,a)else none
 | .nn k x o=>if Nat.beq x σ.length=true/\decide (o=0)=true then(match toN a v with
   |some (k2,y,u,a1)=>if k=k2 then some (σ++[(y,u)],a1)else none
   |none=>none)else none
 | .ii k=>if QjQ v=some k then some (σ,a)else none
 | .ss x o=>if Nat.beq x σ.length=true/\decide (o=0)=true then(match qf a v with
   |some (y,u,a1)=>some (σ++[(y,u)],a1)
   |none=>none)else none
 | .ll row x o=>if Nat.beq x σ.length=true/\decide (o=0)=true then(match Qhi a v with
   |some (r,y,u,a1)=>if Tp.ib r row=true\/(Nat.beq y 0=true/\decide (u<=0)=true)then some (σ++[(y,u)],a1)else none
   |none=>none)else none
 | .fx ps=>(match v with
  | .fx rows=>if Qh8 a rows ps=true then some (σ,a)else none
  |_=>none)
 |_=>none
def Sg.r7 (ν:List Int):List Int->Sg->Prop
 |[],σ=>σ=[]
 |n::μ,σ=>∃p τ,σ=p::τ/\x6 ν p.1 p.2 n/\Sg.r7 ν μ τ
theorem Jb {ν:List Int} (e:List Int):∀{μ:List Int} {σ:Sg},Sg.r7 ν μ σ->Sg.r7 (ν++e) μ σ
 |[],σ,h=>h
 |n::μ,σ,h=>let⟨p,τ,h1,h2,h3⟩:=h;⟨p,τ,h1,h2.ext e,Jb e h3⟩
theorem YK {ν:List Int}:∀{μ:List Int} {σ:Sg},Sg.r7 ν μ σ->μ.length=σ.length
 |[],σ,h=>by grind [Sg.r7]
 |n::μ,σ,h=>by obtain⟨p,τ,rfl,_,h⟩:=h;simp[YK h]
theorem Hi {ν:List Int}:∀{μ ρ:List Int} {σ τ:Sg},Sg.r7 ν μ σ->Sg.r7 ν ρ τ->Sg.r7 ν (μ++ρ) (σ++τ)
 |[],ρ,σ,τ,h,h2=>by grind [Sg.r7]
 |n::μ,ρ,σ,τ,h,h2=>by obtain⟨p,q,rfl,h1,h⟩:=h;exact⟨p,q++τ,rfl,h1,Hi h h2⟩
theorem Gw {ν:List Int}:∀{μ:List Int} {σ:Sg},Sg.r7 ν μ σ->σ.ok ν μ
 |[],σ,h=>by intro x n hx;grind
 |n::μ,σ,h=>by
  obtain⟨p,τ,rfl,h1,h⟩:=h;intro x m hx;cases x with
  |zero=>simp only[List.getElem?_cons_zero,QzQ]at hx;subst hx;exact h1
  |succ x=>simp only[List.getElem?_cons_succ]at hx;exact Gw h x m hx
theorem Qj1 {a':AS} {σ τ:Sg} {p:Vl} {μ:List Int} (h:a.ok ν s) (he:mtV a σ v p=some (τ,a')) (C:v.has ν d) (hm:Sg.r7 ν μ σ):∃e ρ,a'.ok (ν++e) s/\Sg.r7 (ν++e) (μ++ρ) τ/\p.has (μ++ρ) d:=by
 have hl:=YK hm;have new:∀{e:List Int} {y:Nat} {u n:Int},x6 (ν++e) y u n->Sg.r7 (ν++e) (μ++[n]) (σ++[(y,u)]):=λC=>Hi (Jb _ hm) ⟨_,[],rfl,C,rfl⟩;have M:∀(n:Int) {x:Nat} {o:Int},x=σ.length->o=0->x6 (μ++[n]) x o n:=λn x o hx ho=>⟨n,by grind,Wa⟩;unfold mtV at he;split at he;split at he;rename_i O;cases he
 exact⟨[],[],by grind,by grind,Lp h O C⟩
 grind
 split at he;rename_i G;split at he;rename_i k2 y u U e1;split at he;rename_i hk;cases he
 obtain⟨f,n,rfl,h1,h2⟩:=Zd h e1 C;exact⟨f,[n],h2,new h1,by subst hk;exact⟨n,rfl,M n (QA6 G.1) (of_decide_eq_true G.2)⟩⟩
 grind
 grind
 grind
 split at he;rename_i hk;cases he
 exact⟨[],[],by grind,by grind,LF C hk⟩
 grind
 split at he;rename_i G;split at he;rename_i y u U e1;cases he
 obtain⟨f,l,rfl,h1,h2⟩:=XK h e1 C;exact⟨f,[(l.length:Int)],h2,new h1,l,rfl,M _ (QA6 G.1) (of_decide_eq_true G.2)⟩
 grind
 grind
 split at he;rename_i G;split at he;rename_i r y u U e1;split at he;rename_i hr;cases he
 obtain⟨f,rows,hd,h1,h2,T⟩:=Yp h e1 C;refine⟨f,[(rows.length:Int)],T,new h1,rows,hd,M _ (QA6 G.1) (of_decide_eq_true G.2),λq Y=>?_⟩;rcases hr with hr |⟨hr,hu⟩
 grind [Tp.n7]
 have V:=QA6 hr;subst V;have:=x6.inj h1 ⟨0,T.z,rfl⟩
 grind
 grind
 grind
 grind
 split at he;split at he;rename_i O;cases he
 obtain⟨rs,hd,hr⟩:=C;exact⟨[],[],by grind,by grind,rs,hd,Qbh h O hr⟩
 all_goals grind
def mtL (a:AS) (σ:Sg):List Vl->List Vl->Option (Sg × AS)
 |[],[]=>some (σ,a)
 |v::vs,p::ps=>match mtV a σ v p with
  |some (σ1,a1)=>mtL a1 σ1 vs ps
  |none=>none
 |_,_=>none
theorem Qj0 {s:St}:∀{vs ps:List Vl} {ν μ:List Int} {a a':AS} {σ τ:Sg} {ds:List D},a.ok ν s->mtL a σ vs ps=some (τ,a')->Vl.n4 ν vs ds->Sg.r7 ν μ σ->∃e ρ,a'.ok (ν++e) s/\Sg.r7 (ν++e) (μ++ρ) τ/\Vl.n4 (μ++ρ) ps ds
 |[],[],ν,μ,a,a',σ,τ,ds,h,he,hv,hm=>by
  simp only[mtL,QzQ,QAG]at he;obtain⟨rfl,rfl⟩:=he;exact⟨[],[],by grind,by grind,hv⟩
 |v::vs,p::ps,ν,μ,a,a',σ,τ,ds,h,he,hv,hm=>by
  simp only[mtL]at he;split at he;rename_i σ1 V e1;obtain⟨d,r,rfl,h1,h2⟩:=hv;obtain⟨f,ρ,M,G,C⟩:=Qj1 h e1 h1 hm;obtain⟨f2,ρ2,U,T,O⟩:=Qj0 M he (h2.ext f) G;exact⟨f++f2,ρ++ρ2,by grind,by grind,d,r,rfl,by rw[<- QAD];exact C.ext ρ2,by grind⟩
  grind
 |[],_::_,ν,μ,a,a',σ,τ,ds,h,he,hv,hm=>by cases he
 |_::_,[],ν,μ,a,a',σ,τ,ds,h,he,hv,hm=>by cases he
def mtG (a:AS) (σ:Sg) (v p:Vl):Option (Sg × AS):=
 match p with
 | .aa ps=>(match v with
  | .aa vs=>mtL a σ vs ps
  |_=>none)
 |p=>mtV a σ v p
theorem QpR {a a':AS} {s:St} {σ τ:Sg} {p:Vl} {μ:List Int} (h:a.ok ν s) (he:mtG a σ v p=some (τ,a')) (C:v.has ν d) (hm:Sg.r7 ν μ σ):∃e ρ,a'.ok (ν++e) s/\Sg.r7 (ν++e) (μ++ρ) τ/\p.has (μ++ρ) d:=by
 unfold mtG at he;split at he;split at he;obtain⟨ds,rfl,h1⟩:=C;obtain⟨f,ρ,h2,M,G⟩:=Qj0 h he h1 hm;exact⟨f,ρ,h2,M,ds,rfl,G⟩
 grind
 grind [Qj1]
def QpS (a:AS) (σ:Sg):List Vl->List Vl->Option (Sg × AS)
 |[],[]=>some (σ,a)
 |v::vs,p::ps=>match mtG a σ v p with
  |some (σ1,a1)=>QpS a1 σ1 vs ps
  |none=>none
 |_,_=>none
theorem Qfs {s:St}:∀{vs ps:List Vl} {ν μ:List Int} {a a':AS} {σ τ:Sg} {ds:List D},a.ok ν s->QpS a σ vs ps=some (τ,a')->Vl.n4 ν vs ds->Sg.r7 ν μ σ->∃e ρ,a'.ok (ν++e) s/\Sg.r7 (ν++e) (μ++ρ) τ/\Vl.n4 (μ++ρ) ps ds
 |[],[],ν,μ,a,a',σ,τ,ds,h,he,hv,hm=>by
  simp only[QpS,QzQ,QAG]at he;obtain⟨rfl,rfl⟩:=he;exact⟨[],[],by grind,by grind,hv⟩
 |v::vs,p::ps,ν,μ,a,a',σ,τ,ds,h,he,hv,hm=>by
  simp only[QpS]at he;split at he;rename_i σ1 V e1;obtain⟨d,r,rfl,h1,h2⟩:=hv;obtain⟨f,ρ,M,G,C⟩:=QpR h e1 h1 hm;obtain⟨f2,ρ2,U,T,O⟩:=Qfs M he (h2.ext f) G;exact⟨f++f2,ρ++ρ2,by grind,by grind,d,r,rfl,by rw[<- QAD];exact C.ext ρ2,by grind⟩
  grind
 |[],_::_,ν,μ,a,a',σ,τ,ds,h,he,hv,hm=>by cases he
 |_::_,[],ν,μ,a,a',σ,τ,ds,h,he,hv,hm=>by cases he
def Qf0:Vl->Bool
 | .ty _ | .nn _ _ _ | .ii _ | .bf _ _ | .ss _ _ | .ll _ _ _ | .ld _ _ _ _ _ | .lf _ _ _ | .fl _ | .fx _=>true
 |_=>false
def QtH:Vl->Bool
 | .aa cs=>cs.all Qf0
 |v=>Qf0 v
theorem Qb1 (h:v.has ν d) (hp:Qf0 v=true):d.own=false/\d.pure=true:=by
 have tk:∀{t:Tp} {d:D},t.has d->d.own=false/\d.pure=true:=λ{t d} h=>by
  cases t<;>simp only[Tp.has]at h<;>obtain⟨_,h⟩:=h
  obtain⟨rfl,_⟩:=h;trivial;subst h;trivial;obtain⟨rfl,_⟩:=h;trivial;obtain⟨_,rfl⟩:=h;trivial;obtain⟨h,_⟩:=h;rcases h with rfl |rfl<;>exact⟨rfl,rfl⟩
  obtain⟨h,_⟩:=h;rcases h with rfl |rfl<;>exact⟨rfl,rfl⟩
  obtain⟨h,_⟩:=h;rcases h with rfl |rfl<;>exact⟨rfl,rfl⟩
 unfold Qf0 at hp;split at hp;exact tk h;obtain⟨n,rfl,_⟩:=h;trivial;obtain⟨n,rfl⟩:=h;trivial;obtain⟨n,rfl,_⟩:=h;trivial;obtain⟨n,rfl,_⟩:=h;trivial;obtain⟨n,h,_⟩:=h;rcases h with rfl |rfl<;>exact⟨rfl,rfl⟩
 obtain⟨n,h,_⟩:=h;rcases h with rfl |rfl<;>exact⟨rfl,rfl⟩
 obtain⟨n,rfl,_⟩:=h;trivial;obtain⟨n,rfl,_⟩:=h;trivial;obtain⟨n,h,_⟩:=h;rcases h with rfl |rfl<;>exact⟨rfl,rfl⟩
 grind
theorem QfY {ν:List Int}:∀{vs:List Vl} {ds:List D},Vl.n4 ν vs ds->vs.all Qf0=true->(ds.all λd=>!d.own)=true
 |[],ds,h,hp=>by grind [Vl.n4]
 |v::vs,ds,h,hp=>by
  obtain⟨d,r,rfl,h1,h2⟩:=h;simp only[QAK,QzR]at hp;rw[QAK,(Qb1 h1 hp.1).1,QfY h2 hp.2];rfl
theorem QmO (h:v.has ν d) (hp:QtH v=true):d.pure=true:=by
 unfold QtH at hp;split at hp;obtain⟨ds,rfl,h1⟩:=h;exact QfY h1 hp;exact(Qb1 h hp).2
def QtG (a:AS) (xs:List n5):Bool:=xs.all λx=>match evA a x with
 |some v=>QtH v
 |none=>false
theorem QfZ {ν:List Int} {a:AS} {s:St} (h:a.ok ν s):∀{xs:List n5} {ds:List D},QtG a xs=true->QD s xs=some ds->ds.all D.pure=true
 |[],ds,hp,he=>by grind [QD]
 |x::r,ds,hp,he=>by
  simp only[QtG,QAK,QzR]at hp;simp only[QD]at he;split at he;rename_i d ds2 e1 e2;cases he
  have C:=hp.1;split at C;rename_i v e3;obtain⟨d2,h1,h2⟩:=Qp h e3;rw[e1]at h1;cases h1;rw[QAK,QmO h2 C,QfZ h hp.2 e2];rfl
  grind
  grind
def QeB:Vl->Bool
 | .ty (.i _ _ _) | .ty .b | .ty (.s _) | .ty (.c _) | .nn _ _ _ | .ii _ | .bf _ _ | .ss _ _=>true
 |_=>false
def Qrd:Vl->Bool
 | .uu vs=>vs.all QeB
 |v=>QeB v
theorem Qbi (h:v.has ν d) (hp:QeB v=true):d.l9=true/\d.flat=true:=by
 unfold QeB at hp;split at hp;obtain⟨n,rfl,_⟩:=h;trivial;obtain⟨n,rfl⟩:=h;trivial;obtain⟨n,rfl,_⟩:=h;trivial;obtain⟨n,_,rfl⟩:=h;trivial;obtain⟨n,rfl,_⟩:=h;trivial;obtain⟨n,rfl⟩:=h;trivial;obtain⟨n,rfl,_⟩:=h;trivial;obtain⟨n,rfl,_⟩:=h;trivial
 grind
theorem QlQ (h:v.has ν d) (hp:Qrd v=true):d.flat=true:=by
 unfold Qrd at hp;split at hp;rename_i vs;obtain⟨ds,rfl,h1⟩:=h
 have key:∀{vs:List Vl} {ds:List D},Vl.n4 ν vs ds->vs.all QeB=true->ds.all D.l9=true:=by
  intro vs
  induction vs with
  |nil=>grind [Vl.n4]
  |cons v vs ih=>
   intro ds h hp;obtain⟨d,r,rfl,h1,h2⟩:=h;simp only[QAK,QzR]at hp
   grind [Qbi]
 exact key h1 hp;exact(Qbi h hp).2
def Qj4 (n k:Nat):Sg:=(List.range k).map λi=>(n+i,0)
def QnX (a:AS) (pu:Bool) (ws:List Vl) (c:Ct):Option (AS × Vl):=
 match QpS a [(0,0)] ws c.az with
 |some (σ,a1)=>if Nat.beq σ.length c.nx=true/\Nat.ble c.nx c.mx=true/\(c.cs.all λk=>(Nat.ble (k.1+1) c.nx&&Nat.ble (k.2.1+1) c.nx)&&Qok a1.cs (k.sub σ).1 (k.sub σ).2.1 (k.sub σ).2.2)=true/\(pu||Qrd c.rv)=true then
   some (⟨a1.fr,a1.H,c.rc.map (Cn.sub (σ++Qj4 a1.nx (c.mx - c.nx)))++a1.cs,a1.nx+(c.mx - c.nx)⟩,c.rv.sub (σ++Qj4 a1.nx (c.mx - c.nx)))else none
 |none=>none
variable {P:Program} {a':AS} {ds:List D} {ts:List Tp}
theorem Qfx (n k:Nat):Qj4 n (k+1)=(n,0)::Qj4 (n+1) k:=by
 unfold Qj4;rw[List.range_succ_eq_map,QAr,QA7];refine congr (congrArg List.cons ?_) (QAP λi _=>?_);rfl
 grind
theorem Nv:∀{e ν:List Int},Sg.r7 (ν++e) e (Qj4 ν.length e.length)
 |[],ν=>rfl
 |n::e,ν=>by
  rw[QAt,Qfx];refine⟨_,_,rfl,⟨n,by simp,(Int.add_zero _).symm⟩, ?_⟩;have:=Nv (e:=e) (ν:=ν++[n])
  grind
theorem Qi7 {f:Nat} {pu:Bool} {ws:List Vl} {c:Ct} {v:Vl} (h:a.ok ν s) (hc:c.ok P f) (he:QnX a pu ws c=some (a',v)) (hw:Vl.n4 ν ws ds):∃e d,a'.ok (ν++e) s/\v.has (ν++e) d/\Ok P f ds d/\(pu=true\/d.flat=true):=by
 unfold QnX at he;split at he;rename_i σ a1 e1;split at he;rename_i M;cases he
 obtain⟨g,ρ,h1,h2,h3⟩:=Qfs (μ:=[0]) h e1 hw ⟨_,[],rfl,YU h.z 0,rfl⟩;have hσ:=Gw h2;have hl:=YK h2;have hnx:=QA6 M.1;have hmx:=QzN M.2.1
 have U:v7 ([0]++ρ) c.cs:=λk hk=>by
  have:=QzX.1 M.2.2.1 k hk;simp only[QzR]at this;obtain⟨⟨Y,V⟩,b3⟩:=this;have Y:=QzN Y;have V:=QzN V;have i1:k.1<([0]++ρ).length:=Wa;have i2:k.2.1<([0]++ρ).length:=Wa;have g1:([0]++ρ)[k.1]?=some (([0]++ρ)[k.1]):=QAB i1;have g2:([0]++ρ)[k.2.1]?=some (([0]++ρ)[k.2.1]):=QAB i2;obtain⟨x,q1,q2⟩:=hσ _ _ g1;obtain⟨y,q3,q4⟩:=hσ _ _ g2;obtain⟨z,q5,q6⟩:=GD h1.cs b3 q1;have C:(ν++g)[(σ.at k.2.1).1]?=some z:=q5;rw[q3]at C;cases C;have q6':x<=y+(k.2.2+(σ.at k.2.1).2 - (σ.at k.1).2):=q6;exact⟨_,_,g1,g2,Wa⟩
 obtain⟨e,d,w1,w2,w3,w4⟩:=hc ([0]++ρ) ds Wa rfl U h3
 have T:e.length=c.mx - c.nx:=by
  grind
 have O:Sg.r7 (ν++g++e) ([0]++ρ++e) (σ++Qj4 a1.nx (c.mx - c.nx)):=by
  refine Hi (Jb e h2) ?_;rw[<- T,<- h1.nx];exact Nv
 have G:=Gw O;have hva:=Vl.la G w3;refine⟨g++e,d, ?_,by grind,w4, ?_⟩;rw[<- QAD];exact h1.ext e Wa ((w2.sub G).app (h1.cs.ext e));have:=M.2.2.2;simp only[QAT]at this
 grind [QlQ]
 grind
 grind
structure Zc where
 az:List Vl
 nx:Nat
 cs:List Cn
 bs:List (Nat × Bx)
 rv:Vl
 mx:Nat
 rc:List Cn
 rb:List (Nat × Bx)
def Zc.ok (P:Program) (f:Nat) (c:Zc):Prop:=∀(μ:List Int) (ds:List D) (H:QzK),μ.length=c.nx->μ[0]?=some 0->v7 μ c.cs->Vl.n4 μ c.az ds->RL (Bx.has μ) c.bs H->
 ∃e d H',(μ++e).length=c.mx/\v7 (μ++e) c.rc/\c.rv.has (μ++e) d/\RL (Bx.has (μ++e)) c.rb H'/\n6 P f ds H d H'
structure Tb where
 f:Nat->List Ct
 ow:List Nat
 z:Nat->List Zc:=λ_=>[]
def Tb.ok (P:Program) (tb:Tb):Prop:=∀f,∀c∈tb.f f,c.ok P f
def Tb.xg (P:Program) (tb:Tb):Prop:=∀f,∀c∈tb.z f,c.ok P f
def Qoo {α β:Type} (g:α->Option β):List α->Option β
 |[]=>none
 |x::l=>match g x with
  |some y=>some y
  |none=>Qoo g l
theorem Pg {α β:Type} {g:α->Option β}:∀{l:List α} {y:β},Qoo g l=some y->∃x∈l,g x=some y
 |[],y,h=>by cases h
 |x::l,y,h=>by
  simp only[Qoo]at h;split at h
  grind
  obtain⟨w,h1,h2⟩:=Pg h;grind
def Qrt (tb:Tb):Option Nat->Option Nat
 |some t=>if tb.ow.contains t=true then some t else none
 |none=>none
theorem S6 {s:St} {l0:Nat}:∀{xs:List n5} {rs:List (List D)},Yz s l0 xs=some rs->rs.length=xs.length
 |[],rs,h=>by grind [Yz]
 |x::xs,rs,h=>by
  simp only[Yz]at h;split at h;rename_i d ds e1 e2;split at h;split at h;cases h;simp[S6 e2]
  grind
  grind
  grind
theorem Qij (h:Tp.u3 ts ds):(ds.all λd=>d.l4.isEmpty)=true:=QzX.2 λd hd=>by grind [Tp.xf]
theorem Qm0 (h:Tp.u3 ts ds) {k:Nat}:∀d∈ds,k∉d.l4:=λd hd=>by grind [Tp.xf]
def QlD (a:AS) (dr:Bool) (l0:Nat) (p:Vl) (lo:Option n5) (t:Nat):Option AS:=
 match p with
 | .oo k x o=>(match lk a.H k with
  |some (.ww r y u e et2)=>if dr=false/\Nat.ble (k+1) 1000000=true/\Nat.beq e l0=true/\Nat.beq l0 0=false/\Nat.beq x y=true/\decide (o=u)=true then(match bdA a lo 0 0 with
    |some (lx,l,a1)=>if XO a1.cs 0 0 lx l=true/\XO a1.cs lx l x o=true then
      some (DC (QcL ((BN a1 x o lx l).2.2.z2 k) k (.ww r (BN a1 x o lx l).1 (BN a1 x o lx l).2.1 l0 et2)) (some t) (.oo k (BN a1 x o lx l).1 (BN a1 x o lx l).2.1))else none
    |none=>none)else none
  |_=>none)
 |_=>none
theorem QhX {dr:Bool} {l0 t:Nat} {p:Vl} {x:n5} {lo:Option n5} {d:D} (h:a.ok ν s) (he:QlD a dr l0 p lo t=some a') (hx:s.ev x=some d) (hp:p.has ν d):za ν a' s dr (.slice l0 x lo none none) (some t):=by
 unfold QlD at he;split at he;rename_i k x0 o;split at he;rename_i r y0 u e0 T e1;split at he;rename_i C;split at he;rename_i lx l a1 e2;split at he;rename_i V;cases he
 obtain⟨b,hb,rows,rfl,O,Y⟩:=RL.get h.H e1;obtain⟨n,rfl,h7⟩:=hp;obtain⟨f,m,w1,M,G⟩:=P1 (df:=0) h e2 (YU h.z 0);have q1:=QA6 C.2.2.2.2.1;have q2:=of_decide_eq_true C.2.2.2.2.2;subst q1 q2;have U:=x6.inj h7 O;have U:n=rows.length:=Wa;subst U;have q4:=QA6 C.2.2.1;subst q4;have q5:e0≠0:=λe=>by grind
 have c1:=Qm G.cs V.1 (YU G.z 0) M;have c2:=Qm G.cs V.2 M (O.ext f);obtain⟨f2,v1,v2⟩:=BO G (O.ext f) M c1 c2;have hl:((rows.drop m.toNat).length:Int)=rows.length - m:=by grind
 refine⟨f++f2,St.apply ⟨(s.z2 k).fr,(k,⟨rows.drop m.toNat,e0,T,true⟩)::(s.z2 k).H⟩ (some t) (.s4 k (rows.length - m.toNat)) none, ?_,λP kk hk=>.inr (.inr (.inr ⟨C.1,rfl,m,w1,_,hx,_,hb,QzN C.2.1,rfl,rfl,q5,λr0 hr d hd=>Qm0 (Y r0 hr) d hd,c1,c2,rfl,hk⟩))⟩;rw[<- QAD];refine Xe (dst:=some t) (d:=.s4 k (rows.length - m.toNat)) (HI (rows:=rows.drop m.toNat) (v2.z2 k) Wb λy hy=>Y y (QAh hy)) ⟨_,rfl, ?_⟩
 all_goals grind
def opC (tb:Tb) (a:AS) (dr:Bool) (op:z5) (dst:Option Nat):Option AS:=
 match op with
 | .call f args=>(match QdR a args with
  |some ws=>(match Qoo (QnX a (QtG a args) ws) (tb.f f)with
   |some (a1,v)=>some (DC a1 dst v)
   |none=>none)
  |none=>none)
 | .buildSlice l0 et parts=>(match Qrt tb dst with
  |some t=>(match Qdd a l0 parts with
   |some rows=>(match Qkh a rows,lk a.H t with
    |some r,none=>if Rl a rows r=true then some (DC (QcL a t (.ww r 0 rows.length l0 et)) (some t) (.oo t 0 rows.length))else none
    |_,_=>none)
   |none=>none)
  |none=>opA a dr (.buildSlice l0 et parts) dst)
 | .slice l0 x lo none none=>(match Qrt tb dst,evA a x with
  |some t,some p=>QlD a dr l0 p lo t
  |_,_=>opA a dr (.slice l0 x lo none none) dst)
 |op=>opA a dr op dst
theorem Qp7 {tb:Tb} (M:tb.ok P) {dr:Bool} {op:z5} {dst:Option Nat} (h:a.ok ν s) (he:opC tb a dr op dst=some a'):∃e s',a'.ok (ν++e) s'/\∀k:St->Prop,k s'->step P dr op dst s k:=by
 unfold opC at he;split at he;rename_i f args;split at he;rename_i ws e1;split at he;rename_i a1 v e2;cases he
 obtain⟨c,Y,e3⟩:=Pg e2;obtain⟨ds,h1,h2⟩:=QaL h e1;obtain⟨e,d,G,C,h5,h6⟩:=Qi7 h (M f c Y) e3 h2;refine⟨e,_,Xe G C,λk hk=>⟨ds,h1,d,h5, ?_,hk⟩⟩
 grind [QfZ]
 grind
 grind
 rename_i l0 et parts;split at he;rename_i t e0;split at he;rename_i rows e1;split at he;rename_i r e2 e3;split at he;rename_i V;cases he
 have O:dst=some t:=by
  unfold Qrt at e0
  grind
 subst O;obtain⟨rs,h1,h2⟩:=L5 h e1;obtain⟨G,C⟩:=Y2 h V h2;have U:rs.length=parts.length:=S6 h1;have T:=RL.get_none h.H e3;have hp:(rs.all λr=>r.all λd=>d.l4.isEmpty)=true:=QzX.2 λr hr=>Qij (G r hr);refine⟨[],s.apply (some t) (.s4 t parts.length) (some ⟨rs,l0,et,rs.all λr=>r.all λd=>d.l4.isEmpty⟩), ?_,λk hk=>.inl ⟨t,rfl,rs,h1,T,hk⟩⟩;rw[QAj,hp];refine Xe (dst:=some t) (d:=.s4 t parts.length) (HI (rows:=rs) h (by rw[C];exact YU h.z _) G) ⟨_,rfl, ?_⟩
 rw[<- U,C];exact YU h.z _
 grind
 grind
 grind
 grind [QfF]
 split at he;rename_i t p e0 e1
 have O:dst=some t:=by
  unfold Qrt at e0
  grind
 grind [Qp,QhX]
 grind [QfF]
 grind [QfF]
variable {cs:List Cn} {d:Dr}
inductive DA where
 |fixed
 |drawn (R W:List (Nat × List Nat))
def DA.dr:DA->Bool
 | .fixed=>false
 | .drawn _ _=>true
def DA.ok:DA->Nat->List Nat->List Nat->Bool
 | .fixed,_,_,_=>true
 | .drawn R W,n,p,q=>D6 n p W&&D6 n q R&&D6 n q W
def DA.nx:DA->List Nat->List Nat->List Nat->DA
 | .fixed,_,_,_=>.fixed
 | .drawn R W,ds,p,q=>.drawn (p.map (·,ds)++R) (q.map (·,ds)++W)
def DA.of:Bool->DA
 |false=>.fixed
 |true=>.drawn [] []
def DA.is:DA->Dr->Prop
 | .fixed,d=>d=.fixed
 | .drawn R W,d=>∃H0,d=.drawn H0 R W
theorem DA.vc (b:Bool) (H:QzK):(DA.of b).is (Dr.of H b):=by
 cases b
 rfl;exact⟨H,rfl⟩
theorem DA.md {a:DA} (h:a.is d) (n:Nat) (p q:List Nat):d.ok n p q=a.ok n p q/\d.dr=a.dr:=by
 cases a with
 |fixed=>simp only[DA.is]at h;subst h;trivial
 |drawn R W=>obtain⟨H0,rfl⟩:=h;trivial
theorem DA.lg {a:DA} (h:a.is d) (ds p q:List Nat):(a.nx ds p q).is (d.nx ds p q):=by
 cases a with
 |fixed=>simp only[DA.is]at h;subst h;rfl
 |drawn R W=>obtain⟨H0,rfl⟩:=h;exact⟨H0,rfl⟩
def QpB (a:AS) (x:n5):List Nat:=match evA a x with
 |some v=>v.ids
 |none=>[]
theorem QeZ (h:a.ok ν s) (x:n5):Qbr (s.ev x)=QpB a x:=by
 unfold QpB;split;rename_i v e;obtain⟨d,h1,h2⟩:=Qp h e;rw[h1];exact Vl.w7 h2;rename_i e;cases x with
 |s t=>rw[show s.ev (.s t)=none from RL.get_none h.fr e];rfl
 |c d=>cases e
def pkA (op:z5) (a:AS):List Nat:=op.b9.flatMap (QpB a)
def wkA (op:z5) (a:AS):List Nat:=match op with
 | .store _ x _=>QpB a x
 |_=>[]
theorem Qqe (h:a.ok ν s) (op:z5):pk op s=pkA op a/\wk op s=wkA op a:=by
 constructor;unfold pk pkA;have:(λx=>Qbr (s.ev x))=QpB a:=funext λx=>QeZ h x
 grind
 cases op<;>first |rfl |exact QeZ h _
def QiM (t:Nat) (v:Vl):List (Nat × Vl)->List (Nat × Vl)
 |[]=>[]
 |p::l=>if p.1=t then(t,v)::l else p::QiM t v l
theorem FJ {ν:List Int} {t:Nat} {v:Vl} {d:D} (C:v.has ν d):∀{l:List (Nat × Vl)} {m:QzL},RL (Vl.has ν) l m->lk m t=some d->RL (Vl.has ν) (QiM t v l) m
 |[],m,h,hd=>h
 |p::l,m,h,hd=>by
  obtain⟨b,r,rfl,h1,h2⟩:=h;unfold QiM;rw[Qe]at hd;split;rename_i e;rw[if_pos e]at hd;cases hd;exact⟨_,r,by rw[e],C,h2⟩;rename_i e;rw[if_neg e]at hd;exact⟨b,r,rfl,h1,FJ C h2 hd⟩
def noF (a:AS) (cs:List Cn):Bool:=Qk7 cs||cs.any λk=>ent a.cs fuC k.2.1 k.1 (-k.2.2 - 1)
theorem Qp0 (h:a.ok ν s) (C:noF a cs=true):¬v7 ν cs:=λG=>by
 simp only[noF,QAT,QAW]at C;rcases C with q |⟨k,hk,q⟩
 exact P0 h.z q G;obtain⟨x,y,h1,h2,T⟩:=G k hk;obtain⟨z,O,M⟩:=F9 h.cs q h2
 grind
def cB (b:Bool):Vl:=if b=true then .bf [] [Qg9]else .bf [Qg9] []
theorem Qlk (b:Bool):(cB b).has ν (.bool b):=by
 cases b
 exact⟨false,rfl,λh=>(by cases h),λ_=>QL⟩;exact⟨true,rfl,λ_=>QL,λh=>(by cases h)⟩
def Qq8 (c d:Cn):Bool:=Nat.beq c.1 d.1&&(Nat.beq c.2.1 d.2.1&&decide (c.2.2=d.2.2))
def Qks (a:AS) (t:Option Nat) (b:Bool) (cs:List Cn):List (Bool × AS):=
 if noF a cs=true then[]else[(b,⟨match t with
  |some t=>QiM t (cB b) a.fr
  |none=>a.fr,a.H,cs.filter (λc=>!a.cs.any (Qq8 c))++a.cs,a.nx⟩)]
theorem QgX (h:a.ok ν s) {t:Option Nat} {b:Bool} (C:∀u,t=some u->lk s.fr u=some (.bool b)) (G:v7 ν cs):∃a',(b,a')∈Qks a t b cs/\a'.ok ν s:=by
 unfold Qks;split
 grind [Qp0]
 refine⟨_,QzW.2 rfl,⟨?_,h.H,v7.app (λc hm=>G c (List.mem_filter.1 hm).1) h.cs,h.nx,h.z⟩⟩;cases t with
 |none=>exact h.fr
 |some u=>exact FJ (Qlk b) h.fr (C u rfl)
def Qav:n5->Option Nat
 | .s t=>some t
 | .c _=>none
def spl (a:AS) (x:n5):Option (List (Bool × AS)):=
 match evA a x with
 |some (.bf tt ff)=>some (Qks a (Qav x) true tt++Qks a (Qav x) false ff)
 |some (.ty .b)=>some (Qks a (Qav x) true []++Qks a (Qav x) false [])
 |_=>none
theorem Qcs (h:a.ok ν s) {x:n5} {l:List (Bool × AS)} (he:spl a x=some l):∃b a',(b,a')∈l/\s.ev x=some (.bool b)/\a'.ok ν s:=by
 have key:∀{b:Bool} {C G:List Cn},s.ev x=some (.bool b)->(b=true->v7 ν C)->(b=false->v7 ν G)->∃b a',(b,a')∈Qks a (Qav x) true C++Qks a (Qav x) false G/\s.ev x=some (.bool b)/\a'.ok ν s:=λ{b C G} hx h1 h2=>by
  have M:∀u,Qav x=some u->lk s.fr u=some (.bool b):=λu hu=>by
   cases x with
   |s t=>cases hu;exact hx
   |c d=>cases hu
  cases b
  obtain⟨a',T,O⟩:=QgX h M (h2 rfl)
  grind
  obtain⟨a',T,O⟩:=QgX h M (h1 rfl)
  grind
 unfold spl at he;split at he;rename_i C G e1;cases he
 obtain⟨d,h1,b,rfl,h2,U⟩:=Qp h e1
 grind
 rename_i e1;cases he
 obtain⟨d,h1,b,rfl⟩:=Qp h e1;exact key h1 (λ_=>QL) λ_=>QL
 grind
variable {d:D} {dst:Option Nat} {op:z5}
def QcU {α β:Type} (f:α->Option (List β)):List α->Option (List β)
 |[]=>some []
 |x::l=>match f x,QcU f l with
  |some a,some b=>some (a++b)
  |_,_=>none
theorem Y0 {α β:Type} {f:α->Option (List β)}:∀{l:List α} {r:List β} {x:α},QcU f l=some r->x∈l->∃q,f x=some q/\∀y∈q,y∈r
 |[],r,x,h,hx=>by grind
 |z::l,r,x,h,hx=>by
  simp only[QcU]at h;split at h;rename_i a b e1 e2;cases h
  rcases QzP.1 hx with rfl |hx
  grind
  obtain⟨q,h1,h2⟩:=Y0 e2 hx
  grind
  grind
def Qsf:Option Vl->Bool
 |some (.dd .undef)=>true
 |_=>false
theorem QgO {l:List (Nat × Vl)} {m:QzL} {t:Nat} (h:RL (Vl.has ν) l m) (hu:Qsf (lk l t)=true):lk m t=some .undef:=by
 unfold Qsf at hu;split at hu;rename_i e;obtain⟨d,h1,h2⟩:=RL.get h e
 grind [Vl.has]
 grind
def efA (a:AS) (dr:Bool) (op:z5) (dst:Option Nat):Option (AS × List Nat × List Nat):=
 match dr,op,dst with
 |true,.append l0 et bytes x y,some t=>(match evA a x with
  |some (.oo k z o)=>(match evA a y,lk a.H k,lk a.H t with
   |some q,some (.ww r u w e et2),none=>if Nat.ble (k+1) 1000000=true/\Nat.ble (t+1) 1000000=true/\Nat.beq e l0=true/\Nat.beq et2 et=true/\Nat.beq z u=true/\decide (o=w)=true/\q.ids.contains k=false then(match QnK a l0 (some (QtX a l0 r q (Nat.beq z 0&&decide (o=0)))) q with
     |some (r2,sx,so,a1)=>if Rk (GT a1 q z o sx so).2.2 (GT a1 q z o sx so).1 (GT a1 q z o sx so).2.1 bytes=true/\(Tp.ib r r2||(Nat.beq z 0&&decide (o=0)))=true then
       some (DC (QcL (QcL (GT a1 q z o sx so).2.2 k (.ww [] 0 0 0 0)) t (.ww r2 (GT a1 q z o sx so).1 (GT a1 q z o sx so).2.1 l0 et)) (some t) (.oo t (GT a1 q z o sx so).1 (GT a1 q z o sx so).2.1),k::q.ids,[k])else none
     |none=>none)else none
   |_,_,_=>none)
  |_=>none)
 |_,_,_=>none
theorem QqM {l0:Nat} {e:D} {ys:List (List D)} (h:∀kk:List (List D)->Bool->Prop,kk ys true->Dd s l0 e kk):s.src l0 e ys true:=by
 have:=h (λy p=>y=ys/\p=true) ⟨rfl,rfl⟩;unfold Dd at this;unfold St.src;split at this
 grind
 grind
 obtain⟨b,hb,h1,h2,G,C⟩:=this;grind
 grind
theorem Qpc {B:Nat->Prop} {a':AS} {dr:Bool} {p q:List Nat} (h:a.ok ν s) (he:efA a dr op dst=some (a',p,q)):∃e d ef,EF P B op dst s p q d ef/\a'.ok (ν++e) (s.g8 dst d ef)/\∀r,MX op dst r=ZL dst.toList r:=by
 unfold efA at he;split at he;rename_i l0 et bytes x y t;split at he;rename_i k z o e1;split at he;rename_i q r u w e G e2 e3 e4;split at he;rename_i M;split at he;rename_i r2 sx so a1 e5;split at he;rename_i V;cases he
 obtain⟨V,hle⟩:=V;obtain⟨d1,hx,n,rfl,h7⟩:=Qp h e1;obtain⟨d2,T,U⟩:=Qp h e2;obtain⟨_,hl,f,ys,h1,h2,h3,h4⟩:=Dc h e5 U;obtain⟨b,hb,rows,rfl,Y,h6⟩:=RL.get h.H e3;have q1:=QA6 M.2.2.2.2.1;have q2:=of_decide_eq_true M.2.2.2.2.2.1;subst q1 q2;have q3:=x6.inj h7 Y;have q3:n=rows.length:=Wa;subst q3;have q4:=QA6 M.2.2.1;have q5:=QA6 M.2.2.2.1;subst q4 q5;obtain⟨f2,w1,O⟩:=QaA h3 U h4 (Y.ext f) h1;have C:x6 (ν++f++f2) (GT a1 q z o sx so).1 (GT a1 q z o sx so).2.1 ((rows.length+ys.length:Nat):Int):=by grind
 obtain⟨b1,b2⟩:=Ga O V C;have hid:=Vl.w7 U;refine⟨f++f2,.s4 t (rows.length+ys.length),[(t,⟨rows++ys,e,G,true&&true⟩),(k,Zr)],⟨t,k,rows.length,⟨rows,e,G,true⟩,d2,ys,true,rfl,hx,QzN M.1,RL.get_none h.H e4,QzN M.2.1,hb,rfl,rfl,rfl,T, ?_,QqM h4,b1,b2,by grind,rfl,rfl,rfl⟩, ?_,λ_=>rfl⟩
 grind
 rw[<- QAD];have g0:=HI (t:=k) (l0:=0) (et:=0) (row:=[]) (x:=0) (o:=0) (rows:=[]) O (YU O.z _) (λr hr=>by grind);have g1:=HI (t:=t) (l0:=e) (et:=G) (row:=r2) (rows:=rows++ys) g0 (by rw[QAs];exact C) (λy T=>(QzY.1 T).elim (λq=>Qel h.z hle Y h6 y q) (h2 y))
 exact Xe (dst:=some t) (d:=.s4 t (rows.length+ys.length)) g1 ⟨_,rfl,C⟩
 all_goals grind
def Qp9 (a:AS):Vl->AS × Vl
 | .ty t=>(match t with
  | .i k lo hi=>(a.sym [(0,a.nx, -lo),(a.nx,0,hi)],.nn k a.nx 0)
  | .l row n=>(a.sym [(0,a.nx,0),(a.nx,0,(n:Int))],.ll row a.nx 0)
  | .lm row n=>(a.sym [(0,a.nx, -1),(a.nx,0,(n:Int))],.ll row a.nx 0)
  | .s n=>(a.sym [(0,a.nx,0),(a.nx,0,(n:Int))],.ss a.nx 0)
  |t=>(a,.ty t))
 |v=>(a,v)
theorem Di (h:a.ok ν s) {lo hi n:Int} (h1:lo<=n) (h2:n<=hi):(a.sym [(0,a.nx, -lo),(a.nx,0,hi)]).ok (ν++[n]) s/\x6 (ν++[n]) a.nx 0 n:=by
 have C:=h.new n;refine⟨h.sym n λc G=>?_,n,C,Wa⟩;have z:=XA [n] h.z;simp only[QzP,QzO,or_false]at G;rcases G with rfl |rfl
 exact⟨0,n,z,C,by grind⟩;exact⟨n,0,C,z,by grind⟩
theorem QfN (h:a.ok ν s) (M:v.has ν d):∃e,(Qp9 a v).1.ok (ν++e) s/\(Qp9 a v).2.has (ν++e) d:=by
 have same:∃e,a.ok (ν++e) s/\v.has (ν++e) d:=⟨[],by grind,by grind⟩;unfold Qp9;split;split;obtain⟨n,rfl,h1,h2⟩:=M;obtain⟨G,C⟩:=Di h h1 h2;exact⟨[n],G,n,rfl,C⟩;obtain⟨rows,h0,h1,h2⟩:=M;obtain⟨G,C⟩:=Di h (lo:=0) (hi:=_) (n:=(rows.length:Int)) Wa (Int.ofNat_le.2 h1);exact⟨_,G,rows,h0,C,h2⟩;obtain⟨rows,h0,⟨O,h1⟩,h2⟩:=M;obtain⟨G,C⟩:=Di h (lo:=1) (hi:=_) (n:=(rows.length:Int)) Wa (Int.ofNat_le.2 h1);exact⟨_,G,rows,h0,C,h2⟩;obtain⟨l,rfl,h1⟩:=M;obtain⟨G,C⟩:=Di h (lo:=0) (hi:=_) (n:=(l.length:Int)) Wa (Int.ofNat_le.2 h1);exact⟨_,G,l,rfl,C⟩;omega;omega
def Qqa:AS->List Vl->AS × List Vl
 |a,[]=>(a,[])
 |a,v::vs=>match Qp9 a v with
  |(a1,w)=>match Qqa a1 vs with
   |(a2,ws)=>(a2,w::ws)
theorem Qan {s:St}:∀{vs:List Vl} {ν:List Int} {a:AS} {ds:List D},a.ok ν s->Vl.n4 ν vs ds->∃e,(Qqa a vs).1.ok (ν++e) s/\Vl.n4 (ν++e) (Qqa a vs).2 ds
 |[],ν,a,ds,h,hv=>⟨[],by rw[QAj];exact h,by trivial⟩
 |v::vs,ν,a,ds,h,hv=>by
  obtain⟨d,r,rfl,h1,h2⟩:=hv;obtain⟨e,O,M⟩:=QfN h h1;obtain⟨e2,G,C⟩:=Qan O (h2.ext e);exact⟨e++e2,by rw[<- QAD];exact G,d,r,rfl,by rw[<- QAD];exact M.ext e2,by rw[<- QAD];exact C⟩
def Qrs (a:AS):Vl->AS × Vl
 | .aa cs=>match Qqa a cs with
  |(a1,ws)=>(a1,.aa ws)
 |v=>Qp9 a v
theorem QmI (h:a.ok ν s) (C:v.has ν d):∃e,(Qrs a v).1.ok (ν++e) s/\(Qrs a v).2.has (ν++e) d:=by
 unfold Qrs;split;obtain⟨ds,rfl,h1⟩:=C;obtain⟨e,h2,G⟩:=Qan h h1;exact⟨e,h2,ds,rfl,G⟩
 grind [QfN]
def Qrr (a:AS) (dst:Option Nat):AS:=
 match dst with
 |none=>a
 |some t=>match lk a.fr t with
  |none=>a
  |some v=>match Qrs a v with
   |(a1,w)=>⟨QiM t w a1.fr,a1.H,a1.cs,a1.nx⟩
theorem QfO (h:a.ok ν s) (dst:Option Nat):∃e,(Qrr a dst).ok (ν++e) s:=by
 have same:∃e,a.ok (ν++e) s:=⟨[],by grind⟩;unfold Qrr;split;omega;rename_i t;split;omega;rename_i v e1;obtain⟨d,h1,h2⟩:=RL.get h.fr e1;obtain⟨e,C,G⟩:=QmI h h2;exact⟨e,FJ G C.fr h1,C.H,C.cs,C.nx,C.z⟩
def Qv8:Vl->Option (Nat × Nat)
 | .rr k off=>some (k,off)
 | .qq k _ _ off=>some (k,off)
 | .dd d=>(match d with
  | .ref k _ off=>some (k,off)
  |_=>none)
 |_=>none
def Qv9:D->Option (Nat × Nat)
 | .ref k _ off=>some (k,off)
 |_=>none
theorem QmR (h:v.has ν d):Qv9 d=Qv8 v:=by
 cases v
 case ty t=>
  have:=Tp.l4 h;cases d<;>first |rfl |(trivial)
 case rr=>simp only[Vl.has]at h;subst h;rfl
 case qq=>obtain⟨n,rfl,_⟩:=h;rfl
 case dd d2=>simp only[Vl.has]at h;subst h;rfl
 case ll=>obtain⟨_,h |h,_⟩:=h<;>subst h<;>rfl
 case ld=>obtain⟨_,h |h,_⟩:=h<;>subst h<;>rfl
 case fx=>obtain⟨_,h |h,_⟩:=h<;>subst h<;>rfl
 case tp=>obtain⟨_,_,rfl,_⟩:=h;rfl
 all_goals (obtain⟨_,rfl,_⟩:=h;rfl)
def Qrw (a:AS) (x:n5):Option (Nat × Nat):=
 match evA a x with
 |some v=>Qv8 v
 |none=>none
def Qrx (s:St) (x:n5):Option (Nat × Nat):=
 match s.ev x with
 |some d=>Qv9 d
 |none=>none
theorem Qf5 (h:a.ok ν s) (x:n5):Qrx s x=Qrw a x:=by
 unfold Qrx Qrw;cases e:evA a x with
 |some v=>
  grind [Qp,QmR]
 |none=>
  cases x with
  |s t=>rw[show s.ev (.s t)=none from RL.get_none h.fr e]
  |c d=>cases e
def Qow (w:Bool) (op:z5) (a:AS) (p:List Nat):List Nat:=
 match w,op,p with
 |true,.load agg sz x,k0::p0=>(match Qrw a x with
  |some (k,off)=>if Nat.ble 1000000 k=true then(2*k+1)::Rc k off (if agg=true then sz else 1)else HC (.load agg sz x) (k0::p0)
  |none=>HC (.load agg sz x) (k0::p0))
 |_,op,p=>HC op p
def Qox (w:Bool) (op:z5) (a:AS) (q:List Nat):List Nat:=
 match w,op,q with
 |true,.store sz x v,k0::q0=>(match Qrw a x with
  |some (k,off)=>if Nat.ble 1000000 k=true then Kl (.store sz x v) (k0::q0)++Rc k off sz else Kl (.store sz x v) (k0::q0)
  |none=>Kl (.store sz x v) (k0::q0))
 |_,op,q=>Kl op q
theorem Dn (h:a.ok ν s) (w:Bool) (op:z5) (p:List Nat):tkR w op s p=Qow w op a p:=by
 cases w
 rfl;cases op<;>cases p<;>try rfl
 rename_i agg sz x k0 p0;have e:=Qf5 h x;simp only[tkR,cR,Qow,<- e,Qrx];cases s.ev x with
 |none=>rfl
 |some d=>cases d<;>rfl
theorem Dp (h:a.ok ν s) (w:Bool) (op:z5) (p:List Nat):tkW w op s p=Qox w op a p:=by
 cases w
 rfl;cases op<;>cases p<;>try rfl
 rename_i sz x v k0 p0;have e:=Qf5 h x;simp only[tkW,cW,Qox,<- e,Qrx];cases s.ev x with
 |none=>rfl
 |some d=>cases d<;>rfl
def Qrl (tb:Tb) (w:Bool) (dr:DA) (op:z5) (dst:Option Nat) (r:List z1) (a:AS):Option (DA × AS):=
 match efA a dr.dr op dst with
 |some (a1,p,q)=>if dr.ok r.length (Qow w op a p) (Qox w op a q)=true then some (dr.nx (ZL dst.toList r) (Qow w op a p) (Qox w op a q),Qrr a1 dst)else none
 |none=>if dr.ok r.length (Qow w op a (pkA op a)) (Qox w op a (wkA op a))=true then(match opC tb a dr.dr op dst with
   |some a1=>some (dr.nx (Lk w op dst r) (Qow w op a (pkA op a)) (Qox w op a (wkA op a)),Qrr a1 dst)
   |none=>none)else none
theorem QfD {tb:Tb} (O:tb.ok P) {w:Bool} {r:List z1} {dr M:DA} {G:Dr} {U:AS} (hd:dr.is G) (h:a.ok ν s) (he:Qrl tb w dr op dst r a=some (M,U)):∃e s1 C,M.is C/\U.ok (ν++e) s1/\∀F:Dr->St->Prop,F C s1->Qrm P w G op dst r s F:=by
 unfold Qrl at he;split at he;rename_i Y p q e1;split at he;rename_i T;cases he
 obtain⟨e,d,ef,h1,h2,V⟩:=Qpc (P:=P) (B:=G.B) h e1;obtain⟨e2,h2⟩:=QfO h2 dst;refine⟨e++e2,_,_,DA.lg hd _ _ _,by rw[<- QAD];exact h2,λF hF=>.inr ⟨p,q,d,ef,h1, ?_,V r, ?_⟩⟩
 grind [DA.md,Dn,Dp]
 grind [Dn,Dp]
 grind
 split at he;rename_i T;split at he;rename_i Y e1;cases he
 obtain⟨f,s1,h1,h2⟩:=Qp7 O h e1;obtain⟨f2,h1⟩:=QfO h1 dst;obtain⟨p1,p2⟩:=Qqe h op;refine⟨f++f2,s1,_,DA.lg hd _ _ _,by grind,λF hF=>.inl ⟨?_, ?_⟩⟩
 grind [DA.md,Dn,Dp]
 rw[(DA.md hd 0 [] []).2,p1,p2,Dn h,Dp h];grind
 grind
 grind
def spN (a:AS) (x:n5):List AS:=
 match x with
 | .s t=>(match lk a.fr t with
  |some (.nn k y o)=>if Nat.beq y 0=true then[a]else(match bdN a y o with
   |some (lo,hi)=>if hi - lo<16 then(List.range (hi - lo+1).toNat).map λ(i:Nat)=>⟨QiM t (.nn k 0 (lo+i)) a.fr,a.H,(y,0,lo+i - o)::(0,y,o - (lo+i))::a.cs,a.nx⟩else[a]
   |none=>[a])
  |some (.ty (.i k lo hi))=>if hi - lo<16 then(List.range (hi - lo+1).toNat).map λ(i:Nat)=>⟨QiM t (.nn k 0 (lo+i)) a.fr,a.H,a.cs,a.nx⟩else[a]
  |_=>[a])
 | .c _=>[a]
theorem QqH (h:a.ok ν s) (x:n5):∃a'∈spN a x,a'.ok ν s:=by
 have same:∃a'∈[a],a'.ok ν s:=⟨a,by simp,h⟩;unfold spN;split;rename_i t;split;rename_i k y o e1;split;omega;split;rename_i lo hi e2;split;obtain⟨d,h1,n,rfl,h2⟩:=RL.get h.fr e1;have hb:=Yy h e2 h2;refine⟨_,Qz1.2 ⟨(n - lo).toNat,QAa.2 Wa,rfl⟩,⟨?_,h.H, ?_,h.nx,h.z⟩⟩;exact FJ (v:=.nn k 0 (lo+((n - lo).toNat:Nat))) (d:=.int k n) ⟨n,rfl,0,h.z,Wa⟩ h.fr h1;obtain⟨v,C,M⟩:=h2;refine v7.app (a:=[_,_]) (λc G=>?_) h.cs;simp only[QzP,QzO,or_false]at G;rcases G with rfl |rfl
 exact⟨v,0,C,h.z,by grind⟩;exact⟨0,v,h.z,C,by grind⟩;omega;omega;rename_i k lo hi e1;split;obtain⟨d,h1,n,rfl,h2,O⟩:=RL.get h.fr e1;refine⟨_,Qz1.2 ⟨(n - lo).toNat,QAa.2 Wa,rfl⟩,⟨?_,h.H,h.cs,h.nx,h.z⟩⟩;exact FJ (v:=.nn k 0 (lo+((n - lo).toNat:Nat))) (d:=.int k n) ⟨n,rfl,0,h.z,Wa⟩ h.fr h1;omega;omega;omega
def Qru (op:z5) (a:AS):List AS:=
 match op with
 | .b8 _ _ _ i=>spN a i
 | .we (.s t)=>(match lk a.fr t with
  |some (.bf tt _)=>if(tt.any λc=>Nat.beq c.1 0&&(Nat.beq c.2.1 0&&decide (c.2.2=7)))=true then(match spl a (.s t)with
   |some l=>l.map Prod.snd
   |none=>[a])else[a]
  |_=>[a])
 |_=>[a]
theorem QfW (h:a.ok ν s) (op:z5):∃a'∈Qru op a,a'.ok ν s:=by
 unfold Qru;split;exact QqH h _;split;split;split;rename_i l e;obtain⟨b,a',h1,_,h2⟩:=Qcs h e
 all_goals grind
def Qcl (tb:Tb) (w:Bool):DA->List z1->AS->Option (List AS)
 |_,[],a=>some [a]
 |dr,⟨dst,op,none⟩::r,a=>QcU (λa0=>(match Qrl tb w dr op dst r a0 with
   |some (dr1,a1)=>Qcl tb w dr1 r a1
   |none=>none)) (Qru op a)
 |dr,⟨dst,op,some (t,b)⟩::r,a=>if Qsf (lk a.fr t)=true then Qcl tb w dr r (DC a dst (.dd .undef))else(match spl a (.s t)with
   |some l=>QcU (λ(p:Bool × AS)=>if p.1=b then QcU (λa0=>(match Qrl tb w dr op dst r a0 with
     |some (dr1,a1)=>Qcl tb w dr1 r a1
     |none=>none)) (Qru op p.2)else Qcl tb w dr r (DC p.2 dst (.dd .undef))) l
   |none=>none)
theorem Kj {P:Program} {tb:Tb} (C:tb.ok P) {w:Bool}:∀{ops:List z1} {dr:DA} {G:Dr} {a:AS} {outs:List AS} {ν:List Int} {s:St},dr.is G->a.ok ν s->Qcl tb w dr ops a=some outs->∃a'∈outs,∃e s',a'.ok (ν++e) s'/\∀K:St->Prop,K s'->Qde P w G ops K s
 |[],dr,G,a,outs,ν,s,hd,h,he=>by
  simp only[Qcl,QzQ]at he;subst he;exact⟨a,by simp,[],s,by grind,λK Y=>by cases w<;>exact Y⟩
 |⟨dst,op,none⟩::r,dr,G,a,outs,ν,s,hd,h,he=>by
  simp only[Qcl]at he;obtain⟨a0,T,h0⟩:=QfW h op;obtain⟨q0,he,M⟩:=Y0 he T;split at he;rename_i dr1 a1 e1;obtain⟨f,s1,drc1,U,h1,h2⟩:=QfD (P:=P) C hd h0 e1;obtain⟨a',ha,e,s',h3,h4⟩:=Kj C U h1 he;exact⟨a',M _ ha,f++e,s',by grind,λK Y=>PE (h2 (λdr s=>Qde P w dr r K s) (h4 K Y))⟩
  grind
 |⟨dst,op,some (t,b)⟩::r,dr,G,a,outs,ν,s,hd,h,he=>by
  simp only[Qcl]at he;have no:∀{a1:AS},a1.ok ν s->(DC a1 dst (.dd .undef)).ok ν (s.apply dst .undef none):=λh1=>Xe h1 rfl;split at he;rename_i hu;have hl:=QgO h.fr hu;obtain⟨a',ha,e,s',h3,h4⟩:=Kj C hd (no h) he
  grind [Qgi]
  split at he;rename_i l e1;obtain⟨c,a1,hm,hx,h1⟩:=Qcs h e1;obtain⟨q,O,V⟩:=Y0 he hm;have hx:lk s.fr t=some (.bool c):=hx;simp only at O;split at O;rename_i hc;subst hc;obtain⟨a0,T,h0⟩:=QfW h1 op;obtain⟨q0,O,M⟩:=Y0 O T;split at O;rename_i dr1 a2 e2;obtain⟨f,s1,drc1,U,h2,h3⟩:=QfD (P:=P) C hd h0 e2;obtain⟨a',ha,e,s',h4,h5⟩:=Kj C U h2 O;exact⟨a',V _ (M _ ha),f++e,s',by grind,λK Y=>Qgh hx (h3 (λdr s=>Qde P w dr r K s) (h5 K Y))⟩
  grind
  rename_i hc;obtain⟨a',ha,e,s',h4,h5⟩:=Kj C hd (no h1) O
  grind [Qgg]
  grind
def JK {α:Type}:List Nat->List (Nat × α)->List (Nat × α)
 |[],_=>[]
 |t::ts,l=>match lk l t with
  |some d=>(t,d)::JK ts l
  |none=>JK ts l
theorem LH {ν:List Int} {l:List (Nat × Vl)} {m:QzL} (h:RL (Vl.has ν) l m):∀ts:List Nat,RL (Vl.has ν) (JK ts l) (Qz ts m)
 |[]=>rfl
 |t::ts=>by
  have C:=LH h ts;unfold JK Qz;split;rename_i v e;obtain⟨d,h1,h2⟩:=RL.get h e;rw[h1];exact⟨d,_,rfl,h2,C⟩
  grind [RL.get_none]
theorem RA {ν:List Int} {l:List (Nat × Bx)} {m:QzK} (h:RL (Bx.has ν) l m):∀ts:List Nat,RL (Bx.has ν) (JK ts l) (Zs ts m)
 |[]=>rfl
 |t::ts=>by
  have C:=RA h ts;unfold JK Zs;split;rename_i v e;obtain⟨d,h1,h2⟩:=RL.get h e;rw[h1];exact⟨d,_,rfl,h2,C⟩
  grind [RL.get_none]
def Bx.ids:Bx->List Nat
 | .cc cells _ pr=>if pr=true then[]else cells.flatMap Vl.l4
 | .ww _ _ _ _ _=>[]
theorem Bx.w7 {b:Bx} {x:u4} (h:b.has ν x):x.ids=b.ids:=by
 cases b with
 |cc cells et pr=>
  obtain⟨ds,rfl,h1⟩:=h;cases pr
  simp only[u4.ids,Bx.ids,QzV,if_false,QAi,QA4,QAj];exact FL h1;rfl
 |ww row x o l0 et=>obtain⟨rows,rfl,_⟩:=h;rfl
theorem RL.isSome {α β:Type} {R:α->β->Prop} {l:List (Nat × α)} {m:List (Nat × β)} (h:RL R l m) (t:Nat):(lk m t).isSome=(lk l t).isSome:=by
 cases e:lk l t with
 |none=>grind [RL.get_none]
 |some a=>obtain⟨b,h1,_⟩:=RL.get h e;grind
theorem RL.all {α β:Type} {R:α->β->Prop} {f:Nat->α->Bool} {g:Nat->β->Bool} (C:∀t a b,R a b->g t b=f t a):∀{l:List (Nat × α)} {m:List (Nat × β)},RL R l m->(m.all λp=>g p.1 p.2)=l.all λp=>f p.1 p.2
 |[],m,h=>by grind [RL]
 |p::l,m,h=>by
  obtain⟨b,r,rfl,h1,h2⟩:=h;rw[QAK,QAK,C _ _ _ h1,RL.all C h2]
def wfA (a:AS):Bool:=(a.fr.all λp=>p.2.ids.all λk=>(lk a.H k).isSome)&&a.H.all λp=>p.2.ids.all λk=>(lk a.H k).isSome
theorem Qq1 (h:a.ok ν s):ua s.H s.fr=wfA a:=by
 unfold ua wfA;have e:(λk=>(lk s.H k).isSome)=λk=>(lk a.H k).isSome:=funext λk=>RL.isSome h.H k;rw[e]
 congr 1
 exact RL.all (f:=λ_ v=>v.ids.all λk=>(lk a.H k).isSome) (g:=λ_ d=>d.ids.all λk=>(lk a.H k).isSome) (λt v d C=>by rw[Vl.w7 C]) h.fr;exact RL.all (f:=λ_ v=>v.ids.all λk=>(lk a.H k).isSome) (g:=λ_ (d:u4)=>d.ids.all λk=>(lk a.H k).isSome) (λt v d C=>by rw[Bx.w7 C]) h.H
def QoT (a a':AS):Bool:=a.H.all λp=>decide (p.1<1000000)||(lk a'.H p.1).isSome
theorem Qlb {ν':List Int} {a':AS} {s':St} (h:a.ok ν s) (C:a'.ok ν' s'):QdW s.H s'.H=QoT a a':=by
 unfold QdW QoT;exact RL.all (f:=λt _=>decide (t<1000000)||(lk a'.H t).isSome) (g:=λt _=>decide (t<1000000)||(lk s'.H t).isSome) (λt v d G=>by rw[RL.isSome C.H]) h.H
def B8 (l k:List Nat) (a:AS):AS:=⟨JK l a.fr,JK k a.H,a.cs,a.nx⟩
theorem LG (h:a.ok ν s) (l k:List Nat):(B8 l k a).ok ν ⟨Qz l s.fr,Zs k s.H⟩:=⟨LH h.fr l,RA h.H k,h.cs,h.nx,h.z⟩
theorem Qby (h:a.ok ν s) {l k:List Nat} (hw:wfA (B8 l k a)=true) (hb:QoT a (B8 l k a)=true):s.le ⟨Qz l s.fr,Zs k s.H⟩:=by
 have h2:=LG h l k;have w:=Qq1 h2;have b:=Qlb h h2;exact Qn rfl rfl rfl rfl (w.trans hw) (b.trans hb)
def Qim (l:List Nat) (a:AS):AS:=⟨JK l a.fr,a.H,a.cs,a.nx⟩
theorem Qbz (h:a.ok ν s) (l:List Nat):(Qim l a).ok ν ⟨Qz l s.fr,s.H⟩:=⟨LH h.fr l,h.H,h.cs,h.nx,h.z⟩
variable {c:Cn} {f μ ν0:List Int} {n o:Int} {x:Nat} {σ τ:Sg}
def mtX (n0:Nat) (σ:Sg) (x:Nat) (o:Int) (y:Nat) (u:Int):Option Sg:=
 if Nat.ble (x+1) n0=true then(if Nat.beq x y=true/\decide (o=u)=true then some σ else none)
 else if Nat.beq (x - n0) σ.length=true/\decide (o=0)=true then some (σ++[(y,u)])
 else if Nat.ble (x - n0+1) σ.length=true/\Nat.beq (σ.at (x - n0)).1 y=true/\decide ((σ.at (x - n0)).2+o=u)=true then some σ else none
theorem Tk {y:Nat} {u:Int} (hm:Sg.r7 (ν0++f) μ σ) (G:x6 (ν0++f) y u n) (he:mtX ν0.length σ x o y u=some τ):∃ρ,Sg.r7 (ν0++f) (μ++ρ) τ/\x6 (ν0++(μ++ρ)) x o n:=by
 have V:=YK hm;have id:Sg.r7 (ν0++f) (μ++[]) σ:=by grind
 unfold mtX at he;split at he;rename_i hx;have hx:=QzN hx;split at he;rename_i C;cases he
 have e1:=QA6 C.1;have e2:=of_decide_eq_true C.2;subst e1 e2;obtain⟨v,h1,h2⟩:=G;rw[QAI Wa]at h1;exact⟨[],id,v,by grind,h2⟩
 grind
 rename_i hx;have hx:¬x+1<=ν0.length:=λq=>hx (QA8 q);split at he;rename_i C;cases he
 have e1:=QA6 C.1;have e2:=of_decide_eq_true C.2;refine⟨[n],Hi hm ⟨_,[],rfl,G,rfl⟩,n, ?_,Wa⟩
 grind
 split at he;rename_i C;cases he
 have e1:=QA6 C.2.1;have e2:=of_decide_eq_true C.2.2;have i1:x - ν0.length<μ.length:=by have:=QzN C.1;omega
 have g1:μ[x - ν0.length]?=some (μ[x - ν0.length]):=QAB i1;have g2:=Gw hm _ _ g1;obtain⟨v,M,U⟩:=g2;obtain⟨w,O,T⟩:=G;rw[e1,O]at M;cases M;refine⟨[],id,μ[x - ν0.length], ?_,Wa⟩
 grind
 grind
def R0 (n0:Nat) (σ:Sg) (x:Nat) (o:Int):Nat × Int:=if Nat.ble (x+1) n0=true then(x,o)else((σ.at (x - n0)).1,(σ.at (x - n0)).2+o)
theorem Mp (hm:Sg.r7 (ν0++f) μ σ) (G:x6 (ν0++μ) x o n):x6 (ν0++f) (R0 ν0.length σ x o).1 (R0 ν0.length σ x o).2 n:=by
 obtain⟨v,h1,rfl⟩:=G;unfold R0;split;rename_i hx;have hx:=QzN hx;rw[QAI Wa]at h1;exact⟨v,by grind,rfl⟩;rename_i hx;have hx:¬x+1<=ν0.length:=λq=>hx (QA8 q);rw[QAE Wa]at h1;obtain⟨w,C,M⟩:=Gw hm _ _ h1;exact⟨w,C,Wa⟩
def QcX (a:AS) (n0:Nat) (σ:Sg) (c:Cn):Bool:=
 (Nat.ble (c.1+1) (n0+σ.length)&&Nat.ble (c.2.1+1) (n0+σ.length))&&Qok a.cs (R0 n0 σ c.1 0).1 (R0 n0 σ c.2.1 0).1 (c.2.2+(R0 n0 σ c.2.1 0).2 - (R0 n0 σ c.1 0).2)
theorem KT (h:a.ok (ν0++f) s) (hm:Sg.r7 (ν0++f) μ σ) (he:QcX a ν0.length σ c=true):c.ok (ν0++μ):=by
 simp only[QcX,QzR]at he;obtain⟨⟨M,G⟩,U⟩:=he;have M:=QzN M;have G:=QzN G;have hl:=YK hm;have i1:c.1<(ν0++μ).length:=by grind
 have i2:c.2.1<(ν0++μ).length:=by grind
 have g1:(ν0++μ)[c.1]?=some ((ν0++μ)[c.1]):=QAB i1;have g2:(ν0++μ)[c.2.1]?=some ((ν0++μ)[c.2.1]):=QAB i2;obtain⟨x,T,q2⟩:=Mp hm (x:=c.1) (o:=0) ⟨_,g1,(Int.add_zero _).symm⟩;obtain⟨y,O,Y⟩:=Mp hm (x:=c.2.1) (o:=0) ⟨_,g2,(Int.add_zero _).symm⟩;obtain⟨z,C,V⟩:=GD h.cs U T;rw[O]at C;cases C;exact⟨_,_,g1,g2,Wa⟩
def smC (n0:Nat):Vl->Vl->Bool
 | .ty t,.ty u=>t.le u
 | .nn k x o,.nn j y u=>decide (k=j)&&(Nat.beq x y&&(decide (o=u)&&Nat.ble (x+1) n0))
 | .ss x o,.ss y u=>Nat.beq x y&&(decide (o=u)&&Nat.ble (x+1) n0)
 | .ll r x o,.ll q y u=>Tp.ib r q&&(Nat.beq x y&&(decide (o=u)&&Nat.ble (x+1) n0))
 | .bf _ _,.bf [] []=>true
 | .fl [],.fl []=>true
 |_,_=>false
def smL (n0:Nat):List Vl->List Vl->Bool
 |[],[]=>true
 |v::vs,w::ws=>smC n0 v w&&smL n0 vs ws
 |_,_=>false
def smR (n0:Nat):List (List Vl)->List (List Vl)->Bool
 |[],[]=>true
 |v::vs,w::ws=>smL n0 v w&&smR n0 vs ws
 |_,_=>false
theorem QgQ (h:x6 (ν++f) x o n) (hx:x<ν.length):x6 (ν++μ) x o n:=by
 obtain⟨v,h1,h2⟩:=h;rw[QAI hx]at h1;exact⟨v,by grind,h2⟩
theorem Qqu {w:Vl} (he:smC ν.length v w=true) (h:v.has (ν++f) d):w.has (ν++μ) d:=by
 unfold smC at he;split at he;exact Tp.mb he h;simp only[QzR,decide_eq_true_eq]at he;obtain⟨rfl,h1,rfl,h2⟩:=he;have h1:=QA6 h1;subst h1;obtain⟨n,rfl,C⟩:=h;exact⟨n,rfl,QgQ C (QzN h2)⟩;simp only[QzR,decide_eq_true_eq]at he;obtain⟨h1,rfl,h2⟩:=he;have h1:=QA6 h1;subst h1;obtain⟨n,rfl,C⟩:=h;exact⟨n,rfl,QgQ C (QzN h2)⟩;simp only[QzR,decide_eq_true_eq]at he;obtain⟨h0,h1,rfl,h2⟩:=he;have h1:=QA6 h1;subst h1;obtain⟨n,hd,C,G⟩:=h;exact⟨n,hd,QgQ C (QzN h2),λr hr=>Tp.n7 h0 (G r hr)⟩;obtain⟨b,rfl,_⟩:=h;exact Fp b;trivial
 grind
theorem Qcq {ν f μ:List Int}:∀{vs ws:List Vl} {ds:List D},smL ν.length vs ws=true->Vl.n4 (ν++f) vs ds->Vl.n4 (ν++μ) ws ds
 |[],[],ds,_,h=>h
 |v::vs,w::ws,ds,he,h=>by
  simp only[smL,QzR]at he;obtain⟨d,r,rfl,h1,h2⟩:=h;exact⟨d,r,rfl,Qqu he.1 h1,Qcq he.2 h2⟩
 |[],_::_,_,he,_=>by cases he
 |_::_,[],_,he,_=>by cases he
theorem Qkl {ν f μ:List Int}:∀{vs ws:List (List Vl)} {ds:List (List D)},smR ν.length vs ws=true->Vl.k7 (ν++f) vs ds->Vl.k7 (ν++μ) ws ds
 |[],[],ds,_,h=>h
 |v::vs,w::ws,ds,he,h=>by
  simp only[smR,QzR]at he;obtain⟨d,r,rfl,h1,h2⟩:=h;exact⟨d,r,rfl,Qcq he.1 h1,Qkl he.2 h2⟩
 |[],_::_,_,he,_=>by cases he
 |_::_,[],_,he,_=>by cases he
def Qs0 (n0:Nat) (cs:List Cn) (c:Cn):Bool:=(Nat.ble (c.1+1) n0&&Nat.ble (c.2.1+1) n0)&&Qok cs c.1 c.2.1 c.2.2
theorem QlH {cs:List Cn} (h:v7 (ν++f) cs) (he:Qs0 ν.length cs c=true):c.ok (ν++μ):=by
 simp only[Qs0,QzR]at he;have G:c.1<ν.length:=QzN he.1.1;have C:c.2.1<ν.length:=QzN he.1.2;obtain⟨b,h1,h2⟩:=GD h he.2 (show(ν++f)[c.1]?=some ν[c.1] by grind);rw[QAI C]at h1;exact⟨ν[c.1],b,by grind,by grind,h2⟩
def Qom (n0:Nat) (σ:Sg) (a:AS) (t:List Cn) (c:Cn):Bool:=Qs0 n0 (t++a.cs) c||QcX ⟨a.fr,a.H,t++a.cs,a.nx⟩ n0 σ c
theorem Lm {t:List Cn} (h:a.ok (ν0++f) s) (C:v7 (ν0++f) t) (hm:Sg.r7 (ν0++f) μ σ) (he:Qom ν0.length σ a t c=true):c.ok (ν0++μ):=by
 simp only[Qom,QAT]at he;rcases he with q |q
 exact QlH (C.app h.cs) q;exact KT (a:=⟨a.fr,a.H,t++a.cs,a.nx⟩) (s:=s) ⟨h.fr,h.H,C.app h.cs,h.nx,h.z⟩ hm q
def mtJ (a:AS) (n0:Nat) (σ:Sg) (v p:Vl):Option (Sg × AS):=
 match p with
 | .ty t=>if Qbf a v t=true then some (σ,a)else none
 | .ii k=>if QjQ v=some k then some (σ,a)else none
 | .nn k x o=>(match toN a v with
  |some (k2,y,u,a1)=>if k=k2 then(match mtX n0 σ x o y u with
    |some τ=>some (τ,a1)
    |none=>none)else none
  |none=>none)
 | .ss x o=>(match qf a v with
  |some (y,u,a1)=>(match mtX n0 σ x o y u with
   |some τ=>some (τ,a1)
   |none=>none)
  |none=>none)
 | .ll row x o=>(match v with
  | .fl rows=>if Rl a rows row=true then(match mtX n0 σ x o 0 rows.length with
    |some τ=>some (τ,a)
    |none=>none)else none
  |v=>(match Qhi a v with
   |some (r,y,u,a1)=>if Tp.ib r row=true\/(Nat.beq y 0=true/\decide (u<=0)=true)then(match mtX n0 σ x o y u with
     |some τ=>some (τ,a1)
     |none=>none)else none
   |none=>none))
 | .oo k x o=>(match v with
  | .oo k2 y u=>if k=k2 then(match mtX n0 σ x o y u with
    |some τ=>some (τ,a)
    |none=>none)else none
  |_=>none)
 | .rr k off=>(match v with
  | .rr k2 off2=>if k=k2/\off=off2 then some (σ,a)else none
  |_=>none)
 | .pp cells=>(match v with
  | .pp c2=>if Tp.ib c2 cells=true then some (σ,a)else none
  |_=>none)
 | .bf [] []=>if Qdv v=true then some (σ,a)else none
 | .bf tt ff=>(match v with
  | .bf t f=>if((Qk7 t||tt.all (Qom n0 σ a t))&&(Qk7 f||ff.all (Qom n0 σ a f)))=true then some (σ,a)else none
  |v=>if(Qdv v&&(tt.all (Qom n0 σ a [])&&ff.all (Qom n0 σ a [])))=true then some (σ,a)else none)
 | .fl []=>(match v with
  | .fl []=>some (σ,a)
  |_=>none)
 | .fx rows=>(match v with
  | .fx rows2=>if smR n0 rows2 rows=true then some (σ,a)else none
  |_=>none)
 | .ei k lo hi tt=>(match toN a v with
  |some (k2,y,u,a1)=>if k=k2/\XO a1.cs 0 lo y u=true/\XO a1.cs y u 0 hi=true/\(XO a1.cs 0 1 y u||(XO a1.cs y u 0 (-1)||tt.all (QcX a1 n0 σ)))=true then some (σ,a1)else none
  |none=>none)
 |_=>none
theorem QjZ {a':AS} {p:Vl} (h:a.ok (ν0++f) s) (he:mtJ a ν0.length σ v p=some (τ,a')) (G:v.has (ν0++f) d) (hm:Sg.r7 (ν0++f) μ σ):∃e ρ,a'.ok (ν0++(f++e)) s/\Sg.r7 (ν0++(f++e)) (μ++ρ) τ/\p.has (ν0++(μ++ρ)) d:=by
 have stay:p.has (ν0++μ) d->∃e ρ,a.ok (ν0++(f++e)) s/\Sg.r7 (ν0++(f++e)) (μ++ρ) σ/\p.has (ν0++(μ++ρ)) d:=λq=>⟨[],[],by grind,by grind,by grind⟩;unfold mtJ at he;split at he;split at he;rename_i V;cases he
 exact stay (Lp h V G)
 grind
 split at he;rename_i hk;cases he
 exact stay (LF G hk)
 grind
 split at he;rename_i k2 y u Y e1;split at he;rename_i hk;split at he;rename_i τ2 e2;cases he
 obtain⟨g,n,rfl,h1,h2⟩:=Zd h e1 G;rw[QAD]at h1 h2;have C:=Jb g hm;rw[QAD]at C;obtain⟨ρ,T,O⟩:=Tk C h1 e2;exact⟨g,ρ,h2,T,by subst hk;exact⟨n,rfl,O⟩⟩
 grind
 grind
 grind
 split at he;rename_i y u Y e1;split at he;rename_i τ2 e2;cases he
 obtain⟨g,l,rfl,h1,h2⟩:=XK h e1 G;rw[QAD]at h1 h2;have C:=Jb g hm;rw[QAD]at C;obtain⟨ρ,T,O⟩:=Tk C h1 e2;exact⟨g,ρ,h2,T,l,rfl,O⟩
 grind
 grind
 split at he;rename_i rows;split at he;rename_i V;split at he;rename_i τ2 e2;cases he
 obtain⟨rs,rfl,h1⟩:=G;obtain⟨h2,T⟩:=Y2 h V h1;obtain⟨ρ,O,h5⟩:=Tk hm (YU h.z _) e2;exact⟨[],ρ,by grind,by grind,rs,.inr rfl,by grind,h2⟩
 grind
 grind
 split at he;rename_i r y u Y e1;split at he;rename_i hr;split at he;rename_i τ2 e2;cases he
 obtain⟨g,rows,hd,h1,U,h2⟩:=Yp h e1 G;rw[QAD]at h1 h2;have C:=Jb g hm;rw[QAD]at C;obtain⟨ρ,T,O⟩:=Tk C h1 e2;refine⟨g,ρ,h2,T,rows,hd,O,λq hq=>?_⟩;rcases hr with hr |⟨hr,hu⟩
 grind [Tp.n7]
 have hy:=QA6 hr;subst hy;have:=x6.inj h1 ⟨0,h2.z,rfl⟩
 grind
 grind
 grind
 grind
 split at he;split at he;rename_i hk;split at he;rename_i τ2 e2;cases he
 obtain⟨n,rfl,h1⟩:=G;obtain⟨ρ,T,O⟩:=Tk hm h1 e2;exact⟨[],ρ,by grind,by grind,n,by rw[hk],O⟩
 grind
 grind
 grind
 grind [Vl.has]
 split at he;split at he;rename_i hk;cases he
 obtain⟨ds,rfl,h1⟩:=G;exact stay ⟨ds,rfl,Tp.n7 hk h1⟩
 grind
 grind
 split at he;rename_i hk;cases he
 obtain⟨b,rfl⟩:=KP G hk;exact stay (Fp b)
 grind
 split at he;split at he;rename_i hk;cases he
 simp only[QzR,QAT]at hk;obtain⟨b,rfl,h1,h2⟩:=G;refine stay ⟨b,rfl,λe=>?_,λe=>?_⟩;rcases hk.1 with q |q
 exact absurd (h1 e) (P0 h.z q);exactλc M=>Lm h (h1 e) hm (QzX.1 q c M);rcases hk.2 with q |q
 exact absurd (h2 e) (P0 h.z q);exactλc M=>Lm h (h2 e) hm (QzX.1 q c M)
 grind
 split at he;rename_i hk;cases he
 simp only[QzR]at hk;obtain⟨b,rfl⟩:=KP G hk.1;exact stay ⟨b,rfl,λ_ c M=>Lm h QL hm (QzX.1 hk.2.1 c M),λ_ c M=>Lm h QL hm (QzX.1 hk.2.2 c M)⟩
 grind
 split at he;cases he
 obtain⟨rs,rfl,h1⟩:=G;exact stay ⟨rs,rfl,h1⟩
 grind
 split at he;split at he;rename_i hs;cases he
 obtain⟨rs,hd,h1⟩:=G;exact stay ⟨rs,hd,Qkl hs h1⟩
 grind
 grind
 split at he;rename_i k2 y u Y e1;split at he;rename_i hh;cases he
 obtain⟨hk,b1,b2,b3⟩:=hh;subst hk;obtain⟨g,n,rfl,h1,h2⟩:=Zd h e1 G;have c1:=Qm h2.cs b1 (YU h2.z _) h1;have c2:=Qm h2.cs b2 h1 (YU h2.z _);rw[QAD]at h2;have C:=Jb g hm;rw[QAD]at C;refine⟨g,[],h2,by grind,n,rfl,⟨c1,c2⟩,λe0=>?_⟩;rw[QAj];rw[QAD]at h1;simp only[QAT]at b3;rcases b3 with q |q |q
 have:=Qm h2.cs q (YU h2.z _) h1;omega;have:=Qm h2.cs q h1 (YU h2.z _);omega;exactλc M=>KT h2 C (QzX.1 q c M)
 all_goals grind
def mtC (n0:Nat):AS->Sg->List Vl->List Vl->Option (Sg × AS)
 |a,σ,[],[]=>some (σ,a)
 |a,σ,v::l,p::r=>match mtJ a n0 σ v p with
  |some (σ1,a1)=>mtC n0 a1 σ1 l r
  |none=>none
 |_,_,_,_=>none
theorem QbP {s:St} {ν0:List Int}:∀{l r:List Vl} {m:List D} {f μ:List Int} {a a':AS} {σ τ:Sg},a.ok (ν0++f) s->mtC ν0.length a σ l r=some (τ,a')->Vl.n4 (ν0++f) l m->Sg.r7 (ν0++f) μ σ->∃e ρ,a'.ok (ν0++(f++e)) s/\Sg.r7 (ν0++(f++e)) (μ++ρ) τ/\Vl.n4 (ν0++(μ++ρ)) r m
 |[],[],m,f,μ,a,a',σ,τ,h,he,hr,hm=>by
  simp only[mtC,QzQ,QAG]at he;obtain⟨rfl,rfl⟩:=he;exact⟨[],[],by grind,by grind,hr⟩
 |p::l,q::r,m,f,μ,a,a',σ,τ,h,he,hr,hm=>by
  simp only[mtC]at he;split at he;rename_i σ1 a1 e1;obtain⟨d,G,rfl,h1,h2⟩:=hr;obtain⟨g,ρ,T,O,M⟩:=QjZ h e1 h1 hm;have C:Vl.n4 (ν0++(f++g)) l G:=by rw[<- QAD];exact h2.ext g
  obtain⟨g2,ρ2,Y,V,U⟩:=QbP T he C O;refine⟨g++g2,ρ++ρ2,by grind,by grind,d,G,rfl, ?_,by grind⟩;have:=M.ext ρ2
  grind
  grind
 |[],_::_,m,f,μ,a,a',σ,τ,h,he,hr,hm=>by trivial
 |_::_,[],m,f,μ,a,a',σ,τ,h,he,hr,hm=>by trivial
def QpT (n0:Nat) (a:AS) (σ:Sg) (v p:Vl):Option (Sg × AS):=
 match p with
 | .aa ps=>(match v with
  | .aa vs=>mtC n0 a σ vs ps
  |_=>none)
 |p=>mtJ a n0 σ v p
theorem Qah {v p:Vl} {d:D} (h:a.ok (ν0++f) s) (he:QpT ν0.length a σ v p=some (τ,a')) (C:v.has (ν0++f) d) (hm:Sg.r7 (ν0++f) μ σ):∃e ρ,a'.ok (ν0++(f++e)) s/\Sg.r7 (ν0++(f++e)) (μ++ρ) τ/\p.has (ν0++(μ++ρ)) d:=by
 unfold QpT at he;split at he;split at he;obtain⟨ds,rfl,h1⟩:=C;obtain⟨g,ρ,h2,M,G⟩:=QbP h he h1 hm;exact⟨g,ρ,h2,M,ds,rfl,G⟩
 grind
 grind [QjZ]
def mtF (n0:Nat):AS->Sg->List (Nat × Vl)->List (Nat × Vl)->Option (Sg × AS)
 |a,σ,[],[]=>some (σ,a)
 |a,σ,p::l,q::r=>if p.1=q.1 then(match QpT n0 a σ p.2 q.2 with
   |some (σ1,a1)=>mtF n0 a1 σ1 l r
   |none=>none)else none
 |_,_,_,_=>none
theorem QjY {s:St} {ν0:List Int}:∀{l r:List (Nat × Vl)} {m:QzL} {f μ:List Int} {a a':AS} {σ τ:Sg},a.ok (ν0++f) s->mtF ν0.length a σ l r=some (τ,a')->RL (Vl.has (ν0++f)) l m->Sg.r7 (ν0++f) μ σ->∃e ρ,a'.ok (ν0++(f++e)) s/\Sg.r7 (ν0++(f++e)) (μ++ρ) τ/\RL (Vl.has (ν0++(μ++ρ))) r m
 |[],[],m,f,μ,a,a',σ,τ,h,he,hr,hm=>by
  simp only[mtF,QzQ,QAG]at he;obtain⟨rfl,rfl⟩:=he;exact⟨[],[],by grind,by grind,hr⟩
 |p::l,q::r,m,f,μ,a,a',σ,τ,h,he,hr,hm=>by
  simp only[mtF]at he;split at he;rename_i hk;split at he;rename_i σ1 a1 e1;obtain⟨d,G,rfl,h1,h2⟩:=hr;obtain⟨g,ρ,T,O,M⟩:=Qah h e1 h1 hm;have C:RL (Vl.has (ν0++(f++g))) l G:=RL.mono (λv d q=>by rw[<- QAD];exact q.ext g) h2
  obtain⟨g2,ρ2,Y,V,U⟩:=QjY T he C O;refine⟨g++g2,ρ++ρ2,by grind,by grind,d,G,by rw[hk], ?_,by grind⟩;have:=M.ext ρ2
  grind
  grind
  grind
 |[],_::_,m,f,μ,a,a',σ,τ,h,he,hr,hm=>by trivial
 |_::_,[],m,f,μ,a,a',σ,τ,h,he,hr,hm=>by trivial
def mtB (n0:Nat) (a:AS) (σ:Sg) (b p:Bx):Option (Sg × AS):=
 match b,p with
 | .ww row x o l0 et,.ww row2 y u esz2 et2=>if Tp.ib row row2=true/\l0=esz2/\et=et2 then(match mtX n0 σ y u x o with
   |some τ=>some (τ,a)
   |none=>none)else none
 | .cc cells et pr,.cc cells2 et2 pr2=>if et=et2/\pr=pr2 then mtC n0 a σ cells cells2 else none
 |_,_=>none
theorem QpQ {b p:Bx} {x:u4} (h:a.ok (ν0++f) s) (he:mtB ν0.length a σ b p=some (τ,a')) (hb:b.has (ν0++f) x) (hm:Sg.r7 (ν0++f) μ σ):∃e ρ,a'.ok (ν0++(f++e)) s/\Sg.r7 (ν0++(f++e)) (μ++ρ) τ/\p.has (ν0++(μ++ρ)) x:=by
 unfold mtB at he;split at he;split at he;rename_i G;split at he;rename_i τ2 e2;cases he
 obtain⟨rows,rfl,h1,h2⟩:=hb;obtain⟨ρ,M,C⟩:=Tk hm h1 e2;exact⟨[],ρ,by grind,by grind,rows,by grind,C,λr hr=>Tp.n7 G.1 (h2 r hr)⟩
 grind
 grind
 split at he;rename_i G;obtain⟨ds,rfl,h1⟩:=hb;obtain⟨g,ρ,h2,M,C⟩:=QbP h he h1 hm;exact⟨g,ρ,h2,M,ds,by grind,C⟩
 grind
 grind
def mtH (n0:Nat):AS->Sg->List (Nat × Bx)->List (Nat × Bx)->Option (Sg × AS)
 |a,σ,[],[]=>some (σ,a)
 |a,σ,p::l,q::r=>if p.1=q.1 then(match mtB n0 a σ p.2 q.2 with
   |some (σ1,a1)=>mtH n0 a1 σ1 l r
   |none=>none)else none
 |_,_,_,_=>none
theorem CK {s:St} {ν0:List Int}:∀{l r:List (Nat × Bx)} {m:QzK} {f μ:List Int} {a a':AS} {σ τ:Sg},a.ok (ν0++f) s->mtH ν0.length a σ l r=some (τ,a')->RL (Bx.has (ν0++f)) l m->Sg.r7 (ν0++f) μ σ->∃e ρ,a'.ok (ν0++(f++e)) s/\Sg.r7 (ν0++(f++e)) (μ++ρ) τ/\RL (Bx.has (ν0++(μ++ρ))) r m
 |[],[],m,f,μ,a,a',σ,τ,h,he,hr,hm=>by
  simp only[mtH,QzQ,QAG]at he;obtain⟨rfl,rfl⟩:=he;exact⟨[],[],by grind,by grind,hr⟩
 |p::l,q::r,m,f,μ,a,a',σ,τ,h,he,hr,hm=>by
  simp only[mtH]at he;split at he;rename_i hk;split at he;rename_i σ1 a1 e1;obtain⟨d,G,rfl,h1,h2⟩:=hr;obtain⟨g,ρ,T,O,M⟩:=QpQ h e1 h1 hm;have C:RL (Bx.has (ν0++(f++g))) l G:=RL.mono (λv d q=>by rw[<- QAD];exact q.ext g) h2
  obtain⟨g2,ρ2,Y,V,U⟩:=CK T he C O;refine⟨g++g2,ρ++ρ2,by grind,by grind,d,G,by rw[hk], ?_,by grind⟩;have:=M.ext ρ2
  grind
  grind
  grind
 |[],_::_,m,f,μ,a,a',σ,τ,h,he,hr,hm=>by trivial
 |_::_,[],m,f,μ,a,a',σ,τ,h,he,hr,hm=>by trivial
variable {ρ:Nat->Nat}
def Vl.o6 (ρ:Nat->Nat):Vl->Vl
 | .oo k x o=>.oo (ρ k) x o
 | .rr k o=>.rr (ρ k) o
 | .qq k x o f=>.qq (ρ k) x o f
 | .dd d=>.dd (d.o6 ρ)
 |v=>v
theorem QgK {t:Tp} (h:t.has d):d.o6 ρ=d:=by
 cases t<;>simp only[Tp.has]at h<;>obtain⟨x,h⟩:=h
 obtain⟨rfl,_⟩:=h;rfl;subst h;rfl;obtain⟨rfl,_⟩:=h;rfl;obtain⟨_,rfl⟩:=h;rfl;obtain⟨h,_⟩:=h;rcases h with rfl |rfl<;>rfl
 obtain⟨h,_⟩:=h;rcases h with rfl |rfl<;>rfl
 obtain⟨h,_⟩:=h;rcases h with rfl |rfl<;>rfl
theorem Cq {ρ:Nat->Nat}:∀{ts:List Tp} {ds:List D},Tp.u3 ts ds->ds.map (D.o6 ρ)=ds
 |[],ds,h=>by grind [Tp.u3]
 |t::ts,ds,h=>by
  obtain⟨d,r,rfl,h1,h2⟩:=h;rw[QAr,QgK h1,Cq h2]
theorem Vl.lb (h:v.has ν d):(v.o6 ρ).has ν (d.o6 ρ):=by
 cases v with
 |oo k x o=>obtain⟨n,rfl,h1⟩:=h;exact⟨n,rfl,h1⟩
 |rr k o=>cases h;rfl
 |qq k x o f=>obtain⟨n,rfl,h1⟩:=h;exact⟨n,rfl,h1⟩
 |dd d0=>cases h;rfl
 |ty t=>rw[QgK (ρ:=ρ) (d:=d) h];exact h
 |nn kk x o=>have C:=h;obtain⟨n,rfl,_⟩:=C;exact h
 |ii kk=>have C:=h;obtain⟨n,rfl⟩:=C;exact h
 |bf a b=>have C:=h;obtain⟨n,rfl,_⟩:=C;exact h
 |ss x o=>have C:=h;obtain⟨n,rfl,_⟩:=C;exact h
 |ll r x o=>have C:=h;obtain⟨n,C,_⟩:=C;rcases C with rfl |rfl<;>exact h
 |ld r x o y p=>have C:=h;obtain⟨n,C,_⟩:=C;rcases C with rfl |rfl<;>exact h
 |fx r=>have C:=h;obtain⟨n,C,_⟩:=C;rcases C with rfl |rfl<;>exact h
 |fl r=>have C:=h;obtain⟨n,rfl,_⟩:=C;exact h
 |lf r x o=>have C:=h;obtain⟨n,rfl,_⟩:=C;exact h
 |pp c=>have C:=h;obtain⟨n,rfl,_⟩:=C;exact h
 |pv c=>have C:=h;obtain⟨n,rfl,_⟩:=C;exact h
 |uu c=>have C:=h;obtain⟨n,rfl,_⟩:=C;exact h
 |ei k lo hi tt=>have C:=h;obtain⟨n,rfl,_⟩:=C;exact h
 |tp c w=>have C:=h;obtain⟨n,m,rfl,_⟩:=C;exact h
 |aa c=>have C:=h;obtain⟨n,rfl,_⟩:=C;exact h
def Vl.o5 (ρ:Nat->Nat):Vl->Vl
 | .aa cs=>.aa (cs.map (Vl.o6 ρ))
 | .tp cs w=>.tp (cs.map (Vl.o6 ρ)) w
 | .dd d=>.dd (d.o5 ρ)
 |v=>v.o6 ρ
theorem Vl.ca (h:v.has ν d):(v.o5 ρ).has ν (d.o5 ρ):=by
 have G:=Vl.lb (ρ:=ρ) h;cases v with
 |aa c=>obtain⟨ds,rfl,h1⟩:=h;exact⟨_,rfl,Nh (λv d h=>Vl.lb h) h1⟩
 |dd d0=>cases h;rfl
 |oo k x o=>have C:=h;obtain⟨n,rfl,h1⟩:=C;exact G
 |rr k o=>cases h;rfl
 |qq k x o f=>have C:=h;obtain⟨n,rfl,h1⟩:=C;exact G
 |ty t=>
  have C:=h;cases t<;>simp only[Vl.has,Tp.has]at C<;>obtain⟨x,C⟩:=C;obtain⟨rfl,_⟩:=C;exact G;subst C;exact G;obtain⟨rfl,_⟩:=C;exact G;obtain⟨_,rfl⟩:=C;exact G;obtain⟨C,_⟩:=C;rcases C with rfl |rfl<;>exact G
  obtain⟨C,_⟩:=C;rcases C with rfl |rfl<;>exact G
  obtain⟨C,_⟩:=C;rcases C with rfl |rfl<;>exact G
 |nn kk x o=>have C:=h;obtain⟨n,rfl,_⟩:=C;exact G
 |ii kk=>have C:=h;obtain⟨n,rfl⟩:=C;exact G
 |bf a b=>have C:=h;obtain⟨n,rfl,_⟩:=C;exact G
 |ss x o=>have C:=h;obtain⟨n,rfl,_⟩:=C;exact G
 |ll r x o=>have C:=h;obtain⟨n,C,_⟩:=C;rcases C with rfl |rfl<;>exact G
 |ld r x o y p=>have C:=h;obtain⟨n,C,_⟩:=C;rcases C with rfl |rfl<;>exact G
 |fx r=>have C:=h;obtain⟨n,C,_⟩:=C;rcases C with rfl |rfl<;>exact G
 |fl r=>have C:=h;obtain⟨n,rfl,_⟩:=C;exact G
 |lf r x o=>have C:=h;obtain⟨n,rfl,_⟩:=C;exact G
 |pp c=>have C:=h;obtain⟨n,rfl,_⟩:=C;exact G
 |pv c=>have C:=h;obtain⟨n,rfl,_⟩:=C;exact G
 |uu c=>have C:=h;obtain⟨n,rfl,_⟩:=C;exact G
 |ei k lo hi tt=>have C:=h;obtain⟨n,rfl,_⟩:=C;exact G
 |tp c w=>obtain⟨ds,m,rfl,h1,h2⟩:=h;exact⟨_,_,rfl,Nh (λv d h=>Vl.lb h) h1,h2⟩
def Bx.o5 (ρ:Nat->Nat):Bx->Bx
 | .cc cells et pr=>.cc (cells.map (Vl.o6 ρ)) et pr
 |b=>b
theorem Bx.ca {b:Bx} {x:u4} (h:b.has ν x):(b.o5 ρ).has ν (x.o5 ρ):=by
 cases b with
 |cc cells et pr=>
  obtain⟨ds,rfl,h1⟩:=h;exact⟨ds.map (D.o6 ρ),by simp[u4.o5],Nh (λv d h=>Vl.lb h) h1⟩
 |ww row x o l0 et=>
  obtain⟨rows,rfl,h1,h2⟩:=h
  have e:rows.map (λr=>r.map (D.o6 ρ))=rows:=by
   conv=>rhs;rw[<- List.map_id rows]
   grind [List.map_congr_left,Cq]
  exact⟨rows,by grind [u4.o5],h1,h2⟩
theorem RL.ke {α β:Type} {R:α->β->Prop} {f:α->α} {g:β->β} {ρ:Nat->Nat} (C:∀a b,R a b->R (f a) (g b)):∀{l:List (Nat × α)} {m:List (Nat × β)},RL R l m->RL R (l.map λp=>(ρ p.1,f p.2)) (m.map λp=>(ρ p.1,g p.2))
 |[],m,h=>by grind [RL]
 |p::l,m,h=>by
  obtain⟨b,r,rfl,h1,h2⟩:=h;exact⟨g b,_,rfl,C _ _ h1,RL.ke C h2⟩
def AS.o5 (ρ:Nat->Nat) (a:AS):AS:=⟨a.fr.map λp=>(p.1,p.2.o5 ρ),a.H.map λp=>(ρ p.1,p.2.o5 ρ),a.cs,a.nx⟩
theorem AS.ok.o5 {ν:List Int} {a:AS} {s:St} (h:a.ok ν s) (ρ:Nat->Nat):(a.o5 ρ).ok ν (s.o5 ρ):=
 ⟨RL.map (λv d q=>Vl.ca q) h.fr,RL.ke (λv d q=>Bx.ca q) h.H,h.cs,h.nx,h.z⟩
structure Hd where
 fr:List (Nat × Vl)
 bx:List Nat
 H:List (Nat × Bx)
 cs:List Cn
 k:Nat
 up:Nat × Int
 dn:Nat × Int
def ovr {α:Type} (o:List (Nat × α)):List (Nat × α)->List (Nat × α)
 |[]=>[]
 |p::l=>(match lk o p.1 with
  |some q=>(p.1,q)
  |none=>p)::ovr o l
def M1 (a:AS) (hd:Hd):AS:=⟨ovr hd.fr a.fr,hd.H++JK hd.bx a.H,hd.cs++a.cs,a.nx+hd.k⟩
def QbN (a J:AS) (n0 k:Nat) (cs:List Cn):Option (Sg × AS):=
 if wfA (B8 (J.fr.map Prod.fst) (J.H.map Prod.fst) a)=true/\QoT a (B8 (J.fr.map Prod.fst) (J.H.map Prod.fst) a)=true then
  (match mtF n0 (B8 (J.fr.map Prod.fst) (J.H.map Prod.fst) a) [] (JK (J.fr.map Prod.fst) a.fr) J.fr with
  |some (σ1,a1)=>(match mtH n0 a1 σ1 (JK (J.H.map Prod.fst) a.H) J.H with
   |some (σ2,a2)=>if Nat.beq σ2.length k=true/\(cs.all (QcX a2 n0 σ2))=true then some (σ2,a2)else none
   |none=>none)
  |none=>none)else none
theorem CH {ν0 f:List Int} {a a2 J:AS} {s:St} {k:Nat} {cs c0:List Cn} {σ:Sg} (h:a.ok (ν0++f) s) (he:QbN a J ν0.length k cs=some (σ,a2)) (Y:J.cs=cs++c0) (hn:J.nx=ν0.length+k) (h0:v7 ν0 c0) (z:ν0[0]?=some 0):
  ∃g μ s2,a2.ok (ν0++(f++g)) s2/\Sg.r7 (ν0++(f++g)) μ σ/\s.le s2/\J.ok (ν0++μ) s2:=by
 unfold QbN at he;split at he;rename_i O;have hle:=Qby h O.1 O.2;have hk:=LG h (J.fr.map Prod.fst) (J.H.map Prod.fst);split at he;rename_i σ1 a1 e1;split at he;rename_i σ2 a3 e2;split at he;rename_i T;cases he
 obtain⟨g,ρ,h1,h2,U⟩:=QjY (μ:=[]) hk e1 hk.fr rfl;have hH:RL (Bx.has (ν0++(f++g))) (JK (J.H.map Prod.fst) a.H) (Zs (J.H.map Prod.fst) s.H):=RL.mono (λb x q=>by rw[<- QAD];exact q.ext g) hk.H
 rw[QA2]at h2 U;obtain⟨g2,ρ2,M,C,h6⟩:=CK h1 e2 hH h2;rw[QAD f]at M C;have hl:=YK C;have V:=QA6 T.1;refine⟨g++g2,ρ++ρ2,_,M,C,hle,⟨?_,h6, ?_, ?_, ?_⟩⟩;exact RL.mono (λv d q=>by rw[<- QAD];exact q.ext ρ2) U
 rw[Y];exact v7.app (λc G=>KT M C (QzX.1 T.2 c G)) (h0.ext _)
 all_goals grind
def emA (J:AS):List (Nat × Vl)->AS->AS
 |[],a=>a
 |(t,p)::r,a=>match p with
  | .oo k _ _=>(match lk a.fr t,lk a.H k,lk J.H k with
   |some (.fl []),none,some (.ww row _ _ l0 et)=>emA J r ⟨(t,.oo k 0 0)::a.fr,(k,.ww row 0 0 l0 et)::a.H,a.cs,a.nx⟩
   |_,_,_=>emA J r a)
  |_=>emA J r a
theorem Qa6 {ν:List Int} {J:AS}:∀{l:List (Nat × Vl)} {a:AS} {s:St},a.ok ν s->∃s',s.le s'/\(emA J l a).ok ν s'
 |[],a,s,h=>⟨s,le_refl s,h⟩
 |(t,p)::r,a,s,h=>by
  unfold emA;split;rename_i k x o;split;rename_i row O T l0 et e1 e2 e3;obtain⟨d,h1,rs,rfl,h2⟩:=RL.get h.fr e1;simp only[Vl.k7]at h2;subst h2;have hk:=RL.get_none h.H e2;have hle:s.le ⟨(t,.s4 k 0)::s.fr,(k,⟨[],l0,et,true⟩)::s.H⟩:=Zi t k l0 et h1 hk
  have C:(⟨(t,.oo k 0 0)::a.fr,(k,.ww row 0 0 l0 et)::a.H,a.cs,a.nx⟩:AS).ok ν ⟨(t,.s4 k 0)::s.fr,(k,⟨[],l0,et,true⟩)::s.H⟩:=
   ⟨⟨_,_,rfl,⟨0,rfl,YU h.z 0⟩,h.fr⟩,⟨_,_,rfl,⟨[],rfl,YU h.z 0,λr hr=>by grind⟩,h.H⟩,h.cs,h.nx,h.z⟩
  obtain⟨s',M,G⟩:=Qa6 (l:=r) C;exact⟨s',le_trans hle M,G⟩;exact Qa6 h;exact Qa6 h
theorem Ly {ν:List Int}:∀{vs:List Vl} {ds:List D} (j:Nat) {v:Vl} {d:D},Vl.n4 ν vs ds->v.has ν d->Vl.n4 ν (vs.set j v) (ds.set j d)
 |[],ds,j,v,d,h,hv=>by grind [Vl.n4]
 |w::vs,ds,0,v,d,h,hv=>by obtain⟨e,r,rfl,h1,h2⟩:=h;exact⟨d,r,rfl,hv,h2⟩
 |w::vs,ds,j+1,v,d,h,hv=>by obtain⟨e,r,rfl,h1,h2⟩:=h;exact⟨e,r.set j d,rfl,h1,Ly j h2 hv⟩
def QjH (J:AS) (k0:Nat):Nat->List Vl->AS->AS
 |_,[],a=>a
 |j,p::ps,a=>match p with
  | .oo k _ _=>(match lk a.H k0,lk a.H k,lk J.H k with
   |some (.cc cells et _),none,some (.ww row _ _ esz2 et2)=>(match cells[j]? with
    |some (.fl [])=>QjH J k0 (j+1) ps ⟨a.fr,(k0,.cc (cells.set j (.oo k 0 0)) et false)::(k,.ww row 0 0 esz2 et2)::a.H,a.cs,a.nx⟩
    |_=>QjH J k0 (j+1) ps a)
   |_,_,_=>QjH J k0 (j+1) ps a)
  |_=>QjH J k0 (j+1) ps a
theorem Me {ν:List Int} {J:AS} {k0:Nat}:∀{l:List Vl} {j:Nat} {a:AS} {s:St},a.ok ν s->∃s',s.le s'/\(QjH J k0 j l a).ok ν s'
 |[],j,a,s,h=>⟨s,le_refl s,h⟩
 |p::ps,j,a,s,h=>by
  unfold QjH;split;rename_i k x o;split;rename_i cells et pr row Y o1 C G e1 e2 e3;split;rename_i V;obtain⟨b,hb,ds,rfl,h1⟩:=RL.get h.H e1;have hk:=RL.get_none h.H e2;obtain⟨d,h2,rs,rfl,O⟩:=KW h1 V;simp only[Vl.k7]at O;subst O;have hle:s.le ⟨s.fr,(k0,⟨[ds.set j (.s4 k 0)],ds.length,et,false⟩)::(k,⟨[],C,G,true⟩)::s.H⟩:=Gf k0 j k C G hb h2 rfl hk
  have M:(⟨a.fr,(k0,.cc (cells.set j (.oo k 0 0)) et false)::(k,.ww row 0 0 C G)::a.H,a.cs,a.nx⟩:AS).ok ν ⟨s.fr,(k0,⟨[ds.set j (.s4 k 0)],ds.length,et,false⟩)::(k,⟨[],C,G,true⟩)::s.H⟩:=
   ⟨h.fr,⟨_,_,rfl,⟨ds.set j (.s4 k 0),by simp,Ly j h1 ⟨0,rfl,YU h.z 0⟩⟩,⟨_,_,rfl,⟨[],rfl,YU h.z 0,λr hr=>by grind⟩,h.H⟩⟩,h.cs,h.nx,h.z⟩
  obtain⟨s',U,T⟩:=Me (l:=ps) (j:=j+1) M;exact⟨s',le_trans hle U,T⟩;exact Me h;exact Me h;exact Me h
def emC (J:AS):List (Nat × Bx)->AS->AS
 |[],a=>a
 |(k0,b)::r,a=>match b with
  | .cc cells _ _=>emC J r (QjH J k0 0 cells a)
  |_=>emC J r a
theorem Qa7 {ν:List Int} {J:AS}:∀{l:List (Nat × Bx)} {a:AS} {s:St},a.ok ν s->∃s',s.le s'/\(emC J l a).ok ν s'
 |[],a,s,h=>⟨s,le_refl s,h⟩
 |(k0,b)::r,a,s,h=>by
  unfold emC;split;rename_i cells _ _;obtain⟨s1,h1,h2⟩:=Me (J:=J) (k0:=k0) (l:=cells) (j:=0) h;obtain⟨s2,G,C⟩:=Qa7 (l:=r) h2;exact⟨s2,le_trans h1 G,C⟩;exact Qa7 h
def rnA:List (Nat × Vl)->AS->AS
 |[],a=>a
 |(t,p)::r,a=>match p with
  | .oo k _ _=>(match lk a.fr t with
   |some (.oo k2 _ _)=>if Nat.beq k k2=false/\Nat.ble (k+1) 1000000=true/\Nat.ble (k2+1) 1000000=true then rnA r (a.o5 (Zw k2 k))else rnA r a
   |_=>rnA r a)
  |_=>rnA r a
theorem C2 {ν:List Int}:∀{l:List (Nat × Vl)} {a:AS} {s:St},a.ok ν s->∃s',s.le s'/\(rnA l a).ok ν s'
 |[],a,s,h=>⟨s,le_refl s,h⟩
 |(t,p)::r,a,s,h=>by
  unfold rnA;split;split;split;rename_i C;obtain⟨s',M,G⟩:=C2 (l:=r) (h.o5 (Zw _ _));exact⟨s',le_trans (KZ _ _ (QzN C.2.2) (QzN C.2.1) s) M,G⟩;exact C2 h;exact C2 h;exact C2 h
variable {H:QzK} {J:AS} {l0 et k y:Nat} {rows:List (List D)} {u:Int}
def QjN (k:Nat) (row:List Tp) (y:Nat) (u:Int):Vl->Option Vl
 | .oo j x o=>if Nat.beq j k=true then(if Nat.beq x y=true/\decide (o=u)=true then some (.ll row y u)else none)else some (.oo j x o)
 | .rr j o=>if Nat.beq j k=true then none else some (.rr j o)
 | .qq j x o f=>if Nat.beq j k=true then none else some (.qq j x o f)
 | .dd d=>(match d with
  | .undef=>some (.dd .undef)
  | .top=>some (.dd .top)
  | .r8=>some (.dd .r8)
  | .val w=>some (.dd (.val w))
  |_=>none)
 | .aa _=>none
 | .tp _ _=>none
 |v=>some v
theorem BY {row:List Tp} (hb:lk H k=some ⟨rows,l0,et,true⟩) (O:x6 ν y u rows.length) (hr:∀r∈rows,Tp.u3 row r) (G:v.has ν d) (he:QjN k row y u v=some w):w.has ν (d.o7 H (·==k))/\d.fz H (·==k)=d.o7 H (·==k):=by
 have nb:∀{j:Nat},¬Nat.beq j k=true->(j==k)=false:=λ{j} h=>by
  (repeat clear hK K);simp_all
 cases v with
 |oo j x o=>
  simp only[QjN]at he;obtain⟨n,rfl,h1⟩:=G;split at he;rename_i M;have M:=QA6 M;subst M;split at he;rename_i T;cases he
  have e1:=QA6 T.1;have e2:=of_decide_eq_true T.2;subst e1 e2;have e3:=x6.inj h1 O;have U:n=rows.length:=Wa;subst U;have key:(D.s4 j rows.length).o7 H (·==j)=.sl rows:=by grind [D.o7]
  refine⟨?_,rfl⟩;rw[key];exact⟨rows,.inl rfl,O,hr⟩
  grind
  rename_i M;cases he
  have:(D.s4 j n).o7 H (·==k)=.s4 j n:=by grind [D.o7]
  exact⟨by rw[this];exact⟨n,rfl,h1⟩,rfl⟩
 |rr j o=>
  simp only[QjN]at he;cases G
  split at he
  grind
  rename_i M;cases he
  have:(D.ref j 0 o).o7 H (·==k)=.ref j 0 o:=by grind [D.o7]
  trivial
 |qq j x o f=>
  simp only[QjN]at he;obtain⟨n,rfl,h1⟩:=G;split at he
  grind
  rename_i M;cases he
  have:(D.ref j n f).o7 H (·==k)=.ref j n f:=by grind [D.o7]
  exact⟨by rw[this];exact⟨n,rfl,h1⟩,rfl⟩
 |dd d0=>
  cases G
  simp only[QjN]at he;split at he<;>cases he<;>exact⟨rfl,rfl⟩
 |aa cs=>cases he
 |tp cs w=>cases he
 |ty t=>
  cases he
  have C:=G;cases t<;>simp only[Vl.has,Tp.has]at C<;>obtain⟨x,C⟩:=C;obtain⟨rfl,_⟩:=C;trivial;subst C;trivial;obtain⟨rfl,_⟩:=C;trivial;obtain⟨_,rfl⟩:=C;trivial;obtain⟨C,_⟩:=C;rcases C with rfl |rfl<;>exact⟨G,rfl⟩
  obtain⟨C,_⟩:=C;rcases C with rfl |rfl<;>exact⟨G,rfl⟩
  obtain⟨C,_⟩:=C;rcases C with rfl |rfl<;>exact⟨G,rfl⟩
 |nn kk x o=>cases he;have C:=G;obtain⟨n,rfl,_⟩:=C;trivial
 |ii kk=>cases he;have C:=G;obtain⟨n,rfl⟩:=C;trivial
 |bf a b=>cases he;have C:=G;obtain⟨n,rfl,_⟩:=C;trivial
 |ss x o=>cases he;have C:=G;obtain⟨n,rfl,_⟩:=C;trivial
 |ld r x o y p=>cases he;have C:=G;obtain⟨n,C,_⟩:=C;rcases C with rfl |rfl<;>exact⟨G,rfl⟩
 |fx r=>cases he;have C:=G;obtain⟨n,C,_⟩:=C;rcases C with rfl |rfl<;>exact⟨G,rfl⟩
 |ll r x o=>cases he;have C:=G;obtain⟨n,C,_⟩:=C;rcases C with rfl |rfl<;>exact⟨G,rfl⟩
 |fl r=>cases he;have C:=G;obtain⟨n,rfl,_⟩:=C;trivial
 |lf r x o=>cases he;have C:=G;obtain⟨n,rfl,_⟩:=C;trivial
 |pp c=>cases he;have C:=G;obtain⟨n,rfl,_⟩:=C;trivial
 |pv c=>cases he;have C:=G;obtain⟨n,rfl,_⟩:=C;trivial
 |uu c=>cases he;have C:=G;obtain⟨n,rfl,_⟩:=C;trivial
 |ei k lo hi tt=>cases he;have C:=G;obtain⟨n,rfl,_⟩:=C;trivial
def Qc6 {α:Type} (f:α->Option α):List α->Option (List α)
 |[]=>some []
 |x::l=>match f x,Qc6 f l with
  |some y,some r=>some (y::r)
  |_,_=>none
theorem QeJ {ν:List Int} {g:D->D} {f:Vl->Option Vl} (C:∀v w d,v.has ν d->f v=some w->w.has ν (g d)):∀{vs ws:List Vl} {ds:List D},Vl.n4 ν vs ds->Qc6 f vs=some ws->Vl.n4 ν ws (ds.map g)
 |[],ws,ds,h,he=>by grind [Qc6,Vl.n4]
 |v::vs,ws,ds,h,he=>by
  simp only[Qc6]at he;split at he;rename_i y r e1 e2;cases he
  obtain⟨d,q,rfl,h1,h2⟩:=h;exact⟨g d,q.map g,rfl,C _ _ _ h1 e1,QeJ C h2 e2⟩
  grind
def fzV (k:Nat) (row:List Tp) (y:Nat) (u:Int):Vl->Option Vl
 | .aa cs=>(match Qc6 (QjN k row y u) cs with
  |some ws=>some (.aa ws)
  |none=>none)
 |v=>QjN k row y u v
theorem Qpq {row:List Tp} (hb:lk H k=some ⟨rows,l0,et,true⟩) (G:x6 ν y u rows.length) (hr:∀r∈rows,Tp.u3 row r) (C:v.has ν d) (he:fzV k row y u v=some w):w.has ν (d.fz H (·==k)):=by
 unfold fzV at he;split at he;split at he;rename_i ws e1;cases he
 obtain⟨ds,rfl,h1⟩:=C;exact⟨_,rfl,QeJ (λv w d h1 h2=>(BY hb G hr h1 h2).1) h1 e1⟩
 grind
 obtain⟨h1,h2⟩:=BY hb G hr C he
 grind
def fzB (k:Nat) (row:List Tp) (y:Nat) (u:Int):Bx->Option Bx
 | .cc cells et true=>some (.cc cells et true)
 | .cc cells et false=>(match Qc6 (QjN k row y u) cells with
  |some ws=>some (.cc ws et false)
  |none=>none)
 |b=>some b
theorem Qpp {row:List Tp} (hb:lk H k=some ⟨rows,l0,et,true⟩) (G:x6 ν y u rows.length) (hr:∀r∈rows,Tp.u3 row r) {v w:Bx} {x:u4} (C:v.has ν x) (he:fzB k row y u v=some w):w.has ν (x.fz H (·==k)):=by
 unfold fzB at he;split at he;cases he
 obtain⟨ds,rfl,h1⟩:=C;exact⟨ds,rfl,h1⟩;split at he;rename_i ws e1;cases he
 obtain⟨ds,rfl,h1⟩:=C;exact⟨ds.map (D.o7 H (·==k)),by simp[u4.fz],QeJ (λv w d h1 h2=>(BY hb G hr h1 h2).1) h1 e1⟩
 grind
 rename_i b h1 h2;cases he
 cases v with
 |cc cells et pr=>
  (repeat clear hK K);simp_all
 |ww r x o e t=>obtain⟨rs,rfl,q⟩:=C;exact⟨rs,rfl,q⟩
def oc {α:Type} (f:α->Option α):List (Nat × α)->Option (List (Nat × α))
 |[]=>some []
 |p::l=>match f p.2,oc f l with
  |some y,some r=>some ((p.1,y)::r)
  |_,_=>none
theorem RL.oc {α β:Type} {R:α->β->Prop} {f:α->Option α} {g:β->β} (C:∀a b a',R a b->f a=some a'->R a' (g b)):∀{l l':List (Nat × α)} {m:List (Nat × β)},RL R l m->Go.Abs.oc f l=some l'->RL R l' (m.map λp=>(p.1,g p.2))
 |[],l',m,h,he=>by grind [Go.Abs.oc,RL]
 |p::l,l',m,h,he=>by
  simp only[Go.Abs.oc]at he;split at he;rename_i y r e1 e2;cases he
  obtain⟨b,q,rfl,h1,h2⟩:=h;exact⟨g b,_,rfl,C _ _ _ h1 e1,RL.oc C h2 e2⟩
  grind
theorem RL.rem {α β:Type} {R:α->β->Prop} (k:Nat):∀{l:List (Nat × α)} {m:List (Nat × β)},RL R l m->RL R (Go.Abs.rem k l) (Go.Abs.rem k m)
 |[],m,h=>by simp only[RL]at h;subst h;rfl
 |(j,v)::l,m,h=>by
  obtain⟨b,r,rfl,h1,h2⟩:=h;simp only[Go.Abs.rem];split;exact RL.rem k h2;exact⟨b,_,rfl,h1,RL.rem k h2⟩
def Qs3 (k:Nat) (a:AS):Option AS:=
 match lk a.H k with
 |some (.ww row y u _ _)=>if Nat.ble (k+1) 1000000=true then(match oc (fzV k row y u) a.fr,oc (fzB k row y u) a.H with
   |some fr,some H=>some ⟨fr,rem k H,a.cs,a.nx⟩
   |_,_=>none)else none
 |_=>none
theorem QlT {a':AS} (h:a.ok ν s) (he:Qs3 k a=some a'):∃s',s.le s'/\a'.ok ν s':=by
 unfold Qs3 at he;split at he;rename_i row y u l0 et e1;split at he;rename_i hk;split at he;rename_i fr H e2 e3;cases he
 obtain⟨b,hb,rows,rfl,h1,h2⟩:=RL.get h.H e1;refine⟨s.freeze k,RC k s (QzN hk),⟨?_, ?_,h.cs,h.nx,h.z⟩⟩;exact RL.oc (λv d w G C=>Qpq hb h1 h2 G C) h.fr e2;exact RL.rem k (RL.oc (λv d w G C=>Qpp hb h1 h2 G C) h.H e3)
 all_goals grind
def QjM:List Nat->AS->AS
 |[],a=>a
 |k::ks,a=>match Qs3 k a with
  |some a1=>QjM ks a1
  |none=>QjM ks a
theorem Mh {ν:List Int}:∀{ks:List Nat} {a:AS} {s:St},a.ok ν s->∃s',s.le s'/\(QjM ks a).ok ν s'
 |[],a,s,h=>⟨s,le_refl s,h⟩
 |k::ks,a,s,h=>by
  unfold QjM;split;rename_i M e;obtain⟨s1,h1,h2⟩:=QlT h e;obtain⟨s2,G,C⟩:=Mh (ks:=ks) h2
  grind [le_trans]
  exact Mh h
def Qrq (ops:List z1) (a:AS) (x:n5):List Nat:=
 match Qot (λt=>(lk a.fr t).isSome) ops 3 x with
 | .s t=>(match lk a.fr t with
  |some v=>v.ids
  |none=>(match ops.find? λo=>decide (o.dst=some t)with
   |some o=>(match o.op with
    | .load _ _ y=>(match evA a (Qot (λt=>(lk a.fr t).isSome) ops 3 y)with
     |some (.rr k _)=>(match lk a.H k with
      |some (.cc cells _ _)=>cells.flatMap Vl.l4
      |_=>[])
     |_=>[])
    |_=>[])
   |none=>[]))
 | .c _=>[]
def QvV (fl:Nat->Bool) (ow:List Nat) (ops:List z1) (a:AS):List Nat:=ops.flatMap λo=>match o.op with
 | .buildSlice _ _ parts=>parts.flatMap (Qrq ops a)
 | .call f xs=>if fl f=true then[]else xs.flatMap (Qrq ops a)
 | .slice _ x _ _ _=>(match o.dst with
  |some t=>if ow.contains t=true then[]else Qrq ops a x
  |none=>Qrq ops a x)
 |_=>[]
def Qo3 (dr:Bool) (ops:List z1) (a:AS) (o:z1):Bool:=
 match o.dst with
 |some t=>(lk a.H t).isSome&&(match o.op with
  | .append _ _ _ x _=>dr||(match evA a (Qot (λt=>(lk a.fr t).isSome) ops 3 x)with
   |some (.fl _)=>true
   |_=>false)
  | .alloc _ _=>true
  | .box _ _=>true
  | .makeSlice _ _ _ _ _ _=>true
  | .buildSlice _ _ _=>true
  |_=>false)
 |none=>false
def QpY (a:AS):Nat:=1+a.H.foldl (λm p=>if Nat.ble 1000000 p.1=true then m else max m p.1) 500000
def QlS (dr:Bool) (ops:List z1) (a:AS) (o:z1):AS:=
 match o.dst with
 |some t=>if(Qo3 dr ops a o&&(Nat.ble (t+1) 1000000&&Nat.ble (QpY a+1) 1000000))=true then a.o5 (Zw t (QpY a))else a
 |none=>a
theorem Qid (h:a.ok ν s) (dr:Bool) (ops:List z1) (o:z1):∃s',s.le s'/\(QlS dr ops a o).ok ν s':=by
 unfold QlS;split;split;rename_i t _ C;simp only[QzR]at C;exact⟨_,KZ _ _ (QzN C.2.1) (QzN C.2.2) s,h.o5 _⟩
 grind [le_refl]
 grind [le_refl]
def Qs2 (dr:Bool) (ops:List z1):List z1->AS->AS
 |[],a=>a
 |o::r,a=>Qs2 dr ops r (QlS dr ops a o)
theorem QeF {ν:List Int} {dr:Bool} {ops:List z1}:∀{l:List z1} {a:AS} {s:St},a.ok ν s->∃s',s.le s'/\(Qs2 dr ops l a).ok ν s'
 |[],a,s,h=>⟨s,le_refl s,h⟩
 |o::r,a,s,h=>by
  obtain⟨s1,h1,h2⟩:=Qid h dr ops o;obtain⟨s2,G,C⟩:=QeF (l:=r) h2;exact⟨s2,le_trans h1 G,C⟩
def Qqm (fl:Nat->Bool) (ow:List Nat) (dr:Bool) (ops:List z1) (a:AS):AS:=Qs2 dr ops ops (QjM (QvV fl ow ops a) a)
theorem L0 (h:a.ok ν s) (fl:Nat->Bool) (ow:List Nat) (dr:Bool) (ops:List z1):∃s',s.le s'/\(Qqm fl ow dr ops a).ok ν s':=by
 obtain⟨s1,h1,h2⟩:=Mh (ks:=QvV fl ow ops a) h;obtain⟨s2,G,C⟩:=QeF (dr:=dr) (ops:=ops) (l:=ops) h2;exact⟨s2,le_trans h1 G,C⟩
def frI (J a:AS):List Nat:=a.H.filterMap λp=>match p.2 with
 | .ww _ _ _ _ _=>(match lk J.H p.1 with
  |none=>some p.1
  |some _=>none)
 |_=>none
def frJ (J a:AS):AS:=QjM (frI J a) a
def QtJ (a:AS):Nat->List Nat->List Nat
 |0,ks=>ks
 |n+1,ks=>QtJ a n ((ks++ks.flatMap λk=>match lk a.H k with
  |some b=>b.ids
  |none=>[]).eraseDups)
def trB (J a:AS):AS:=B8 (J.fr.map Prod.fst) (QtJ a 3 (((JK (J.fr.map Prod.fst) a.fr).flatMap λp=>p.2.ids)++((a.H.map Prod.fst).filter λk=>Nat.ble 1000000 k))) a
def trA (J a:AS):AS:=if wfA (trB J a)=true/\QoT a (trB J a)=true then trB J a else a
theorem QqT (h:a.ok ν s):∃s',s.le s'/\(trA J a).ok ν s':=by
 unfold trA;split;rename_i C;exact⟨_,Qby h C.1 C.2,LG h _ _⟩
 grind [le_refl]
def Qri (a J:AS):AS:=emC J J.H (emA J J.fr (rnA J.fr a))
theorem Qfp (h:a.ok ν s):∃s',s.le s'/\(Qri a J).ok ν s':=by
 obtain⟨T,O,hr⟩:=C2 (l:=J.fr) h;obtain⟨s1,h1,h2⟩:=Qa6 (J:=J) (l:=J.fr) hr;obtain⟨C,M,G⟩:=Qa7 (J:=J) (l:=J.H) h2;exact⟨C,le_trans O (le_trans h1 M),G⟩
def MO (a J:AS) (n0 k:Nat) (cs:List Cn):Option (Sg × AS):=
 match QbN (Qri a J) J n0 k cs with
 |some r=>some r
 |none=>QbN (frJ J (Qri (trA J a) J)) J n0 k cs
theorem Gl {ν0 f:List Int} {M:AS} {cs c0:List Cn} {σ:Sg} (h:a.ok (ν0++f) s) (he:MO a J ν0.length k cs=some (σ,M)) (U:J.cs=cs++c0) (T:J.nx=ν0.length+k) (h0:v7 ν0 c0) (z:ν0[0]?=some 0):
  ∃g μ s2,M.ok (ν0++(f++g)) s2/\Sg.r7 (ν0++(f++g)) μ σ/\s.le s2/\J.ok (ν0++μ) s2:=by
 unfold MO at he;split at he;rename_i r e;cases he
 obtain⟨s1,h1,h2⟩:=Qfp (J:=J) h
 grind [CH,le_trans]
 obtain⟨s0,Y,C⟩:=QqT (J:=J) h;obtain⟨s1,h1,h2⟩:=Qfp (J:=J) C;obtain⟨O,V,G⟩:=Mh (ks:=frI J (Qri (trA J a) J)) h2;obtain⟨g,μ,s2,q1,q2,q3,q4⟩:=CH G he U T h0 z
 grind [le_trans]
def Tp.same (t u:Tp):Bool:=t.le u&&u.le t
def Tp.ig (t u:List Tp):Bool:=Tp.ib t u&&Tp.ib u t
def Vl.same (n0:Nat):Vl->Vl->Bool
 | .ty t,.ty u=>t.same u
 | .nn k x o,.nn j y u=>decide (k=j)&&(Nat.beq x y&&(decide (o=u)&&Nat.ble (x+1) n0))
 | .ii k,.ii j=>decide (k=j)
 | .bf [] [],.bf [] []=>true
 | .ss x o,.ss y u=>Nat.beq x y&&(decide (o=u)&&Nat.ble (x+1) n0)
 | .ll r x o,.ll q y u=>Tp.ig r q&&(Nat.beq x y&&(decide (o=u)&&Nat.ble (x+1) n0))
 | .fl [],.fl []=>true
 | .oo k x o,.oo j y u=>Nat.beq k j&&(Nat.beq x y&&(decide (o=u)&&Nat.ble (x+1) n0))
 | .rr k o,.rr j u=>Nat.beq k j&&Nat.beq o u
 | .pp c,.pp d=>Tp.ig c d
 | .fx r,.fx q=>smR n0 r q&&smR n0 q r
 |_,_=>false
abbrev JM:=Nat × List Sg
def Qpl (maps:List Sg) (ps:Sg):Nat->Nat->Option Nat
 |0,_=>none
 |f+1,j=>if(List.zip maps ps).all (λq=>match q.1[j]? with
   |some y=>Nat.beq y.1 q.2.1&&decide (y.2=q.2.2)
   |none=>false)=true then some j else Qpl maps ps f (j+1)
def Qov (n0:Nat) (m:JM) (ps:Sg):Nat × Int × JM:=
 match ps with
 |[]=>(0,0,m)
 |p::r=>if Nat.ble (p.1+1) n0=true/\(r.all λq=>Nat.beq q.1 p.1&&decide (q.2=p.2))=true then(p.1,p.2,m)
  else match Qpl m.2 ps m.1 0 with
   |some j=>(n0+j,0,m)
   |none=>(n0+m.1,0,(m.1+1,(List.zip m.2 ps).map λq=>q.1++[q.2]))
def Qdt {α β:Type} (f:α->Option β):List α->Option (List β)
 |[]=>some []
 |x::l=>match f x,Qdt f l with
  |some y,some r=>some (y::r)
  |_,_=>none
def nnJ:Vl->Option (Nat × Int)
 | .nn _ x o=>some (x,o)
 |_=>none
def ssJ:Vl->Option (Nat × Int)
 | .ss x o=>some (x,o)
 |_=>none
def Qxl:Vl->Option (List Tp × Nat × Int)
 | .ll r x o=>some (r,x,o)
 | .fl []=>some ([],0,0)
 |_=>none
def ooJ (k:Nat):Vl->Option (Nat × Int)
 | .oo j x o=>if Nat.beq j k=true then some (x,o)else none
 | .fl []=>some (0,0)
 |_=>none
def Qxk:Vl->Option Nat
 | .oo k _ _=>some k
 |_=>none
def Qpo:List Tp->Option Tp
 |[]=>none
 |[t]=>some t
 |t::r=>match Qpo r with
  |some u=>t.jn u
  |none=>none
def Qib:List (List Tp × Nat × Int)->Option (List Tp)
 |[]=>none
 |[t]=>some t.1
 |t::r=>match Qib r with
  |some u=>if Nat.beq t.2.1 0=true/\t.2.2=0 then some u else(match u with
   |[]=>some t.1
   |u=>Tp.fg t.1 u)
  |none=>none
def tyJ (l:List AS) (vs:List Vl):Option Vl:=
 match Qdt (λ(q:AS × Vl)=>Qwh q.1 q.2) (List.zip l vs)with
 |some ts=>(match Qpo ts with
  |some t=>some (.ty t)
  |none=>none)
 |none=>none
def QvU (a:AS):Vl->Option (List Tp × Nat × Int)
 | .fl rows=>(match rows with
  |[]=>some ([],0,0)
  |_=>(match Qkh a rows with
   |some r=>some (r,0,rows.length)
   |none=>none))
 |v=>Qxl v
def Qw6 (a:AS):Vl->Option (List Tp × Nat × Int)
 | .oo k x o=>(match lk a.H k with
  |some (.ww row _ _ _ _)=>some (row,x,o)
  |_=>none)
 |v=>QvU a v
def QvZ (n0:Nat) (l:List AS) (m:JM) (vs:List Vl):Option (Vl × JM):=
 match vs with
 |[]=>none
 |v::r=>if r.all (Vl.same n0 v)=true/\(v.same n0 v)=true then some (v,m)else
  match QjQ v with
  |some k=>if r.all (λw=>decide (QjQ w=some k))=true then(match Qdt nnJ vs with
    |some ps=>(match Qov n0 m ps with
     |(x,o,m1)=>some (.nn k x o,m1))
    |none=>(match tyJ l vs with
     |some t=>some (t,m)
     |none=>some (.ii k,m)))else none
  |none=>if vs.all Qdv=true then some (anyB,m)else
   if vs.all QnP=true then(match Qdt ssJ vs with
    |some ps=>(match Qov n0 m ps with
     |(x,o,m1)=>some (.ss x o,m1))
    |none=>(match tyJ l vs with
     |some t=>some (t,m)
     |none=>none))else
   match vs.filterMap Qxk with
   |k::_=>(match Qdt (ooJ k) vs with
    |some ps=>(match Qov n0 m ps with
     |(x,o,m1)=>some (.oo k x o,m1))
    |none=>(match Qdt (λ(q:AS × Vl)=>Qw6 q.1 q.2) (List.zip l vs)with
     |some ps=>(match Qib ps,Qov n0 m (ps.map λp=>p.2)with
      |some row,(x,o,m1)=>some (.ll row x o,m1)
      |_,_=>none)
     |none=>none))
   |[]=>(match Qdt (λ(q:AS × Vl)=>QvU q.1 q.2) (List.zip l vs)with
    |some ps=>(match Qib ps,Qov n0 m (ps.map λp=>p.2)with
     |some row,(x,o,m1)=>some (.ll row x o,m1)
     |_,_=>none)
    |none=>(match v with
     | .ty _=>(match tyJ l vs with
      |some t=>some (t,m)
      |none=>none)
     | .dd d=>(match d with
      | .undef=>some (.dd .undef,m)
      | .val w=>some (.dd (.val w),m)
      | .top=>some (.dd .top,m)
      |_=>none)
     | .pp c=>(match r with
      |[]=>some (.pp c,m)
      |_=>none)
     |_=>none))
def Qwl {α:Type} (ls:List (List α)):Option (List α × List (List α)):=
 match Qdt (λl=>match l with
  |x::r=>some (x,r)
  |[]=>none) ls with
 |some q=>some (q.map Prod.fst,q.map Prod.snd)
 |none=>none
def jnL (n0:Nat) (l:List AS):Nat->JM->List (List Vl)->Option (List Vl × JM)
 |0,m,_=>some ([],m)
 |f+1,m,ls=>match Qwl ls with
  |some (vs,rest)=>(match QvZ n0 l m vs with
   |some (v,m1)=>(match jnL n0 l f m1 rest with
    |some (ws,m2)=>some (v::ws,m2)
    |none=>none)
   |none=>none)
  |none=>none
def aaJ:Vl->Option (List Vl)
 | .aa cs=>some cs
 |_=>none
def jnV (n0:Nat) (l:List AS) (m:JM) (vs:List Vl):Option (Vl × JM):=
 match Qdt aaJ vs with
 |some css=>(match css with
  |cs::_=>(match jnL n0 l cs.length m css with
   |some (ws,m1)=>some (.aa ws,m1)
   |none=>none)
  |[]=>none)
 |none=>QvZ n0 l m vs
def jnF (n0:Nat) (l:List AS):List Nat->JM->Option (List (Nat × Vl) × JM)
 |[],m=>some ([],m)
 |t::ts,m=>match Qdt (λa=>lk a.fr t) l with
  |some vs=>(match jnV n0 l m vs with
   |some (v,m1)=>(match jnF n0 l ts m1 with
    |some (r,m2)=>some ((t,v)::r,m2)
    |none=>none)
   |none=>none)
  |none=>none
def wwJ:Option Bx->Option (List Tp × Nat × Int)
 |some (.ww r x o _ _)=>some (r,x,o)
 |none=>some ([],0,0)
 |_=>none
def wwE:Option Bx->Option (Nat × Nat)
 |some (.ww _ _ _ e t)=>some (e,t)
 |_=>none
def ccJ:Option Bx->Option (List Vl)
 |some (.cc c _ _)=>some c
 |_=>none
def ccP:Option Bx->Bool
 |some (.cc _ _ p)=>p
 |_=>true
def jnB (n0:Nat) (l:List AS) (m:JM) (bs:List (Option Bx)):Option (Bx × JM):=
 match bs.filterMap wwE with
 |(e,t)::_=>(match Qdt wwJ bs with
  |some ps=>(match Qib ps,Qov n0 m (ps.map λp=>p.2)with
   |some row,(x,o,m1)=>some (.ww row x o e t,m1)
   |_,_=>none)
  |none=>none)
 |[]=>(match Qdt ccJ bs,bs with
  |some css,some (.cc c et _)::_=>(match jnL n0 l c.length m css with
   |some (ws,m1)=>some (.cc ws et (bs.all ccP),m1)
   |none=>none)
  |_,_=>none)
def jnH (n0:Nat) (l:List AS):Nat->List Nat->List (Nat × Bx)->JM->Option (List (Nat × Bx) × JM)
 |0,_,H,m=>some (H,m)
 |_,[],H,m=>some (H,m)
 |f+1,k::ks,H,m=>if(lk H k).isSome=true then jnH n0 l f ks H m else(match jnB n0 l m (l.map λa=>lk a.H k)with
  |some (b,m1)=>jnH n0 l f (b.ids++ks) (H++[(k,b)]) m1
  |none=>none)
def Vl.vh:Vl->List Nat
 | .aa cs=>cs.flatMap Vl.l4
 |v=>v.l4
def Qxo:Option Int->Option Int->Option Int
 |some a,some b=>some (min a b)
 |_,_=>none
def Qxm:Option Int->Option Int->Option Int
 |some a,some b=>some (max a b)
 |_,_=>none
def bdJ (l:List AS) (maps:List Sg) (j:Nat):Option Int × Option Int:=
 (List.zip l maps).foldl (λ(p:(Option Int × Option Int) × Bool) (q:AS × Sg)=>match q.2[j]? with
  |some y=>(match(lbX q.1.cs y.1).map (·+y.2),(ubX q.1.cs y.1).map (·+y.2)with
   |lo,hi=>if p.2=true then((lo,hi),false)else((Qxo p.1.1 lo,Qxm p.1.2 hi),false))
  |none=>((none,none),false)) ((none,none),true) |>.1
def QdZ (n0:Nat) (l:List AS) (maps:List Sg):Nat->List Cn
 |0=>[]
 |j+1=>QdZ n0 l maps j++(match bdJ l maps j with
  |(lo,hi)=>(match lo with
   |some v=>[(0,n0+j, -v)]
   |none=>[])++(match hi with
   |some v=>[(n0+j,0,v)]
   |none=>[]))
def Qv2 (σ:Sg) (x:Nat):Nat->Nat->Option (Nat × Int)
 |0,_=>none
 |f+1,j=>match σ[j]? with
  |some y=>if Nat.beq y.1 x=true then some (j,y.2)else Qv2 σ x f (j+1)
  |none=>none
def Qqn (n0:Nat) (σ:Sg) (x:Nat):Option (Nat × Int × Bool):=
 match Qv2 σ x σ.length 0 with
 |some (j,o)=>if Nat.beq x 0=true then some (0,0,false)else some (n0+j,o,true)
 |none=>if Nat.ble (x+1) n0=true then some (x,0,false)else none
def QxB (n0:Nat) (σ:Sg) (cs:List Cn):List Cn:=cs.filterMap λc=>match Qqn n0 σ c.1,Qqn n0 σ c.2.1 with
 |some (x,o,b1),some (y,u,b2)=>if(b1||b2)=true then some (x,y,c.2.2+o - u)else none
 |_,_=>none
def Qxr (n0:Nat) (c0:List Cn) (l:List AS):List Cn:=
 match l with
 |a::r=>a.cs.filter λc=>(Nat.ble (c.1+1) n0&&Nat.ble (c.2.1+1) n0)&&(!c0.any (Qq8 c)&&r.all λb=>b.cs.any (Qq8 c))
 |[]=>[]
def Qw3 (n0:Nat) (l:List AS) (maps:List Sg):List Cn:=
 match(List.zip l maps).map λq=>QxB n0 q.2 q.1.cs with
 |r::rs=>r.filter λc=>(!(Nat.beq c.1 0||Nat.beq c.2.1 0))&&rs.all λq=>q.any (Qq8 c)
 |[]=>[]
def Qtb (n0:Nat) (c0:List Cn) (l:List AS):Option (AS × Nat × List Cn):=
 match l with
 |[]=>none
 |a::_=>match jnF n0 l (a.fr.map Prod.fst) (0,l.map λ_=>[])with
  |some (fr,m1)=>(match jnH n0 l 60 ((fr.flatMap λp=>p.2.vh)++a.H.filterMap λp=>if Nat.ble 1000000 p.1=true then some p.1 else none) [] m1 with
   |some (H,m2)=>(match QdZ n0 l m2.2 m2.1++Qw3 n0 l m2.2++Qxr n0 c0 l with
    |cs=>some (⟨fr,H,cs++c0,n0+m2.1⟩,m2.1,cs))
   |none=>none)
  |none=>none
def trG (a:AS):AS:=⟨a.fr,JK (QtJ a 3 ((a.fr.flatMap λp=>p.2.ids)++((a.H.map Prod.fst).filter λk=>Nat.ble 1000000 k)).eraseDups) a.H,a.cs,a.nx⟩
def jnA (n0:Nat) (c0:List Cn) (l:List AS):Option (List (Nat × Vl) × List (Nat × Bx) × List Cn × Nat):=
 match Qtb n0 c0 (l.map trG)with
 |some (J,k,cs)=>if(l.all λa=>(MO a ⟨J.fr,J.H,cs++c0,n0+k⟩ n0 k cs).isSome)=true then some (J.fr,J.H,cs,k)else none
 |none=>none
theorem QjR {ν f:List Int} {c0:List Cn} {l:List AS} {fr:List (Nat × Vl)} {H:List (Nat × Bx)} {cs:List Cn} {k:Nat} (he:jnA ν.length c0 l=some (fr,H,cs,k)) (h0:v7 ν c0) (z:ν[0]?=some 0) {a:AS} (ha:a∈l) {s:St} (h:a.ok (ν++f) s):∃μ s2,s.le s2/\(⟨fr,H,cs++c0,ν.length+k⟩:AS).ok (ν++μ) s2:=by
 unfold jnA at he;split at he;rename_i J k2 cs2 e1;split at he;rename_i C;cases he
 have:=QzX.1 C a ha;obtain⟨q,G⟩:=QzT.1 this;obtain⟨σ,T⟩:=q;obtain⟨g,μ,s2,h1,h2,O,M⟩:=Gl h G rfl rfl h0 z
 all_goals grind
end Go.Abs
