/- Part 1 of the means of the proof: a verified evaluator and contracts of functions. -/
import Derived.Calls
import Derived.Still
import Derived.Laws.Sem
import Derived.Laws.World
import Derived.Laws.Cells
import Derived.Laws.AppendOwn
import Derived.Laws.Strings
import Derived.Laws.Slices
import Derived.Laws.MakeOwn
import Derived.Laws.StructEq
import Derived.Laws.Small
import Derived.Laws.Entries
import Derived.Laws.RangeString
import Derived.Laws.BytesString
import Derived.Lib.ConvBytes
set_option maxRecDepth 4000
set_option maxHeartbeats 4000000
set_option linter.unusedSimpArgs false
set_option linter.unusedVariables false
set_option linter.unusedSectionVars false
abbrev QzM:=@Option.map_eq_some_iff
abbrev QzN:=@Nat.le_of_ble_eq_true
abbrev QzO:=@List.not_mem_nil
abbrev QzP:=@List.mem_cons
abbrev QzQ:=@Option.some.injEq
abbrev QzR:=@Bool.and_eq_true
abbrev QzS:=@List.getElem_mem
abbrev QzT:=@Option.isSome_iff_exists
abbrev QzU:=@List.mem_flatMap
abbrev QzV:=@Bool.false_eq_true
abbrev QzW:=@List.mem_singleton
abbrev QzX:=@List.all_eq_true
abbrev QzY:=@List.mem_append
abbrev QzZ:=@Nat.zero_le
abbrev Qz0:=@Bool.and_eq_false_iff
abbrev Qz1:=@List.mem_map
abbrev Qz2:=@List.mem_append_right
abbrev Qz3:=@List.take_of_length_le
abbrev Qz4:=@List.drop_eq_getElem_cons
abbrev Qz5:=@Option.isSome_map
abbrev Qz6:=@Nat.le_trans
abbrev Qz7:=@List.mem_of_mem_take
abbrev Qz8:=@List.drop_eq_nil_of_le
abbrev Qz9:=@List.getElem_of_mem
abbrev QAa:=@List.mem_range
abbrev QAb:=@Nat.lt_or_ge
abbrev QAc:=@Array.getElem?_eq_some_iff
abbrev QAd:=@Nat.lt_of_lt_of_le
abbrev QAe:=@Nat.le_refl
abbrev QAf:=@Array.getD_eq_getD_getElem?
abbrev QAg:=@List.mem_of_getElem?
abbrev QAh:=@List.mem_of_mem_drop
abbrev QAi:=@List.flatMap_cons
abbrev QAj:=@List.append_nil
abbrev QAk:=@List.length_take
abbrev QAl:=@Option.bind_eq_some_iff
abbrev QAm:=@List.getElem?_eq_some_iff
abbrev QAn:=@List.take_append_drop
abbrev QAo:=@Array.toList_map
abbrev QAp:=@List.flatten_cons
abbrev QAq:=@List.eq_nil_of_length_eq_zero
abbrev QAr:=@List.map_cons
abbrev QAs:=@List.length_append
abbrev QAt:=@List.length_cons
abbrev QAu:=@List.length_pos_iff
abbrev QAv:=@Array.length_toList
abbrev QAw:=@Nat.add_mul
abbrev QAx:=@List.replicate_succ
abbrev QAy:=@Option.map_some
abbrev QAz:=@Int.toNat_natCast
abbrev QAA:=@Bool.true_and
abbrev QAB:=@List.getElem?_eq_getElem
abbrev QAC:=@Nat.add_zero
abbrev QAD:=@List.append_assoc
abbrev QAE:=@List.getElem?_append_right
abbrev QAF:=@Array.getElem?_toList
abbrev QAG:=@Prod.mk.injEq
abbrev QAH:=@List.length_map
abbrev QAI:=@List.getElem?_append_left
abbrev QAJ:=@List.cons_append
abbrev QAK:=@List.all_cons
abbrev QAL:=@List.mem_map_of_mem
abbrev QAM:=@List.map_append
abbrev QAN:=@List.mem_append_left
abbrev QAO:=@Array.mem_toList_iff
abbrev QAP:=@List.map_congr_left
abbrev QAQ:=@List.mem_cons_of_mem
abbrev QAR:=@List.isEmpty_iff
abbrev QAS:=@Array.getElem?_eq_getElem
abbrev QAT:=@Bool.or_eq_true
abbrev QAU:=@Bool.not_eq_true'
abbrev QAV:=@List.map_nil
abbrev QAW:=@List.any_eq_true
abbrev QAX:=@Nat.lt_succ_self
abbrev QAY:=@Bool.or_true
abbrev QAZ:=@List.take_succ_eq_append_getElem
abbrev QA0:=@List.contains_eq_mem
abbrev QA1:=@Option.some.inj
abbrev QA2:=@List.nil_append
abbrev QA3:=@List.cons.injEq
abbrev QA4:=@List.flatMap_nil
abbrev QA5:=@Nat.pow_le_pow_right
abbrev QA6:=@Nat.eq_of_beq_eq_true
abbrev QA7:=@List.map_map
abbrev QA8:=@Nat.ble_eq_true_of_le
abbrev QA9:=@List.mem_iff_getElem
abbrev QBa:=@List.pairwise_cons
abbrev QBb:=@List.flatMap_append
abbrev QBc:=@List.getElem_map
abbrev QBd:=@List.pairwise_iff_getElem
namespace Go.Abs
open Go
variable {p:Prop} {v:Value}
inductive D where
 |undef
 |top
 |r8
 |int (k:IntKind) (n:Int)
 |bool (b:Bool)
 |str (l:List UInt8)
 |sl (rows:List (List D))
 |x7 (rows:List (List D))
 |s4 (k n:Nat)
 |y9 (k lo c n:Nat)
 |ref (k i off:Nat)
 |ptr (cells:List D)
 |agg (cells:List D)
 |l7 (vs:List D)
 |w9 (cells:List D) (x:D)
 |w8 (f:Nat) (caps:List D)
 |r9 (f k:Nat) (ps:List D)
 |re (f:Nat) (rs:List D)
 |val (v:Value)
 deriving Inhabited
variable {d:D}
abbrev Kn:=Nat->Nat->Option Value
def gfuncs:List Nat:=[3,4,5,6,7,8,9,10,11,12,13,14,17,18,21,23,25,28,41,42,43,51,54,55,73,74,83,84,103,119,120,156]
def HD (f:Nat):List Nat:=if gfuncs.contains f=true then[0]else[]
def gVs (f:Nat):List Value:=(HD f).map λi=>.pointer (some ⟨i,0,none⟩)
def Fb (t:Nat):Value:=if t<900000 then Go.undef else .pointer (some ⟨t - 900000,0,none⟩)
def D.y4:D->Bool
 | .undef | .top | .agg _ | .l7 _ | .w9 _ _=>false
 |_=>true
mutual
def l3 (K:Kn):D->Value->Prop
 | .undef,v=>v=Go.undef
 | .top,_=>True
 | .r8,v=>v.oneCell'=true
 | .int k n,v=>v=.int k n
 | .bool b,v=>v=.bool b
 | .str l,v=>v=.string ⟨l.toArray⟩
 | .sl rows,v=>∃a cap,v=.slice a rows.length cap/\rows.length<=cap/\
   (rows=[]\/∃b off l0,a=some ⟨b,off,none⟩/\(∀r∈rows,r.length=l0)/\u5 K b off rows)
 | .x7 rows,v=>∃a,v=.slice a rows.length rows.length/\
   (rows=[]\/∃b off l0,a=some ⟨b,off,none⟩/\(∀r∈rows,r.length=l0)/\u5 K b off rows)
 | .ptr cells,v=>∃b off,v=.pointer (some ⟨b,off,none⟩)/\a5 K b off cells
 | .agg cells,v=>∃cs:List Value,v=.agg cs.toArray/\x5 K cells cs
 | .l7 ds,v=>∃vs:List Value,v=.tuple vs.toArray/\j5 K ds vs
 | .w9 cells x,v=>∃(cs:List Value) (u:Value),v=.tuple #[.agg cs.toArray,u]/\x5 K cells cs/\l3 K x u
 | .w8 f caps,v=>∃cs:List Value,v=.func (.func f) #[] cs.toArray/\j5 K caps (cs++gVs f)
 | .re f rs,v=>∃vs:List Value,v=.func (.func f) vs.toArray #[]/\j5 K rs (vs++gVs f)
 | .val x,v=>v=x/\x.oneCell'=true
 | .s4 _ _,_=>False
 | .y9 _ _ _ _,_=>False
 | .ref _ _ _,_=>False
 | .r9 _ _ _,_=>False
def u5 (K:Kn) (b:Nat):Nat->List (List D)->Prop
 |_,[]=>True
 |off,r::rs=>a5 K b off r/\u5 K b (off+r.length) rs
def a5 (K:Kn) (b:Nat):Nat->List D->Prop
 |_,[]=>True
 |off,d::ds=>(d.y4=true/\∃x,K b off=some x/\l3 K d x)/\a5 K b (off+1) ds
def x5 (K:Kn):List D->List Value->Prop
 |[],[]=>True
 |d::ds,v::vs=>(d.y4=true/\l3 K d v)/\x5 K ds vs
 |_,_=>False
def j5 (K:Kn):List D->List Value->Prop
 |[],[]=>True
 |d::ds,v::vs=>l3 K d v/\j5 K ds vs
 |_,_=>False
end
def Kn.le (K K':Kn):Prop:=∀b o x,K b o=some x->K' b o=some x
theorem Kn.le_refl (K:Kn):K.le K:=λ_ _ _ h=>h
mutual
theorem l3.mono {K K':Kn} (h:K.le K'):∀(d:D) (v:Value),l3 K d v->l3 K' d v
 | .undef,_,e=>by trivial
 | .r8,_,e=>by trivial
 | .top,_,_=>by trivial
 | .int ..,_,e=>by trivial
 | .bool ..,_,e=>by trivial
 | .str ..,_,e=>by trivial
 | .val ..,_,e=>by trivial
 | .sl rows,v,e=>by
  simp only[l3]at e ⊢;obtain⟨a,cap,h1,h2,C⟩:=e;refine⟨a,cap,h1,h2,C.imp id ?_⟩;rintro⟨b,off,l0,g1,g2,G⟩;exact⟨b,off,l0,g1,g2,u5.mono h b off rows G⟩
 | .x7 rows,v,e=>by
  simp only[l3]at e ⊢;obtain⟨a,h1,C⟩:=e;refine⟨a,h1,C.imp id ?_⟩;rintro⟨b,off,l0,g1,g2,G⟩;exact⟨b,off,l0,g1,g2,u5.mono h b off rows G⟩
 | .ptr cells,v,e=>by
  simp only[l3]at e ⊢;obtain⟨b,off,h1,h2⟩:=e;exact⟨b,off,h1,a5.mono h b off cells h2⟩
 | .agg cells,v,e=>by
  simp only[l3]at e ⊢;obtain⟨cs,h1,h2⟩:=e;exact⟨cs,h1,x5.mono h cells cs h2⟩
 | .l7 ds,v,e=>by
  simp only[l3]at e ⊢;obtain⟨cs,h1,h2⟩:=e;exact⟨cs,h1,j5.mono h ds cs h2⟩
 | .w9 cells x,v,e=>by
  simp only[l3]at e ⊢;obtain⟨cs,u,h1,h2,M⟩:=e;exact⟨cs,u,h1,x5.mono h cells cs h2,l3.mono h x u M⟩
 | .w8 f caps,v,e=>by
  simp only[l3]at e ⊢;obtain⟨cs,h1,h2⟩:=e;exact⟨cs,h1,j5.mono h caps _ h2⟩
 | .re f caps,v,e=>by
  simp only[l3]at e ⊢;obtain⟨cs,h1,h2⟩:=e;exact⟨cs,h1,j5.mono h caps _ h2⟩
 | .s4 ..,_,e=>by trivial
 | .y9 ..,_,e=>by trivial
 | .ref ..,_,e=>by trivial
 | .r9 ..,_,e=>by trivial
theorem u5.mono {K K':Kn} (h:K.le K') (b:Nat):∀(off:Nat) (rows:List (List D)),u5 K b off rows->u5 K' b off rows
 |_,[],_=>by trivial
 |off,r::rs,e=>by
  simp only[u5]at e ⊢;exact⟨a5.mono h b off r e.1,u5.mono h b _ rs e.2⟩
theorem a5.mono {K K':Kn} (h:K.le K') (b:Nat):∀(off:Nat) (cells:List D),a5 K b off cells->a5 K' b off cells
 |_,[],_=>by trivial
 |off,d::ds,e=>by
  simp only[a5]at e ⊢;obtain⟨⟨h1,x,h2,G⟩,C⟩:=e;exact⟨⟨h1,x,h _ _ _ h2,l3.mono h d x G⟩,a5.mono h b _ ds C⟩
theorem x5.mono {K K':Kn} (h:K.le K'):∀(ds:List D) (vs:List Value),x5 K ds vs->x5 K' ds vs
 |[],[],_=>by trivial
 |d::ds,v::vs,e=>by
  simp only[x5]at e ⊢;exact⟨⟨e.1.1,l3.mono h d v e.1.2⟩,x5.mono h ds vs e.2⟩
 |[],_::_,e=>by trivial
 |_::_,[],e=>by trivial
theorem j5.mono {K K':Kn} (h:K.le K'):∀(ds:List D) (vs:List Value),j5 K ds vs->j5 K' ds vs
 |[],[],_=>by trivial
 |d::ds,v::vs,e=>by
  simp only[j5]at e ⊢;exact⟨l3.mono h d v e.1,j5.mono h ds vs e.2⟩
 |[],_::_,e=>by trivial
 |_::_,[],e=>by trivial
end
theorem l3.cell {K:Kn} (h:l3 K d v) (C:d.y4=true):v.oneCell'=true:=by
 cases d<;>simp only[D.y4,QzV]at C<;>simp only[l3]at h
 case r8=>exact h
 case int=>subst h;rfl
 case bool=>subst h;rfl
 case val=>grind
 case str=>subst h;rfl
 case sl=>obtain⟨a,cap,rfl,_⟩:=h;rfl
 case x7=>obtain⟨a,rfl,_⟩:=h;rfl
 case ptr=>obtain⟨b,off,rfl,_⟩:=h;rfl
 case w8=>obtain⟨cs,rfl,_⟩:=h;rfl
 case re=>obtain⟨cs,rfl,_⟩:=h;rfl
structure Gh where
 K:Kn
 β:Nat->Option (Nat × Nat)
 σ:Nat->Nat × Nat
variable {g:Gh}
def Gh.gone (g:Gh) (k:Nat):Prop:=g.β k=none/\g.σ k=(1,0)
theorem Gh.gone.no {k:Nat} {x:Nat × Nat} (h:g.gone k) (C:g.β k=some x):False:=by rw[h.1]at C;grind
def z3 (g:Gh):D->Value->Prop
 | .s4 k n,v=>∃a cap,v=.slice a n cap/\n<=cap/\((n=0/\cap=0)\/(∃B l0,g.β k=some (B,l0)/\a=some ⟨B,(g.σ k).2,none⟩/\(g.σ k).2+cap*l0<=(g.σ k).1)\/g.gone k)
 | .y9 k lo c n,v=>∃a cap,v=.slice a n cap/\n<=cap/\((n=0/\cap=0)\/(∃B l0,g.β k=some (B,l0)/\a=some ⟨B,(g.σ k).2+c,none⟩/\(g.σ k).2+(lo+cap)*l0<=(g.σ k).1)\/g.gone k)
 | .ref k i off,v=>∃B l0 o,((g.β k=some (B,l0)/\o=(g.σ k).2)\/g.gone k)/\v=.pointer (some ⟨B,o+(i*l0+off),none⟩)
 | .r9 f k ps,v=>∃(B l0 o:Nat) (cs:List Value),((g.β k=some (B,l0)/\o=(g.σ k).2)\/g.gone k)/\v=.func (.func f) #[] (Value.pointer (some ⟨B,o,none⟩)::cs).toArray/\j5 g.K ps (cs++gVs f)
 |d,v=>l3 g.K d v
def x4 (g:Gh):List D->List Value->Prop
 |[],[]=>True
 |d::ds,v::vs=>z3 g d v/\x4 g ds vs
 |_,_=>False
def l6 (g:Gh):D->Value->Prop
 | .agg cells,v=>∃cs:List Value,v=.agg cs.toArray/\x4 g cells cs/\∀d∈cells,d.y4=true
 | .w8 f caps,v=>∃cs:List Value,v=.func (.func f) #[] cs.toArray/\x4 g caps (cs++gVs f)
 | .w9 cells x,v=>∃(cs:List Value) (u:Value),v=.tuple #[.agg cs.toArray,u]/\x4 g cells cs/\(∀d∈cells,d.y4=true)/\l3 g.K x u
 |d,v=>z3 g d v
theorem z3.of (h:l3 g.K d v):z3 g d v:=by
 cases d<;>first |exact h |(trivial)
theorem x4.sa {g:Gh}:∀{ds:List D} {vs:List Value},x5 g.K ds vs->x4 g ds vs/\∀d∈ds,d.y4=true
 |[],[],_=>⟨trivial,by simp⟩
 |d::ds,v::vs,h=>by
  simp only[x5]at h;obtain⟨h1,h2⟩:=x4.sa (g:=g) h.2;exact⟨⟨z3.of h.1.2,h1⟩,by grind⟩
 |[],_::_,h=>by trivial
 |_::_,[],h=>by trivial
theorem x4.uf {g:Gh}:∀{ds:List D} {vs:List Value},j5 g.K ds vs->x4 g ds vs
 |[],[],_=>trivial
 |d::ds,v::vs,h=>by
  simp only[j5]at h;exact⟨z3.of h.1,x4.uf h.2⟩
 |[],_::_,h=>by trivial
 |_::_,[],h=>by trivial
theorem l6.of (h:l3 g.K d v):l6 g d v:=by
 cases d<;>try trivial
 case agg cells=>
  simp only[l3]at h;obtain⟨cs,h1,h2⟩:=h;exact⟨cs,h1,x4.sa h2⟩
 case w8 f caps=>
  simp only[l3]at h;obtain⟨cs,h1,h2⟩:=h;exact⟨cs,h1,x4.uf h2⟩
 case w9 cells x=>
  simp only[l3]at h;obtain⟨cs,u,h1,h2,C⟩:=h;exact⟨cs,u,h1,(x4.sa h2).1,(x4.sa h2).2,C⟩
def D.own:D->Bool
 | .s4 _ _=>true
 | .y9 _ _ _ _=>true
 | .ref _ _ _=>true
 | .r9 _ _ _=>true
 |_=>false
def D.pure:D->Bool
 | .agg cs=>cs.all λd=>!d.own
 | .w8 _ cs=>cs.all λd=>!d.own
 | .w9 cs _=>cs.all λd=>!d.own
 |d=>!d.own
theorem z3.mc (h:z3 g d v) (hp:d.own=false):l3 g.K d v:=by
 cases d<;>first |exact h |(trivial)
theorem _root_.Wc (h:p:=by simp):p:=h
theorem _root_.Wb (h:p:=by grind):p:=h
theorem x4.yf {g:Gh}:∀{ds:List D} {vs:List Value},x4 g ds vs->(∀d∈ds,d.y4=true)->(ds.all λd=>!d.own)=true->x5 g.K ds vs
 |[],[],_,_,_=>by trivial
 |d::ds,v::vs,h,hc,hp=>by
  simp only[x5];simp at hp;exact⟨⟨hc d Wc,h.1.mc Wb⟩,x4.yf h.2 (λx hx=>hc x Wb) Wb⟩
 |[],_::_,h,_,_=>h.elim
 |_::_,[],h,_,_=>h.elim
theorem x4.ue {g:Gh}:∀{ds:List D} {vs:List Value},x4 g ds vs->(ds.all λd=>!d.own)=true->j5 g.K ds vs
 |[],[],_,_=>by trivial
 |d::ds,v::vs,h,hp=>by
  simp only[j5];simp at hp;exact⟨h.1.mc Wb,x4.ue h.2 Wb⟩
 |[],_::_,h,_=>h.elim
 |_::_,[],h,_=>h.elim
theorem l6.mc (h:l6 g d v) (hp:d.pure=true):l3 g.K d v:=by
 cases d<;>try trivial
 case agg cells=>
  obtain⟨cs,h1,h2,C⟩:=h;simp only[l3];exact⟨cs,h1,h2.yf C hp⟩
 case w8 f caps=>
  obtain⟨cs,h1,h2⟩:=h;simp only[l3];exact⟨cs,h1,h2.ue hp⟩
 case w9 cells x=>
  obtain⟨cs,u,h1,h2,C,G⟩:=h;simp only[l3];exact⟨cs,u,h1,h2.yf C hp,G⟩
def D.l4:D->List Nat
 | .s4 k _=>[k]
 | .y9 k _ _ _=>[k]
 | .ref k _ _=>[k]
 | .r9 _ k _=>[k]
 |_=>[]
def D.ids:D->List Nat
 | .agg cs=>cs.flatMap D.l4
 | .w8 _ cs=>cs.flatMap D.l4
 | .w9 cs _=>cs.flatMap D.l4
 |d=>d.l4
theorem z3.congr {g':Gh} (h:z3 g d v) (C:g.K.le g'.K) (G:∀k∈d.l4,g'.β k=g.β k/\g'.σ k=g.σ k):z3 g' d v:=by
 cases d
 case s4 k n=>
  grind [D.l4,z3,Gh.gone]
 case y9 k lo c n=>
  grind [D.l4,z3,Gh.gone]
 case ref k i off=>
  grind [D.l4,z3,Gh.gone]
 case r9 f k ps=>
  obtain⟨e1,e2⟩:=G k (by simp[D.l4]);simp only[z3,Gh.gone]at h ⊢;rw[e1,e2];obtain⟨B,l0,o,cs,h1,h2,M⟩:=h;exact⟨B,l0,o,cs,h1,h2,j5.mono C _ _ M⟩
 all_goals exact l3.mono C _ _ h
theorem x4.congr {g g':Gh} (C:g.K.le g'.K):∀{ds:List D} {vs:List Value},x4 g ds vs->(∀k∈ds.flatMap D.l4,g'.β k=g.β k/\g'.σ k=g.σ k)->x4 g' ds vs
 |[],[],_,_=>trivial
 |d::ds,v::vs,h,hβ=>⟨h.1.congr C λk hk=>hβ k Wb,x4.congr C h.2 λk hk=>hβ k (by
   grind)⟩
 |[],_::_,h,_=>h.elim
 |_::_,[],h,_=>h.elim
theorem l6.congr {g g':Gh} {d:D} {v:Value} (h:l6 g d v) (C:g.K.le g'.K) (G:∀k∈d.ids,g'.β k=g.β k/\g'.σ k=g.σ k):l6 g' d v:=by
 cases d
 case agg cells=>
  obtain⟨cs,h1,h2,M⟩:=h;exact⟨cs,h1,h2.congr C G,M⟩
 case w8 f caps=>
  obtain⟨cs,h1,h2⟩:=h;exact⟨cs,h1,h2.congr C G⟩
 case w9 cells x=>
  obtain⟨cs,u,h1,h2,M,O⟩:=h;exact⟨cs,u,h1,h2.congr C G,M,l3.mono C _ _ O⟩
 case s4 k n=>exact z3.congr (d:=.s4 k n) h C G
 case y9 k lo c n=>exact z3.congr (d:=.y9 k lo c n) h C G
 case ref k i off=>exact z3.congr (d:=.ref k i off) h C G
 case r9 f k ps=>exact z3.congr (d:=.r9 f k ps) h C G
 all_goals exact l3.mono C _ _ h
end Go.Abs
namespace Go.Abs
open Go
variable {a:Act} {l0 et t:Nat} {g:Gh} {w w':World}
structure u4 where
 rows:List (List D)
 l0:Nat
 et:Nat
 pr:Bool
def u4.ids (b:u4):List Nat:=if b.pr then[]else b.rows.flatMap λr=>r.flatMap D.l4
def lk {α:Type}:List (Nat × α)->Nat->Option α
 |[],_=>none
 |(k,v)::r,t=>if k=t then some v else lk r t
theorem Qe {α:Type} (k:Nat) (v:α) (r:List (Nat × α)) (t:Nat):lk ((k,v)::r) t=if k=t then some v else lk r t:=rfl
structure St where
 fr:List (Nat × D)
 H:List (Nat × u4)
variable {s:St}
structure Env where
 nt:Nat
 B0:Nat
 w0:World
 K0:Kn
 fo:Nat->Prop
 ug:Nat->Prop
 β0:Nat->Option (Nat × Nat)
 σ0:Nat->Nat × Nat
 rd:Option Nat:=none
 bd:Option Nat:=none
variable {E:Env}
mutual
def l5 (g:Gh) (c:Array Value):Nat->List (List D)->Prop
 |_,[]=>True
 |off,r::rs=>z4 g c off r/\l5 g c (off+r.length) rs
def z4 (g:Gh) (c:Array Value):Nat->List D->Prop
 |_,[]=>True
 |off,d::ds=>(d.y4=true/\∃x,c[off]?=some x/\z3 g d x)/\z4 g c (off+1) ds
end
def QR:List UInt8->Nat->Nat
 |[],p=>257*p
 |c::l,p=>257*QR l p+(c.toNat+1)
theorem _root_.Wa {p:Prop} (h:p:=by omega):p:=h
theorem MG:∀{l m:List UInt8} {p q:Nat},QR l p=QR m q->l=m/\p=q
 |[],[],p,q,h=>by simp only[QR]at h;grind
 |[],c::m,p,q,h=>by have:=c.toNat_lt;grind [QR]
 |c::l,[],p,q,h=>by have:=c.toNat_lt;grind [QR]
 |c::l,d::m,p,q,h=>by
  have h1:=c.toNat_lt;have h2:=d.toNat_lt;simp only[QR]at h;obtain⟨G,C⟩:=MG (l:=l) (m:=m) (p:=p) (q:=q) Wa
  grind [UInt8.toNat_inj]
def TJ (E:Env) (g:Gh) (w:World) (k:Nat) (b:u4):Prop:=
 b.rows=[]/\b.l0=0/\b.pr=false/\∃s p B,b.et=QR s p/\g.β k=some (B,0)/\w.heap[B]?=some (.stringIter ⟨s.toArray⟩ p)/\(∀o,g.K B o=none)/\(E.B0<=B\/E.fo B)/\(g.σ k).2=0
def Zr:u4:=⟨[],0,0,true⟩
def j6 (E:Env) (g:Gh) (w:World) (k:Nat) (b:u4):Prop:=
 (∀r∈b.rows,r.length=b.l0)/\(b.pr=true->∀r∈b.rows,∀d∈r,d.l4=[])/\
 ((b.rows=[]/\((g.β k=none/\(g.σ k=(1,0)↔b=Zr))\/TJ E g w k b))\/((b.rows≠[]\/b.l0≠0)/\∃B c,g.β k=some (B,b.l0)/\w.heap[B]?=some (.cells c b.et (0,0))/\c.size=(g.σ k).1/\l5 g c (g.σ k).2 b.rows/\(∀o,g.K B o=none)/\(E.B0<=B\/E.fo B)))
def x9 (K:Kn) (w:World):Prop:=∀b o x,K b o=some x->∃c e f,w.heap[b]?=some (.cells c e f)/\c[o]?=some x
def z7 (w w':World):Prop:=w'.os=w.os/\w'.tape=w.tape/\w'.output=w.output
theorem z7.refl (w:World):z7 w w:=⟨rfl,rfl,rfl⟩
theorem z7.trans {a b c:World} (h:z7 a b) (k:z7 b c):z7 a c:=⟨k.1.trans h.1,k.2.1.trans h.2.1,k.2.2.trans h.2.2⟩
def XN (w:World) (D:Nat):Prop:=w.heap[D]?=some (Obj.deferred (some []))
def Qq5:Option Nat->Nat->Prop
 |none,_=>False
 |some n,D=>n<=D
structure ic (bd:Option Nat) (a:Act) (w:World):Prop where
 ex:∃dd:List Nat,a.defers=dd.map (λD=>({target:=.collected D,args:=#[]}:Deferred))/\dd.Nodup/\∀D∈dd,XN w D/\Qq5 bd D
theorem ic.of {bd:Option Nat} {a':Act} (h:ic bd a w) (ha:a'.defers=a.defers) (hw:∀D,XN w D->XN w' D):ic bd a' w':=
 let⟨dd,h1,h2,h3⟩:=h.ex;⟨dd,ha.trans h1,h2,λD C=>⟨hw D (h3 D C).1,(h3 D C).2⟩⟩
theorem ic.nil {bd:Option Nat} (h:a.defers=[]):ic bd a w:=⟨[],h,by simp,by simp⟩
theorem Act.put_defers (a:Act) (t:Option Nat) (v:Value):(a.put t v).defers=a.defers:=by cases t<;>rfl
structure Rel (E:Env) (g:Gh) (s:St) (a:Act) (w:World):Prop where
 nt:a.tmps.size=E.nt/\E.nt<=900000
 df:ic E.bd a w
 fr:∀t d,lk s.fr t=some d->l6 g d (a.tmps.getD t (Fb t))
 s9:∀t d,lk s.fr t=some d->∀k∈d.ids,(lk s.H k).isSome=true
 u9:∀k b,lk s.H k=some b->∀j∈b.ids,(lk s.H j).isSome=true
 bx:∀k b,lk s.H k=some b->j6 E g w k b
 inj:∀k k' b b' B e e',lk s.H k=some b->lk s.H k'=some b'->g.β k=some (B,e)->g.β k'=some (B,e')->k=k'
 kr:x9 g.K w
 ext:E.B0<=w.heap.size/\(∀b,b<E.B0->¬E.fo b->w.heap[b]?=E.w0.heap[b]?)/\z7 E.w0 w
 kx:∀b,b<E.B0->¬E.fo b->g.K b=E.K0 b
 kp:∀k,E.ug k->1000000<=k/\g.β k=E.β0 k/\g.σ k=E.σ0 k/\(lk s.H k).isSome=true
theorem z4.congr {g g':Gh} {c:Array Value} (C:g.K.le g'.K):∀{off:Nat} {ds:List D},z4 g c off ds->(∀d∈ds,∀k∈d.l4,g'.β k=g.β k/\g'.σ k=g.σ k)->z4 g' c off ds
 |_,[],_,_=>by trivial
 |off,d::ds,h,hβ=>by
  simp only[z4]at h ⊢;obtain⟨⟨h1,x,h2,M⟩,G⟩:=h;exact⟨⟨h1,x,h2,M.congr C (hβ d Wc)⟩,z4.congr C G λd hd=>hβ d Wb⟩
theorem l5.congr {g g':Gh} {c:Array Value} (C:g.K.le g'.K):∀{off:Nat} {rs:List (List D)},l5 g c off rs->(∀r∈rs,∀d∈r,∀k∈d.l4,g'.β k=g.β k/\g'.σ k=g.σ k)->l5 g' c off rs
 |_,[],_,_=>by trivial
 |off,r::rs,h,hβ=>by
  simp only[l5]at h ⊢;exact⟨z4.congr C h.1 (hβ r Wc),l5.congr C h.2 λr hr=>hβ r Wb⟩
theorem x9.lt {K:Kn} (h:x9 K w) {b o:Nat} {x:Value} (hk:K b o=some x):b<w.heap.size:=by
 obtain⟨c,e,f,h1,_⟩:=h b o x hk
 grind
theorem Rel.ua (r:Rel E g s a w) (k:Nat) (b:u4) (h:lk s.H k=some b):
  ∀r∈b.rows,∀d∈r,∀j∈d.l4,(lk s.H j).isSome=true:=by
 intro row hr d hd j C;cases hp:b.pr with
 |true=>rw[(r.bx k b h).2.1 hp row hr d hd]at C;grind
 |false=>exact r.u9 k b h j (by simp only[u4.ids,hp];grind)
theorem Rel.move {g':Gh} (r:Rel E g s a w)
 (hK:∀b,b<w.heap.size->g'.K b=g.K b) (G:∀k,(lk s.H k).isSome=true->g'.β k=g.β k/\g'.σ k=g.σ k)
 (U:x9 g'.K w') (O:∀b,b<w.heap.size->w'.heap[b]?=w.heap[b]?) (hs:w.heap.size<=w'.heap.size) (hx:z7 w w':=by exact⟨rfl,rfl,rfl⟩):Rel E g' s a w':=by
 have hle:g.K.le g'.K:=λb o x e=>by rw[hK b (r.kr.lt e)];exact e
 refine⟨r.nt,r.df.of rfl (λD hD=>(O D (QAc.1 hD).1).trans hD),λt d h=>(r.fr t d h).congr hle λk hk=>G k (r.s9 t d h k hk),r.s9,r.u9,λk b h=>?_, ?_,U,
  ⟨Qz6 r.ext.1 hs,λb hb V=>(O b (QAd hb r.ext.1)).trans (r.ext.2.1 b hb V),r.ext.2.2.trans hx⟩,
  λb hb V=>(hK b (QAd hb r.ext.1)).trans (r.kx b hb V),
  λk hk=>let⟨h1,h2,M,C⟩:=r.kp k hk;⟨h1,(G k C).1.trans h2,(G k C).2.trans M,C⟩⟩
 obtain⟨h1,T,h2⟩:=r.bx k b h;have hk:=G k Wb
 refine⟨h1,T,h2.imp (λ⟨x,y⟩=>⟨x,y.imp (λy=>⟨hk.1.trans y.1,by grind⟩) λ⟨i1,i2,i3,sv,p,B,i4,i5,i6,i7,i8⟩=>by
  have Y:B<w.heap.size:=(QAc.1 i6).1;exact⟨i1,i2,i3,sv,p,B,i4,hk.1.trans i5,(O B Y).trans i6,λo=>by simp_all,i8.1,by grind⟩⟩) ?_⟩
 rintro⟨h0,B,c,M,C,h5,h6,h7,h8⟩;have Y:B<w.heap.size:=(QAc.1 C).1
 exact⟨h0,B,c,hk.1.trans M,(O B Y).trans C,h5.trans (congrArg Prod.fst hk.2.symm),l5.congr hle Wb λr' hr d hd j hj=>G j (r.ua k b h r' hr d hd j hj),
  λo=>by simp_all,h8⟩
 intro k k' b b' B e e' h1 h2 M C;exact r.inj k k' b b' B e e' h1 h2 ((G k Wb).1 ▸ M) ((G k' Wb).1 ▸ C)
theorem Rel.heap {E:Env} {g:Gh} {s:St} {a:Act} {w w':World} (r:Rel E g s a w) (h:w'.heap=w.heap) (hx:z7 w w':=by exact⟨rfl,rfl,rfl⟩):Rel E g s a w':=
 r.move (λ_ _=>rfl) (λ_ _=>⟨rfl,rfl⟩) (λb o x e=>by rw[h];exact r.kr b o x e) (λ_ _=>by rw[h]) Wb hx
def St.put (s:St) (t:Nat) (d:D):St:={s with fr:=(t,d)::s.fr}
theorem Act.vf {v:Value} (h:t<a.tmps.size) (u:Nat):(a.put (some t) v).tmps.getD u (Fb u)=if t=u then v else a.tmps.getD u (Fb u):=by
 simp only[Act.put]
 by_cases e:t=u
 (repeat clear hK K);simp_all
 (repeat clear hK K);simp_all
theorem Rel.put {E:Env} {g:Gh} {s:St} {a:Act} {w:World} {t:Nat} {d:D} {v:Value} (r:Rel E g s a w) (M:t<E.nt)
  (G:l6 g d v) (hd:∀k∈d.ids,(lk s.H k).isSome=true):Rel E g (s.put t d) (a.put (some t) v) w:=by
 have C:t<a.tmps.size:=by rw[r.nt.1];omega
 refine⟨⟨by simp[Act.put,r.nt.1],r.nt.2⟩,r.df.of (Act.put_defers _ _ _) (λ_ h=>h),λu d' h=>?_,λu d' h=>?_,r.u9,r.bx,r.inj,r.kr,r.ext,r.kx,r.kp⟩;rw[Act.vf C];simp only[St.put,Qe]at h;split at h
 grind
 rename_i e;rw[if_neg e];exact r.fr u d' h;simp only[St.put,Qe]at h ⊢;split at h
 grind
 exact r.s9 u d' h
theorem Rel.less {s':St} (r:Rel E g s a w)
 (M:∀t d,lk s'.fr t=some d->lk s.fr t=some d) (G:∀k b,lk s'.H k=some b->lk s.H k=some b)
 (s9:∀t d,lk s'.fr t=some d->∀k∈d.ids,(lk s'.H k).isSome=true)
 (u9:∀k b,lk s'.H k=some b->∀j∈b.ids,(lk s'.H j).isSome=true) (C:∀k,1000000<=k->(lk s.H k).isSome=true->(lk s'.H k).isSome=true):Rel E g s' a w:=
 ⟨r.nt,r.df,λt d h=>r.fr t d (M t d h),s9,u9,λk b h=>r.bx k b (G k b h),λk k' b b' B e e' h1 h2=>r.inj k k' b b' B e e' (G _ _ h1) (G _ _ h2),r.kr,r.ext,r.kx,λk hk=>let⟨h1,h2,h3,h4⟩:=r.kp k hk;⟨h1,h2,h3,C k h1 h4⟩⟩
theorem Rel.alloc {E:Env} {g:Gh} {s:St} {a:Act} {w:World} {t:Nat} {b:u4} {c:Array Value} (r:Rel E g s a w)
  (hn:lk s.H t=none) (T:∀r∈b.rows,r.length=b.l0) (U:b.pr=true->∀r∈b.rows,∀d∈r,d.l4=[]) (V:b.rows≠[]\/b.l0≠0) (hc:l5 g c 0 b.rows)
  (hid:∀r∈b.rows,∀d∈r,∀j∈d.l4,(lk s.H j).isSome=true):
  ∃g',g'.K=g.K/\g'.β t=some (w.heap.size,b.l0)/\g'.σ t=(c.size,0)/\(∀k,k≠t->g'.β k=g.β k/\g'.σ k=g.σ k)/\
   Rel E g' {s with H:=(t,b)::s.H} a (w.alloc (.cells c b.et)):=by
 refine⟨{K:=g.K,β:=λk=>if k=t then some (w.heap.size,b.l0)else g.β k,σ:=λk=>if k=t then(c.size,0)else g.σ k},rfl,by simp,by simp,λk hk=>by grind, ?_⟩;have hnt:∀k,(lk s.H k).isSome=true->k≠t:=λk hk e=>by grind
 have hold:∀i,i<w.heap.size->(w.alloc (.cells c b.et)).heap[i]?=w.heap[i]?:=λi hi=>by
  simp only[World.alloc,Array.getElem?_push];grind
 have hKn:∀o,g.K w.heap.size o=none:=λo=>by
  cases h:g.K w.heap.size o with
  |none=>rfl
  |some x=>exact absurd (r.kr.lt h) (Nat.lt_irrefl _)
 have Y:x9 g.K (w.alloc (.cells c b.et)):=λi o x e=>by
  obtain⟨c',e',f,h1,h2⟩:=r.kr i o x e
  grind
 have G:Rel E {K:=g.K,β:=λk=>if k=t then some (w.heap.size,b.l0)else g.β k,σ:=λk=>if k=t then(c.size,0)else g.σ k} s a (w.alloc (.cells c b.et)):=
  r.move (λ_ _=>rfl) (λk hk=>by grind) Y hold Wc
 have C:∀k,(lk s.H k).isSome=true->(lk ((t,b)::s.H) k).isSome=true:=λk hk=>by
  grind [Qe]
 refine⟨G.nt,G.df,G.fr,λu d h k hk=>C k (r.s9 u d h k hk),λk b' h j hj=>?_,λk b' h=>?_,λk k' b1 b2 B e e' h1 h2 O M=>?_,G.kr,G.ext,G.kx,λk hk=>let⟨h1,h2,O,M⟩:=G.kp k hk;⟨h1,h2,O,C k M⟩⟩
 rw[Qe]at h;split at h;cases h
 grind [u4.ids]
 exact C j (r.u9 k b' h j hj);rw[Qe]at h;split at h;rename_i e;cases h;subst e;refine⟨T,U,.inr ⟨V,w.heap.size,c,by simp,heap_alloc_new w _,by simp,l5.congr (g:=g) (g':={K:=g.K,β:=λk=>if k=t then some (w.heap.size,b.l0)else g.β k,σ:=λk=>if k=t then(c.size,0)else g.σ k}) (Kn.le_refl _) Wb λr0 hr d hd j hj=>by grind,hKn,.inl r.ext.1⟩⟩;exact G.bx k b' h
 have hlt:∀k b e,lk s.H k=some b->g.β k=some (B,e)->B<w.heap.size:=λk b e h hb=>by
  obtain⟨_,_,h2⟩:=r.bx k b h;rcases h2 with⟨_,⟨h2,_⟩ |⟨_,_,_,_,_,B',_,O,M,_⟩⟩ |⟨_,B',c',O,M,_⟩
  grind
  grind
  grind
 rw[Qe]at h1 h2;simp only at O M;split at h1<;>split at h2;omega
 grind
 grind
 rename_i e1 e2;rw[if_neg (Ne.symm e1)]at O;rw[if_neg (Ne.symm e2)]at M;exact r.inj k k' b1 b2 B e e' h1 h2 O M
theorem Rel.v9 (pr:Bool) (r:Rel E g s a w) (hn:lk s.H t=none):
  ∃g',g'.K=g.K/\(∀k,k≠t->g'.β k=g.β k/\g'.σ k=g.σ k)/\Rel E g' {s with H:=(t,⟨[],l0,et,pr⟩)::s.H} a w:=by
 refine⟨{K:=g.K,β:=λk=>if k=t then none else g.β k,σ:=λk=>if k=t then(if l0=0/\et=0/\pr=true then(1,0)else(0,0))else g.σ k},rfl,λk hk=>by grind, ?_⟩;have T:∀k,(lk s.H k).isSome=true->k≠t:=λk hk e=>by grind
 have G:Rel E {K:=g.K,β:=λk=>if k=t then none else g.β k,σ:=λk=>if k=t then(if l0=0/\et=0/\pr=true then(1,0)else(0,0))else g.σ k} s a w:=
  r.move (λ_ _=>rfl) (λk hk=>by grind) r.kr (λ_ _=>rfl) (QAe _)
 have C:∀k,(lk s.H k).isSome=true->(lk ((t,(⟨[],l0,et,pr⟩:u4))::s.H) k).isSome=true:=λk hk=>by
  grind [Qe]
 refine⟨G.nt,G.df,G.fr,λu d h k hk=>C k (r.s9 u d h k hk),λk b' h j U=>?_,λk b' h=>?_,λk k' Y V B e e' h1 h2 O M=>?_,G.kr,G.ext,G.kx,λk hk=>let⟨h1,h2,O,M⟩:=G.kp k hk;⟨h1,h2,O,C k M⟩⟩
 rw[Qe]at h;split at h
 grind [u4.ids]
 exact C j (r.u9 k b' h j U);rw[Qe]at h;split at h;rename_i e;cases h;subst e;exact⟨by simp,by simp,.inl ⟨rfl,.inl ⟨by simp,by simp[Zr]⟩⟩⟩;exact G.bx k b' h;rw[Qe]at h1 h2;simp only at O M;split at h1
 grind
 split at h2
 grind
 rename_i e1 e2;rw[if_neg (Ne.symm e1)]at O;rw[if_neg (Ne.symm e2)]at M;exact r.inj k k' Y V B e e' h1 h2 O M
theorem Rel.pb (r:Rel E g s a w) (C:lk s.H t=none):
  ∃g',g'.K=g.K/\(∀k,k≠t->g'.β k=g.β k/\g'.σ k=g.σ k)/\Rel E g' {s with H:=(t,⟨[],l0,et,true⟩)::s.H} a w:=r.v9 true C
abbrev QzK:=List (Nat × u4)
abbrev QzL:=List (Nat × D)
variable {P:Program} {cs ds:List D} {d:D} {dst:Option Nat} {o:Oper} {off:Nat} {v:Value} {x:Operand}
inductive n5 where
 |s (t:Nat)
 |c (d:D)
variable {x':n5}
inductive z5 where
 |we (x:n5)
 |pick (c a b:n5)
 |alloc (et:Nat) (cells:List D)
 |box (et:Nat) (x:n5)
 |build (zero:List D) (parts:List (Nat × Nat × n5))
 |buildSlice (l0 et:Nat) (parts:List n5)
 |load (agg:Bool) (sz:Nat) (x:n5)
 |store (sz:Nat) (x v:n5)
 |nilCheck (x:n5)
 |bin (op:BinOp) (bt:Bool) (x y:n5)
 |eqs (neg:Bool) (kinds:List Nat) (x y:n5)
 |un (op:UnOp) (x:n5)
 |conv (k:IntKind) (x:n5)
 |slice (l0:Nat) (x:n5) (lo hi mx:Option n5)
 |a8 (x:n5) (lo hi:Option n5)
 |fieldAddr (off:Nat) (x:n5)
 |field (agg:Bool) (off sz:Nat) (x:n5)
 |indexAddr (l0:Nat) (x i:n5)
 |k8 (x i:n5)
 |extract (i:Nat) (x:n5)
 |len (x:n5)
 |o9 (x:n5)
 |min (x y:n5)
 |max (x y:n5)
 |k9 (b:Bool) (x:n5)
 |append (l0 et bytes:Nat) (x y:n5)
 |makeSlice (l0 et bytes:Nat) (zero:List D) (n c:n5)
 |nc (x:n5)
 |xd (l0 et bytes:Nat) (zero:List D) (x n:n5)
 |call (f:Nat) (args:List n5)
 |range (x:n5)
 |next (x:n5)
 |b8 (n l0:Nat) (x i:n5)
 |j8 (agg:Bool) (n l0:Nat) (x i:n5)
 |yd (f:Nat) (xs:List n5)
 |oe (f:Nat) (xs:List n5)
 |ga (x:n5) (args:List n5)
 |stop
structure z1 where
 dst:Option Nat
 op:z5
 guard:Option (Nat × Bool)
def S3:Value->Option D
 | .int k n=>some (.int k n)
 | .bool b=>some (.bool b)
 | .string s=>some (.str s.data.toList)
 | .slice none 0 0=>some (.x7 [])
 | .nilFunc=>some (.val .nilFunc)
 | .pointer none=>some (.val (.pointer none))
 |_=>none
def Qi:Operand->Option n5
 | .tmp t=>if t<900000 then some (.s t)else none
 | .const v=>(S3 v).map .c
 | .func f=>if gfuncs.contains f=true then none else some (.c (.w8 f []))
 | .global i=>some (.s (900000+i))
def St.ev (s:St):n5->Option D
 | .s t=>lk s.fr t
 | .c d=>some d
theorem GC (h:S3 v=some d) (K:Kn):l3 K d v/\d.ids=[]:=by
 unfold S3 at h;split at h<;>cases h<;>simp[l3,D.ids,D.l4,Value.oneCell']
theorem Ha {t:Nat} {x:n5} (h:Qi (.tmp t)=some x):t<900000/\x=.s t:=by
 simp only[Qi]at h
 grind
theorem Gp {f:Nat} {x:n5} (h:Qi (.func f)=some x):HD f=[]/\x=.c (.w8 f []):=by
 simp only[Qi]at h;split at h
 grind
 rename_i C;cases h;exact⟨if_neg C,rfl⟩
def Has (s:St) (d:D):Prop:=∀k∈d.ids,(lk s.H k).isSome=true
section
variable {E:Env} {g:Gh} {s:St} {a:Act} {w:World}
theorem QH (r:Rel E g s a w) (hx:Qi x=some x') (he:s.ev x'=some d):
  l6 g d (a.eval x)/\Has s d:=by
 cases x with
 |tmp t=>
  obtain⟨G,rfl⟩:=Ha hx;have:=r.fr t d he;rw[Fb,if_pos G]at this;exact⟨this,r.s9 t d he⟩
 |const v=>
  simp only[Qi,QzM]at hx;obtain⟨d',h1,rfl⟩:=hx;simp only[St.ev,QzQ]at he;subst he;obtain⟨h2,O⟩:=GC h1 g.K;exact⟨l6.of h2,λk hk=>by grind⟩
 |func f=>
  obtain⟨M,rfl⟩:=Gp hx;simp only[St.ev,QzQ]at he;subst he;exact⟨⟨[],rfl,by rw[gVs,M];trivial⟩,λk hk=>by trivial⟩
 |global i=>
  simp only[Qi,QzQ]at hx;subst hx;have:=r.fr _ d he;have C:a.tmps.size<=900000+i:=by rw[r.nt.1];exact Qz6 r.nt.2 (Nat.le_add_right _ _)
  rw[QAf,Array.getElem?_eq_none C,Option.getD_none,Fb,if_neg Wa,Nat.add_sub_cancel_left]at this;exact⟨this,r.s9 _ d he⟩
def s5 (g:Gh) (w:World) (B off:Nat) (cells:List D):Prop:=
 ∃cs:List Value,cs.length=cells.length/\x4 g cells cs/\(∀d∈cells,d.y4=true)/\∀j v,cs[j]?=some v->w.cell? ⟨B,off+j,none⟩=some v
theorem s5.nil (B off:Nat):s5 g w B off []:=⟨[],rfl,trivial,by simp,by simp⟩
theorem s5.cons {B:Nat} {x:Value} (G:d.y4=true) (hx:w.cell? ⟨B,off,none⟩=some x) (hr:z3 g d x)
 (h:s5 g w B (off+1) ds):s5 g w B off (d::ds):=by
 obtain⟨cs,h1,h2,O,M⟩:=h;refine⟨x::cs,by grind,⟨hr,h2⟩,by grind,λj v C=>?_⟩
 grind
theorem s5.tail {B:Nat} (h:s5 g w B off (d::ds)):s5 g w B (off+1) ds:=by
 obtain⟨cs,h1,h2,G,C⟩:=h;cases cs with
 |nil=>grind
 |cons x cs=>
  refine⟨cs,by grind,h2.2,λy M=>G y Wb,λj v O=>?_⟩;have:=C (j+1) v Wb
  grind
theorem s5.drop {B:Nat}:∀{off:Nat} {ds:List D} (n:Nat),s5 g w B off ds->s5 g w B (off+n) (ds.drop n)
 |_,_,0,h=>h
 |_,[],n+1,_=>s5.nil _ _
 |off,d::ds,n+1,h=>by
  have:=s5.drop n h.tail
  grind
theorem s5.take {B:Nat}:∀{off:Nat} {ds:List D} (n:Nat),s5 g w B off ds->s5 g w B off (ds.take n)
 |_,_,0,_=>s5.nil _ _
 |_,[],n+1,_=>s5.nil _ _
 |off,d::ds,n+1,h=>by
  have C:=s5.take n h.tail;obtain⟨cs,h1,h2,M,G⟩:=h;cases cs with
  |nil=>grind
  |cons x cs=>exact s5.cons (M d Wc) (G 0 x Wc) h2.1 C
theorem Qed {B o:Nat} {c:Array Value} {e:TypeId} {f:Nat × Nat} {x:Value} (h:w.heap[B]?=some (.cells c e f)) (hx:c[o]?=some x):w.cell? ⟨B,o,none⟩=some x:=by
 grind [World.cell?]
theorem PY (hk:x9 g.K w) (B:Nat):∀(off:Nat) (ds:List D),a5 g.K B off ds->s5 g w B off ds
 |off,[],_=>s5.nil B off
 |off,d::ds,h=>by
  simp only[a5]at h;obtain⟨⟨h1,x,h2,O⟩,M⟩:=h;obtain⟨c,e,f,G,C⟩:=hk B off x h2;exact s5.cons h1 (Qed G C) (z3.of O) (PY hk B _ ds M)
theorem PX {B:Nat} {c:Array Value} {e:TypeId} {f:Nat × Nat} (h:w.heap[B]?=some (.cells c e f)):∀(off:Nat) (ds:List D),z4 g c off ds->s5 g w B off ds
 |off,[],_=>s5.nil B off
 |off,d::ds,hc=>by
  simp only[z4]at hc;obtain⟨⟨h1,x,h2,G⟩,C⟩:=hc;exact s5.cons h1 (Qed h h2) G (PX h _ ds C)
theorem Qck {K:Kn} {b l0:Nat}:∀{off:Nat} {rows:List (List D)} (i:Nat) {row:List D},(∀r∈rows,r.length=l0)->u5 K b off rows->rows[i]?=some row->a5 K b (off+i*l0) row
 |_,[],_,_,_,_,h=>by grind
 |off,r::rs,0,row,hl,hr,h=>by
  grind [u5]
 |off,r::rs,i+1,row,hl,hr,h=>by
  simp only[u5]at hr;have:=Qck (l0:=l0) i (λr hr=>hl r Wb) hr.2 (by simpa using h)
  grind
theorem JB {c:Array Value} {l0:Nat}:∀{off:Nat} {rows:List (List D)} (i:Nat) {row:List D},(∀r∈rows,r.length=l0)->l5 g c off rows->rows[i]?=some row->z4 g c (off+i*l0) row
 |_,[],_,_,_,_,h=>by grind
 |off,r::rs,0,row,hl,hr,h=>by
  grind [l5]
 |off,r::rs,i+1,row,hl,hr,h=>by
  simp only[l5]at hr;have:=JB (l0:=l0) i (λr hr=>hl r Wb) hr.2 (by simpa using h)
  grind
def St.at (s:St) (d:D) (cells:List D):Prop:=
 match d with
 | .ptr cs=>cells=cs
 | .ref k i off=>∃b row,lk s.H k=some b/\b.rows[i]?=some row/\cells=row.drop off
 |_=>False
theorem M8 (r:Rel E g s a w) {cells:List D} (hd:l6 g d v) (h:s.at d cells):
  ∃B off,v=.pointer (some ⟨B,off,none⟩)/\s5 g w B off cells/\∀x∈cells,∀k∈x.l4,(lk s.H k).isSome=true:=by
 cases d<;>simp only[St.at]at h
 case ptr cs=>
  subst h;simp only[l6,z3,l3]at hd;obtain⟨b,off,rfl,h2⟩:=hd;refine⟨b,off,rfl,PY r.kr b off _ h2, ?_⟩
  have:∀(ds:List D) (o:Nat),a5 g.K b o ds->∀x∈ds,x.l4=[]:=by
   intro ds
   induction ds with
   |nil=>simp
   |cons d ds ih=>
    intro o h x hx;simp only[a5]at h;cases hx with
    |head=>obtain⟨⟨_,y,_,O⟩,_⟩:=h;cases d<;>first |rfl |(trivial)
    |tail _ hm=>exact ih _ h.2 x hm
  grind
 case ref k i off=>
  obtain⟨b,row,h1,h2,rfl⟩:=h;obtain⟨B,l0,o,O,rfl⟩:=hd;obtain⟨h4,_,M⟩:=r.bx k b h1;rcases M with⟨M,_⟩ |⟨_,B',c,C,Y,_,V,_⟩
  grind
  obtain⟨G,rfl⟩:=O.resolve_right λU=>U.no C;rw[G]at C;cases C;refine⟨B,(g.σ k).2+(i*b.l0+off),rfl, ?_,λx hx j T=>r.ua k b h1 row (QAg h2) x (QAh hx) j T⟩;have:=s5.drop off (PX Y _ _ (JB i h4 V h2))
  grind
theorem z3.td (h:z3 g d v) (C:d.y4=true):l6 g d v:=by
 cases d<;>first |exact h |trivial |exact l6.of h
theorem Px {K:Kn}:∀{ds:List D} {vs:List Value},j5 K ds vs->ds.flatMap D.l4=[]
 |[],[],_=>rfl
 |d::ds,v::vs,h=>by
  simp only[j5]at h;rw[QAi,Px h.2,QAj];cases d<;>first |rfl |(have:=h.1;simp only[l3]at this)
 |[],_::_,h=>by simp only[j5]at h
 |_::_,[],h=>by simp only[j5]at h
theorem Nj (h:z3 g d v) (G:d.y4=true) (C:∀k∈d.l4,(lk s.H k).isSome=true):Has s d:=by
 intro k hk;cases d<;>first |exact C k hk |(simp[D.y4]at G;done) |skip
 case w8 f caps=>
  simp only[z3,l3]at h;obtain⟨cs,_,h2⟩:=h;simp only[D.ids]at hk;rw[Px h2]at hk;cases hk
def St.s6 (s:St) (dst:Option Nat) (bx:Option u4):St:=
 match dst,bx with
 |some t,some b=>{s with H:=(t,b)::s.H}
 |_,_=>s
def Good (P:Program) (E:Env) (s:St) (a:Act) (w:World) (o:Oper) (dst:Option Nat) (d:D) (bx:Option u4):Prop:=
 ∃v w' g',(execOp a.eval o).run P w=.ok (.value v) w'/\Rel E g' (s.s6 dst bx) a w'/\l6 g' d v/\Has (s.s6 dst bx) d
theorem Good.of (r:Rel E g s a w) (h:(execOp a.eval o).run P w=.ok (.value v) w) (C:l6 g d v) (hd:Has s d):
  Good P E s a w o dst d none:=by
 refine⟨v,w,g,h, ?_,C, ?_⟩<;>cases dst<;>assumption
theorem Has.of_nil (h:d.ids=[]):Has s d:=λk hk=>by grind
theorem Qbn (r:Rel E g s a w) (ho:o.op=.move x\/o.op=.assign x) (hx:Qi x=some x')
 (he:s.ev x'=some d):Good P E s a w o dst d none:=by
 obtain⟨h1,h2⟩:=QH r hx he;refine Good.of r (v:=a.eval x) ?_ h1 h2;rcases ho with ho |ho<;>simp[execOp,ho]
theorem QeT {c y:Operand} {c' y':n5} {t:Bool} (r:Rel E g s a w) (ho:o.op=.pick c x y) (O:Qi c=some c') (hx:Qi x=some x') (M:Qi y=some y')
 (h0:s.ev c'=some (.bool t)) (he:s.ev (if t then x' else y')=some d):Good P E s a w o dst d none:=by
 have h1:=(QH r O h0).1;simp only[l6,z3,l3]at h1;cases t
 obtain⟨G,C⟩:=QH r M he;exact Good.of r (v:=a.eval y) (by simp_all [execOp,asBool]) G C;obtain⟨G,C⟩:=QH r hx he;exact Good.of r (v:=a.eval x) (by simp_all [execOp,asBool]) G C
theorem x4.len:∀{ds:List D} {vs:List Value},x4 g ds vs->vs.length=ds.length
 |[],[],_=>rfl
 |d::ds,v::vs,h=>by simp[x4.len h.2]
 |[],_::_,h=>h.elim
 |_::_,[],h=>h.elim
def D.cells:D->Option (List D)
 | .agg cs=>some cs
 | .undef=>none
 | .top=>none
 | .l7 _=>none
 | .w9 _ _=>none
 | .w8 f caps=>if(caps.all λd=>!d.own)=true then some [.w8 f caps]else none
 |d=>some [d]
theorem F7 (G:d.cells=some cs):∀y∈cs,∀k∈y.l4,k∈d.ids:=λy C k hk=>by
 cases d<;>simp only[D.cells,QzQ,reduceCtorEq]at G
 case agg xs=>subst G;exact QzU.2 ⟨y,C,hk⟩
 case w8 f caps=>
  split at G;cases G;simp at C;subst C;cases hk
  grind
 all_goals (subst G;simp at C;subst C;exact hk)
theorem F6 (M:d.cells=some cs) (h:l6 g d v):
  ∃vs,v.cells=List.toArray vs/\x4 g cs vs/\(∀x∈cs,x.y4=true)/\∀x∈vs,x.oneCell'=true:=by
 have one:∀{ds:List D} {vs:List Value},x4 g ds vs->(∀x∈ds,x.y4=true)->∀x∈vs,x.oneCell'=true:=by
  intro ds
  induction ds with
  |nil=>intro vs h _ x hx;cases vs with
   |nil=>cases hx
   |cons=>exact h.elim
  |cons d ds ih=>
   intro vs h C x hx;cases vs with
   |nil=>exact h.elim
   |cons v vs=>
    cases hx with
    |head=>
     have hd:=C d Wc;have h1:=h.1;cases d<;>first |exact l3.cell h1 hd |(obtain⟨_,_,rfl,_⟩:=h1;rfl) |(obtain⟨_,_,_,_,rfl⟩:=h1;rfl) |(obtain⟨_,_,_,_,_,rfl,_⟩:=h1;rfl)
    |tail _ hm=>exact ih h.2 (λy T=>C y (by simp[T])) x hm
 cases d<;>simp only[D.cells,QzQ,reduceCtorEq]at M
 case agg xs=>
  subst M;obtain⟨vs,rfl,h2,O⟩:=h;exact⟨vs,rfl,h2,O,one h2 O⟩
 case w8 f caps=>
  split at M;rename_i hp;cases M
  obtain⟨cs,rfl,U⟩:=h;exact⟨[_],rfl,⟨⟨cs,rfl,U.ue hp⟩,trivial⟩,by simp[D.y4],by simp[Value.oneCell']⟩;cases M
 all_goals (subst M)
 case s4 k n=>
  have G:v.oneCell'=true:=by obtain⟨_,_,rfl,_⟩:=h;rfl
  refine⟨[v], ?_,⟨h,trivial⟩,by simp[D.y4],by simpa using G⟩;obtain⟨_,_,rfl,_⟩:=h;rfl
 case y9 k lo c n=>
  have G:v.oneCell'=true:=by obtain⟨_,_,rfl,_⟩:=h;rfl
  refine⟨[v], ?_,⟨h,trivial⟩,by simp[D.y4],by simpa using G⟩;obtain⟨_,_,rfl,_⟩:=h;rfl
 case ref k i off=>
  have G:v.oneCell'=true:=by obtain⟨_,_,_,_,rfl⟩:=h;rfl
  refine⟨[v], ?_,⟨h,trivial⟩,by simp[D.y4],by simpa using G⟩;obtain⟨_,_,_,_,rfl⟩:=h;rfl
 case r9 f k ps=>
  have G:v.oneCell'=true:=by obtain⟨_,_,_,_,_,rfl,_⟩:=h;rfl
  refine⟨[v], ?_,⟨h,trivial⟩,by simp[D.y4],by simpa using G⟩;obtain⟨_,_,_,_,_,rfl,_⟩:=h;rfl
 all_goals
  have G:v.oneCell'=true:=l3.cell (K:=g.K) h rfl;refine⟨[v], ?_,⟨h,trivial⟩,by simp[D.y4],by simpa using G⟩;cases v<;>first |rfl |(simp[Value.oneCell']at G)
end
variable {et t:TypeId} {vs:List Value}
section
variable {P:Program} {E:Env} {g:Gh} {s:St} {a:Act} {w:World} {o:Oper} {dst:Option Nat}
theorem add_lit (b o n:Nat):Addr.add ⟨b,o,none⟩ n=⟨b,o+n,none⟩:=by
 grind [Addr.add]
theorem Qcn {B off:Nat} {cells:List D} (h:s5 g w B off cells):∃cs:List Value,cs.length=cells.length/\x4 g cells cs/\(∀d∈cells,d.y4=true)/\
  (loadCells ⟨B,off,none⟩ cells.length).run P w=.ok cs.toArray w:=by
 obtain⟨cs,h1,h2,G,C⟩:=h
 grind [run_loadCells_list,add_lit]
def YS (P:Program) (t:TypeId):Option Nat:=(P.info? t).map (·.size)
def Bf (P:Program) (t:TypeId):Option Bool:=
 match P.underlying t with
 |some (.struct _)=>some true
 |some (.array _ _)=>some true
 |some _=>some false
 |none=>none
theorem ZC {b:Bool} (h:Bf P t=some b):(isAgg t).run P w=.ok b w:=by
 unfold Bf at h;unfold isAgg;cases hu:P.underlying t with
 |none=>grind
 |some d=>cases d<;>simp[hu]at h<;>subst h<;>simp[underlying,hu]
theorem QM {t n:Nat} (h:YS P t=some n):(sizeOf t).run P w=.ok n w:=by
 unfold YS at h;cases hi:P.info? t with
 |none=>grind
 |some i=>simp_all [sizeOf,typeInfo]
theorem Cl {sz:Nat} {cells:List D} (r:Rel E g s a w) (ho:o.op=.load t x) (hx:Qi x=some x')
 (Y:Bf P t=some true) (hs:YS P t=some sz) (he:s.ev x'=some d) (C:s.at d cells) (G:sz<=cells.length):
  Good P E s a w o dst (.agg (cells.take sz)) none:=by
 obtain⟨B,off,V,O,M⟩:=M8 r (QH r hx he).1 C;obtain⟨cs,h1,h2,U,T⟩:=Qcn (P:=P) (O.take sz);rw[QAk,Nat.min_eq_left G]at T;refine Good.of r (v:=.agg cs.toArray) ?_ ⟨cs,rfl,h2,U⟩ ?_
 (repeat clear hK K);simp_all [execOp,Instr.loadAt,Instr.sureAddr,loadVar,ZC,QM]
 intro k hk;simp only[D.ids]at hk
 grind
theorem QeO {d':D} {cells:List D} (r:Rel E g s a w) (ho:o.op=.load t x) (hx:Qi x=some x')
 (ht:Bf P t=some false) (he:s.ev x'=some d) (M:s.at d cells) (O:cells.head?=some d'):
  Good P E s a w o dst d' none:=by
 obtain⟨B,off,Y,U,C⟩:=M8 r (QH r hx he).1 M;cases cells with
 |nil=>grind
 |cons y ys=>
  simp at O;subst O;obtain⟨cs,h1,h2,T,V⟩:=U;cases cs with
  |nil=>grind
  |cons c cs=>
   have G:=V 0 c Wc;refine Good.of r (v:=c) ?_ (h2.1.td (T _ Wc)) (Nj h2.1 (T _ Wc) λk hk=>C _ Wc k hk)
   (repeat clear hK K);simp_all [execOp,Instr.loadAt,Instr.sureAddr,loadVar,ZC]
def Gy (P:Program) (t:TypeId):Option (List D):=
 match P.info? t with
 |some i=>match i.zero with
  |some z=>z.cells.toList.mapM S3
  |none=>none
 |none=>none
theorem Tj {K:Kn}:∀{vs:List Value} {ds:List D},vs.mapM S3=some ds->x5 K ds vs/\∀d∈ds,d.ids=[]/\d.l4=[]
 |[],ds,h=>by grind [x5]
 |v::vs,ds,h=>by
  simp only[List.mapM_cons,Option.bind_eq_bind,QAl,Option.pure_def,QzQ]at h;obtain⟨d,h1,ds',h2,rfl⟩:=h;obtain⟨T,O⟩:=Tj (K:=K) h2;obtain⟨M,G⟩:=GC h1 K
  have C:d.y4=true/\d.l4=[]:=by
   unfold S3 at h1;split at h1<;>cases h1<;>exact⟨rfl,rfl⟩
  grind [x5]
theorem YR (h:Gy P t=some ds) (K:Kn):
  ∃i z,P.info? t=some i/\i.zero=some z/\x5 K ds z.cells.toList/\∀d∈ds,d.ids=[]/\d.l4=[]:=by
 grind [Gy,Tj]
theorem D3 (c:List Value):∀(pre:List Value) (ds:List D) (vs:List Value),x4 g ds vs->(∀d∈ds,d.y4=true)->c=pre++vs->z4 g c.toArray pre.length ds
 |_,[],_,_,_,_=>by trivial
 |pre,d::ds,[],h,_,_=>h.elim
 |pre,d::ds,v::vs,h,hc,e=>by
  simp only[z4];refine⟨⟨hc d Wc,v,by grind,h.1⟩, ?_⟩;have:=D3 c (pre++[v]) ds vs h.2 (λx hx=>hc x Wb) Wb
  grind
theorem Qgd (h:x4 g ds vs) (C:∀d∈ds,d.y4=true):l5 g vs.toArray 0 [ds]:=by
 simp only[l5,and_true];exact D3 vs [] ds vs h C rfl
theorem Ru {t:Nat} (r:Rel E g s a w) (G:dst=some t) (O:lk s.H t=none) (h:x4 g ds vs) (T:∀d∈ds,d.y4=true)
 (V:∀d∈ds,∀k∈d.l4,(lk s.H k).isSome=true) (C:(execOp a.eval o).run P w=.ok (.value (.pointer (some ⟨w.heap.size,0,none⟩))) (w.alloc (.cells vs.toArray et))):
  Good P E s a w o dst (.ref t 0 0) (some ⟨[ds],ds.length,et,ds.all λd=>d.l4.isEmpty⟩):=by
 obtain⟨g',h1,h2,U,Y,M⟩:=r.alloc (b:=⟨[ds],ds.length,et,ds.all λd=>d.l4.isEmpty⟩) (c:=vs.toArray) O Wc
  Wc (.inl Wc) (Qgd h T) Wb
 subst G;refine⟨_,_,g',C,M, ?_, ?_⟩;exact⟨w.heap.size,ds.length,0,.inl ⟨h2,by rw[U]⟩,by simp⟩;intro k hk
 grind [D.ids,D.l4,St.s6,Qe]
theorem QcZ {t:Nat} (r:Rel E g s a w) (ho:o.op=.alloc et) (M:Gy P et=some ds) (C:dst=some t) (O:lk s.H t=none):
  Good P E s a w o dst (.ref t 0 0) (some ⟨[ds],ds.length,et,ds.all λd=>d.l4.isEmpty⟩):=by
 obtain⟨i,z,hi,G,h1,h2⟩:=YR M g.K;obtain⟨U,T⟩:=x4.sa (g:=g) h1;refine Ru r C O U T (λd hd k hk=>by grind) ?_
 (repeat clear hK K);simp_all [execOp,Instr.alloc,zeroValue,typeInfo,newVar,newRow]
theorem Qie {t:Nat} (r:Rel E g s a w) (ho:o.op=.box et x) (hx:Qi x=some x') (he:s.ev x'=some d) (hd:d.cells=some ds)
 (C:dst=some t) (M:lk s.H t=none):
  Good P E s a w o dst (.ref t 0 0) (some ⟨[ds],ds.length,et,ds.all λd=>d.l4.isEmpty⟩):=by
 obtain⟨h1,h2⟩:=QH r hx he;obtain⟨vs,U,T,O,_⟩:=F6 hd h1;refine Ru r C M T O ?_ ?_;intro y G k hk;exact h2 k (F7 hd y G k hk)
 (repeat clear hK K);simp_all [execOp,Instr.box,newVar,newRow]
end
variable {e:TypeId} {i y:Operand} {i':n5} {k k':IntKind} {m n:Int} {op:BinOp}
section
variable {P:Program} {E:Env} {g:Gh} {s:St} {a:Act} {w:World} {o:Oper} {dst:Option Nat}
theorem Fg {n off:Nat} {fields:Array Field} {f:Field} {sz:Nat} (r:Rel E g s a w) (ho:o.op=.fieldAddr t x n) (hx:Qi x=some x')
 (hu:P.underlying t=some (.struct fields)) (V:fields[n]?=some f) (T:YS P f.type=some sz) (O:sz≠0) (G:f.offset=off) (he:s.ev x'=some d):
  (∀cells,d=.ptr cells->off<=cells.length->Good P E s a w o dst (.ptr (cells.drop off)) none)/\
  (∀k i j,d=.ref k i j->Good P E s a w o dst (.ref k i (j+off)) none):=by
 obtain⟨h1,h2⟩:=QH r hx he;subst G
 have run:∀B j,a.eval x=.pointer (some ⟨B,j,none⟩)->(execOp a.eval o).run P w=.ok (.value (.pointer (some ⟨B,j+f.offset,none⟩))) w:=λB j C=>by
  (repeat clear hK K);simp_all [execOp,Instr.fieldAt,underlying,Instr.sureAddr,fieldPlace,QM,add_lit]
 constructor;rintro cells rfl U;simp only[l6,z3,l3]at h1;obtain⟨B,j,C,hc⟩:=h1;refine Good.of r (run B j C) ?_ (Has.of_nil rfl);simp only[l6,z3,l3];refine⟨B,j+f.offset,rfl, ?_⟩;clear run C he h2 V T;generalize f.offset=n at U ⊢
 induction n generalizing cells j with
 |zero=>grind
 |succ n ih=>
  cases cells with
  |nil=>grind
  |cons c cs=>
   grind [a5]
 rintro k i j rfl;obtain⟨B,l0,M,Y,C⟩:=h1;exact Good.of r (run B _ C) ⟨B,l0,M,Y,by grind⟩ h2
theorem SG (r:Rel E g s a w) (ho:o.op=.indexAddr t x i) (hx:Qi x=some x') (hi:Qi i=some i')
 (hu:P.underlying t=some (.slice e)) (hs:YS P e=some l0) (he:s.ev x'=some d) (hn:s.ev i'=some (.int k n)) (h0:0<=n):
  (∀rows row,d=.sl rows\/d=.x7 rows->rows[n.toNat]?=some row->row.length=l0->Good P E s a w o dst (.ptr row) none)/\
  (∀j m b,d=.s4 j m->lk s.H j=some b->m=b.rows.length->n<m->b.l0=l0->Good P E s a w o dst (.ref j n.toNat 0) none):=by
 obtain⟨h1,h2⟩:=QH r hx he;have V:=(QH r hi hn).1;simp only[l6,z3,l3]at V
 have run:∀B off len cap,a.eval x=.slice (some ⟨B,off,none⟩) len cap->n<len->(execOp a.eval o).run P w=.ok (.value (.pointer (some ⟨B,off+n.toNat*l0,none⟩))) w:=λB off len cap O hl=>by
  have hs':(sizeOf e).run P w=.ok l0 w:=QM hs
  (repeat clear hK K);simp_all [execOp,Instr.indexAt,asIntOf,underlying,add_lit]
 constructor;intro rows row hd G hlen;have U:n.toNat<rows.length:=(QAm.1 G).1
 have key:∀T cap,a.eval x=.slice T rows.length cap->(rows=[]\/∃b off l0,T=some ⟨b,off,none⟩/\(∀r∈rows,r.length=l0)/\u5 g.K b off rows)->Good P E s a w o dst (.ptr row) none:=by
  intro T cap O hr;rcases hr with rfl |⟨b,off,C,rfl,hl,hr⟩
  grind
  have M:C=l0:=by grind
  subst M;refine Good.of r (run b off _ cap O Wa) ?_ (Has.of_nil rfl);simp only[l6,z3,l3];exact⟨b,_,rfl,Qck n.toNat hl hr G⟩
 rcases hd with rfl |rfl
 grind [l6,z3,l3]
 grind [l6,z3,l3]
 ·rintro j m b rfl hb hm U M;obtain⟨T,cap,O,hcap,hh⟩:=h1;rcases hh with⟨rfl,_⟩ |⟨B,C,hB,rfl,_⟩ |hg
  omega
  rotate_left
  obtain⟨_,_,Y⟩:=r.bx j b hb;rcases Y with⟨Y,_⟩ |⟨_,B',c,h6,_⟩
  grind
  exact(hg.no h6).elim
  have:C=l0:=by
   obtain⟨_,_,Y⟩:=r.bx j b hb
   grind
  subst this;refine Good.of r (run B _ _ cap O Wa) ⟨B,C,(g.σ j).2,.inl ⟨hB,rfl⟩,by simp⟩ ?_;trivial
theorem Lu {len:Nat} (r:Rel E g s a w) (ho:o.op=.indexAddr t x i) (hx:Qi x=some x') (hi:Qi i=some i')
 (hu:P.underlying t=some (.array len e)) (M:YS P e=some l0) (he:s.ev x'=some d) (U:s.ev i'=some (.int k n)) (h0:0<=n) (h1n:n<len):
  (∀cells,d=.ptr cells->n.toNat*l0<=cells.length->Good P E s a w o dst (.ptr (cells.drop (n.toNat*l0))) none)/\
  (∀j m off,d=.ref j m off->Good P E s a w o dst (.ref j m (off+n.toNat*l0)) none):=by
 obtain⟨h1,h2⟩:=QH r hx he;have G:=(QH r hi U).1;simp only[l6,z3,l3]at G
 have run:∀B off,a.eval x=.pointer (some ⟨B,off,none⟩)->(execOp a.eval o).run P w=.ok (.value (.pointer (some ⟨B,off+n.toNat*l0,none⟩))) w:=λB off C=>by
  have T:(sizeOf e).run P w=.ok l0 w:=QM M
  (repeat clear hK K);simp_all [execOp,Instr.indexAt,asIntOf,underlying,add_lit,Instr.sureAddr]
 constructor;rintro cells rfl V;simp only[l6,z3,l3]at h1;obtain⟨B,j,C,hc⟩:=h1;refine Good.of r (run B j C) ?_ (Has.of_nil rfl);simp only[l6,z3,l3];refine⟨B,j+n.toNat*l0,rfl, ?_⟩;clear run C he h2 M G;generalize n.toNat*l0=m at V ⊢
 induction m generalizing cells j with
 |zero=>grind
 |succ n ih=>
  cases cells with
  |nil=>grind
  |cons c cs=>
   grind [a5]
 rintro j m off rfl;obtain⟨B,bz,O,Y,C⟩:=h1;exact Good.of r (run B _ C) ⟨B,bz,O,Y,by grind⟩ h2
theorem Lw (r:Rel E g s a w) (ho:o.op=.nilCheck x) (hx:Qi x=some x') (he:s.ev x'=some d) (hd:(∃cs,d=.ptr cs)\/(∃k i j,d=.ref k i j)\/(∃f cs,d=.w8 f cs)\/∃f k ps,d=.r9 f k ps):
  Good P E s a w o dst d none:=by
 obtain⟨h1,h2⟩:=QH r hx he;refine Good.of r (v:=a.eval x) ?_ h1 h2;rcases hd with⟨cs,rfl⟩ |⟨k,i,j,rfl⟩ |⟨f,cs,rfl⟩ |⟨f,k,ps,rfl⟩
 simp only[l6,z3,l3]at h1;obtain⟨b,off,C,_⟩:=h1
 (repeat clear hK K);simp_all [execOp]
 obtain⟨B,l0,_,_,C⟩:=h1
 (repeat clear hK K);simp_all [execOp]
 obtain⟨G,C,_⟩:=h1
 (repeat clear hK K);simp_all [execOp]
 obtain⟨_,_,_,_,_,C,_⟩:=h1
 (repeat clear hK K);simp_all [execOp]
theorem Xr {K:Kn} {v:Value} (h:l3 K d v):d.ids=[]:=by
 cases d
 case agg cs=>
  simp only[l3]at h;obtain⟨vs,C,h2⟩:=h;simp only[D.ids]
  induction cs generalizing vs v with
  |nil=>rfl
  |cons c cs ih=>
   cases vs with
   |nil=>trivial
   |cons v vs=>
    simp only[x5]at h2;rw[QAi,ih (v:=.agg vs.toArray) vs rfl h2.2,QAj];cases c<;>first |rfl |(grind [l3])
 case w9 cs x=>
  simp only[l3]at h;obtain⟨vs,u,C,h2,G⟩:=h;simp only[D.ids];clear C
  induction cs generalizing vs with
  |nil=>rfl
  |cons c cs ih=>
   cases vs with
   |nil=>trivial
   |cons v vs=>
    simp only[x5]at h2;rw[QAi,ih vs h2.2,QAj];cases c<;>first |rfl |(grind [l3])
 case w8 f cs=>
  simp only[l3]at h;obtain⟨vs,_,h2⟩:=h;exact Px h2
 case s4=>trivial
 case y9=>trivial
 case ref=>trivial
 case r9=>trivial
 all_goals rfl
theorem Ck {n:Nat} (r:Rel E g s a w) (ho:o.op=.extract x n) (hx:Qi x=some x') (he:s.ev x'=some (.l7 ds)) (hd:ds[n]?=some d):
  Good P E s a w o dst d none:=by
 have h1:=(QH r hx he).1;simp only[l6,z3,l3]at h1;obtain⟨vs,M,G⟩:=h1
 have:∀{ds:List D} {vs:List Value} (n:Nat) {d:D},j5 g.K ds vs->ds[n]?=some d->∃v,vs[n]?=some v/\l3 g.K d v:=by
  intro ds
  induction ds with
  |nil=>simp
  |cons x xs ih=>
   intro vs n d h hd;cases vs with
   |nil=>trivial
   |cons v vs=>
    grind [j5]
 obtain⟨v,O,C⟩:=this n G hd;refine Good.of r (v:=v) (by simp_all [execOp,Instr.extract]) (l6.of C) ?_;intro k hk
 grind [Xr]
def QqU:D->Option (List D)
 | .l7 cs=>some cs
 | .w9 cs x=>some [.agg cs,x]
 |_=>none
theorem Ls {n:Nat} {p:D} (r:Rel E g s a w) (ho:o.op=.extract x n) (hx:Qi x=some x') (he:s.ev x'=some p) (hp:QqU p=some ds) (hd:ds[n]?=some d):
  Good P E s a w o dst d none:=by
 cases p<;>simp only[QqU,QzQ,reduceCtorEq]at hp
 grind [Ck]
 rename_i cs z;subst hp;obtain⟨h1,h2⟩:=QH r hx he;obtain⟨vs,u,O,M,G,C⟩:=h1
 match n,hd with
 |0,hd=>
  simp at hd;subst hd;exact Good.of r (v:=.agg vs.toArray) (by simp_all [execOp,Instr.extract]) ⟨vs,rfl,M,G⟩ λk hk=>h2 k hk
 |1,hd=>
  simp at hd;subst hd;exact Good.of r (v:=u) (by simp_all [execOp,Instr.extract]) (l6.of C) λk hk=>by grind [Xr]
 |n+2,hd=>grind
def Ju (op:BinOp) (k:IntKind) (x y:Int):Int:=
 match op with
 | .and=>k.wrap ((BitVec.ofInt k.bits x&&& BitVec.ofInt k.bits y).toNat:Int)
 | .or=>k.wrap ((BitVec.ofInt k.bits x|||BitVec.ofInt k.bits y).toNat:Int)
 | .xor=>k.wrap ((BitVec.ofInt k.bits x ^^^ BitVec.ofInt k.bits y).toNat:Int)
 |_=>k.wrap ((BitVec.ofInt k.bits x&&& ~~~ (BitVec.ofInt k.bits y)).toNat:Int)
def Qq6 (op:BinOp) (k:IntKind) (x y:Int) (d:D):Prop:=
 match op with
 | .add=>d=.int k (k.wrap (x+y))
 | .sub=>d=.int k (k.wrap (x - y))
 | .mul=>d=.int k (k.wrap (x*y))
 | .quo=>y≠0/\d=.int k (k.wrap (x.tdiv y))
 | .rem=>y≠0/\d=.int k (x.tmod y)
 | .and | .or | .xor | .andNot=>d=.int k (Ju op k x y)
 | .shl=>0<=y/\d=.int k (k.wrap (x*2 ^ min y.toNat k.bits))
 | .shr=>0<=y/\d=.int k (x.fdiv (2 ^ min y.toNat k.bits))
 | .eql=>d=.bool (decide (x=y))
 | .neq=>d=.bool (!decide (x=y))
 | .lss=>d=.bool (decide (x<y))
 | .leq=>d=.bool (decide (x<=y))
 | .gtr=>d=.bool (decide (y<x))
 | .geq=>d=.bool (decide (y<=x))
def Mi (op:BinOp):Bool:=match op with | .shl | .shr=>true |_=>false
theorem BS:(eqGuard op t x y (.int k m) (.int k' n)).run P w=.ok () w:=by
 cases op<;>rfl
theorem MC {m n:Bool}:(eqGuard op t x y (.bool m) (.bool n)).run P w=.ok () w:=by
 cases op<;>rfl
theorem BT {m n:ByteArray}:(eqGuard op t x y (.string m) (.string n)).run P w=.ok () w:=by
 cases op<;>rfl
theorem _root_.Wl {p:Prop} (h:p:=by rfl):p:=h
theorem Qig {u:TypeId} {y':n5} (r:Rel E g s a w) (ho:o.op=.binOp op t x y u) (hx:Qi x=some x') (M:Qi y=some y')
 (he:s.ev x'=some (.int k m)) (O:s.ev y'=some (.int k' n)) (hk:Mi op=true\/k=k') (hd:Qq6 op k m n d):Good P E s a w o dst d none:=by
 have h1:=(QH r hx he).1;have h2:=(QH r M O).1;simp only[l6,z3,l3]at h1 h2
 have run:∀v,(binOp op t (.int k m) (.int k' n)).run P w=.ok v w->(execOp a.eval o).run P w=.ok (.value v) w:=λv T=>by
  (repeat clear hK K);simp_all [execOp,BS]
 have C:∀z,d=.int k z->(binOp op t (.int k m) (.int k' n)).run P w=.ok (.int k z) w->Good P E s a w o dst d none:=λz hd hr=>by
  subst hd;exact Good.of r (run _ hr) (l6.of Wl) (Has.of_nil rfl)
 have G:∀z,d=.bool z->(binOp op t (.int k m) (.int k' n)).run P w=.ok (.bool z) w->Good P E s a w o dst d none:=λz hd hr=>by
  subst hd;exact Good.of r (run _ hr) (l6.of Wl) (Has.of_nil rfl)
 cases op
 case shl=>exact C _ hd.2 (by simp[binOp,Op.shift,Int.not_lt.2 hd.1])
 case shr=>exact C _ hd.2 (by simp[binOp,Op.shift,Int.not_lt.2 hd.1])
 all_goals
  have hk:k=k':=by grind [Mi]
  subst hk
 case quo=>exact C _ hd.2 (by simp[binOp,Op.intDiv,hd.1])
 case rem=>exact C _ hd.2 (by simp[binOp,Op.intDiv,hd.1])
 case add=>exact C _ hd (by simp[binOp,Op.intArith])
 case sub=>exact C _ hd (by simp[binOp,Op.intArith])
 case mul=>exact C _ hd (by simp[binOp,Op.intArith])
 case and=>exact C _ hd (by simp[binOp,Op.intBits,Ju])
 case or=>exact C _ hd (by simp[binOp,Op.intBits,Ju])
 case xor=>exact C _ hd (by simp[binOp,Op.intBits,Ju])
 case andNot=>exact C _ hd (by simp[binOp,Op.intBits,Ju])
 case eql=>exact G _ hd (by simp[binOp,Op.intCmp];rfl)
 case neq=>exact G _ hd (by simp[binOp,Op.intCmp];rfl)
 case lss=>exact G _ hd (by simp[binOp,Op.intCmp])
 case leq=>exact G _ hd (by simp[binOp,Op.intCmp])
 case gtr=>exact G _ hd (by simp[binOp,Op.intCmp])
 case geq=>exact G _ hd (by simp[binOp,Op.intCmp])
end
variable {b:Bool} {u:TypeId} {y':n5} {j:IntKind} {sz:Nat} {ts:Array TypeId}
section
variable {P:Program} {E:Env} {g:Gh} {s:St} {a:Act} {w:World} {o:Oper} {dst:Option Nat}
theorem Jv (r:Rel E g s a w) (hx:Qi x=some x') (he:s.ev x'=some (.int k n)):a.eval x=.int k n:=by
 have:=(QH r hx he).1;trivial
theorem Pa {n:Bool} (r:Rel E g s a w) (hx:Qi x=some x') (he:s.ev x'=some (.bool n)):a.eval x=.bool n:=by
 have:=(QH r hx he).1;trivial
theorem Dh {n:List UInt8} (r:Rel E g s a w) (hx:Qi x=some x') (he:s.ev x'=some (.str n)):a.eval x=.string ⟨n.toArray⟩:=by
 have:=(QH r hx he).1;trivial
theorem Good.int {k:IntKind} {n:Int} (r:Rel E g s a w) (h:(execOp a.eval o).run P w=.ok (.value (.int k n)) w):Good P E s a w o dst (.int k n) none:=
 Good.of r h (l6.of Wl) (Has.of_nil rfl)
theorem Good.bool {n:Bool} (r:Rel E g s a w) (h:(execOp a.eval o).run P w=.ok (.value (.bool n)) w):Good P E s a w o dst (.bool n) none:=
 Good.of r h (l6.of Wl) (Has.of_nil rfl)
theorem Good.str {n:List UInt8} (r:Rel E g s a w) (h:(execOp a.eval o).run P w=.ok (.value (.string ⟨n.toArray⟩)) w):Good P E s a w o dst (.str n) none:=
 Good.of r h (l6.of Wl) (Has.of_nil rfl)
theorem Cj {m n:Bool} (r:Rel E g s a w) (ho:o.op=.binOp op t x y u) (hx:Qi x=some x') (C:Qi y=some y')
 (he:s.ev x'=some (.bool m)) (G:s.ev y'=some (.bool n)) (hu:P.underlying t=some .bool):
  (op=.eql->Good P E s a w o dst (.bool (decide (m=n))) none)/\(op=.neq->Good P E s a w o dst (.bool (!decide (m=n))) none):=by
 have h1:=Pa r hx he;have h2:=Pa r C G;constructor;rintro rfl;refine Good.bool r ?_;simp[execOp,ho,h1,h2,MC,run_eql_bool w t m n hu];rfl;rintro rfl;refine Good.bool r ?_;simp[execOp,ho,h1,h2,MC,run_neq_bool w t m n hu];rfl
def Qq7 (op:BinOp) (x y:List UInt8) (d:D):Prop:=
 match op with
 | .add=>x.length+y.length<=9223372036854775807/\d=.str (x++y)
 | .eql=>d=.bool (decide (x=y))
 | .neq=>d=.bool (!decide (x=y))
 | .lss=>d=.bool (Op.bytesLess x y)
 | .leq=>d=.bool (Op.bytesLess x y||decide (x=y))
 | .gtr=>d=.bool (!(Op.bytesLess x y||decide (x=y)))
 | .geq=>d=.bool (!Op.bytesLess x y)
 |_=>False
theorem QeU {m n:List UInt8} (r:Rel E g s a w) (ho:o.op=.binOp op t x y u) (hx:Qi x=some x') (C:Qi y=some y')
 (he:s.ev x'=some (.str m)) (M:s.ev y'=some (.str n)) (hd:Qq7 op m n d):Good P E s a w o dst d none:=by
 have h1:=Dh r hx he;have h2:=Dh r C M
 have run:∀v,(Op.stringOp op ⟨m.toArray⟩ ⟨n.toArray⟩).run P w=.ok v w->(execOp a.eval o).run P w=.ok (.value v) w:=λv O=>by
  (repeat clear hK K);simp_all [binOp,execOp,BT]
 have G:(m==n)=decide (m=n):=by grind
 cases op<;>simp only[Qq7]at hd
 case add=>
  obtain⟨h0,rfl⟩:=hd;refine Good.str r (run _ ?_);have T:¬(9223372036854775807<((m.length:Int)+(n.length:Int))):=Wa;have e1:(ByteArray.mk m.toArray).size=m.length:=by rfl
  have e2:(ByteArray.mk n.toArray).size=n.length:=by rfl
  have e3:ByteArray.mk m.toArray++ByteArray.mk n.toArray=ByteArray.mk (m++n).toArray:=by
   rfl
  (repeat clear hK K);simp_all [Op.stringOp]
 all_goals
  subst hd;refine Good.bool r (run _ ?_);simp[Op.stringOp,G]
theorem QeV {op:UnOp} (r:Rel E g s a w) (ho:o.op=.unOp op t x) (hx:Qi x=some x'):
  (∀b,op=.not->s.ev x'=some (.bool b)->Good P E s a w o dst (.bool (!b)) none)/\
  (∀k n,op=.neg->s.ev x'=some (.int k n)->Good P E s a w o dst (.int k (k.wrap (0 - n))) none):=by
 constructor;rintro b rfl he;exact Good.bool r (by simp[execOp,ho,Pa r hx he,Op.unary]);rintro k n rfl he;exact Good.int r (by simp[execOp,ho,Jv r hx he,Op.unary,Op.intArith])
theorem QeM {b:TypeDesc} (r:Rel E g s a w) (ho:o.op=.convert t u x) (hx:Qi x=some x')
 (C:P.underlying t=some b) (hu:P.underlying u=some (.int k)) (he:s.ev x'=some (.int j n)):Good P E s a w o dst (.int k (k.wrap n)) none:=by
 refine Good.int r ?_;simp[execOp,ho,Jv r hx he,convert,underlying,C,hu,Conv.intToInt]
theorem Qbm (r:Rel E g s a w) (ho:o.op=.call {callee:=.builtin .len,args:=#[x],argTypes:=ts}) (hx:Qi x=some x') (M:ts[0]?=some t) (he:s.ev x'=some d):
  (∀rows e,P.underlying t=some (.slice e)->d=.sl rows\/d=.x7 rows->Good P E s a w o dst (.int .i64 rows.length) none)/\
  (∀k n e,P.underlying t=some (.slice e)->d=.s4 k n->Good P E s a w o dst (.int .i64 n) none)/\
  (∀l,P.underlying t=some .string->d=.str l->Good P E s a w o dst (.int .i64 l.length) none):=by
 have h1:=(QH r hx he).1
 have run:∀v n,a.eval x=v->(Builtin.len_ ts o.type #[v]).run P w=.ok (.int .i64 n) w->(execOp a.eval o).run P w=.ok (.value (.int .i64 n)) w:=λv n C h=>by
  (repeat clear hK K);simp_all [execOp,resolve,invoke,builtin]
 refine⟨?_, ?_, ?_⟩;intro rows e hu hd
 have:∃G cap,a.eval x=.slice G rows.length cap:=by
  rcases hd with rfl |rfl
  grind [l6,z3,l3]
  grind [l6,z3,l3]
 obtain⟨G,cap,C⟩:=this;exact Good.int r (run _ _ C (by simp_all [Builtin.len_,underlying,goInt]));rintro k n e hu rfl;obtain⟨G,cap,C,_⟩:=h1;exact Good.int r (run _ _ C (by simp_all [Builtin.len_,underlying,goInt]));rintro l hu rfl;simp only[l6,z3,l3]at h1;have e1:(ByteArray.mk l.toArray).size=l.length:=by rfl
 exact Good.int r (run _ _ h1 (by simp_all [Builtin.len_,underlying,goInt]))
theorem Qif {rows:List (List D)} (r:Rel E g s a w) (ho:o.op=.call {callee:=.builtin .cap,args:=#[x],argTypes:=ts}) (hx:Qi x=some x') (G:ts[0]?=some t) (hu:P.underlying t=some (.slice e)) (he:s.ev x'=some (.x7 rows)):
  Good P E s a w o dst (.int .i64 rows.length) none:=by
 have h1:=(QH r hx he).1
 have run:∀v n,a.eval x=v->(Builtin.cap_ ts o.type #[v]).run P w=.ok (.int .i64 n) w->(execOp a.eval o).run P w=.ok (.value (.int .i64 n)) w:=λv n C h=>by
  (repeat clear hK K);simp_all [execOp,resolve,invoke,builtin]
 simp only[l6,z3,l3]at h1;obtain⟨M,C,_⟩:=h1;exact Good.int r (run _ _ C (by simp_all [Builtin.cap_,underlying,goInt]))
theorem Qii (r:Rel E g s a w) (ho:o.op=.call {callee:=.builtin .min,args:=#[x,y],argTypes:=ts}) (hx:Qi x=some x') (C:Qi y=some y')
 (he:s.ev x'=some (.int k m)) (G:s.ev y'=some (.int j n)):Good P E s a w o dst (.int k (min m n)) none:=by
 refine Good.int r ?_;have:(if n<m then n else m)=min m n:=Wa;simp[execOp,ho,resolve,invoke,builtin,Jv r hx he,Jv r C G,run_min_int2,this]
theorem Qih (r:Rel E g s a w) (ho:o.op=.call {callee:=.builtin .max,args:=#[x,y],argTypes:=ts}) (hx:Qi x=some x') (C:Qi y=some y')
 (he:s.ev x'=some (.int k m)) (G:s.ev y'=some (.int j n)):Good P E s a w o dst (.int k (max m n)) none:=by
 refine Good.int r ?_;have:(if n>m then n else m)=max m n:=Wa;simp[execOp,ho,resolve,invoke,builtin,Jv r hx he,Jv r C G,run_max_int2,this]
theorem Lv {l:List UInt8} {c:UInt8} (r:Rel E g s a w) (ho:o.op=.index t x i) (hx:Qi x=some x') (hi:Qi i=some i')
 (hu:P.underlying t=some .string) (he:s.ev x'=some (.str l)) (G:s.ev i'=some (.int k n)) (h0:0<=n) (T:l[n.toNat]?=some c):Good P E s a w o dst (.int .u8 c.toNat) none:=by
 refine Good.int r ?_
 have O:(ByteArray.mk l.toArray)[n.toNat]?=some c:=by
  have M:=(QAm.1 T).1;have C:n.toNat<(ByteArray.mk l.toArray).size:=by trivial
  rw[ByteArray.getElem?_lt' _ _ C];have:(ByteArray.mk l.toArray)[n.toNat]=l[n.toNat]:=rfl
  grind
 simp[execOp,ho,Instr.index,Dh r hx he,Jv r hi G,asIntOf,underlying,hu,h0,O]
theorem Qc1 {n off:Nat} {fields:Array Field} {f:Field} {cells:List D} (r:Rel E g s a w) (ho:o.op=.field t x n) (hx:Qi x=some x')
 (hu:P.underlying t=some (.struct fields)) (hf:fields[n]?=some f) (hs:YS P f.type=some sz) (hb:Bf P f.type=some b) (M:f.offset=off) (he:s.ev x'=some (.agg cells))
 (hd:if b then off+sz<=cells.length/\d=.agg ((cells.drop off).take sz)else cells[off]?=some d):Good P E s a w o dst d none:=by
 obtain⟨⟨cs,hv,V,Y⟩,O⟩:=QH r hx he;subst M;cases b with
 |false=>
  simp only[QzV,if_false]at hd
  have:∀{ds:List D} {vs:List Value} (n:Nat) {d:D},x4 g ds vs->ds[n]?=some d->∃v,vs[n]?=some v/\z3 g d v:=by
   intro ds
   induction ds with
   |nil=>simp
   |cons x xs ih=>
    intro vs n d h hd;cases vs with
    |nil=>trivial
    |cons v vs=>
     cases n with
     |zero=>simp at hd;subst hd;exact⟨v,by simp,h.1⟩
     |succ n=>simpa using ih n h.2 Wb
  obtain⟨v,h3,h4⟩:=this _ V hd;have T:=Y d (QAg hd);refine Good.of r (v:=v) ?_ (h4.td T) (Nj h4 T λk hk=>O k (QzU.2 ⟨d,QAg hd,hk⟩))
  (repeat clear hK K);simp_all [execOp,Instr.field,underlying,part,ZC,asAgg]
 |true=>
  simp only[if_true]at hd;obtain⟨hle,rfl⟩:=hd
  have G:∀{ds:List D} {vs:List Value} (n:Nat),x4 g ds vs->x4 g (ds.drop n) (vs.drop n):=by
   intro ds
   induction ds with
   |nil=>intro vs n h;cases vs with
    |nil=>grind
    |cons=>trivial
   |cons x xs ih=>
    intro vs n h;cases vs with
    |nil=>trivial
    |cons v vs=>cases n with
     |zero=>exact h
     |succ n=>exact ih n h.2
  have C:∀{ds:List D} {vs:List Value} (n:Nat),x4 g ds vs->x4 g (ds.take n) (vs.take n):=by
   intro ds
   induction ds with
   |nil=>intro vs n h;cases vs with
    |nil=>grind
    |cons=>trivial
   |cons x xs ih=>
    intro vs n h;cases vs with
    |nil=>trivial
    |cons v vs=>cases n with
     |zero=>trivial
     |succ n=>exact⟨h.1,ih n h.2⟩
  refine Good.of r (v:=.agg ((cs.drop f.offset).take sz).toArray) ?_ ⟨_,rfl,C sz (G f.offset V),λy U=>Y y (QAh (Qz7 U))⟩ ?_
  (repeat clear hK K);simp_all [execOp,Instr.field,underlying,part,ZC,asAgg,QM]
  intro k hk;simp only[D.ids]at hk;obtain⟨y,U,hk⟩:=QzU.1 hk;exact O k (QzU.2 ⟨y,QAh (Qz7 U),hk⟩)
theorem Lt {len:Nat} {cells:List D} (r:Rel E g s a w) (ho:o.op=.index t x i) (hx:Qi x=some x') (hi:Qi i=some i')
 (hu:P.underlying t=some (.array len e)) (hs:YS P e=some sz) (hb:Bf P e=some b) (he:s.ev x'=some (.agg cells)) (hn:s.ev i'=some (.int k n)) (h0:0<=n) (h1n:n<len)
 (hd:if b then n.toNat*sz+sz<=cells.length/\d=.agg ((cells.drop (n.toNat*sz)).take sz)else cells[n.toNat*sz]?=some d):Good P E s a w o dst d none:=by
 obtain⟨⟨cs,hv,V,Y⟩,M⟩:=QH r hx he;have U:=(QH r hi hn).1;simp only[l6,z3,l3]at U;cases b with
 |false=>
  simp only[QzV,if_false]at hd
  have:∀{ds:List D} {vs:List Value} (n:Nat) {d:D},x4 g ds vs->ds[n]?=some d->∃v,vs[n]?=some v/\z3 g d v:=by
   intro ds
   induction ds with
   |nil=>simp
   |cons x xs ih=>
    intro vs n d h hd;cases vs with
    |nil=>trivial
    |cons v vs=>
     cases n with
     |zero=>simp at hd;subst hd;exact⟨v,by simp,h.1⟩
     |succ n=>simpa using ih n h.2 Wb
  obtain⟨v,h3,h4⟩:=this _ V hd;have O:=Y d (QAg hd);refine Good.of r (v:=v) ?_ (h4.td O) (Nj h4 O λk hk=>M k (QzU.2 ⟨d,QAg hd,hk⟩))
  (repeat clear hK K);simp_all [execOp,Instr.index,underlying,part,ZC,QM,asIntOf]
 |true=>
  simp only[if_true]at hd;obtain⟨hle,rfl⟩:=hd
  have G:∀{ds:List D} {vs:List Value} (n:Nat),x4 g ds vs->x4 g (ds.drop n) (vs.drop n):=by
   intro ds
   induction ds with
   |nil=>intro vs n h;cases vs with
    |nil=>grind
    |cons=>trivial
   |cons x xs ih=>
    intro vs n h;cases vs with
    |nil=>trivial
    |cons v vs=>cases n with
     |zero=>exact h
     |succ n=>exact ih n h.2
  have C:∀{ds:List D} {vs:List Value} (n:Nat),x4 g ds vs->x4 g (ds.take n) (vs.take n):=by
   intro ds
   induction ds with
   |nil=>intro vs n h;cases vs with
    |nil=>grind
    |cons=>trivial
   |cons x xs ih=>
    intro vs n h;cases vs with
    |nil=>trivial
    |cons v vs=>cases n with
     |zero=>trivial
     |succ n=>exact⟨h.1,ih n h.2⟩
  refine Good.of r (v:=.agg ((cs.drop (n.toNat*sz)).take sz).toArray) ?_ ⟨_,rfl,C sz (G _ V),λy T=>Y y (QAh (Qz7 T))⟩ ?_
  (repeat clear hK K);simp_all [execOp,Instr.index,underlying,part,ZC,QM,asIntOf]
  intro k hk;simp only[D.ids]at hk;obtain⟨y,T,hk⟩:=QzU.1 hk;exact M k (QzU.2 ⟨y,QAh (Qz7 T),hk⟩)
end
section
variable {P:Program} {E:Env} {g:Gh} {s:St} {a:Act} {w:World} {o:Oper} {dst:Option Nat}
theorem Rm (off:Nat):∀(vs:List Value) (j:Nat) (cells:Array Value) (pre C post:List Value),cells.toList=pre++C++post->pre.length=off+j->C.length=vs.length->
  ((vs.zipIdx j).foldl (λcs (p:Value × Nat)=>cs.setIfInBounds (off+p.2) p.1) cells).toList=pre++vs++post
 |[],j,cells,pre,C,post,h,_,hm=>by
  (repeat clear hK K);simp_all
 |v::vs,j,cells,pre,[],post,_,_,hm=>by grind
 |v::vs,j,cells,pre,m::C,post,h,hp,hm=>by
  simp only[List.zipIdx_cons,List.foldl_cons];rw[Rm off vs (j+1) (cells.setIfInBounds (off+j) v) (pre++[v]) C post ?_ Wb Wb];simp
  (repeat clear hK K);simp_all
theorem Qic (off:Nat) (vs:List Value) (j:Nat) (cells:Array Value) (h:off+j+vs.length<=cells.size):
  ((vs.zipIdx j).foldl (λcs (p:Value × Nat)=>cs.setIfInBounds (off+p.2) p.1) cells).toList=cells.toList.take (off+j)++vs++cells.toList.drop (off+j+vs.length):=by
 refine Rm off vs j cells _ ((cells.toList.drop (off+j)).take vs.length) _ ?_ Wb Wb
 grind [List.drop_drop,List.take_append_drop]
def Rj:List D->List (Nat × Nat × D)->Option (List D)
 |ds,[]=>some ds
 |ds,(off,size,d)::r=>
  match d.cells with
  |some cs=>if cs.length=size/\off+size<=ds.length then Rj (ds.take off++cs++ds.drop (off+size)) r else none
  |none=>none
theorem x4.append:∀{xs ys:List D} {us vs:List Value},x4 g xs us->x4 g ys vs->x4 g (xs++ys) (us++vs)
 |[],_,[],_,_,h=>h
 |_::_,_,_::_,_,h,h'=>⟨h.1,x4.append h.2 h'⟩
 |[],_,_::_,_,h,_=>h.elim
 |_::_,_,[],_,h,_=>h.elim
theorem x4.drop:∀{ds:List D} {vs:List Value} (n:Nat),x4 g ds vs->x4 g (ds.drop n) (vs.drop n)
 |[],[],n,h=>by grind
 |_::_,_::_,0,h=>h
 |_::_,_::_,n+1,h=>x4.drop n h.2
 |[],_::_,_,h=>h.elim
 |_::_,[],_,h=>h.elim
theorem x4.take:∀{ds:List D} {vs:List Value} (n:Nat),x4 g ds vs->x4 g (ds.take n) (vs.take n)
 |[],[],n,h=>by grind
 |_::_,_::_,0,_=>trivial
 |_::_,_::_,n+1,h=>⟨h.1,x4.take n h.2⟩
 |[],_::_,_,h=>h.elim
 |_::_,[],_,h=>h.elim
def Y1 (s:St):List (Nat × Nat × n5)->Option (List (Nat × Nat × D))
 |[]=>some []
 |(off,size,x)::r=>match s.ev x,Y1 s r with
  |some d,some ds=>some ((off,size,d)::ds)
  |_,_=>none
def LY (P:Program) (t:TypeId):Option (Nat->Option (Nat × Nat)):=
 match P.underlying t with
 |some (.array _ e)=>match P.info? e with
  |some ie=>some λi=>some (i*ie.size,ie.size)
  |none=>none
 |some (.struct fields)=>match fields.toList.mapM (λf=>(P.info? f.type).map λi=>(f.offset,i.size))with
  |some places=>some λi=>places.toArray[i]?
  |none=>none
 |_=>none
def Xb (place:Nat->Option (Nat × Nat)):List (Nat × Operand)->Option (List (Nat × Nat × n5))
 |[]=>some []
 |(i,x)::r=>match place i,Qi x,Xb place r with
  |some (off,size),some x',some r'=>some ((off,size,x')::r')
  |_,_,_=>none
theorem S9 (r:Rel E g s a w) (place:Nat->Option (Nat × Nat)):∀(ps:List (Nat × Operand)) (G:List (Nat × Nat × n5)) (V:List (Nat × Nat × D)) (cells:Array Value) (ds ds':List D),
  Xb place ps=some G->Y1 s G=some V->x4 g ds cells.toList->(∀d∈ds,d.y4=true/\∀k∈d.l4,(lk s.H k).isSome=true)->Rj ds V=some ds'->
  ∃C,Instr.fill place cells (ps.map λ(i,x)=>(i,a.eval x))=some C/\x4 g ds' C.toList/\(∀d∈ds',d.y4=true/\∀k∈d.l4,(lk s.H k).isSome=true)
 |[],G,V,cells,ds,ds',h1,h2,h3,h4,O=>by
  simp only[Xb,QzQ]at h1;subst h1;simp only[Y1,QzQ]at h2;subst h2;simp only[Rj,QzQ]at O;subst O;exact⟨cells,rfl,h3,h4⟩
 |(i,x)::ps,G,V,cells,ds,ds',h1,h2,h3,h4,O=>by
  simp only[Xb]at h1;split at h1;rename_i off size x' r' e1 e2 e3;cases h1
  simp only[Y1]at h2;split at h2;rename_i d ds0 f1 f2;cases h2
  simp only[Rj]at O;split at O;rename_i cs U;split at O;rename_i hlen;obtain⟨g1,g2⟩:=QH r e2 f1;obtain⟨vs,k1,k2,k3,_⟩:=F6 U g1;have hvl:vs.length=size:=by rw[k2.len];omega
  have hcl:cells.toList.length=ds.length:=h3.len
  have hsid:∀y∈cs,∀k∈y.l4,(lk s.H k).isSome=true:=by
   intro y Y k hk;exact g2 k (F7 U y Y k hk)
  have M:((a.eval x).cells.zipIdx.foldl (λcs (p:Value × Nat)=>cs.setIfInBounds (off+p.2) p.1) cells).toList=cells.toList.take off++vs++cells.toList.drop (off+size):=by
   (repeat clear hK K);simp_all [Qic]
  have T:x4 g (ds.take off++cs++ds.drop (off+size)) ((a.eval x).cells.zipIdx.foldl (λcs (p:Value × Nat)=>cs.setIfInBounds (off+p.2) p.1) cells).toList:=by
   rw[M];exact((h3.take off).append k2).append (h3.drop (off+size))
  obtain⟨C,m1,m2,m3⟩:=S9 r place ps r' ds0 _ _ ds' e3 f2 T (λy Y=>by
   grind) O
  refine⟨C, ?_,m2,m3⟩;have hsz:(a.eval x).cells.size=size:=by grind
  (repeat clear hK K);simp_all [Instr.fill]
  grind
  grind
  grind
  grind
theorem Qc0 {t:TypeId} {parts:Array (Nat × Operand)} {parts':List (Nat × Nat × n5)} {place:Nat->Option (Nat × Nat)} {zero ds':List D} {M:List (Nat × Nat × D)} (r:Rel E g s a w) (ho:o.op=.build t parts)
 (Y:Gy P t=some zero) (hp:LY P t=some place) (O:Xb place parts.toList=some parts') (he:Y1 s parts'=some M) (hf:Rj zero M=some ds'):Good P E s a w o dst (.agg ds') none:=by
 obtain⟨it,z,hi,V,h1,h2⟩:=YR Y g.K;obtain⟨h3,h4⟩:=x4.sa (g:=g) h1;obtain⟨C,m1,U,T⟩:=S9 r place parts.toList parts' M z.cells zero ds' O he h3 (λd hd=>⟨h4 d hd,λk hk=>by grind⟩) hf
 have G:P.built t (parts.map λ(i,x)=>(i,a.eval x)).toList=some C:=by
  rw[QAo];unfold LY at hp;unfold Program.built
  grind
 refine Good.of r (v:=.agg C) ?_ ⟨C.toList,by simp,U,λd hd=>(T d hd).1⟩ ?_
 (repeat clear hK K);simp_all [execOp,run_build]
 intro k hk;simp only[D.ids]at hk
 grind
end
variable {n:Nat} {pr:Bool} {rows:List (List D)}
section
variable {P:Program} {E:Env} {g:Gh} {s:St} {a:Act} {w:World} {o:Oper} {dst:Option Nat}
theorem F5 {c:Array Value}:∀{off:Nat} {ds:List D},(∀j d,ds[j]?=some d->d.y4=true/\∃x,c[off+j]?=some x/\z3 g d x)->z4 g c off ds
 |_,[],_=>by trivial
 |off,d::ds,h=>by
  simp only[z4];refine⟨by simpa using h 0 d Wc,F5 λj d' hd=>?_⟩;have:=h (j+1) d' Wb
  grind
theorem Qch {c:Array Value} {l0:Nat}:∀{off:Nat} {rows:List (List D)},(∀r∈rows,r.length=l0)->(∀i row,rows[i]?=some row->z4 g c (off+i*l0) row)->l5 g c off rows
 |_,[],_,_=>by trivial
 |off,r::rs,hl,h=>by
  simp only[l5];refine⟨by simpa using h 0 r Wc, ?_⟩;rw[hl r Wc];refine Qch (λr hr=>hl r Wb) λi row hi=>?_;have:=h (i+1) row Wb
  grind
theorem KG {c:Array Value} {post:List Value}:∀(pre:List Value) (rows:List (List D)) (vs:List Value),x4 g rows.flatten vs->(∀r∈rows,∀d∈r,d.y4=true)->c=(pre++vs++post).toArray->l5 g c pre.length rows
 |_,[],_,_,_,_=>by trivial
 |pre,r::rs,vs,h,hc,e=>by
  simp only[l5];rw[QAp]at h;have h1:=h.take r.length;have h2:=h.drop r.length;rw[List.take_left' rfl]at h1;rw[List.drop_left' rfl]at h2;have C:=h1.len;constructor;refine F5 λj d hd=>⟨hc r Wc d (QAg hd), ?_⟩
  have:∀{ds:List D} {vs:List Value} (n:Nat) {d:D},x4 g ds vs->ds[n]?=some d->∃v,vs[n]?=some v/\z3 g d v:=by
   intro ds
   induction ds with
   |nil=>simp
   |cons x xs ih=>
    intro vs n d h hd;cases vs with
    |nil=>trivial
    |cons v vs=>
     cases n with
     |zero=>simp at hd;subst hd;exact⟨v,by simp,h.1⟩
     |succ n=>simpa using ih n h.2 Wb
  grind
  have:=KG (c:=c) (post:=post) (pre++vs.take r.length) rs (vs.drop r.length) h2 (λr hr=>hc r Wb) Wb
  grind
theorem J6 {B:Nat}:∀{off:Nat} {xs ys:List D},s5 g w B off xs->s5 g w B (off+xs.length) ys->s5 g w B off (xs++ys)
 |_,[],_,_,h=>h
 |off,x::xs,ys,h,h'=>by
  have C:=J6 h.tail (by rw[show off+1+xs.length=off+(x::xs).length by grind];exact h')
  obtain⟨cs,h1,h2,M,G⟩:=h;cases cs with
  |nil=>grind
  |cons c cs=>exact s5.cons (M x Wc) (G 0 c Wc) h2.1 C
theorem X4 (hk:x9 g.K w) (B:Nat):∀(off:Nat) (rows:List (List D)),u5 g.K B off rows->s5 g w B off rows.flatten
 |off,[],_=>s5.nil B off
 |off,r::rs,h=>by
  simp only[u5]at h;exact J6 (PY hk B off r h.1) (X4 hk B _ rs h.2)
theorem KO {B:Nat} {c:Array Value} {e:TypeId} {f:Nat × Nat} (h:w.heap[B]?=some (.cells c e f)):∀(off:Nat) (rows:List (List D)),l5 g c off rows->s5 g w B off rows.flatten
 |off,[],_=>s5.nil B off
 |off,r::rs,hc=>by
  simp only[l5]at hc;exact J6 (PX h off r hc.1) (KO h _ rs hc.2)
theorem RT {K:Kn} {b:Nat}:∀{off:Nat} {ds:List D},a5 K b off ds->∀d∈ds,d.l4=[]
 |_,[],_,d,hd=>by grind
 |off,x::xs,h,d,hd=>by
  simp only[a5]at h;cases hd with
  |head=>obtain⟨⟨_,y,_,C⟩,_⟩:=h;cases x<;>first |rfl |(trivial)
  |tail _ hm=>exact RT h.2 d hm
theorem Je {K:Kn} {b:Nat}:∀{off:Nat} {rows:List (List D)},u5 K b off rows->∀r∈rows,∀d∈r,d.l4=[]
 |_,[],_,r,hr,_,_=>by grind
 |off,x::xs,h,r,hr,d,hd=>by
  simp only[u5]at h;cases hr with
  |head=>grind [RT]
  |tail _ hm=>exact Je h.2 r hm d hd
def St.src (s:St) (l0:Nat) (d:D) (rows:List (List D)) (pr:Bool):Prop:=
 match d with
 | .sl rs=>rows=rs/\(∀r∈rs,r.length=l0)/\pr=true
 | .x7 rs=>rows=rs/\(∀r∈rs,r.length=l0)/\pr=true
 | .s4 k n=>∃b,lk s.H k=some b/\n=b.rows.length/\b.l0=l0/\rows=b.rows/\pr=b.pr
 |_=>False
theorem NO (r:Rel E g s a w) {v:Value} (O:l6 g d v) (h:s.src l0 d rows pr):
  ∃T cap,v=.slice T rows.length cap/\rows.length<=cap/\(rows=[]\/∃B off,T=some ⟨B,off,none⟩/\s5 g w B off rows.flatten)/\(∀r∈rows,r.length=l0)/\
   (∀r∈rows,∀d∈r,∀k∈d.l4,(lk s.H k).isSome=true)/\(pr=true->∀r∈rows,∀d∈r,d.l4=[])/\(∀r∈rows,∀d∈r,d.y4=true):=by
 have cellsOf:∀{B off:Nat},s5 g w B off rows.flatten->∀r∈rows,∀d∈r,d.y4=true:=λ⟨_,_,_,M,_⟩ r hr d hd=>M d (List.mem_flatten.2 ⟨r,hr,hd⟩);cases d<;>simp only[St.src]at h
 case sl rs=>
  obtain⟨rfl,h1,rfl⟩:=h;simp only[l6,z3,l3]at O;obtain⟨T,cap,rfl,h2,M⟩:=O;rcases M with rfl |⟨b,off,e,rfl,Y,G⟩
  simp;have C:=X4 r.kr b off rows G;exact⟨_,cap,rfl,h2,.inr ⟨b,off,rfl,C⟩,h1,(λr0 hr d hd k hk=>by grind [Je]),λ_=>Je G,cellsOf C⟩
 case x7 rs=>
  obtain⟨rfl,h1,rfl⟩:=h;simp only[l6,z3,l3]at O;obtain⟨T,rfl,M⟩:=O;rcases M with rfl |⟨b,off,e,rfl,Y,G⟩
  simp;have C:=X4 r.kr b off rows G;exact⟨_,_,rfl,QAe _,.inr ⟨b,off,rfl,C⟩,h1,(λr0 hr d hd k hk=>by grind [Je]),λ_=>Je G,cellsOf C⟩
 case s4 k n=>
  obtain⟨b,h1,rfl,rfl,rfl,rfl⟩:=h;obtain⟨T,cap,rfl,h2,M⟩:=O;obtain⟨Y,G,V⟩:=r.bx k b h1;rcases M with⟨h0,_⟩ |⟨B,l0,hB,rfl,_⟩ |hg
  grind
  rotate_left
  rcases V with⟨V,_⟩ |⟨_,B',c,U,_⟩
  grind
  exact(hg.no U).elim;rcases V with⟨V,_⟩ |⟨_,B',c,U,h8,_,h9,_⟩
  grind
  rw[hB]at U;cases U;have C:=KO h8 _ b.rows h9;exact⟨_,cap,rfl,h2,.inr ⟨B,_,rfl,C⟩,Y,r.ua k b h1,G,cellsOf C⟩
theorem X6 {t:Nat} {post:List Value} {cap:Nat} (hw:w'.heap=w.heap) (r:Rel E g s a w) (M:dst=some t) (V:lk s.H t=none) (hlen:n=rows.length) (h:x4 g rows.flatten vs)
 (hl:∀r∈rows,r.length=l0) (hc:∀r∈rows,∀d∈r,d.y4=true) (T:∀r∈rows,∀d∈r,∀k∈d.l4,(lk s.H k).isSome=true) (O:pr=true->∀r∈rows,∀d∈r,d.l4=[])
 (G:n<=cap) (hcs:n≠0->cap*l0<=(vs++post).length) (h0:n=0->cap=0)
 (C:(execOp a.eval o).run P w=.ok (.value (.slice (some ⟨w.heap.size,0,none⟩) n cap)) (w'.alloc (.cells (vs++post).toArray et))) (U:z7 w w':=by exact⟨rfl,rfl,rfl⟩):
  Good P E s a w o dst (.s4 t n) (some ⟨rows,l0,et,pr⟩):=by
 subst M;subst hlen;have r0:=r.heap hw U;have hsz:w'.heap.size=w.heap.size:=by rw[hw]
 by_cases he:rows=[]
 subst he
 have r1:Rel E g s a (w'.alloc (.cells (vs++post).toArray et)):=r0.move (λ_ _=>rfl) (λ_ _=>⟨rfl,rfl⟩)
  (λi o x e=>by
   obtain⟨c',e',f,h1,h2⟩:=r0.kr i o x e
   grind [heap_alloc_old])
  (λb hb=>heap_alloc_old w' _ b hb) Wc
 obtain⟨g',h1,h2,Y⟩:=r1.v9 (t:=t) (l0:=l0) (et:=et) pr V;refine⟨_,_,g',C,Y,⟨_,cap,rfl,G,.inl ⟨rfl,h0 rfl⟩⟩,λk hk=>?_⟩
 grind [D.ids,D.l4,St.s6,Qe]
 obtain⟨g',h1,h2,h3,h4,r'⟩:=r0.alloc (t:=t) (b:=⟨rows,l0,et,pr⟩) (c:=(vs++post).toArray) V hl O (.inl he)
  (KG (post:=post) [] rows vs h hc Wc) T
 have hn0:rows.length≠0:=λh=>he (QAq h);refine⟨_,_,g',C,r',⟨_,cap,rfl,G,.inr (.inl ⟨w.heap.size,l0,by grind,by rw[h3],by grind⟩)⟩,λk hk=>?_⟩
 grind [D.ids,D.l4,St.s6,Qe]
theorem QiL (h:d.l4=[]):d.own=false:=by cases d<;>first |rfl |(trivial)
theorem S0 {K':Kn} {B:Nat} {c:Array Value} (hle:g.K.le K') (C:∀o x,c[o]?=some x->K' B o=some x):∀{off:Nat} {ds:List D},z4 g c off ds->(∀d∈ds,d.l4=[])->a5 K' B off ds
 |_,[],_,_=>by trivial
 |off,d::ds,h,hs=>by
  simp only[z4]at h;simp only[a5];obtain⟨⟨h1,x,h2,M⟩,G⟩:=h;exact⟨⟨h1,x,C _ _ h2,l3.mono hle _ _ (M.mc (QiL (hs d Wc)))⟩,S0 hle C G λy O=>hs y Wb⟩
theorem C7 {K':Kn} {B:Nat} {c:Array Value} (hle:g.K.le K') (C:∀o x,c[o]?=some x->K' B o=some x):∀{off:Nat} {rs:List (List D)},l5 g c off rs->(∀r∈rs,∀d∈r,d.l4=[])->u5 K' B off rs
 |_,[],_,_=>by trivial
 |off,r::rs,h,hs=>by
  simp only[l5]at h;simp only[u5];exact⟨S0 hle C h.1 (hs r Wc),C7 hle C h.2 λy G=>hs y Wb⟩
theorem SJ (hw:w'.heap=w.heap) (r:Rel E g s a w) (hlen:n=rows.length) (h:x4 g rows.flatten vs)
 (V:∀r∈rows,r.length=l0) (Y:∀r∈rows,∀d∈r,d.y4=true) (M:∀r∈rows,∀d∈r,d.l4=[])
 (C:(execOp a.eval o).run P w=.ok (.value (.slice (some ⟨w.heap.size,0,none⟩) n n)) (w'.alloc (.cells (vs++[]).toArray et))) (O:z7 w w':=by exact⟨rfl,rfl,rfl⟩):
  Good P E s a w o dst (.x7 rows) none:=by
 subst hlen;have r0:=r.heap hw O;have U:w'.heap.size=w.heap.size:=by rw[hw]
 let K':Kn:=λb o=>if b=w.heap.size then(vs++[]).toArray[o]? else g.K b o
 have hle:g.K.le K':=λb o x hx=>by
  have:=r.kr.lt hx
  grind
 have T:Rel E {g with K:=K'} s a (w'.alloc (.cells (vs++[]).toArray et)):=r0.move (λb hb=>by grind) (λ_ _=>⟨rfl,rfl⟩)
  (λi o x e=>by
   simp only[K']at e;split at e
   grind [heap_alloc_new]
   obtain⟨c',e',f,h1,h2⟩:=r0.kr i o x e
   grind [heap_alloc_old])
  (λb hb=>heap_alloc_old w' _ b hb) Wc
 have G:l3 K' (.x7 rows) (.slice (some ⟨w.heap.size,0,none⟩) rows.length rows.length):=by
  simp only[l3];refine⟨_,rfl,.inr ⟨w.heap.size,0,l0,rfl,V, ?_⟩⟩;exact C7 (g:=g) (c:=(vs++[]).toArray) hle (λo x hx=>(if_pos rfl).trans hx) (KG (post:=[]) [] rows vs h Y Wc) M
 refine⟨_,_,{g with K:=K'},C,by cases dst<;>exact T,l6.of G,Has.of_nil rfl⟩
end
variable {e:Nat} {parts':List n5} {st:TypeId}
section
variable {P:Program} {E:Env} {g:Gh} {s:St} {a:Act} {w:World} {o:Oper} {dst:Option Nat}
def Yz (s:St) (l0:Nat):List n5->Option (List (List D))
 |[]=>some []
 |x::r=>match s.ev x,Yz s l0 r with
  |some d,some ds=>match d.cells with
   |some cs=>if cs.length=l0 then some (cs::ds)else none
   |none=>none
  |_,_=>none
def Yn:Nat->List (Nat × Operand)->Option (List n5)
 |_,[]=>some []
 |k,(i,x)::r=>if i=k then match Qi x,Yn (k+1) r with
   |some x',some r'=>some (x'::r')
   |_,_=>none
  else none
theorem BV (r:Rel E g s a w) (l0:Nat):∀(ps:List (Nat × Operand)) (k:Nat) (G:List n5) (rows:List (List D)) (cells:Array Value) (done rest:List Value),
  Yn k ps=some G->Yz s l0 G=some rows->cells.toList=done++rest->done.length=k*l0->rest.length=ps.length*l0->
  ∃C vs,Instr.fill (λi=>some (i*l0,l0)) cells (ps.map λ(i,x)=>(i,a.eval x))=some C/\C.toList=done++vs/\x4 g rows.flatten vs/\
   (∀r∈rows,r.length=l0)/\(∀r∈rows,∀d∈r,d.y4=true)/\(∀r∈rows,∀d∈r,∀k∈d.l4,(lk s.H k).isSome=true)/\rows.length=ps.length
 |[],k,G,rows,cells,done,rest,h1,h2,h3,h4,h5=>by
  simp only[Yn,QzQ]at h1;subst h1;simp only[Yz,QzQ]at h2;subst h2;have:rest=[]:=QAq Wb;subst this;exact⟨cells,[],rfl,h3,trivial,by simp,by simp,by simp,rfl⟩
 |(i,x)::ps,k,G,rows,cells,done,rest,h1,h2,h3,h4,h5=>by
  simp only[Yn]at h1;split at h1;rename_i Y;subst Y;split at h1;rename_i x' r' e1 e2;cases h1
  simp only[Yz]at h2;split at h2;rename_i d ds f1 f2;split at h2;rename_i cs O;split at h2
  ·rename_i hlen;cases h2
   obtain⟨g1,g2⟩:=QH r e1 f1;obtain⟨vs,k1,k2,k3,_⟩:=F6 O g1;have hvl:vs.length=l0:=by rw[k2.len];omega
   have hsid:∀y∈cs,∀k∈y.l4,(lk s.H k).isSome=true:=by
    intro y hy k hk;exact g2 k (F7 O y hy k hk)
   have hrl:rest.length=l0+ps.length*l0:=by grind
   have V:cells.size=i*l0+rest.length:=by
    have:=congrArg List.length h3;grind
   have M:((a.eval x).cells.zipIdx.foldl (λcs (p:Value × Nat)=>cs.setIfInBounds (i*l0+p.2) p.1) cells).toList=(done++vs)++rest.drop l0:=by
    rw[k1,<- Array.foldl_toList];have:=Rm (i*l0) vs 0 cells done (rest.take l0) (rest.drop l0) (by simp_all) Wa Wb
    grind
   obtain⟨C,T,m1,m2,m3,m4,m5,m6,m7⟩:=BV r l0 ps (i+1) r' ds _ (done++vs) (rest.drop l0) e2 f2 M Wb Wb;refine⟨C,vs++T, ?_,by grind, ?_, ?_, ?_, ?_,by grind⟩;have U:(a.eval x).cells.size=l0:=by grind
   have hb:¬(i*l0+l0>cells.size):=Wa;simp only[QAr,Instr.fill,U,ne_eq,not_true,decide_false,Bool.false_or]
   grind
   rw[QAp];exact k2.append m3
   grind
   grind
   grind
  grind
  grind
  grind
  grind
  grind
theorem Rt {t:Nat} {parts:Array (Nat × Operand)} (r:Rel E g s a w) (ho:o.op=.buildSlice st n parts) (hu:P.underlying st=some (.slice e))
 (hs:YS P e=some l0) (U:(Gy P e).isSome=true) (hb:n*l0<=2 ^ 24) (hn0:n=parts.toList.length) (Y:Yn 0 parts.toList=some parts') (he:Yz s l0 parts'=some rows) (O:dst=some t) (hn:lk s.H t=none):
  Good P E s a w o dst (.s4 t n) (some ⟨rows,l0,e,rows.all λr=>r.all λd=>d.l4.isEmpty⟩):=by
 obtain⟨zd,U⟩:=QzT.1 U;obtain⟨i,z,hi,T,_,_⟩:=YR U g.K;have hsz:i.size=l0:=by grind [YS]
 obtain⟨C,vs,m1,m2,m3,m4,m5,m6,m7⟩:=BV r l0 parts.toList 0 parts' rows ((Array.range (n*l0)).map (z.cells[· % z.cells.size]!)) [] ((Array.range (n*l0)).map (z.cells[· % z.cells.size]!)).toList Y he Wc Wc Wb
 have M:Instr.fill (λi=>some (i*l0,l0)) ((Array.range (n*l0)).map (z.cells[· % z.cells.size]!)) (parts.map λ(i,x)=>(i,a.eval x)).toList=some C:=by
  (repeat clear hK K);simp_all
 have hc:C=(vs++[]).toArray:=by grind
 have hlv:vs.length=n*l0:=by
  rw[m3.len]
  have:∀(l:List (List D)),(∀r∈l,r.length=l0)->l.flatten.length=l.length*l0:=by
   intro l
   induction l with
   |nil=>simp
   |cons x xs ih=>grind
  grind
 refine X6 (w':=w) (vs:=vs) (post:=[]) (cap:=n) rfl r O hn Wa m3 m4 m5 m6 ?_ (QAe _) (λ_=>by grind) (λh=>h) ?_;simp;have hnb:¬(16777216<n*l0):=Wa
 by_cases h0:n*l0=0
 have V:Array.range (n*l0)=#[]:=by grind
 rw[V]at M;simp only[Array.map_empty]at M;simp[execOp,ho,Instr.buildSlice,underlying,hu,QM hs,h0,newRow];simp only[Array.range_zero',Array.map_empty]
 (repeat clear hK K);simp_all
 have G:=M;rw[QAo]at G;simp[execOp,ho,Instr.buildSlice,underlying,hu,QM hs,h0,hnb,zeroValue,typeInfo,hi,T,newRow,G,hc]
theorem M0 {parts:Array (Nat × Operand)} (r:Rel E g s a w) (ho:o.op=.buildSlice st n parts) (hu:P.underlying st=some (.slice e))
 (hs:YS P e=some l0) (T:(Gy P e).isSome=true) (hb:n*l0<=2 ^ 24) (hn0:n=parts.toList.length) (Y:Yn 0 parts.toList=some parts') (he:Yz s l0 parts'=some rows) (V:(rows.all λr=>r.all λd=>d.l4.isEmpty)=true):
  Good P E s a w o dst (.x7 rows) none:=by
 obtain⟨zd,T⟩:=QzT.1 T;obtain⟨i,z,hi,O,_,_⟩:=YR T g.K;have hsz:i.size=l0:=by grind [YS]
 obtain⟨C,vs,m1,m2,m3,m4,m5,m6,m7⟩:=BV r l0 parts.toList 0 parts' rows ((Array.range (n*l0)).map (z.cells[· % z.cells.size]!)) [] ((Array.range (n*l0)).map (z.cells[· % z.cells.size]!)).toList Y he Wc Wc Wb
 have M:Instr.fill (λi=>some (i*l0,l0)) ((Array.range (n*l0)).map (z.cells[· % z.cells.size]!)) (parts.map λ(i,x)=>(i,a.eval x)).toList=some C:=by
  (repeat clear hK K);simp_all
 have hc:C=(vs++[]).toArray:=by grind
 have hlv:vs.length=n*l0:=by
  rw[m3.len]
  have:∀(l:List (List D)),(∀r∈l,r.length=l0)->l.flatten.length=l.length*l0:=by
   intro l
   induction l with
   |nil=>simp
   |cons x xs ih=>grind
  grind
 refine SJ (n:=n) (et:=e) (w':=w) (vs:=vs) rfl r Wa m3 m4 m5 (λr0 hr d hd=>by grind) ?_;have hnb:¬(16777216<n*l0):=Wa
 by_cases h0:n*l0=0
 have U:Array.range (n*l0)=#[]:=by grind
 rw[U]at M;simp only[Array.map_empty]at M;simp[execOp,ho,Instr.buildSlice,underlying,hu,QM hs,h0,newRow];simp only[Array.range_zero',Array.map_empty]
 (repeat clear hK K);simp_all
 have G:=M;rw[QAo]at G;simp[execOp,ho,Instr.buildSlice,underlying,hu,QM hs,h0,hnb,zeroValue,typeInfo,hi,O,newRow,G,hc]
end
variable {bytes et t:Nat} {i:TypeInfo} {ky:IntKind} {zd:List D}
section
variable {P:Program} {E:Env} {g:Gh} {s:St} {a:Act} {w:World} {o:Oper} {dst:Option Nat}
theorem Nc {l0:Nat}:∀{l:List (List D)},(∀r∈l,r.length=l0)->l.flatten.length=l.length*l0
 |[],_=>by simp
 |x::xs,h=>by
  rw[QAp,QAs,h x Wc,Nc λr hr=>h r Wb,QAt,Nat.succ_mul];omega
theorem JQ {B off:Nat} {cells:List D} (h:s5 g w B off cells):∃cs:List Value,cs.length=cells.length/\x4 g cells cs/\∀j v,cs[j]?=some v->w.cell? ((⟨B,off,none⟩:Addr).add j)=some v:=by
 obtain⟨cs,h1,h2,_,C⟩:=h
 grind [add_lit]
theorem Rs {ty:TypeId} {rows ys:List (List D)} {pr:Bool} {d:D} (r:Rel E g s a w)
 (ho:o.op=.call {callee:=.builtin .append,args:=#[x,y],argTypes:=#[st,st]}) (hty:o.type=ty) (hx:Qi x=some x') (hy:Qi y=some y')
 (hu:P.underlying st=some (.slice et)) (hi:P.info? et=some i) (hsz:i.size=l0) (hby:i.bytes=bytes) (hz:Gy P et=some zd) (hzl:zd.length=l0)
 (he:s.ev x'=some (.x7 rows)) (hf:s.ev y'=some d) (V:s.src l0 d ys pr) (hne:rows=[]\/ys≠[]) (hl:∀r∈rows,r.length=l0) (hb:(rows.length+ys.length)*bytes<=140737488355328) (hm:rows.length+ys.length<=4611686018427387904)
 (C:dst=some t) (hn:lk s.H t=none):
  Good P E s a w o dst (.s4 t (rows.length+ys.length)) (some ⟨rows++ys,l0,et,pr⟩):=by
 have h1:=(QH r hx he).1;simp only[l6,z3,l3]at h1;obtain⟨a1,U,hrep⟩:=h1;obtain⟨a0,cap,T,hcap,hat,hly,hidy,hpry,hcy⟩:=NO r (QH r hy hf).1 V;obtain⟨i',z,hi',hzz,hzr,_⟩:=YR hz g.K;rw[hi]at hi';cases hi'
 have hzc:z.cells.size=l0:=by
  have:=(x4.sa (g:=g) hzr).1.len
  grind
 have run:∀v w',(Builtin.append_ #[st,st] ty #[a.eval x,a.eval y]).run P w=.ok v w'->(execOp a.eval o).run P w=.ok (.value v) w':=λv w' h=>by
  (repeat clear hK K);simp_all [execOp,resolve,invoke,builtin]
 subst hsz;subst hby
 by_cases hys:ys=[]
 subst hys;have hr:rows=[]:=hne.resolve_right Wc;subst hr
 -- nothing at all
 have Y:(execOp a.eval o).run P w=.ok (.value (.slice a1 0 0)) w:=by
  refine run _ _ ?_;rw[U,T]
  have hfc:(Builtin.firstCells i.size 0 (.slice a0 0 cap)).run P w=.ok #[] w:=by
   cases a0 with
   |none=>rfl
   |some b=>simp[Builtin.firstCells,loadCells,loadCellsFrom]
  cases a1 with
  |none=>simp[Builtin.append_,underlying,hu,sizeOf,typeInfo,hi,Builtin.lenOf,hfc]
  |some b=>simp[Builtin.append_,underlying,hu,sizeOf,typeInfo,hi,Builtin.lenOf,hfc,storeCells]
 subst C;obtain⟨g',h1,h2,r2⟩:=r.v9 (t:=t) (l0:=i.size) (et:=et) pr hn;refine⟨_,w,g',Y, ?_,⟨a1,0,rfl,QAe _,.inl ⟨rfl,rfl⟩⟩,λk hk=>?_⟩;trivial
 grind [D.ids,D.l4,St.s6,Qe]
 -- a new block
 have hyl:0<ys.length:=QAu.2 hys;obtain⟨B,off,rfl,hat2⟩:=hat.resolve_left hys;obtain⟨ns,hn1,hn2,hn3⟩:=JQ hat2;have hnl:ns.length=ys.length*i.size:=by grind [Nc]
 have M:∃os:List Value,x4 g rows.flatten os/\os.length=rows.length*i.size/\(∀r∈rows,∀d∈r,d.y4=true)/\(∀r∈rows,∀d∈r,d.l4=[])/\
   (Builtin.append_ #[st,st] ty #[a.eval x,a.eval y]).run P w=.ok (.slice (some ⟨w.heap.size,0,none⟩) (rows.length+ys.length) (grownCap w (rows.length+ys.length) rows.length et))
    (w.drew.alloc (.cells (os.toArray++ns.toArray++Builtin.zeroCells z.cells (grownCap w (rows.length+ys.length) rows.length et - (rows.length+ys.length))) et)):=by
  rw[U,T];rcases hrep with rfl |⟨b,O,e,rfl,h4,h5⟩
  refine⟨[],trivial,by simp,by simp,by simp, ?_⟩;cases a1 with
  |none=>
   grind [run_append_nil]
  |some b=>
   grind [run_append_grow,growslice_fits]
  have G:=X4 r.kr b O rows h5;obtain⟨os,ho1,ho2,ho3⟩:=JQ G;have hol:os.length=rows.length*i.size:=by grind [Nc]
  refine⟨os,ho2,hol,λr0 hr d hd=>G.choose_spec.2.2.1 d (List.mem_flatten.2 ⟨r0,hr,hd⟩),Je h5, ?_⟩
  grind [run_append_grow,growslice_fits]
 obtain⟨os,o1,o2,o3,o4,hr⟩:=M;have hge:=grownCap_ge w (rows.length+ys.length) rows.length et
 refine X6 (w':=w.drew) (vs:=os++ns) (post:=(Builtin.zeroCells z.cells (grownCap w (rows.length+ys.length) rows.length et - (rows.length+ys.length))).toList) (cap:=grownCap w (rows.length+ys.length) rows.length et) rfl r C hn Wc
  (by rw[List.flatten_append];exact o1.append hn2) ?_ ?_ ?_ ?_ hge ?_ (λh=>Wa) ?_
 grind
 grind
 grind
 grind
 intro _;simp only[QAs,o2,hnl,QAv,size_zeroCells,hzc];rw[<- QAw,<- QAw,Nat.add_sub_cancel' hge];omega;rw[run _ _ hr]
 congr 2
 simp
theorem Qfo {z:Value} (G:x4 g zd z.cells.toList) (C:z.cells.size=l0):(∀n,x4 g (List.replicate n zd).flatten (List.replicate n z.cells.toList).flatten)/\(∀n,((List.replicate n z.cells.toList).flatten++([]:List Value)).length=n*l0)/\∀n,(madeCells z.cells (n*l0)).toList=(List.replicate n z.cells.toList).flatten:=by
 have U:∀n,x4 g (List.replicate n zd).flatten (List.replicate n z.cells.toList).flatten:=by
  intro n
  induction n with
  |zero=>trivial
  |succ n ih=>rw[QAx,QAx,QAp,QAp];exact G.append ih
 have O:∀n,((List.replicate n z.cells.toList).flatten++([]:List Value)).length=n*l0:=by
  (repeat clear hK K);simp_all
 have M:∀n,(madeCells z.cells (n*l0)).toList=(List.replicate n z.cells.toList).flatten:=by
  intro n
  have hlen:∀n,(List.replicate n z.cells.toList).flatten.length=n*l0:=by
   grind
  apply List.ext_getElem?;intro j
  by_cases hj:j<n*l0
  have hp:0<l0:=by
   grind
  simp only[madeCells,QAo,List.getElem?_map,Array.toList_range,List.getElem?_range hj,QAy,C];have T:j % l0<z.cells.size:=by simp_all [Nat.mod_lt]
  rw[getElem!_pos z.cells _ T]
  have:∀n j,j<n*l0->(List.replicate n z.cells.toList).flatten[j]?=some (z.cells[j % l0]'(by simp_all [Nat.mod_lt])):=by
   intro n
   induction n with
   |zero=>omega
   |succ n ih=>
    intro j h;rw[QAx,QAp]
    by_cases hlt:j<l0
    grind [Nat.mod_eq_of_lt]
    grind [Nat.mod_eq_sub_mod]
  grind
  grind [madeCells]
 grind
theorem SH {kx:IntKind} (r:Rel E g s a w)
 (ho:o.op=.makeSlice st x y) (hx:Qi x=some x') (hy:Qi y=some y')
 (hu:P.underlying st=some (.slice et)) (hi:P.info? et=some i) (hsz:i.size=l0) (hby:i.bytes=bytes) (hz:Gy P et=some zd) (hzl:zd.length=l0)
 (he:s.ev x'=some (.int kx n)) (hf:s.ev y'=some (.int ky n)) (hb:n*bytes<=281474976710656) (hm:n<=4611686018427387904) (T:dst=some t) (hn:lk s.H t=none):
  Good P E s a w o dst (.s4 t n) (some ⟨List.replicate n zd,l0,et,true⟩):=by
 obtain⟨i',z,hi',V,Y,hzid⟩:=YR hz g.K;rw[hi]at hi';cases hi';obtain⟨O,U⟩:=x4.sa (g:=g) Y;have hzc:z.cells.size=l0:=by have:=O.len;grind
 subst hsz;subst hby;have C:=run_make (P:=P) w st et i z hu hi V kx ky n n Wa (Int.le_refl _) Wb Wa
 have M:∀n,x4 g (List.replicate n zd).flatten (List.replicate n z.cells.toList).flatten:=by
  intro n
  induction n with
  |zero=>trivial
  |succ n ih=>rw[QAx,QAx,QAp,QAp];exact O.append ih
 have G:∀n,((List.replicate n z.cells.toList).flatten++([]:List Value)).length=n*i.size:=by
  (repeat clear hK K);simp_all
 have hmade:∀n,(madeCells z.cells (n*i.size)).toList=(List.replicate n z.cells.toList).flatten:=by
  intro n
  have hlen:∀n,(List.replicate n z.cells.toList).flatten.length=n*i.size:=by
   grind
  apply List.ext_getElem?;intro j
  by_cases hj:j<n*i.size
  have hp:0<i.size:=by
   grind
  simp only[madeCells,QAo,List.getElem?_map,Array.toList_range,List.getElem?_range hj,QAy,hzc];have hjm:j % i.size<z.cells.size:=by simp_all [Nat.mod_lt]
  rw[getElem!_pos z.cells _ hjm]
  have:∀n j,j<n*i.size->(List.replicate n z.cells.toList).flatten[j]?=some (z.cells[j % i.size]'(by simp_all [Nat.mod_lt])):=by
   intro n
   induction n with
   |zero=>omega
   |succ n ih=>
    intro j h;rw[QAx,QAp]
    by_cases hlt:j<i.size
    grind [Nat.mod_eq_of_lt]
    grind [Nat.mod_eq_sub_mod]
  grind
  grind [madeCells]
 refine X6 (w':=w) (vs:=(List.replicate n z.cells.toList).flatten) (post:=[]) (cap:=n) rfl r T hn Wc (M n) ?_ ?_ ?_ ?_ (QAe _) (λ_=>Nat.le_of_eq (G n).symm) (λh=>h) ?_
 grind
 grind
 grind
 grind
 have e:((List.replicate n z.cells.toList).flatten++[]).toArray=madeCells z.cells (n*i.size):=by
  grind
 rw[e];simp only[QAz]at C;simp[execOp,ho,Jv r hx he,Jv r hy hf,C]
theorem QeL {it ty:TypeId} {kt:IntKind} (r:Rel E g s a w)
 (ho:o.op=.call {callee:=.builtin .append,args:=#[x,y],argTypes:=#[st,it]}) (hty:o.type=ty) (hx:Qi x=some x') (hy:Qi y=some y')
 (hu:P.underlying st=some (.slice et)) (ye:P.underlying it=some (.int kt)) (hi:P.info? et=some i) (hsz:i.size=l0) (hby:i.bytes=bytes) (hz:Gy P et=some zd) (hzl:zd.length=l0)
 (he:s.ev x'=some (.x7 [])) (hf:s.ev y'=some (.int ky n)) (h0:0<n) (hb:n*bytes<=140737488355328) (hm:n<=4611686018427387904) (hdst:dst=some t) (hn:lk s.H t=none):
  Good P E s a w o dst (.s4 t n) (some ⟨List.replicate n zd,l0,et,true⟩):=by
 obtain⟨i',z,hi',V,hzr,hzid⟩:=YR hz g.K;rw[hi]at hi';cases hi';obtain⟨Y,hzcell⟩:=x4.sa (g:=g) hzr;have hzc:z.cells.size=l0:=by have:=Y.len;grind
 obtain⟨U,G,hmade⟩:=Qfo Y hzc;subst hsz;subst hby;have T:=(QH r hx he).1;simp only[l6,z3,l3]at T;obtain⟨a1,T,_⟩:=T;have hyv:=Jv r hy hf;have hge:=grownCap_ge w n 0 et
 have hzc2:∀m,(Builtin.zeroCells z.cells m).toList=(List.replicate m z.cells.toList).flatten:=λm=>by
  grind [Builtin.zeroCells,madeCells]
 have C:IntKind.i64.wrap ((n:Nat):Int)=(n:Int):=by
  unfold IntKind.wrap;simp only[IntKind.bits,IntKind.signed,QAA]
  grind
 have hfc:(Builtin.firstCells i.size 0 (.slice a1 0 0)).run P w.drew=.ok #[] w.drew:=by
  cases a1 with
  |none=>rfl
  |some b=>simp[Builtin.firstCells,loadCells,loadCellsFrom]
 have M:¬(9223372036854775807<(n:Int)):=Wa;have hne:n≠0:=Wa;have h48:¬(281474976710656<n*i.bytes):=Wa;have O:¬(281474976710656<(n:Int)*(i.bytes:Int)):=Wa;have hns:Builtin.nextslicecap n 0=n:=nextslicecap_zero h0;have hng:¬((n:Int)<0):=Wa
 have hrun:(execOp a.eval o).run P w=.ok (.value (.slice (some ⟨w.heap.size,0,none⟩) n (grownCap w n 0 et))) (w.drew.alloc (.cells ((List.replicate n z.cells.toList).flatten++(List.replicate (grownCap w n 0 et - n) z.cells.toList).flatten).toArray et)):=by
  have e1:(Builtin.append_ #[st,it] ty #[.slice a1 0 0,.int ky n]).run P w=.ok (.slice (some ⟨w.heap.size,0,none⟩) n (grownCap w n 0 et)) (w.drew.alloc (.cells (Builtin.zeroCells z.cells n++Builtin.zeroCells z.cells (grownCap w n 0 et - n)) et)):=by
   by_cases hns0:n*i.size=0
   have e0:Builtin.zeroCells z.cells n=#[]:=by grind
   simp[Builtin.append_,run_underlying hu,run_underlying ye,sizeOf,typeInfo,zeroValue,hi,V,asInt,asIntOf,C,hng,hne,M,h48,O,hns,hfc,Question.forced,newRow,grownCap,e0,hns0];simp[Builtin.append_,run_underlying hu,run_underlying ye,sizeOf,typeInfo,zeroValue,hi,V,asInt,asIntOf,C,hng,hne,M,h48,O,hns,hfc,Question.forced,newRow,grownCap,hns0]
  have e2:(Builtin.zeroCells z.cells n++Builtin.zeroCells z.cells (grownCap w n 0 et - n))=((List.replicate n z.cells.toList).flatten++(List.replicate (grownCap w n 0 et - n) z.cells.toList).flatten).toArray:=by
   grind
  (repeat clear hK K);simp_all [execOp,resolve,invoke,builtin]
 refine X6 (w':=w.drew) (vs:=(List.replicate n z.cells.toList).flatten) (post:=(List.replicate (grownCap w n 0 et - n) z.cells.toList).flatten) (cap:=grownCap w n 0 et) rfl r hdst hn Wc (U n) ?_ ?_ ?_ ?_ hge ?_ (λh=>Wa) hrun
 grind
 grind
 grind
 grind
 intro _;have q1:=G n;have q2:=G (grownCap w n 0 et - n);simp only[QAj]at q1 q2;rw[QAs,q1,q2,<- QAw,Nat.add_sub_cancel' hge];omega
end
variable {h k l m:Nat} {et:TypeId} {hi lo mx:Option Operand} {hi' lo' mx':Option n5}
section
variable {P:Program} {E:Env} {g:Gh} {s:St} {a:Act} {w:World} {o:Oper} {dst:Option Nat}
def St.bd (s:St) (x:Option n5) (dflt n:Nat):Prop:=
 match x with
 |none=>n=dflt
 |some y=>∃k m,s.ev y=some (.int k m)/\0<=m/\n=m.toNat
def Q4:Option Operand->Option (Option n5)
 |none=>some none
 |some x=>(Qi x).map some
theorem T7 (r:Rel E g s a w) {x:Option Operand} {x':Option n5} (hx:Q4 x=some x') {C:Nat} (h:s.bd x' C n):
  (x=none/\n=C)\/∃y k m,x=some y/\a.eval y=.int k m/\0<=m/\n=m.toNat:=by
 cases x with
 |none=>simp only[Q4,QzQ]at hx;subst hx;exact .inl ⟨rfl,h⟩
 |some y=>
  simp only[Q4,QzM]at hx;obtain⟨y',h1,rfl⟩:=hx;obtain⟨k,m,h2,M,G⟩:=h;exact .inr ⟨y,k,m,rfl,Jv r h1 h2,M,G⟩
theorem Xs (r:Rel E g s a w) (U:Q4 lo=some lo') (V:Q4 hi=some hi') (C:Q4 mx=some mx') {isS:Bool} {len cap:Nat}
 (bl:s.bd lo' 0 l) (bh:s.bd hi' len h) (bm:s.bd mx' cap m) (h1:l<=h) (h2:h<=m) (h3:m<=cap) (T:mx'.isSome=true->hi'.isSome=true):
  (Instr.sliceBounds isS len cap (lo.map a.eval) (hi.map a.eval) (mx.map a.eval)).run P w=.ok (l,h,m) w:=by
 have hmh':mx.isSome=true->hi.isSome=true:=by
  cases mx with
  |none=>simp
  |some y=>
   intro _;simp only[Q4,QzM]at C;obtain⟨y',_,rfl⟩:=C;have:=T rfl;cases hi with
   |none=>grind [Q4]
   |some=>rfl
 rcases T7 r U bl with⟨rfl,el⟩ |⟨y1,k1,m1,rfl,e1,p1,el⟩<;>rcases T7 r V bh with⟨rfl,O⟩ |⟨y2,k2,G,rfl,e2,p2,O⟩<;>rcases T7 r C bm with⟨rfl,em⟩ |⟨y3,k3,M,rfl,e3,Y,em⟩
 (repeat clear hK K);simp_all [Instr.sliceBounds]
 grind
 (repeat clear hK K);simp_all [run_sliceBound,Instr.sliceBounds]
 subst el;subst O;subst em;have b3:=λc=>run_sliceBound (P:=P) w k3 M cap c Y Wa;have b2:=λc=>run_sliceBound (P:=P) w k2 G M.toNat c p2 Wa
 (repeat clear hK K);simp_all [Instr.sliceBounds]
 (repeat clear hK K);simp_all [run_sliceBound,Instr.sliceBounds]
 grind
 subst el;subst O;subst em;have b2:=λc=>run_sliceBound (P:=P) w k2 G m c p2 Wa;have b1:=λc=>run_sliceBound (P:=P) w k1 m1 G.toNat c p1 Wa
 (repeat clear hK K);simp_all [Instr.sliceBounds]
 subst el;subst O;subst em;have b3:=λc=>run_sliceBound (P:=P) w k3 M cap c Y Wa;have b2:=λc=>run_sliceBound (P:=P) w k2 G M.toNat c p2 Wa;have b1:=λc=>run_sliceBound (P:=P) w k1 m1 G.toNat c p1 Wa
 (repeat clear hK K);simp_all [Instr.sliceBounds]
theorem Sa {K:Kn} {b:Nat}:∀{off:Nat} {rows:List (List D)} (n:Nat),u5 K b off rows->u5 K b off (rows.take n)
 |_,_,0,_=>by trivial
 |_,[],_+1,_=>by grind
 |off,r::rs,n+1,h=>by
  simp only[u5,List.take_succ_cons]at h ⊢;exact⟨h.1,Sa n h.2⟩
theorem R9 {K:Kn} {b l0:Nat}:∀{off:Nat} {rows:List (List D)} (n:Nat),(∀r∈rows,r.length=l0)->n<=rows.length->u5 K b off rows->u5 K b (off+n*l0) (rows.drop n)
 |off,rows,0,_,_,h=>by grind
 |_,[],n+1,_,hn,_=>by grind
 |off,r::rs,n+1,hl,hn,h=>by
  simp only[u5]at h;have:=R9 (l0:=l0) n (λr hr=>hl r Wb) Wb h.2
  grind
theorem Tc {d:D} (r:Rel E g s a w)
 (ho:o.op=.slice st x lo hi mx) (hx:Qi x=some x') (O:Q4 lo=some lo') (T:Q4 hi=some hi') (M:Q4 mx=some mx') (hu:P.underlying st=some (.slice et)) (hs:YS P et=some l0)
 (he:s.ev x'=some d) (hd:d=.sl rows\/d=.x7 rows) (bl:s.bd lo' 0 l) (bh:s.bd hi' rows.length h) (h1:l<=h) (h2:h<=rows.length) (hl:∀r∈rows,r.length=l0):
  (mx'=none->Good P E s a w o dst (.sl ((rows.take h).drop l)) none)/\
  (s.bd mx' 0 m->mx'.isSome=true->hi'.isSome=true->m=h->Good P E s a w o dst (.x7 ((rows.take h).drop l)) none):=by
 have hv:=(QH r hx he).1
 have base:∃U cap,a.eval x=.slice U rows.length cap/\rows.length<=cap/\(rows=[]\/∃b off,U=some ⟨b,off,none⟩/\u5 g.K b off rows):=by
  rcases hd with rfl |rfl
  grind [l6,z3,l3]
  simp only[l6,z3,l3]at hv
  grind
 obtain⟨U,cap,hv,hcap,G⟩:=base
 have run:∀m,(Instr.sliceBounds true rows.length cap (lo.map a.eval) (hi.map a.eval) (mx.map a.eval)).run P w=.ok (l,h,m) w->
   (execOp a.eval o).run P w=.ok (.value (.slice (if m=l then U else U.map (·.add (l*l0))) (h - l) (m - l))) w:=λm hb=>by
  (repeat clear hK K);simp_all [execOp,Instr.sliceAt,Instr.slice,underlying,QM]
 have hlen:((rows.take h).drop l).length=h - l:=by grind
 constructor;rintro rfl;refine Good.of r (run cap (Xs r O T M bl bh rfl h1 Wa (QAe _) Wc)) ?_ (Has.of_nil rfl);simp only[l6,z3,l3];refine⟨_,cap - l,by rw[hlen],Wa, ?_⟩
 by_cases hlh:l=h
 grind
 rcases G with rfl |⟨b',C,rfl,hr⟩;simp;refine .inr ⟨b',C+l*l0,l0,by rw[if_neg Wa];simp[add_lit],λr hr=>hl r (Qz7 (QAh hr)), ?_⟩
 grind [R9,Sa]
 intro bm hms Y V;subst V
 have bm':s.bd mx' cap m:=by
  cases mx' with
  |none=>grind
  |some=>exact bm
 refine Good.of r (run m (Xs r O T M bl bh bm' h1 (QAe _) Wa (λ_=>Y))) ?_ (Has.of_nil rfl);simp only[l6,z3,l3];refine⟨_,by rw[hlen], ?_⟩
 by_cases hlh:l=m
 grind
 rcases G with rfl |⟨b',C,rfl,hr⟩;simp;refine .inr ⟨b',C+l*l0,l0,by rw[if_neg Wa];simp[add_lit],λr hr=>hl r (Qz7 (QAh hr)), ?_⟩
 grind [R9,Sa]
theorem B4 (r:Rel E g s a w)
 (ho:o.op=.slice st x lo hi mx) (hx:Qi x=some x') (M:Q4 lo=some lo') (O:Q4 hi=some hi') (G:Q4 mx=some mx') (hu:P.underlying st=some (.slice et)) (hs:YS P et=some l0)
 (he:s.ev x'=some (.x7 rows)) (bl:s.bd lo' 0 0) (bh:s.bd hi' rows.length rows.length) (hm:mx'=none):Good P E s a w o dst (.x7 rows) none:=by
 have C:=(QH r hx he).1;simp only[l6,z3,l3]at C;obtain⟨T,C,Y⟩:=C;subst hm;have hb:=Xs (P:=P) r (isS:=true) (cap:=rows.length) M O G bl bh rfl (QzZ _) (QAe _) (QAe _) Wc
 have run:(execOp a.eval o).run P w=.ok (.value (.slice (if rows.length=0 then T else T.map (·.add (0*l0))) rows.length rows.length)) w:=by
  (repeat clear hK K);simp_all [execOp,Instr.sliceAt,Instr.slice,underlying,QM]
 refine Good.of r run ?_ (Has.of_nil rfl);simp only[l6,z3,l3];refine⟨_,rfl,Y.imp id ?_⟩;rintro⟨b,off,e,rfl,V,U⟩;refine⟨b,off,e, ?_,V,U⟩
 grind [add_lit]
theorem B5 (r:Rel E g s a w)
 (ho:o.op=.slice st x lo hi mx) (hx:Qi x=some x') (M:Q4 lo=some lo') (T:Q4 hi=some hi') (G:Q4 mx=some mx') (hu:P.underlying st=some (.slice et)) (hs:YS P et=some l0)
 (he:s.ev x'=some (.s4 k n)) (bl:s.bd lo' 0 0) (bh:s.bd hi' n m) (C:m<=n) (hm:mx'=none):Good P E s a w o dst (.s4 k m) none:=by
 obtain⟨⟨Y,cap,hv,U,h4⟩,O⟩:=QH r hx he;subst hm;have hb:=Xs (P:=P) r (isS:=true) (cap:=cap) M T G bl bh rfl (QzZ _) (Qz6 C U) (QAe _) Wc
 have run:(execOp a.eval o).run P w=.ok (.value (.slice (if cap=0 then Y else Y.map (·.add (0*l0))) m cap)) w:=by
  (repeat clear hK K);simp_all [execOp,Instr.sliceAt,Instr.slice,underlying,QM]
 refine Good.of r run ⟨_,cap,rfl,Qz6 C U, ?_⟩ (λj hj=>O j hj);rcases h4 with⟨h,h2⟩ |⟨B,V,h1,rfl,h3⟩ |hg
 omega
 grind [add_lit]
 grind
theorem B6 (r:Rel E g s a w)
 (ho:o.op=.slice st x lo hi mx) (hx:Qi x=some x') (G:Q4 lo=some lo') (T:Q4 hi=some hi') (C:Q4 mx=some mx') (hu:P.underlying st=some (.slice et)) (hs:YS P et=some l0)
 (he:s.ev x'=some (.s4 k n)) (bl:s.bd lo' 0 l) (bh:s.bd hi' n n) (M:l<=n) (hm:mx'=none):Good P E s a w o dst (.y9 k l (l*l0) (n - l)) none:=by
 obtain⟨⟨V,cap,Y,hc,h4⟩,O⟩:=QH r hx he;subst hm;have hb:=Xs (P:=P) r (isS:=true) (cap:=cap) G T C bl bh rfl M hc (QAe _) Wc
 have run:(execOp a.eval o).run P w=.ok (.value (.slice (if cap - l=0 then V else V.map (·.add (l*l0))) (n - l) (cap - l))) w:=by
  simp[execOp,ho,Y,Instr.sliceAt,Instr.slice,underlying,hu,hb,QM hs]
  grind
 refine Good.of r run ⟨_,cap - l,rfl,Wa, ?_⟩ (λj hj=>O j hj)
 by_cases hz:cap - l=0
 omega;rw[if_neg hz];rcases h4 with⟨h,h2⟩ |⟨B,U,h1,rfl,h3⟩ |hg
 omega
 grind [add_lit]
 grind
theorem Lx {c:List UInt8} (r:Rel E g s a w)
 (ho:o.op=.slice st x lo hi none) (hx:Qi x=some x') (G:Q4 lo=some lo') (M:Q4 hi=some hi') (hu:P.underlying st=some .string)
 (he:s.ev x'=some (.str c)) (bl:s.bd lo' 0 l) (O:s.bd hi' c.length h) (h1:l<=h) (h2:h<=c.length):Good P E s a w o dst (.str ((c.take h).drop l)) none:=by
 refine Good.str r ?_;have C:(ByteArray.mk c.toArray).size=c.length:=by rfl
 have hb:=Xs (P:=P) (isS:=false) (mx:=none) (mx':=none) (cap:=c.length) (m:=c.length) r G M rfl bl O rfl h1 h2 (QAe _) Wc
 have hex:(ByteArray.mk c.toArray).extract l h=ByteArray.mk ((c.take h).drop l).toArray:=by
  apply ByteArray.ext
  grind [ByteArray.data_extract]
 simp only[Option.map_none]at hb;simp[execOp,ho,Dh r hx he,Instr.sliceAt,Instr.slice,underlying,hu,C,hb,hex]
end
variable {b:u4} {c:Array Value} {i p:Nat} {l:List UInt8} {t:TypeId}
section
variable {P:Program} {E:Env} {g:Gh} {s:St} {a:Act} {w:World} {o:Oper} {dst:Option Nat}
theorem Rel.zf {B:Nat} {b':u4} {c':Array Value} {w':World} (r:Rel E g s a w) (hb:lk s.H k=some b) (hβ:g.β k=some (B,b.l0)) (_hB:w.heap[B]?=some (.cells c b.et (0,0)))
 (hcs:c'.size=c.size) (hσ:c.size=(g.σ k).1) (hK:∀o,g.K B o=none) (U:E.B0<=B\/E.fo B) (he:b'.l0=b.l0) (hB':w'.heap[B]?=some (.cells c' b'.et (0,0))) (M:∀i,i≠B->w'.heap[i]?=w.heap[i]?) (Y:w'.heap.size=w.heap.size)
 (T:∀r∈b'.rows,r.length=b'.l0) (hpr:b'.pr=true->∀r∈b'.rows,∀d∈r,d.l4=[]) (hne:b'.rows≠[]\/b'.l0≠0) (hc:l5 g c' (g.σ k).2 b'.rows)
 (hid:∀r∈b'.rows,∀d∈r,∀j∈d.l4,(lk s.H j).isSome=true) (hfx:z7 w w':=by exact⟨rfl,rfl,rfl⟩):Rel E g {s with H:=(k,b')::s.H} a w':=by
 have C:∀j,(lk ((k,b')::s.H) j).isSome=(lk s.H j).isSome:=λj=>by
  grind [Qe]
 have hlt:∀j G B1 e1,lk s.H j=some G->j≠k->g.β j=some (B1,e1)->B1≠B:=λj G B1 e1 h1 h2 O V=>by
  subst V;exact h2 (r.inj j k G b B1 _ _ h1 hb O hβ)
 refine⟨r.nt,r.df.of rfl (λD hD=>by
  grind [XN]),r.fr,λt d h j hj=>(C j).trans (r.s9 t d h j hj),λj G h i hi=>?_,λj G h=>?_,λj j' G b2 B1 e e' h1 h2 O V=>?_, ?_,⟨by rw[Y];exact r.ext.1,λi hi hf=>?_,r.ext.2.2.trans hfx⟩,r.kx,λk hk=>let⟨h1,h2,O,V⟩:=r.kp k hk;⟨h1,h2,O,(C k).trans V⟩⟩
 rw[Qe]at h;rw[C];split at h;cases h
 grind [u4.ids]
 exact r.u9 j G h i hi;rw[Qe]at h;split at h;rename_i e;cases h;subst e;exact⟨T,hpr,.inr ⟨hne,B,c',by grind,hB',hcs.trans hσ,hc,hK,U⟩⟩;rename_i e;obtain⟨h1,h2,O⟩:=r.bx j G h;refine⟨h1,h2,O.imp (λ⟨x,y⟩=>⟨x,y.imp id λ⟨i1,i2,i3,sv,p,B1,i4,i5,i6,i7,i8⟩=>⟨i1,i2,i3,sv,p,B1,i4,i5,(M B1 (hlt j G B1 _ h (Ne.symm e) i5)).trans i6,i7,i8⟩⟩) ?_⟩
 grind
 have key:∀j G,lk ((k,b')::s.H) j=some G->∃b2,lk s.H j=some b2:=λj G h=>by
  grind [Option.isSome_iff_exists]
 obtain⟨b3,h5⟩:=key j G h1;obtain⟨b4,h6⟩:=key j' b2 h2;exact r.inj j j' b3 b4 B1 e e' h5 h6 O V;intro i q x hx;obtain⟨c1,e1,f1,h1,h2⟩:=r.kr i q x hx
 grind
 have:i≠B:=λe=>by
  grind
 exact(M i this).trans (r.ext.2.1 i hi hf)
theorem H8 {c:Array Value}:∀{off:Nat} {ds:List D},z4 g c off ds->∀j d,ds[j]?=some d->d.y4=true/\∃x,c[off+j]?=some x/\z3 g d x
 |_,[],_,j,d,h=>by grind
 |off,x::xs,h,j,d,hd=>by
  simp only[z4]at h;cases j with
  |zero=>grind
  |succ j=>
   have:=H8 h.2 j d Wb
   grind
theorem Qgc:∀{off:Nat} {rows:List (List D)},(∀r∈rows,r.length=l0)->l5 g c off rows->rows≠[]->l0≠0->off+rows.length*l0<=c.size:=by
 intro off rows G h M h0;have O:rows.length - 1<rows.length:=by grind [List.length_pos_iff]
 have C:=QAB O;have h1:=JB (l0:=l0) (rows.length - 1) G h C;have h2:=G _ (QAg C);have U:(rows[rows.length - 1])[l0 - 1]?=some ((rows[rows.length - 1])[l0 - 1]'Wa):=QAB Wa;obtain⟨_,x,T,_⟩:=H8 h1 _ _ U;have Y:=(QAc.1 T).1
 have V:(rows.length - 1)*l0+l0=rows.length*l0:=by
  rw[<- Nat.succ_mul];grind
 omega
theorem QpC {i' j o:Nat} (G:i≠i') (O:j<l0) (M:o<l0):i*l0+j≠i'*l0+o:=by
 intro h;rcases Nat.lt_or_gt_of_ne G with C |C
 have:=Nat.mul_le_mul_right l0 (show i+1<=i' from C)
 grind
 have:=Nat.mul_le_mul_right l0 (show i'+1<=i from C)
 grind
def setRow (row:List D) (off:Nat) (cells:List D):List D:=row.take off++cells++row.drop (off+cells.length)
def FO (P:Program) (E:Env) (a:Act) (w:World) (o:Oper) (s':St) (d:D):Prop:=
 ∃n w' g',(execOp a.eval o).run P w=.ok n w'/\Rel E g' s' a w'/\Has s' d/\((n=.skip/\d=.undef)\/∃u,n=.value u/\l6 g' d u)
theorem Qc4 {sz:Nat} {y:Operand} {y':n5} {off:Nat} {row cells:List D} {d:D} (r:Rel E g s a w) (ho:o.op=.store t x y) (hx:Qi x=some x') (hy:Qi y=some y')
 (hs:YS P t=some sz) (he:s.ev x'=some (.ref k i off)) (hb:lk s.H k=some b) (C:b.rows[i]?=some row) (hf:s.ev y'=some d) (hd:d.cells=some cells) (hl:cells.length=sz) (hfit:off+sz<=row.length) (h0:sz≠0):
  FO P E a w o {s with H:=(k,{b with rows:=b.rows.set i (setRow row off cells),pr:=b.pr&&cells.all λd=>d.l4.isEmpty})::s.H} .undef:=by
 obtain⟨B,l0,z,hβ,hxv⟩:=(QH r hx he).1;obtain⟨hyv,T⟩:=QH r hy hf;obtain⟨vs,v1,v2,v3,v4⟩:=F6 hd hyv;obtain⟨M,hpr,hbx⟩:=r.bx k b hb;have U:b.rows≠[]:=by grind
 obtain⟨_,B',c,h3,h4,h5,h6,h7,h8⟩:=hbx.resolve_left λh=>U h.1;clear hbx;obtain⟨hβ,hz⟩:=hβ.resolve_right λhg=>hg.no h3;rw[hβ]at h3;cases h3;rw[<- hz]at h6;have Y:i<b.rows.length:=(QAm.1 C).1;have hrowl:row.length=b.l0:=M row (QAg C);have hvl:vs.length=sz:=by rw[v2.len];omega
 have hcs:=Qgc M h6 U Wa
 have hbound:(z+(i*b.l0+off))+vs.length<=c.size:=by
  have:=Nat.mul_le_mul_right b.l0 (show i+1<=b.rows.length from Y)
  grind
 have hst:=run_storeCells_at P B (z+(i*b.l0+off)) b.et vs 0 c w h4 Wa v4;simp only[QAC]at hst
 have hsid:∀y∈cells,∀j∈y.l4,(lk s.H j).isSome=true:=by
  intro y hy j V;exact T j (F7 hd y hy j V)
 have hlist:(c.toList.take (z+(i*b.l0+off))++vs++c.toList.drop ((z+(i*b.l0+off))+vs.length)).length=c.size:=by
  grind
 have hget:∀p,(c.toList.take (z+(i*b.l0+off))++vs++c.toList.drop ((z+(i*b.l0+off))+vs.length))[p]?=
   if p<(z+(i*b.l0+off))then c[p]? else if p<(z+(i*b.l0+off))+sz then vs[p - (z+(i*b.l0+off))]? else c[p]?:=by
  intro p;have ht:(c.toList.take (z+(i*b.l0+off))).length=(z+(i*b.l0+off)):=by grind
  by_cases h1:p<(z+(i*b.l0+off))
  grind
  rw[if_neg h1,QAD,QAE Wa,ht]
  by_cases h2:p<(z+(i*b.l0+off))+sz
  grind
  rw[if_neg h2,QAE Wa,List.getElem?_drop,QAF]
  grind
 have hrepl:∀{ds:List D} {vs:List Value} (n:Nat) {d:D},x4 g ds vs->ds[n]?=some d->∃v,vs[n]?=some v/\z3 g d v:=by
  intro ds
  induction ds with
  |nil=>simp
  |cons x xs ih=>
   intro vs n d h hd;cases vs with
   |nil=>trivial
   |cons v vs=>
    cases n with
    |zero=>simp at hd;subst hd;exact⟨v,by simp,h.1⟩
    |succ n=>simpa using ih n h.2 Wb
 have hset:(setRow row off cells).length=b.l0:=by grind [setRow]
 have G:∀r∈b.rows.set i (setRow row off cells),r.length=b.l0:=λr0 hr=>by
  grind
 have hnew:l5 g (c.toList.take (z+(i*b.l0+off))++vs++c.toList.drop ((z+(i*b.l0+off))+vs.length)).toArray z (b.rows.set i (setRow row off cells)):=by
  refine Qch G λi' row' hi'=>F5 λj d' hd'=>?_
  have hjl:j<b.l0:=by
   grind
  rw[List.getElem?_toArray,hget]
  by_cases hii:i'=i
  subst hii;rw[List.getElem?_set_self Y]at hi';cases hi'
  have hold:=H8 (JB i' M h6 C);have htl:(row.take off).length=off:=by grind
  by_cases h1:j<off
  rw[if_pos Wa];refine hold j d' ?_
  grind [setRow]
  rw[if_neg Wa];rw[setRow,QAD,QAE Wa,htl]at hd'
  by_cases h2:j<off+sz
  grind
  grind
  rw[List.getElem?_set_ne (Ne.symm hii)]at hi';have hold:=H8 (JB i' M h6 hi') j d' hd'
  have hlt:¬(z+i'*b.l0+j>=(z+(i*b.l0+off))/\z+i'*b.l0+j<(z+(i*b.l0+off))+sz):=by
   rintro⟨q1,q2⟩;exact QpC (o:=i'*b.l0+j - i*b.l0) hii hjl Wa Wa
  grind
 refine⟨.skip,_,g, ?_,r.zf (b':={b with rows:=b.rows.set i (setRow row off cells),pr:=b.pr&&cells.all λd=>d.l4.isEmpty})
  (c':=(c.toList.take (z+(i*b.l0+off))++vs++c.toList.drop ((z+(i*b.l0+off))+vs.length)).toArray) hb hβ h4 Wa h5 h7 h8 rfl (setRow_heap w B c _ b.et (0,0) h4) (λi hi=>setRow_other w B i _ hi) Wc G ?_ ?_ Wb ?_,Has.of_nil rfl,.inl ⟨rfl,rfl⟩⟩
 (repeat clear hK K);simp_all [execOp,Instr.storeAt,Instr.sureAddr,storeVar,QM]
 intro hp r0 hr d0 O;simp only[QzR,QzX]at hp
 grind [setRow]
 grind
 intro r0 hr d0 O j V;rcases List.mem_or_eq_of_mem_set hr with h |h
 exact r.ua k b hb r0 h d0 O j V;subst h;simp only[setRow,QzY]at O;rcases O with(h |h) |h
 exact r.ua k b hb row (QAg C) d0 (Qz7 h) j V
 grind
 exact r.ua k b hb row (QAg C) d0 (QAh h) j V
theorem Rel.gf {t:Nat} (r:Rel E g s a w) (hn:lk s.H t=none):
  ∃g',g'.K=g.K/\g'.β t=some (w.heap.size,0)/\(g'.σ t).2=0/\Rel E g' {s with H:=(t,⟨[],0,QR l 0,false⟩)::s.H} a (w.alloc (.stringIter ⟨l.toArray⟩ 0)):=by
 refine⟨{K:=g.K,β:=λk=>if k=t then some (w.heap.size,0)else g.β k,σ:=λk=>if k=t then(0,0)else g.σ k},rfl,by simp,by simp, ?_⟩;have V:∀k,(lk s.H k).isSome=true->k≠t:=λk hk e=>by grind
 have hold:∀i,i<w.heap.size->(w.alloc (.stringIter ⟨l.toArray⟩ 0)).heap[i]?=w.heap[i]?:=λi hi=>by
  simp only[World.alloc,Array.getElem?_push];grind
 have U:∀o,g.K w.heap.size o=none:=λo=>by
  cases h:g.K w.heap.size o with
  |none=>rfl
  |some x=>exact absurd (r.kr.lt h) (Nat.lt_irrefl _)
 have T:x9 g.K (w.alloc (.stringIter ⟨l.toArray⟩ 0)):=λi o x e=>by
  obtain⟨c',e',f,h1,h2⟩:=r.kr i o x e
  grind
 have G:Rel E {K:=g.K,β:=λk=>if k=t then some (w.heap.size,0)else g.β k,σ:=λk=>if k=t then(0,0)else g.σ k} s a (w.alloc (.stringIter ⟨l.toArray⟩ 0)):=
  r.move (λ_ _=>rfl) (λk hk=>by grind) T hold Wc
 have C:∀(b:u4) k,(lk s.H k).isSome=true->(lk ((t,b)::s.H) k).isSome=true:=λb k hk=>by
  grind [Qe]
 refine⟨G.nt,G.df,G.fr,λu d h k hk=>C _ k (r.s9 u d h k hk),λk b' h j hj=>?_,λk b' h=>?_,λk k' b1 b2 B e e' h1 h2 O M=>?_,G.kr,G.ext,G.kx,λk hk=>let⟨h1,h2,O,M⟩:=G.kp k hk;⟨h1,h2,O,C _ k M⟩⟩
 rw[Qe]at h;split at h
 grind [u4.ids]
 exact C _ j (r.u9 k b' h j hj);rw[Qe]at h;split at h;rename_i e;cases h;subst e;exact⟨by simp,by simp,.inl ⟨rfl,.inr ⟨rfl,rfl,rfl,l,0,w.heap.size,rfl,by simp,heap_alloc_new w _,U,.inl r.ext.1,by simp⟩⟩⟩;exact G.bx k b' h
 have Y:∀k b e,lk s.H k=some b->g.β k=some (B,e)->B<w.heap.size:=λk b e h hb=>by
  obtain⟨_,_,h2⟩:=r.bx k b h;rcases h2 with⟨_,⟨h2,_⟩ |⟨_,_,_,_,_,B',_,O,M,_⟩⟩ |⟨_,B',c',O,M,_⟩
  grind
  grind
  grind
 rw[Qe]at h1 h2;simp only at O M;split at h1<;>split at h2;omega
 grind
 grind
 rename_i e1 e2;rw[if_neg (Ne.symm e1)]at O;rw[if_neg (Ne.symm e2)]at M;exact r.inj k k' b1 b2 B e e' h1 h2 O M
theorem Rel.setIter {q:Nat} {B e:Nat} (r:Rel E g s a w) (hb:lk s.H k=some ⟨[],0,QR l p,false⟩) (V:g.β k=some (B,e)):
  w.heap[B]?=some (.stringIter ⟨l.toArray⟩ p)/\(g.σ k).2=0/\Rel E g {s with H:=(k,⟨[],0,QR l q,false⟩)::s.H} a {w with heap:=w.heap.setIfInBounds B (.stringIter ⟨l.toArray⟩ q)}:=by
 obtain⟨_,_,M⟩:=r.bx k _ hb;rcases M with⟨_,⟨M,_⟩ |⟨_,_,_,l',p',B',i1,i2,i3,i4,i5⟩⟩ |⟨h,_⟩
 grind
 rotate_left
 grind
 obtain⟨rfl,rfl⟩:=MG i1;rw[V]at i2;simp only[QzQ,QAG]at i2;obtain⟨rfl,rfl⟩:=i2;refine⟨i3,i5.2, ?_⟩;have hlt:B<w.heap.size:=(QAc.1 i3).1;have O:∀i,i≠B->(w.heap.setIfInBounds B (.stringIter ⟨l.toArray⟩ q))[i]?=w.heap[i]?:=λi hi=>Array.getElem?_setIfInBounds_ne (Ne.symm hi);have T:(w.heap.setIfInBounds B (.stringIter ⟨l.toArray⟩ q))[B]?=some (.stringIter ⟨l.toArray⟩ q):=by grind
 have C:∀(b:u4) j,(lk ((k,b)::s.H) j).isSome=(lk s.H j).isSome:=λb j=>by
  grind [Qe]
 have Y:∀j G B1 e1,lk s.H j=some G->j≠k->g.β j=some (B1,e1)->B1≠B:=λj G B1 e1 h1 h2 M U=>by
  subst U;exact h2 (r.inj j k G _ B1 _ _ h1 hb M V)
 refine⟨r.nt,r.df.of rfl (λD hD=>by
  grind [XN]),r.fr,λt d h j hj=>(C _ j).trans (r.s9 t d h j hj),λj G h i hi=>?_,λj G h=>?_,λj j' G b2 B1 e e' h1 h2 M U=>?_, ?_,⟨by simpa using r.ext.1,λi hi hf=>?_,r.ext.2.2.trans ⟨rfl,rfl,rfl⟩⟩,r.kx,λk hk=>let⟨h1,h2,M,U⟩:=r.kp k hk;⟨h1,h2,M,(C _ k).trans U⟩⟩
 rw[Qe]at h;rw[C];split at h
 grind [u4.ids]
 exact r.u9 j G h i hi;rw[Qe]at h;split at h;rename_i e;cases h;subst e;exact⟨by simp,by simp,.inl ⟨rfl,.inr ⟨rfl,rfl,rfl,l,q,B,rfl,V,T,i4,i5⟩⟩⟩;rename_i e;obtain⟨h1,h2,M⟩:=r.bx j G h;refine⟨h1,h2,M.imp (λ⟨x,y⟩=>⟨x,y.imp id λ⟨i1,i2,i3,sv,p,B1,i4,i5,i6,i7,i8⟩=>⟨i1,i2,i3,sv,p,B1,i4,i5,(O B1 (Y j G B1 _ h (Ne.symm e) i5)).trans i6,i7,i8⟩⟩) ?_⟩
 grind
 have key:∀j G,lk ((k,(⟨[],0,QR l q,false⟩:u4))::s.H) j=some G->∃b2,lk s.H j=some b2:=λj G h=>by
  grind [Option.isSome_iff_exists]
 obtain⟨b3,h5⟩:=key j G h1;obtain⟨b4,h6⟩:=key j' b2 h2;exact r.inj j j' b3 b4 B1 e e' h5 h6 M U;intro i o x hx;obtain⟨c1,e1,f1,h1,h2⟩:=r.kr i o x hx
 grind
 exact(O i (λh=>by grind)).trans (r.ext.2.1 i hi hf)
theorem Qc3 {u:Nat} (r:Rel E g s a w) (ho:o.op=.range t x) (hx:Qi x=some x') (hu:P.underlying t=some .string) (he:s.ev x'=some (.str l))
 (C:dst=some u) (M:lk s.H u=none):Good P E s a w o dst (.ref u 0 0) (some ⟨[],0,QR l 0,false⟩):=by
 have h1:=(QH r hx he).1;simp only[l6,z3,l3]at h1;subst C;obtain⟨g',e1,e2,e3,G⟩:=r.gf (t:=u) (l:=l) M;refine⟨.pointer (some ⟨w.heap.size,0,none⟩),w.alloc (.stringIter ⟨l.toArray⟩ 0),g', ?_,G,⟨w.heap.size,0,0,.inl ⟨e2,e3.symm⟩,by simp⟩,λk hk=>?_⟩
 (repeat clear hK K);simp_all [execOp,run_range_string,World.iter]
 grind [D.ids,D.l4,St.s6,Qe]
theorem Np (r:Rel E g s a w) (hb:lk s.H k=some ⟨[],0,QR l p,false⟩):¬g.gone k:=λG=>by
 obtain⟨_,_,C⟩:=r.bx k _ hb;rcases C with⟨_,⟨_,C⟩ |⟨_,_,_,l',p',B',i1,i2,_⟩⟩ |⟨h,_⟩
 have:=congrArg u4.pr (C.1 G.2);trivial;exact G.no i2
 grind
theorem QeQ {c n:Nat} (r:Rel E g s a w) (ho:o.op=.next x true) (hx:Qi x=some x') (he:s.ev x'=some (.ref k 0 0)) (hb:lk s.H k=some ⟨[],0,QR l p,false⟩)
 (hp:p<l.length) (hd:Utf8.decode ⟨l.toArray⟩ p=(c,n)):
  FO P E a w o {s with H:=(k,⟨[],0,QR l (p+n),false⟩)::s.H} (.l7 [.bool true,.int .i64 p,.int .i32 c]):=by
 obtain⟨B,l0,z,C,O⟩:=(QH r hx he).1;obtain⟨C,G⟩:=C.resolve_right (Np r hb);obtain⟨hw,h0,M⟩:=r.setIter (q:=p+n) hb C;rw[h0]at G;subst G;refine⟨.value (.tuple #[.bool true,.int .i64 p,.int .i32 c]),_,g, ?_,M,Has.of_nil rfl,.inr ⟨_,rfl, ?_⟩⟩
 ·have T:p<(ByteArray.mk l.toArray).size:=by trivial
  (repeat clear hK K);simp_all [execOp,Instr.next,getObj,setObj,Sem.run,goInt]
 exact l6.of (by simp only[l3];exact⟨[.bool true,.int .i64 p,.int .i32 c],rfl,by trivial⟩)
theorem Co (r:Rel E g s a w) (ho:o.op=.next x true) (hx:Qi x=some x') (he:s.ev x'=some (.ref k 0 0)) (hb:lk s.H k=some ⟨[],0,QR l p,false⟩)
 (hp:¬p<l.length):FO P E a w o s (.l7 [.bool false]):=by
 obtain⟨B,l0,z,C,M⟩:=(QH r hx he).1;obtain⟨C,G⟩:=C.resolve_right (Np r hb);obtain⟨hw,h0,_⟩:=r.setIter (q:=0) hb C;rw[h0]at G;subst G;refine⟨.value (.tuple #[.bool false]),w,g, ?_,r,Has.of_nil rfl,.inr ⟨_,rfl, ?_⟩⟩
 ·have O:¬p<(ByteArray.mk l.toArray).size:=by trivial
  simp[execOp,ho,M,Instr.next,getObj,Sem.run_bind,Sem.run,hw,Result.andThen,O]
 exact l6.of (by simp only[l3];exact⟨[.bool false],rfl,by trivial⟩)
end
variable {j:Nat}
def D.z2 (k:Nat):D->D
 | .s4 j n=>if j=k then .top else .s4 j n
 | .y9 j lo c n=>if j=k then .top else .y9 j lo c n
 | .ref j i o=>if j=k then .top else .ref j i o
 | .r9 f j ps=>if j=k then .top else .r9 f j ps
 | .agg cs=>if k∈cs.flatMap D.l4 then .top else .agg cs
 | .w8 f cs=>if k∈cs.flatMap D.l4 then .top else .w8 f cs
 | .w9 cs x=>if k∈cs.flatMap D.l4 then .top else .w9 cs x
 |d=>d
def D.a7 (k:Nat):D->D
 | .s4 j n=>if j=k then .r8 else .s4 j n
 | .y9 j lo c n=>if j=k then .r8 else .y9 j lo c n
 | .ref j i o=>if j=k then .r8 else .ref j i o
 | .r9 f j ps=>if j=k then .r8 else .r9 f j ps
 |d=>d
def u4.z2 (k:Nat) (b:u4):u4:=if b.pr then b else{b with rows:=b.rows.map λr=>r.map (D.a7 k)}
theorem u4.ub (k:Nat) (b:u4):b.z2 k=Zr↔b=Zr:=by
 obtain⟨rows,l0,et,pr⟩:=b;unfold u4.z2;cases pr
 constructor;intro h;have:=congrArg u4.pr h;trivial;intro h;have:=congrArg u4.pr h;trivial;rfl
def St.z2 (k:Nat) (s:St):St:={fr:=s.fr.map λp=>(p.1,p.2.z2 k),H:=s.H.map λp=>(p.1,p.2.z2 k)}
def rem {α:Type} (k:Nat):List (Nat × α)->List (Nat × α)
 |[]=>[]
 |(j,v)::r=>if j=k then rem k r else(j,v)::rem k r
theorem Z9 {α β:Type} (f:α->β):∀(l:List (Nat × α)) (t:Nat),lk (l.map λp=>(p.1,f p.2)) t=(lk l t).map f
 |[],_=>rfl
 |(k,v)::r,t=>by
  simp only[QAr,Qe];split;rfl;exact Z9 f r t
theorem MJ {α:Type} (k:Nat):∀(l:List (Nat × α)) (t:Nat),lk (rem k l) t=if t=k then none else lk l t
 |[],t=>by simp[rem,lk]
 |(j,v)::r,t=>by
  simp only[rem]
  by_cases h:j=k
  rw[if_pos h,MJ k r t,Qe]
  grind
  rw[if_neg h,Qe,Qe,MJ k r t]
  grind
theorem Bc (h:j∈(d.z2 k).ids):j∈d.ids/\j≠k:=by
 cases d<;>simp only[D.z2]at h<;>try trivial
 grind [D.ids,D.l4]
 grind [D.ids,D.l4]
 grind [D.ids,D.l4]
 case r9 f i ps=>grind [D.ids,D.l4]
 grind [D.ids,D.l4]
 case w8 f cs=>
  grind [D.ids,D.l4]
 grind [D.ids,D.l4]
theorem Qdg (h:j∈(d.a7 k).l4):j∈d.l4/\j≠k:=by
 cases d<;>simp only[D.a7]at h<;>try trivial
 grind [D.l4]
 grind [D.l4]
 grind [D.l4]
 grind [D.l4]
section
variable {P:Program} {E:Env} {g:Gh} {s:St} {a:Act} {w:World} {o:Oper} {dst:Option Nat}
theorem l6.z2 {d:D} {v:Value} (h:l6 g d v) (k:Nat):l6 g (d.z2 k) v:=by
 have top:l6 g .top v:=by trivial
 cases d<;>simp only[D.z2]<;>try exact h
 all_goals (grind)
theorem z3.a7 {d:D} {v:Value} (h:z3 g d v) (k:Nat):z3 g (d.a7 k) v:=by
 cases d<;>simp only[D.a7]<;>try exact h
 case s4 j n=>
  split;obtain⟨_,_,rfl,_⟩:=h;rfl;omega
 case y9 j lo c n=>
  split;obtain⟨_,_,rfl,_⟩:=h;rfl;omega
 case ref j i o=>
  split;obtain⟨_,_,_,_,rfl⟩:=h;rfl;omega
 case r9 f j ps=>
  split;obtain⟨_,_,_,_,_,rfl,_⟩:=h;rfl;omega
theorem Qat (h:d.y4=true) (k:Nat):(d.a7 k).y4=true:=by
 cases d<;>simp only[D.a7]<;>try exact h
 all_goals (split<;>rfl)
theorem z4.z2 {c:Array Value} (k:Nat):∀{off:Nat} {ds:List D},z4 g c off ds->z4 g c off (ds.map (D.a7 k))
 |_,[],_=>by grind
 |off,d::ds,h=>by
  simp only[QAr,z4]at h ⊢;obtain⟨⟨h1,x,h2,G⟩,C⟩:=h;exact⟨⟨Qat h1 k,x,h2,G.a7 k⟩,z4.z2 k C⟩
theorem l5.z2 {c:Array Value} (k:Nat):∀{off:Nat} {rs:List (List D)},l5 g c off rs->l5 g c off (rs.map λr=>r.map (D.a7 k))
 |_,[],_=>by grind
 |off,r::rs,h=>by
  simp only[QAr,l5,QAH]at h ⊢;exact⟨h.1.z2 k,l5.z2 k h.2⟩
theorem u4.uc (k:Nat) (b:u4):(b.z2 k).l0=b.l0/\(b.z2 k).et=b.et/\((b.z2 k).rows=[]↔b.rows=[])/\(b.z2 k).pr=b.pr:=by
 unfold u4.z2;split<;>simp
theorem FS {b:u4} (C:j∈(b.z2 k).ids):j∈b.ids/\j≠k:=by
 unfold u4.z2 at C;cases hp:b.pr with
 |true=>grind [u4.ids]
 |false=>
  simp only[hp,QzV,if_false,u4.ids]at C;simp only[u4.ids,hp,QzV,if_false];obtain⟨r0,hr,C⟩:=QzU.1 C;obtain⟨O,G,rfl⟩:=Qz1.1 hr;obtain⟨d,hd,C⟩:=QzU.1 C;obtain⟨d1,M,rfl⟩:=Qz1.1 hd;obtain⟨U,T⟩:=Qdg C
  grind
def St.z6 (k:Nat) (s:St):St:={fr:=(s.z2 k).fr,H:=rem k (s.z2 k).H}
theorem Jd (k:Nat) (s:St) (j:Nat):lk (s.z6 k).H j=if j=k then none else(lk s.H j).map (u4.z2 k):=by
 grind [St.z6,MJ,St.z2,Z9]
theorem Rel.z6 (r:Rel E g s a w) (k:Nat) (hk0:k<1000000):Rel E g (s.z6 k) a w:=by
 have C:∀j,j≠k->(lk (s.z6 k).H j).isSome=(lk s.H j).isSome:=λj T=>by
  rw[Jd,if_neg T,Qz5]
 have key:∀j b,lk (s.z6 k).H j=some b->j≠k/\∃b0,lk s.H j=some b0/\b=b0.z2 k:=λj b h=>by
  grind [Jd,Option.map_eq_some_iff]
 refine⟨r.nt,r.df,λt d h=>?_,λt d h j T=>?_,λj b h i hi=>?_,λj b h=>?_,λj Y b b' B e e' h1 h2=>?_,r.kr,r.ext,r.kx,λj T=>let⟨h1,h2,h3,h4⟩:=r.kp j T;⟨h1,h2,h3,(C j Wa).trans h4⟩⟩
 simp only[St.z6,St.z2,Z9]at h;obtain⟨d0,h1,rfl⟩:=QzM.1 h;exact(r.fr t d0 h1).z2 k;simp only[St.z6,St.z2,Z9]at h;obtain⟨d0,h1,rfl⟩:=QzM.1 h;obtain⟨M,G⟩:=Bc T;rw[C j G];exact r.s9 t d0 h1 j M;obtain⟨_,b0,h1,rfl⟩:=key j b h;obtain⟨M,G⟩:=FS hi;rw[C i G];exact r.u9 j b0 h1 i M;obtain⟨_,b0,h1,rfl⟩:=key j b h;obtain⟨M,G,O⟩:=r.bx j b0 h1;obtain⟨e1,e2,e3,e4⟩:=u4.uc k b0;refine⟨?_, ?_, ?_⟩;unfold u4.z2
 grind
 intro hp;rw[e4]at hp;unfold u4.z2
 grind
 rcases O with⟨O,V⟩ |⟨O,B,c,V,q5,q6,q7,q8⟩;exact .inl ⟨e3.2 O,V.imp (λ⟨y,z⟩=>⟨y,z.trans (u4.ub k b0).symm⟩) λ⟨i1,i2,i3,sv,p,B,i4,i5⟩=>⟨e3.2 i1,Wa,by grind,sv,p,B,Wa,i5⟩⟩;refine .inr ⟨O.imp (λq h=>q (e3.1 h)) (λq=>Wa),B,c,by grind,by grind,q6, ?_,q8⟩;unfold u4.z2;split;omega;exact q7.z2 k;obtain⟨_,b0,M,_⟩:=key j b h1
 obtain⟨_,U,G,_⟩:=key Y b' h2;exact r.inj j Y b0 U B e e' M G
end
variable {et t:Nat} {i:TypeInfo} {ys:List (List D)}
section
variable {P:Program} {E:Env} {g:Gh} {s:St} {a:Act} {w:World} {o:Oper} {dst:Option Nat}
theorem Rel.de {s':St} (r:Rel E g s a w) (G:s'.fr=s.fr) (M:∀k,lk s'.H k=lk s.H k):Rel E g s' a w:=
 ⟨r.nt,r.df,λt d h=>r.fr t d (G ▸ h),λt d h k hk=>by rw[M];exact r.s9 t d (G ▸ h) k hk,λk b h j C=>by rw[M];exact r.u9 k b Wb j C,
  λk b h=>r.bx k b Wb,λk k' b b' B e e' h1 h2=>r.inj k k' b b' B e e' Wb Wb,r.kr,r.ext,r.kx,λj C=>let⟨h1,h2,h3,h4⟩:=r.kp j C;⟨h1,h2,h3,by grind⟩⟩
theorem M6 (t ty e:TypeId) (i:TypeInfo) (V:P.underlying t=some (.slice e)) (hi:P.info? e=some i)
 (g z C G:Nat) (cur:Array Value) (hg:w.heap[g]?=some (.cells cur e (0,0)))
 (a:Addr) (m c:Nat) (news:List Value) (Y:news.length=m*i.size) (O:∀j u,news[j]?=some u->w.cell? (a.add j)=some u) (h1:∀u∈news,u.oneCell'=true)
 (M:C+m<=G) (U:z+C*i.size+news.length<=cur.size):
  (Builtin.append_ #[t,t] ty #[.slice (some ⟨g,z,none⟩) C G,.slice (some a) m c]).run P w=
   .ok (.slice (some ⟨g,z,none⟩) (C+m) G) (w.setRow g (cur.toList.take (z+C*i.size)++news++cur.toList.drop (z+C*i.size+news.length)).toArray):=by
 have hf:=run_firstCells_some (P:=P) w i.size m a m c news Y O;have T:=run_storeCells_at P g (z+C*i.size) e news 0 cur w hg Wa h1;simp[Builtin.append_,run_underlying V,sizeOf,typeInfo,hi,Builtin.lenOf,M,hf,Addr.add_lit,T]
theorem _root_.Wd {p:Prop} (h:p:=by simp;omega):p:=h
theorem Rr {ty:TypeId} (r:Rel E g s a w)
 (ho:o.op=.call {callee:=.builtin .append,args:=#[x,y],argTypes:=#[st,st]}) (hty:o.type=ty) (hx:Qi x=some x') (hy:Qi y=some y')
 (hu:P.underlying st=some (.slice et)) (hi:P.info? et=some i) (hsz:i.size=l0) (hby:i.bytes=bytes) (hz:Gy P et=some zd) (hzl:zd.length=l0) (hes:l0≠0)
 (he:s.ev x'=some (.s4 k n)) (hk0:k<1000000) (hb:lk s.H k=some b) (hn:n=b.rows.length) (hbe:b.l0=l0) (hbt:b.et=et) (hself:(b.pr&&pr)=true\/∀r0∈b.rows++ys,∀d∈r0,k∉d.l4)
 (hf:s.ev y'=some d) (hsrc:s.src l0 d ys pr) (C:(n+ys.length)*bytes<=140737488355328) (hm:n+ys.length<=4611686018427387904):
  FO P E a w o {fr:=(s.z2 k).fr,H:=(k,⟨b.rows++ys,l0,et,b.pr&&pr⟩)::(s.z2 k).H} (.s4 k (n+ys.length)):=by
 obtain⟨a1,cap,hxv,hncap,hh⟩:=(QH r hx he).1;obtain⟨a0,O,hyv,hcap0,hat,hly,hidy,hpry,hcy⟩:=NO r (QH r hy hf).1 hsrc;obtain⟨i',z0,hi',hzz,hzr,_⟩:=YR hz g.K;rw[hi]at hi';cases hi'
 have hzc:z0.cells.size=l0:=by
  have:=(x4.sa hzr).1.len;simp at this;rw[this,hzl]
 have run:∀v w',(Builtin.append_ #[st,st] ty #[a.eval x,a.eval y]).run P w=.ok v w'->(execOp a.eval o).run P w=.ok (.value v) w':=λv w' h=>by
  simp[execOp,ho,hty,resolve,invoke,builtin,h]
 obtain⟨hrl,hpr,hbx⟩:=r.bx k b hb;subst hn;rw[hbe]at hrl
 have hall:∀r0∈b.rows++ys,r0.length=l0:=λr0 hr=>by
  rcases QzY.1 hr with hr |hr;exact hrl r0 hr;exact hly r0 hr
 have hsid:(b.pr&&pr)=true->∀r0∈b.rows++ys,∀d∈r0,d.l4=[]:=λhp r0 hr d hd=>by
  rw[QzR]at hp;rcases QzY.1 hr with hr |hr
  exact hpr hp.1 r0 hr d hd;exact hpry hp.2 r0 hr d hd
 have hids:∀r0∈b.rows++ys,∀d∈r0,∀j∈d.l4,(lk s.H j).isSome=true/\j≠k:=λr0 hr d hd j T=>by
  refine⟨?_, ?_⟩;rcases QzY.1 hr with hr |hr
  exact r.ua k b hb r0 hr d hd j T;exact hidy r0 hr d hd j T;rintro rfl;rcases hself with h |h
  rw[hsid h r0 hr d hd]at T;cases T;exact h r0 hr d hd T
 have hidw:∀r0∈b.rows++ys,∀d∈r0,∀j∈d.l4,(lk (s.z6 k).H j).isSome=true:=λr0 hr d hd j T=>by
  obtain⟨q1,q2⟩:=hids r0 hr d hd j T;rw[Jd,if_neg q2,Qz5];exact q1
 have hlkEq:∀(b':u4) j,lk ((k,b')::(s.z2 k).H) j=lk ((k,b')::rem k (s.z2 k).H) j:=λb' j=>by
  rw[Qe,Qe]
  by_cases h:k=j
  rw[if_pos h,if_pos h];rw[if_neg h,if_neg h,MJ,if_neg (Ne.symm h)]
 have hhas:∀b',Has {fr:=(s.z2 k).fr,H:=(k,b')::(s.z2 k).H} (.s4 k (b.rows.length+ys.length)):=λb' j T=>by
  simp[D.ids,D.l4]at T;subst T;simp[Qe]
 have hwn:lk (s.z6 k).H k=none:=by rw[Jd,if_pos rfl]
 have rw0:=r.z6 k hk0
 -- the new block
 have grow:∀(os ns:List Value) (V:Nat),x4 g b.rows.flatten os->x4 g ys.flatten ns->(∀r0∈b.rows,∀d∈r0,d.y4=true)->os.length=b.rows.length*l0->ns.length=ys.length*l0->b.rows++ys≠[]->
   (Builtin.append_ #[st,st] ty #[a.eval x,a.eval y]).run P w=.ok (.slice (some ⟨w.heap.size,0,none⟩) (b.rows.length+ys.length) (grownCap w (b.rows.length+ys.length) V et))
     (w.drew.alloc (.cells (os.toArray++ns.toArray++Builtin.zeroCells z0.cells (grownCap w (b.rows.length+ys.length) V et - (b.rows.length+ys.length))) et))->
   FO P E a w o {fr:=(s.z2 k).fr,H:=(k,⟨b.rows++ys,l0,et,b.pr&&pr⟩)::(s.z2 k).H} (.s4 k (b.rows.length+ys.length)):=by
  intro os ns V h1 h2 h3 h4 h5 h6 hr;have hge:=grownCap_ge w (b.rows.length+ys.length) V et
  have hc:l5 g (os.toArray++ns.toArray++Builtin.zeroCells z0.cells (grownCap w (b.rows.length+ys.length) V et - (b.rows.length+ys.length))) 0 (b.rows++ys):=by
   have:=KG (c:=os.toArray++ns.toArray++Builtin.zeroCells z0.cells (grownCap w (b.rows.length+ys.length) V et - (b.rows.length+ys.length)))
    (post:=(Builtin.zeroCells z0.cells (grownCap w (b.rows.length+ys.length) V et - (b.rows.length+ys.length))).toList) [] (b.rows++ys) (os++ns) (by rw[List.flatten_append];exact h1.append h2)
    (λr0 hr=>(QzY.1 hr).elim (h3 r0) (hcy r0)) (by apply Array.ext';simp)
   simpa using this
  obtain⟨g',q1,q2,q3,q4,r'⟩:=(rw0.heap (w':=w.drew) rfl).alloc (t:=k) (b:=⟨b.rows++ys,l0,et,b.pr&&pr⟩) hwn hall hsid (.inl h6) hc hidw;refine⟨_,_,g',run _ _ hr,r'.de rfl (hlkEq _),hhas _,.inr ⟨_,rfl,⟨_,_,rfl,hge,.inr (.inl ⟨w.heap.size,l0,q2,by rw[q3], ?_⟩)⟩⟩⟩;rw[q3];simp only[Nat.zero_add,Array.size_append,List.size_toArray,h4,h5,size_zeroCells,hzc];rw[<- QAw,<- QAw,Nat.add_sub_cancel' hge];exact QAe _
 have M:ys≠[]->∃B off ns,a0=some ⟨B,off,none⟩/\ns.length=ys.length*l0/\x4 g ys.flatten ns/\∀j v,ns[j]?=some v->w.cell? ((⟨B,off,none⟩:Addr).add j)=some v:=λG=>by
  obtain⟨B,off,e1,hat2⟩:=hat.resolve_left G;obtain⟨ns,n1,n2,n3⟩:=JQ hat2;exact⟨B,off,ns,e1,by rw[n1,Nc hly],n2,n3⟩
 subst hsz;subst hby
 replace hh:(b.rows.length=0/\cap=0)\/(∃B l0,g.β k=some (B,l0)/\a1=some ⟨B,(g.σ k).2,none⟩/\(g.σ k).2+cap*l0<=(g.σ k).1):=by
  rcases hh with hh |hh |hg;exact .inl hh;exact .inr hh;rcases hbx with⟨_,⟨_,h3⟩ |⟨_,_,_,l',p',B',i1,i2,_⟩⟩ |⟨_,_,_,h,_⟩;have:=congrArg u4.l0 (h3.1 hg.2)
  rw[hbe]at this;exact absurd this hes;exact(hg.no i2).elim;exact(hg.no h).elim
 rcases hh with⟨h0,rfl⟩ |⟨B,esz',hβ,rfl,hσ⟩
 -- nothing there yet
 have hbr:b.rows=[]:=QAq h0
 by_cases G:ys=[]
 subst G
 have hres:(execOp a.eval o).run P w=.ok (.value (.slice a1 0 0)) w:=by
  refine run _ _ ?_;rw[hxv,hyv,h0]
  have hfc:(Builtin.firstCells i.size 0 (.slice a0 0 O)).run P w=.ok #[] w:=by
   cases a0 with
   |none=>rfl
   |some b=>simp[Builtin.firstCells,loadCells,loadCellsFrom]
  cases a1 with
  |none=>simp[Builtin.append_,underlying,hu,sizeOf,typeInfo,hi,Builtin.lenOf,hfc]
  |some b=>simp[Builtin.append_,underlying,hu,sizeOf,typeInfo,hi,Builtin.lenOf,hfc,storeCells]
 obtain⟨g',q1,q2,r2⟩:=rw0.v9 (t:=k) (l0:=i.size) (et:=et) (b.pr&&pr) hwn;refine⟨_,w,g',hres,r2.de rfl ?_,hhas _,.inr ⟨_,rfl,⟨a1,0,by simp[h0],by simp[h0],.inl ⟨by simp[h0],rfl⟩⟩⟩⟩;intro j;simp only[hbr,QAj];exact hlkEq _ j;obtain⟨B,off,ns,e1,n1,n2,n3⟩:=M G;subst e1;have hyl:0<ys.length:=QAu.2 G;refine grow [] ns 0 (by rw[hbr];trivial) n2 (by rw[hbr];simp) (by rw[h0];simp) n1 (by simp[G]) ?_
 rw[hxv,hyv,h0];cases a1 with
 |none=>
  have:=run_append_nil (P:=P) w st ty et i z0 hu hi hzz ⟨B,off,none⟩ ys.length O ns n1 n3 hyl Wa (by rw[h0]at C;simp at C;omega)
  simpa using this
 |some b1=>
  have:=run_append_grow (P:=P) w st ty et i z0 hu hi hzz b1 0 0 [] Wc Wc ⟨B,off,none⟩ ys.length O ns n1 n3 Wa Wa (growslice_fits Wa (by rw[h0]at C;simpa using C))
  simpa using this
 obtain⟨_,B',c,k1,k2,k3,k4,k5,k6⟩:=hbx.resolve_left (by
  rintro⟨_,⟨h,_⟩ |⟨_,h,_⟩⟩;rw[h]at hβ;cases hβ;rw[hbe]at h;exact hes h)
 rw[hβ]at k1;simp only[QzQ,QAG]at k1;obtain⟨rfl,e2⟩:=k1;rw[hbe]at e2;subst e2;rw[hbt]at k2;obtain⟨z,hz⟩:∃z,z=(g.σ k).2:=⟨_,rfl⟩;rw[<- hz]at k4 hσ hxv;have hatx:=KO k2 z b.rows k4;obtain⟨os,o1,o2,o3⟩:=JQ hatx;have hol:os.length=b.rows.length*i.size:=by rw[o1,Nc hrl]
 have hcx:∀r0∈b.rows,∀d∈r0,d.y4=true:=λr0 hr d hd=>hatx.choose_spec.2.2.1 d (List.mem_flatten.2 ⟨r0,hr,hd⟩)
 by_cases hroom:b.rows.length+ys.length<=cap
 -- in place
 have hfit:z+(b.rows.length+ys.length)*i.size<=c.size:=by rw[k3];exact Qz6 (Nat.add_le_add_left (Nat.mul_le_mul_right _ hroom) z) hσ
 have inplace:∃ns:List Value,x4 g ys.flatten ns/\ns.length=ys.length*i.size/\(Builtin.append_ #[st,st] ty #[a.eval x,a.eval y]).run P w=.ok (.slice (some ⟨B,z,none⟩) (b.rows.length+ys.length) cap)
   (w.setRow B (c.toList.take (z+b.rows.length*i.size)++ns++c.toList.drop (z+b.rows.length*i.size+ns.length)).toArray):=by
  rw[hxv,hyv]
  by_cases G:ys=[]
  subst G;refine⟨[],trivial,by simp, ?_⟩
  have hfc:(Builtin.firstCells i.size 0 (.slice a0 0 O)).run P w=.ok #[] w:=by
   cases a0 with
   |none=>rfl
   |some b=>simp[Builtin.firstCells,loadCells,loadCellsFrom]
  have hself:=setRow_self w B c et (0,0) k2;have e3:(c.toList.take (z+b.rows.length*i.size)++[]++c.toList.drop (z+b.rows.length*i.size+([]:List Value).length)).toArray=c:=by simp
  rw[e3,hself];have hroom':b.rows.length<=cap:=by simpa using hroom
  simp[Builtin.append_,underlying,hu,sizeOf,typeInfo,hi,Builtin.lenOf,hfc,storeCells,hroom'];obtain⟨B2,off,ns,e1,n1,n2,n3⟩:=M G;subst e1
  have hone:∀u∈ns,u.oneCell'=true:=by
   have:∀{ds:List D} {vs:List Value},x4 g ds vs->(∀d∈ds,d.y4=true)->∀u∈vs,u.oneCell'=true:=by
    intro ds
    induction ds with
    |nil=>intro vs h _ u hu;cases vs with
     |nil=>cases hu
     |cons=>exact h.elim
    |cons d ds ih=>
     intro vs h hc u hu;cases vs with
     |nil=>exact h.elim
     |cons v vs=>
      cases hu with
      |head=>
       have hd:=hc d Wc;have h1:=h.1;cases d<;>first |exact l3.cell h1 hd |(obtain⟨_,_,rfl,_⟩:=h1;rfl) |(obtain⟨_,_,_,_,rfl⟩:=h1;rfl) |(obtain⟨_,_,_,_,_,rfl,_⟩:=h1;rfl)
      |tail _ hm=>exact ih h.2 (λy hy=>hc y (by simp[hy])) u hm
   exact this n2 (λd hd=>by obtain⟨r0,hr,hd⟩:=List.mem_flatten.1 hd;exact hcy r0 hr d hd)
  exact⟨ns,n2,n1,M6 (P:=P) (w:=w) st ty et i hu hi B z b.rows.length cap c k2 ⟨B2,off,none⟩ ys.length O ns n1 n3 hone hroom (by rw[n1,Nat.add_assoc,<- QAw];exact hfit)⟩
 obtain⟨ns,m1,m2,hrun⟩:=inplace
 have hlen:(c.toList.take (z+b.rows.length*i.size)++ns++c.toList.drop (z+b.rows.length*i.size+ns.length)).length=c.size:=by
  rw[QAw]at hfit;simp only[QAs,QAk,List.length_drop,QAv];omega
 have hrows:l5 g (c.toList.take (z+b.rows.length*i.size)++ns++c.toList.drop (z+b.rows.length*i.size+ns.length)).toArray z (b.rows++ys):=by
  have hzl:(c.toList.take z).length=z:=by rw[QAw]at hfit;simp;omega
  have hos:c.toList.take (z+b.rows.length*i.size)=c.toList.take z++os:=by
   apply List.ext_getElem?;intro p
   by_cases hp:p<z+b.rows.length*i.size
   rw[List.getElem?_take_of_lt hp,QAF]
   by_cases hpz:p<z
   rw[QAI Wa,List.getElem?_take_of_lt hpz,QAF];rw[QAE Wa,hzl];have hpl:p - z<os.length:=Wa;have:=o3 (p - z) os[p - z] (QAB hpl);rw[add_lit]at this;simp only[World.cell?,k2,Option.isSome_none,QzV,if_false]at this;rw[show z+(p - z)=p by omega]at this;rw[this,QAB hpl];rw[List.getElem?_eq_none Wd,List.getElem?_eq_none (by rw[QAs];omega)]
  rw[hos]
  have:=KG (g:=g) (c:=(c.toList.take z++os++ns++c.toList.drop (z+b.rows.length*i.size+ns.length)).toArray) (post:=c.toList.drop (z+b.rows.length*i.size+ns.length)) (c.toList.take z) (b.rows++ys) (os++ns)
   (by rw[List.flatten_append];exact o2.append m1) (λr0 hr=>(QzY.1 hr).elim (hcx r0) (hcy r0)) Wc
  rw[hzl]at this
  simpa using this
 -- the other boxes do not see it
 have U:=r.zf (b':=⟨b.rows++ys,i.size,et,b.pr&&pr⟩) (c':=(c.toList.take (z+b.rows.length*i.size)++ns++c.toList.drop (z+b.rows.length*i.size+ns.length)).toArray) hb (by rw[hbe];exact hβ) (by rw[hbt];exact k2)
  (by simpa using hlen) k3 k5 k6 (by simp[hbe]) (setRow_heap w B c _ et (0,0) k2) (λi hi=>setRow_other w B i _ hi) Wc hall hsid (.inr hes) (by rw[<- hz];exact hrows) (λr0 hr d hd j T=>(hids r0 hr d hd j T).1)
 have r2:Rel E g {fr:=(s.z2 k).fr,H:=(k,⟨b.rows++ys,i.size,et,b.pr&&pr⟩)::(s.z2 k).H} a (w.setRow B (c.toList.take (z+b.rows.length*i.size)++ns++c.toList.drop (z+b.rows.length*i.size+ns.length)).toArray):=by
  have Y:∀j,(lk ((k,(⟨b.rows++ys,i.size,et,b.pr&&pr⟩:u4))::(s.z2 k).H) j).isSome=(lk ((k,(⟨b.rows++ys,i.size,et,b.pr&&pr⟩:u4))::s.H) j).isSome:=λj=>by
   rw[Qe,Qe];split;rfl;simp only[St.z2,Z9,Qz5]
  have key:∀j b',lk ((k,(⟨b.rows++ys,i.size,et,b.pr&&pr⟩:u4))::(s.z2 k).H) j=some b'->∃b0,lk ((k,(⟨b.rows++ys,i.size,et,b.pr&&pr⟩:u4))::s.H) j=some b0/\(b'=b0\/b'=b0.z2 k):=λj b' h=>by
   rw[Qe]at h ⊢;split at h;rename_i e;rw[if_pos e];cases h;exact⟨_,rfl,.inl rfl⟩;rename_i e;rw[if_neg e];simp only[St.z2,Z9]at h;obtain⟨b0,h1,h2⟩:=QzM.1 h;exact⟨b0,h1,.inr h2.symm⟩
  refine⟨U.nt,U.df,λt d h=>?_,λt d h j T=>?_,λj b' h q hq=>?_,λj b' h=>?_,λj j' b1 b2 B1 e e' h1 h2=>?_,U.kr,U.ext,U.kx,λj T=>let⟨h1,h2,h3,h4⟩:=U.kp j T;⟨h1,h2,h3,(Y j).trans h4⟩⟩
  simp only[St.z2,Z9]at h;obtain⟨d0,h1,rfl⟩:=QzM.1 h;exact(U.fr t d0 h1).z2 k;simp only[St.z2,Z9]at h;obtain⟨d0,h1,rfl⟩:=QzM.1 h;obtain⟨q1,q2⟩:=Bc T;rw[Y];exact U.s9 t d0 h1 j q1;obtain⟨b0,h1,h2⟩:=key j b' h;rw[Y];rcases h2 with rfl |rfl
  exact U.u9 j _ h1 q hq;exact U.u9 j b0 h1 q (FS hq).1;obtain⟨b0,h1,h2⟩:=key j b' h;rcases h2 with rfl |rfl
  exact U.bx j _ h1;obtain⟨q1,q2,q3⟩:=U.bx j b0 h1;obtain⟨e1,e2,e3,e4⟩:=u4.uc k b0;refine⟨?_, ?_, ?_⟩;unfold u4.z2;split;exact q1;intro r0 hr;obtain⟨U,hr1,rfl⟩:=Qz1.1 hr
  simpa using q1 U hr1
  intro hp;rw[e4]at hp;unfold u4.z2;rw[if_pos hp];exact q2 hp;rcases q3 with⟨q3,q4⟩ |⟨q3,B,c,q4,q5,q6,q7,q8⟩
  exact .inl ⟨e3.2 q3,q4.imp (λ⟨y,z⟩=>⟨y,z.trans (u4.ub k b0).symm⟩) λ⟨i1,i2,i3,sv,p,B,i4,i5⟩=>⟨e3.2 i1,by rw[e1];exact i2,by rw[e4];exact i3,sv,p,B,by rw[e2];exact i4,i5⟩⟩
  refine .inr ⟨q3.imp (λq h=>q (e3.1 h)) (λq=>by rw[e1];exact q),B,c,by rw[e1];exact q4,by rw[e2];exact q5,q6, ?_,q8⟩
  unfold u4.z2;split;exact q7;exact q7.z2 k;obtain⟨b3,h5,_⟩:=key j b1 h1;obtain⟨b4,h6,_⟩:=key j' b2 h2;exact U.inj j j' b3 b4 B1 e e' h5 h6
 exact⟨_,_,g,run _ _ hrun,r2,hhas _,.inr ⟨_,rfl,⟨_,cap,rfl,hroom,.inr (.inl ⟨B,i.size,hβ,by rw[<- hz],by rw[<- hz];exact hσ⟩)⟩⟩⟩
 -- it grows
 by_cases G:ys=[]
 subst G;simp at hroom;omega;obtain⟨B2,off,ns,e1,n1,n2,n3⟩:=M G;subst e1;refine grow os ns cap o2 n2 hcx hol n1 (by simp[G]) ?_;rw[hxv,hyv];exact run_append_grow (P:=P) w st ty et i z0 hu hi hzz ⟨B,z,none⟩ b.rows.length cap os hol o3 ⟨B2,off,none⟩ ys.length O ns n1 n3 Wa Wa (growslice_fits Wa C)
theorem z3.y8 {g1:Gh} {v:Value} (T:g1.K=g.K) (C:g1.gone k) (ho:∀j,j≠k->j≠t->g1.β j=g.β j/\g1.σ j=g.σ j) (O:t∉d.l4) (h:z3 g d v):z3 g1 d v:=by
 by_cases hk:k∈d.l4
 cases d<;>simp[D.l4]at hk
 subst hk;obtain⟨G,cap,h1,h2,_⟩:=h;exact⟨G,cap,h1,h2,.inr (.inr C)⟩;subst hk;obtain⟨G,cap,h1,h2,_⟩:=h;exact⟨G,cap,h1,h2,.inr (.inr C)⟩;subst hk;obtain⟨B,e,o,_,h2⟩:=h;exact⟨B,e,o,.inr C,h2⟩;subst hk;obtain⟨B,e,o,cs,_,h2,U⟩:=h;exact⟨B,e,o,cs,.inr C,h2,by grind⟩;refine h.congr (by grind [Kn.le_refl]) λj M=>ho j (λe=>hk (e ▸ M)) (λe=>O (e ▸ M))
theorem x4.y8 {g1:Gh} {k t:Nat} (G:g1.K=g.K) (C:g1.gone k) (ho:∀j,j≠k->j≠t->g1.β j=g.β j/\g1.σ j=g.σ j):∀{ds:List D} {vs:List Value},t∉ds.flatMap D.l4->x4 g ds vs->x4 g1 ds vs
 |[],[],_,_=>trivial
 |d::ds,v::vs,ht,h=>by
  rw[QAi,QzY,not_or]at ht;exact⟨h.1.y8 G C ho ht.1,x4.y8 G C ho ht.2 h.2⟩
 |[],_::_,_,h=>h.elim
 |_::_,[],_,h=>h.elim
theorem l6.y8 {g1:Gh} {k t:Nat} {d:D} {v:Value} (C:g1.K=g.K) (M:g1.gone k) (ho:∀j,j≠k->j≠t->g1.β j=g.β j/\g1.σ j=g.σ j) (G:t∉d.ids) (h:l6 g d v):l6 g1 d v:=by
 cases d
 case agg cs=>
  obtain⟨vs,h1,h2,O⟩:=h;exact⟨vs,h1,h2.y8 C M ho G,O⟩
 case w8 f cs=>
  obtain⟨vs,h1,h2⟩:=h;exact⟨vs,h1,h2.y8 C M ho G⟩
 case w9 cs x=>
  obtain⟨vs,u,h1,h2,O,T⟩:=h;exact⟨vs,u,h1,h2.y8 C M ho G,O,l3.mono (by rw[C];exact Kn.le_refl _) _ _ T⟩
 case s4 j n=>exact z3.y8 (d:=.s4 j n) C M ho G h
 case y9 j lo c n=>exact z3.y8 (d:=.y9 j lo c n) C M ho G h
 case ref j i q=>exact z3.y8 (d:=.ref j i q) C M ho G h
 case r9 f j ps=>exact z3.y8 (d:=.r9 f j ps) C M ho G h
 all_goals exact l3.mono (by rw[C];exact Kn.le_refl _) _ _ h
theorem z4.y8 {g1:Gh} {k t:Nat} {c:Array Value} (G:g1.K=g.K) (C:g1.gone k) (ho:∀j,j≠k->j≠t->g1.β j=g.β j/\g1.σ j=g.σ j):∀{off:Nat} {ds:List D},(∀d∈ds,t∉d.l4)->z4 g c off ds->z4 g1 c off ds
 |_,[],_,_=>by trivial
 |off,d::ds,ht,h=>by
  obtain⟨⟨h1,x,h2,O⟩,M⟩:=h;exact⟨⟨h1,x,h2,O.y8 G C ho (ht d Wc)⟩,z4.y8 G C ho (λd hd=>ht d Wb) M⟩
theorem l5.y8 {g1:Gh} {k t:Nat} {c:Array Value} (G:g1.K=g.K) (C:g1.gone k) (ho:∀j,j≠k->j≠t->g1.β j=g.β j/\g1.σ j=g.σ j):∀{off:Nat} {rs:List (List D)},(∀r∈rs,∀d∈r,t∉d.l4)->l5 g c off rs->l5 g1 c off rs
 |_,[],_,_=>by trivial
 |off,r::rs,ht,h=>by
  exact⟨z4.y8 G C ho (ht r Wc) h.1,l5.y8 G C ho (λr hr=>ht r Wb) h.2⟩
theorem j6.y8 {g1:Gh} {k t j G:Nat} {b:u4} (V:g1.K=g.K) (U:g1.gone k) (ho:∀j,j≠k->j≠t->g1.β j=g.β j/\g1.σ j=g.σ j) (T:∀r∈b.rows,∀d∈r,t∉d.l4) (C:g1.β G=g.β j/\g1.σ G=g.σ j) (h:j6 E g w j b):j6 E g1 w G b:=by
 obtain⟨h1,h2,h3⟩:=h;refine⟨h1,h2,h3.imp (λ⟨x,y⟩=>⟨x,y.imp (λy=>⟨C.1.trans y.1,by grind⟩) λ⟨i1,i2,i3,O,p,B,i4,i5,i6,i7,i8⟩=>⟨i1,i2,i3,O,p,B,i4,C.1.trans i5,i6,(by simp_all),i8.1,by grind⟩⟩) ?_⟩;rintro⟨h4,B,c,h5,h6,h7,Y,h9,M⟩;exact⟨h4,B,c,C.1.trans h5,h6,Wb,(by rw[C.2];exact Y.y8 V U ho T),(by simp_all),M⟩
theorem Rel.y8 {k t:Nat} {b:u4} (r:Rel E g s a w) (hb:lk s.H k=some b) (hk0:k<1000000) (ht:lk s.H t=none):∃g1,g1.K=g.K/\g1.gone k/\g1.β t=g.β k/\g1.σ t=g.σ k/\(∀j,j≠k->j≠t->g1.β j=g.β j/\g1.σ j=g.σ j)/\Rel E g1 {s with H:=(t,b)::(k,Zr)::s.H} a w:=by
 let g1:Gh:=⟨g.K,λj=>if j=k then none else if j=t then g.β k else g.β j,λj=>if j=k then(1,0)else if j=t then g.σ k else g.σ j⟩;have T:g1.gone k:=⟨if_pos rfl,if_pos rfl⟩;have V:g1.β t=g.β k/\g1.σ t=g.σ k:=⟨by grind,by grind⟩;have ho:∀j,j≠k->j≠t->g1.β j=g.β j/\g1.σ j=g.σ j:=λj h1 h2=>⟨by grind,by grind⟩;have nt:∀j,(lk s.H j).isSome=true->j≠t:=λj O e=>by grind
 have C:∀j,(lk s.H j).isSome=true->(lk ((t,b)::(k,Zr)::s.H) j).isSome=true:=λj O=>by
  grind [Qe]
 have key:∀j b',lk ((t,b)::(k,Zr)::s.H) j=some b'->(j=t/\b'=b)\/(j=k/\b'=Zr)\/(j≠t/\j≠k/\lk s.H j=some b'):=λj b' h=>by
  rw[Qe]at h;split at h
  grind
  rw[Qe]at h
  grind
 refine⟨g1,rfl,T,V.1,V.2,ho,r.nt,r.df,λu d h=>l6.y8 (g:=g) rfl T ho (λG=>nt t (r.s9 u d h t G) rfl) (r.fr u d h),λu d h j O=>C j (r.s9 u d h j O),λj b' h i hi=>?_,λj b' h=>?_,λj U b1 Y B e e' h1 h2 h3 h4=>?_,r.kr,r.ext,r.kx,λj O=>?_⟩;rcases key j b' h with⟨_,rfl⟩ |⟨_,rfl⟩ |⟨_,_,h⟩
 exact C i (r.u9 k b' hb i hi);trivial;exact C i (r.u9 j b' h i hi);rcases key j b' h with⟨rfl,rfl⟩ |⟨rfl,rfl⟩ |⟨h1,h2,h⟩
 exact j6.y8 (g:=g) rfl T ho (λrow hr d hd G=>nt _ (r.ua k b' hb row hr d hd _ G) rfl) V (r.bx k b' hb);exact⟨by trivial,by trivial,.inl ⟨rfl,.inl ⟨T.1,by grind⟩⟩⟩;exact j6.y8 (g:=g) rfl T ho (λrow hr d hd G=>nt _ (r.ua j b' h row hr d hd _ G) rfl) (ho j h2 h1) (r.bx j b' h)
 have G:∀j b',lk ((t,b)::(k,Zr)::s.H) j=some b'->∀B e,g1.β j=some (B,e)->(j=t/\g.β k=some (B,e))\/(j≠k/\j≠t/\g.β j=some (B,e)/\lk s.H j=some b'):=λj b' h B e hβ=>by
  grind
 rcases G j b1 h1 B e h3 with⟨p,q⟩ |⟨p,_,q,q2⟩<;>rcases G U Y h2 B e' h4 with⟨p',q'⟩ |⟨p',_,q',M⟩
 omega;exact absurd (r.inj k U b Y B e e' hb M q q').symm p';exact absurd (r.inj j k b1 b B e e' q2 hb q q') p;exact r.inj j U b1 Y B e e' q2 M q q';obtain⟨h1,h2,h3,h4⟩:=r.kp j O
 grind
theorem wa (h:k∉d.ids):d.z2 k=d:=by
 cases d<;>simp only[D.z2]<;>try rfl
 case s4 j n=>rw[if_neg (λe=>h (by simp[D.ids,D.l4,e]))]
 case y9 j lo c n=>rw[if_neg (λe=>h (by simp[D.ids,D.l4,e]))]
 case ref j i q=>rw[if_neg (λe=>h (by simp[D.ids,D.l4,e]))]
 case r9 f j ps=>rw[if_neg (λe=>h (by simp[D.ids,D.l4,e]))]
 case agg cs=>exact if_neg h
 case w8 f cs=>exact if_neg h
 case w9 cs x=>exact if_neg h
theorem Qau (h:k∉d.l4):d.a7 k=d:=by
 cases d<;>simp only[D.a7]<;>try rfl
 case s4 j n=>rw[if_neg (λe=>h (by simp[D.l4,e]))]
 case y9 j lo c n=>rw[if_neg (λe=>h (by simp[D.l4,e]))]
 case ref j i q=>rw[if_neg (λe=>h (by simp[D.l4,e]))]
 case r9 f j ps=>rw[if_neg (λe=>h (by simp[D.l4,e]))]
theorem u4.wa (h:∀r∈b.rows,∀d∈r,k∉d.l4):b.z2 k=b:=by
 unfold u4.z2;split;rfl
 have:b.rows.map (λr=>r.map (D.a7 k))=b.rows:=by
  have:∀rs:List (List D),(∀r∈rs,∀d∈r,k∉d.l4)->rs.map (λr=>r.map (D.a7 k))=rs:=by
   intro rs
   induction rs with
   |nil=>simp
   |cons r rs C=>
    intro h;rw[QAr,C λr hr=>h r Wb];have h0:=h r Wc
    induction r with
    |nil=>rfl
    |cons d ds C=>grind [Qau]
  grind
 rw[this]
theorem Ci {ty:TypeId} (r:Rel E g s a w)
 (ho:o.op=.call {callee:=.builtin .append,args:=#[x,y],argTypes:=#[st,st]}) (hty:o.type=ty) (hx:Qi x=some x') (hy:Qi y=some y')
 (hu:P.underlying st=some (.slice et)) (hi:P.info? et=some i) (Y:i.size=l0) (hby:i.bytes=bytes) (hz:Gy P et=some zd) (hzl:zd.length=l0) (hes:l0≠0)
 (he:s.ev x'=some (.s4 k n)) (hk0:k<1000000) (ht:lk s.H t=none) (ht0:t<1000000) (hb:lk s.H k=some b) (hn:n=b.rows.length) (hbe:b.l0=l0) (hbt:b.et=et)
 (hf:s.ev y'=some d) (hkd:k∉d.ids) (G:s.src l0 d ys pr) (T:(n+ys.length)*bytes<=140737488355328) (hm:n+ys.length<=4611686018427387904):
  FO P E a w o {s with H:=(t,⟨b.rows++ys,l0,et,b.pr&&pr⟩)::(k,Zr)::s.H} (.s4 t (n+ys.length)):=by
 obtain⟨hxr,hxh⟩:=QH r hx he;have hrys:=NO r (QH r hy hf).1 G;obtain⟨g1,q1,q2,q3,q4,q5,r1⟩:=r.y8 hb hk0 ht;have nt:∀j,(lk s.H j).isSome=true->j≠t:=λj M e=>by grind
 have V:t≠k:=λe=>by grind
 -- the operand is a slot
 have hslot:∃u,x=.tmp u/\x'=.s u:=by
  cases x with
  |tmp u=>exact⟨u,rfl,(Ha hx).2⟩
  |const v=>
   obtain⟨d0,h1,rfl⟩:=QzM.1 hx;simp only[St.ev,QzQ]at he;subst he;have:=(GC h1 g.K).2;trivial
  |func f=>
   rw[(Gp hx).2]at he
   grind [St.ev]
  |global i=>
   simp only[Qi,QzQ]at hx;subst hx;have hs:=r.fr _ _ he;have Y:a.tmps.size<=900000+i:=by rw[r.nt.1];exact Qz6 r.nt.2 (Nat.le_add_right _ _)
   rw[QAf,Array.getElem?_eq_none Y,Option.getD_none,Fb,if_neg Wa]at hs;obtain⟨_,_,h1,_⟩:=hs
   grind
 obtain⟨u,rfl,rfl⟩:=hslot;have hval:a.tmps.getD u (Fb u)=a.eval (.tmp u):=by rw[Fb,if_pos (Ha hx).1];rfl
 have hrt:l6 g1 (.s4 t n) (a.eval (.tmp u)):=by
  obtain⟨a0,cap,h1,h2,h3⟩:=hxr;refine⟨a0,cap,h1,h2, ?_⟩
  grind [Gh.gone]
 have r2:Rel E g1 {fr:=(u,.s4 t n)::s.fr,H:=(t,b)::(k,Zr)::s.H} a w:=by
  refine{r1 with fr:=λv x h=>?_,s9:=λv x h j M=>?_};rw[Qe]at h;split at h
  grind
  exact r1.fr v x h;rw[Qe]at h;split at h
  grind [D.ids,D.l4,Qe]
  exact r1.s9 v x h j M
 have hyu:y'≠.s u:=λe=>by
  grind [D.ids,D.l4]
 have hf2:St.ev {fr:=(u,.s4 t n)::s.fr,H:=(t,b)::(k,Zr)::s.H} y'=some d:=by
  cases y' with
  |s v=>
   have:u≠v:=λe=>hyu (by rw[e])
   (repeat clear hK K);simp_all [St.ev,Qe]
  |c e=>exact hf
 have hsrc2:St.src {fr:=(u,.s4 t n)::s.fr,H:=(t,b)::(k,Zr)::s.H} l0 d ys pr:=by
  cases d<;>simp only[St.src]at G ⊢<;>try omega
  rename_i j m;obtain⟨b0,h1,h2⟩:=G;refine⟨b0, ?_,h2⟩;rw[Qe,if_neg (nt j Wb).symm,Qe,if_neg (λe=>hkd (by simp[D.ids,D.l4,e]))];omega
 have hself:∀r0∈b.rows++ys,∀d∈r0,t∉d.l4:=λr0 hr x hx O=>by
  rcases QzY.1 hr with hr |hr;exact nt t (r.ua k b hb r0 hr x hx t O) rfl
  grind
 obtain⟨nx,w',g',e1,C,e3,e4⟩:=Rr r2 ho hty hx hy hu hi Y hby hz hzl hes (by simp[St.ev,Qe]) ht0 (by rw[Qe,if_pos rfl]) hn hbe hbt (.inr hself) hf2 hsrc2 T hm
 have hgone:g'.gone k:=by
  have O:lk ((t,⟨b.rows++ys,l0,et,b.pr&&pr⟩)::(St.z2 t {fr:=(u,.s4 t n)::s.fr,H:=(t,b)::(k,Zr)::s.H}).H) k=some Zr:=by
   rw[Qe,if_neg V];simp only[St.z2,Z9,Qe,if_neg V,if_pos];rfl
  obtain⟨_,_,h3⟩:=C.bx k Zr O;rcases h3 with⟨_,⟨h3,h4⟩ |⟨_,_,h,_⟩⟩ |⟨h,_⟩
  exact⟨h3,h4.2 rfl⟩;trivial;trivial
 have hfr:∀v x,lk s.fr v=some x->v≠u->lk ((St.z2 t {fr:=(u,.s4 t n)::s.fr,H:=(t,b)::(k,Zr)::s.H}).fr) v=some x:=λv x h U=>by
  simp only[St.z2,Z9,Qe,if_neg (Ne.symm U),h,QAy];rw[wa λO=>nt t (r.s9 v x h t O) rfl]
 have hH:∀j,lk ((t,⟨b.rows++ys,l0,et,b.pr&&pr⟩)::(St.z2 t {fr:=(u,.s4 t n)::s.fr,H:=(t,b)::(k,Zr)::s.H}).H) j=lk ((t,⟨b.rows++ys,l0,et,b.pr&&pr⟩)::(k,Zr)::s.H) j:=λj=>by
  rw[Qe,Qe];split;rfl;rename_i M;simp only[St.z2,Z9];rw[Qe,if_neg M];cases O:lk ((k,Zr)::s.H) j with
  |none=>rfl
  |some b0=>
   rw[QAy,u4.wa];rw[Qe]at O;split at O
   grind [Zr]
   exactλrow hr x hx ht'=>nt t (r.ua j b0 O row hr x hx t ht') rfl
 refine⟨nx,w',g',e1, ?_,λj M=>by grind [D.ids,D.l4,Qe],e4⟩;refine⟨C.nt,C.df,λv x h=>?_,λv x h j M=>?_,λj b' h i hi=>?_,λj b' h=>?_,λj j' b1 b2 B e e' h1 h2=>?_,C.kr,C.ext,C.kx,λj M=>let⟨h1,h2,h3,h4⟩:=C.kp j M;⟨h1,h2,h3,by grind⟩⟩
 by_cases U:v=u
 subst U
 have:x=.s4 k n:=by
  have he':lk s.fr v=some (.s4 k n):=he
  grind
 subst this;rw[hval];obtain⟨a0,cap,h1,h2,_⟩:=hxr;exact⟨a0,cap,h1,h2,.inr (.inr hgone)⟩;exact C.fr v x (hfr v x h U);rw[<- hH]
 by_cases U:v=u
 subst U
 have:x=.s4 k n:=by
  have he':lk s.fr v=some (.s4 k n):=he
  grind
 subst this;simp[D.ids,D.l4]at M;subst M;rw[hH,Qe,if_neg V,Qe,if_pos rfl];rfl;exact C.s9 v x (hfr v x h U) j M;rw[<- hH];exact C.u9 j b' Wb i hi;exact C.bx j b' Wb;exact C.inj j j' b1 b2 B e e' Wb Wb
end
theorem l5.ng {g:Gh} {c:Array Value} {l0:Nat}:∀(l:Nat) {off:Nat} {rs:List (List D)},(∀r∈rs,r.length=l0)->l<=rs.length->l5 g c off rs->l5 g c (off+l*l0) (rs.drop l)
 |0,off,rs,_,_,h=>by grind
 |l+1,off,[],_,hl,_=>by grind
 |l+1,off,r::rs,hr,hl,h=>by
  have:=l5.ng l (λx hx=>hr x Wb) Wb h.2
  grind
section
variable {P:Program} {E:Env} {g:Gh} {s:St} {a:Act} {w:World} {o:Oper}
theorem QeN {et:TypeId} {l:Nat} {lo hi mx:Option Operand} {lo' hi' mx':Option n5} (r:Rel E g s a w)
 (ho:o.op=.slice st x lo hi mx) (hx:Qi x=some x') (hlo:Q4 lo=some lo') (hhi:Q4 hi=some hi') (hmx:Q4 mx=some mx') (hu:P.underlying st=some (.slice et)) (hs:YS P et=some l0)
 (he:s.ev x'=some (.s4 k n)) (hk0:k<1000000) (hb:lk s.H k=some b) (hn:n=b.rows.length) (hbe:b.l0=l0) (hes:l0≠0) (O:∀r0∈b.rows,∀d∈r0,k∉d.l4)
 (bl:s.bd lo' 0 l) (bh:s.bd hi' n n) (hln:l<=n) (hm:mx'=none):
  FO P E a w o {fr:=(s.z2 k).fr,H:=(k,⟨b.rows.drop l,l0,b.et,b.pr⟩)::(s.z2 k).H} (.s4 k (n - l)):=by
 obtain⟨⟨a0,cap,hv,hc,h4⟩,hid⟩:=QH r hx he;subst hm hbe hn;have hbd:=Xs (P:=P) r (isS:=true) hlo hhi hmx bl bh rfl hln hc (QAe _) Wc
 have run:(execOp a.eval o).run P w=.ok (.value (.slice (if cap - l=0 then a0 else a0.map (·.add (l*b.l0))) (b.rows.length - l) (cap - l))) w:=by
  simp[execOp,ho,hv,Instr.sliceAt,Instr.slice,underlying,hu,hbd,QM hs]
  grind
 obtain⟨g',gK,gB,gS⟩:∃g':Gh,g'.K=g.K/\g'.β=g.β/\∀j,g'.σ j=if j=k then((g.σ k).1,(g.σ k).2+l*b.l0)else g.σ j:=
  ⟨⟨g.K,g.β,λj=>if j=k then((g.σ k).1,(g.σ k).2+l*b.l0)else g.σ j⟩,rfl,rfl,λ_=>rfl⟩
 have M:g'.σ k=((g.σ k).1,(g.σ k).2+l*b.l0):=by grind
 have gN:∀j,j≠k->g'.β j=g.β j/\g'.σ j=g.σ j:=λj C=>by grind
 have nk:∀j,(lk (s.z6 k).H j).isSome=true->j≠k/\∃b0,lk s.H j=some b0:=λj C=>by
  rw[Jd]at C
  grind [Option.isSome_iff_exists]
 have G:=(r.z6 k hk0).move (λb _=>by rw[gK]) (λj C=>gN j (nk j C).1) (by rw[gK];exact r.kr) (λ_ _=>rfl) (QAe _)
 obtain⟨Y,hpr,U⟩:=r.bx k b hb
 have hL:∀b',∀j,(lk ((k,b')::(s.z6 k).H) j).isSome=true↔j=k\/(lk (s.z6 k).H j).isSome=true:=λb' j=>by
  rw[Qe]
  grind
 have hidb:∀r0∈b.rows,∀d∈r0,∀j∈d.l4,j≠k/\(lk (s.z6 k).H j).isSome=true:=λr0 hr d hd j C=>by
  have h1:j≠k:=λe=>O r0 hr d hd (e ▸ C);refine⟨h1, ?_⟩;rw[Jd,if_neg h1,Qz5];exact r.ua k b hb r0 hr d hd j C
 have h0:b.rows=[]->l=0:=λh=>by grind
 have hbk:j6 E g' w k ⟨b.rows.drop l,b.l0,b.et,b.pr⟩:=by
  refine⟨λr0 hr=>Y r0 (QAh hr),λhp r0 hr=>hpr hp r0 (QAh hr), ?_⟩;rcases U with⟨hnil,⟨h1,h2⟩ |⟨_,h1,_⟩⟩ |⟨h1,B,c,h2,h3,h4,h5,h6,h7⟩
  have hl:=h0 hnil;subst hl;refine .inl ⟨by grind,.inl ⟨by grind, ?_⟩⟩;rw[M,Nat.zero_mul,QAC,List.drop_zero];omega
  grind
  refine .inr ⟨.inr hes,B,c,by grind,h3,by grind, ?_,λo=>by simp_all,h7⟩;rw[M];exact(l5.ng l Y hln h5).congr (by grind [Kn.le_refl]) λr0 hr d hd j C=>gN j (hidb r0 (QAh hr) d hd j C).1
 have r2:Rel E g' ⟨(s.z6 k).fr,(k,⟨b.rows.drop l,b.l0,b.et,b.pr⟩)::(s.z6 k).H⟩ a w:=by
  refine⟨G.nt,G.df,G.fr,λt d h j C=>(hL _ j).2 (.inr (G.s9 t d h j C)),λj b2 h i hi=>(hL _ i).2 (.inr ?_),λj b2 h=>?_,λj j' b1 b2 B e e' h1 h2 h3 h4=>?_,G.kr,G.ext,G.kx,λj C=>?_⟩;rw[Qe]at h;split at h;cases h
  unfold u4.ids at hi
  grind
  exact G.u9 j b2 h i hi;rw[Qe]at h;split at h
  grind
  exact G.bx j b2 h;rw[gB]at h3 h4
  have V:∀j b1,lk ((k,⟨b.rows.drop l,b.l0,b.et,b.pr⟩)::(s.z6 k).H) j=some b1->∃b0,lk s.H j=some b0:=λj b1 h=>by
   grind
  obtain⟨b3,q1⟩:=V j b1 h1;obtain⟨b4,q2⟩:=V j' b2 h2;exact r.inj j j' b3 b4 B e e' q1 q2 h3 h4;obtain⟨q1,q2,q3,q4⟩:=G.kp j C
  grind
 have T:∀j,lk ((k,⟨b.rows.drop l,b.l0,b.et,b.pr⟩)::(s.z2 k).H) j=lk ((k,(⟨b.rows.drop l,b.l0,b.et,b.pr⟩:u4))::(s.z6 k).H) j:=λj=>by
  rw[Qe,Qe]
  by_cases h:k=j
  grind
  rw[if_neg h,if_neg h];show _=lk (rem k (s.z2 k).H) j;rw[MJ,if_neg (Ne.symm h)]
 refine⟨_,w,g',run,r2.de rfl T,λj C=>?_,.inr ⟨_,rfl,⟨_,cap - l,rfl,Wa, ?_⟩⟩⟩
 grind [D.ids,D.l4]
 by_cases hz:cap - l=0
 omega;rw[if_neg hz];rcases h4 with⟨h,h2⟩ |⟨B,esz',h1,rfl,h3⟩ |hg
 omega
 have he':esz'=b.l0:=by
  rcases U with⟨_,⟨h2,_⟩ |⟨_,h2,_⟩⟩ |⟨_,B2,c,h2,_⟩
  grind
  omega
  grind
 subst he';refine .inr (.inl ⟨B,b.l0,by grind,by grind [add_lit], ?_⟩);rw[M];simp only;rw[Nat.add_assoc,<- QAw,show l+(cap - l)=cap by omega];omega
 have hl:l=0:=h0 (by
  rcases U with⟨h2,_⟩ |⟨_,B2,c,h2,_⟩;omega;exact(hg.no h2).elim)
 subst hl;refine .inr (.inr ⟨by rw[gB];exact hg.1, ?_⟩)
 rw[M,Nat.zero_mul,QAC];exact hg.2
end
variable {H:QzK} {S:Nat->Bool}
def D.o7 (H:QzK) (S:Nat->Bool):D->D
 | .s4 k n=>if S k=true then(match lk H k with |some b=>if b.pr=true/\n=b.rows.length then .sl b.rows else .r8 |none=>.r8)else .s4 k n
 | .y9 k lo c n=>if S k=true then .r8 else .y9 k lo c n
 | .ref k i off=>if S k=true then(match lk H k with |some b=>if b.pr=true then .ptr ((b.rows.getD i []).drop off)else .r8 |none=>.r8)else .ref k i off
 | .r9 f k ps=>if S k=true then .r8 else .r9 f k ps
 |d=>d
def D.fz (H:QzK) (S:Nat->Bool):D->D
 | .agg cs=>.agg (cs.map (D.o7 H S))
 | .w8 f cs=>.w8 f (cs.map (D.o7 H S))
 | .w9 cs x=>.w9 (cs.map (D.o7 H S)) x
 |d=>d.o7 H S
theorem Lq (h:d.y4=true):(d.o7 H S).y4=true:=by
 cases d<;>simp only[D.o7]<;>try exact h
 all_goals (repeat' split)<;>rfl
theorem Gb (h:j∈(d.o7 H S).l4):j∈d.l4/\S j=false:=by
 cases d<;>simp only[D.o7]at h<;>try trivial
 all_goals
  (repeat' split at h)<;>simp[D.l4]at h ⊢
  grind
theorem Qpr (h:j∈(d.fz H S).ids):j∈d.ids/\S j=false:=by
 cases d
 case agg cs=>
  simp only[D.fz,D.ids]at h ⊢;obtain⟨x,hx,C⟩:=QzU.1 h;obtain⟨y,O,rfl⟩:=Qz1.1 hx;obtain⟨M,G⟩:=Gb C
  grind
 case w8 f cs=>
  simp only[D.fz,D.ids]at h ⊢;obtain⟨x,hx,C⟩:=QzU.1 h;obtain⟨y,O,rfl⟩:=Qz1.1 hx;obtain⟨M,G⟩:=Gb C
  grind
 case w9 cs z=>
  simp only[D.fz,D.ids]at h ⊢;obtain⟨x,hx,C⟩:=QzU.1 h;obtain⟨y,O,rfl⟩:=Qz1.1 hx;obtain⟨M,G⟩:=Gb C
  grind
 case s4 k n=>
  grind [D.o7,D.fz,D.ids,Gb]
 case y9 k lo c n=>
  grind [D.o7,D.fz,D.ids,Gb]
 case r9 f k ps=>
  grind [D.o7,D.fz,D.ids,Gb]
 case ref k i off=>
  grind [D.o7,D.fz,D.ids,Gb]
 all_goals (trivial)
section
variable {P:Program} {E:Env} {g:Gh} {s:St} {a:Act} {w:World} {o:Oper} {dst:Option Nat}
theorem Ms {K:Kn} {B:Nat} {c:Array Value} (M:g.K.le K) (G:∀p x,c[p]?=some x->K B p=some x):∀{off:Nat} {ds:List D},z4 g c off ds->(∀d∈ds,d.l4=[])->a5 K B off ds
 |_,[],_,_=>by trivial
 |off,d::ds,h,hs=>by
  simp only[z4,a5]at h ⊢;obtain⟨⟨h1,x,h2,T⟩,O⟩:=h
  have C:d.own=false:=by
   have:=hs d Wc;cases d<;>first |rfl |(trivial)
  exact⟨⟨h1,x,G off x h2,(T.mc C).mono M⟩,Ms M G O λd hd=>hs d Wb⟩
theorem C0 {K:Kn} {B:Nat} {c:Array Value} (G:g.K.le K) (C:∀p x,c[p]?=some x->K B p=some x):∀{off:Nat} {rs:List (List D)},l5 g c off rs->(∀r∈rs,∀d∈r,d.l4=[])->u5 K B off rs
 |_,[],_,_=>by trivial
 |off,r::rs,h,hs=>by
  simp only[l5,u5]at h ⊢;exact⟨Ms G C h.1 (hs r Wc),C0 G C h.2 λr hr=>hs r Wb⟩
theorem Pf (r:Rel E g s a w) (S:Nat->Bool):∃K:Kn,g.K.le K/\x9 K w/\(∀b,(∀k bx e,lk s.H k=some bx->S k=true->g.β k≠some (b,e))->K b=g.K b)/\
  (∀d v,z3 g d v->(∀k∈d.l4,(lk s.H k).isSome=true)->z3 {g with K:=K} (d.o7 s.H S) v):=by
 classical
 let K:Kn:=λb p=>if∃k bx e,lk s.H k=some bx/\S k=true/\bx.pr=true/\g.β k=some (b,e)then(match w.heap[b]? with |some (.cells c _ _)=>c[p]? |_=>none)else g.K b p
 have hle:g.K.le K:=by
  intro b p x hx;simp only[K];rw[if_neg];omega;rintro⟨k,bx,e,h1,_,_,h2⟩;obtain⟨_,_,C⟩:=r.bx k bx h1;rcases C with⟨_,⟨C,_⟩ |⟨_,_,_,_,_,B,_,V,_,U,_⟩⟩ |⟨_,B,c,V,_,_,_,U,_⟩
  grind
  grind
  grind
 have Y:∀k bx B e c,lk s.H k=some bx->S k=true->bx.pr=true->g.β k=some (B,e)->w.heap[B]?=some (.cells c bx.et (0,0))->∀p x,c[p]?=some x->K B p=some x:=by
  intro k bx B e c h1 h2 C V U p x hx;simp only[K];rw[if_pos ⟨k,bx,e,h1,h2,C,V⟩,U];omega
 refine⟨K,hle, ?_, ?_, ?_⟩;intro b p x hx;simp only[K]at hx;split at hx
 grind
 exact r.kr b p x hx
 grind
 ·intro d v hd hsome;have ug:∀d,z3 g d v->z3 {g with K:=K} d v:=λd h=>h.congr hle λ_ _=>⟨rfl,rfl⟩;cases d<;>simp only[D.o7]<;>try grind
  case s4 k n=>
   split;rename_i hS
   have T:z3 {g with K:=K} .r8 v:=by
    obtain⟨_,_,rfl,_⟩:=hd;rfl
   split;rename_i b hb;split
   ·rename_i hp;obtain⟨hp,hn⟩:=hp;obtain⟨a0,cap,rfl,h1,h2⟩:=hd;simp only[z3,l3];subst hn;refine⟨a0,cap,rfl,h1, ?_⟩;rcases h2 with⟨h2,_⟩ |⟨B,l0,C,rfl,_⟩ |hg
    grind
    rotate_left
    obtain⟨_,_,O⟩:=r.bx k b hb;rcases O with⟨O,_⟩ |⟨_,_,_,M,_⟩
    grind
    exact(hg.no M).elim;obtain⟨V,U,O⟩:=r.bx k b hb;rcases O with⟨O,_⟩ |⟨_,B',c,M,h8,_,h9,_⟩
    grind
    rw[C]at M;cases M;exact .inr ⟨B,_,b.l0,rfl,V,C0 hle (Y k b B b.l0 c hb hS hp C h8) h9 (U hp)⟩
   omega;omega
   grind
  case y9 k lo c n=>
   split;obtain⟨_,_,rfl,_⟩:=hd;rfl
   grind
  case r9 f k ps=>
   split;obtain⟨_,_,_,_,_,rfl,_⟩:=hd;rfl
   grind
  case ref k i off=>
   split;rename_i hS
   have T:z3 {g with K:=K} .r8 v:=by
    obtain⟨_,_,_,_,rfl⟩:=hd;rfl
   split;rename_i b hb;split;rename_i hp;obtain⟨B,l0,zo,C,rfl⟩:=hd;simp only[z3,l3];obtain⟨V,U,O⟩:=r.bx k b hb
   by_cases hi:i<b.rows.length
   have G:=QAB hi;rcases O with⟨O,_⟩ |⟨_,B',c,M,h8,_,h9,_⟩
   grind
   obtain⟨h3',hzo⟩:=C.resolve_right λhg=>hg.no M;clear C;have C:=h3';rw[C]at M;cases M;subst hzo;refine⟨B,_,rfl, ?_⟩;have h10:=JB i V h9 G;have h11:=Ms hle (Y k b B b.l0 c hb hS hp C h8) h10 (U hp _ (QAg G));have e1:b.rows.getD i []=b.rows[i]:=by grind
   rw[e1]
   have:∀{off:Nat} {ds:List D} (n:Nat),a5 K B off ds->a5 K B (off+n) (ds.drop n):=by
    intro off ds n
    induction n generalizing off ds with
    |zero=>simp
    |succ n ih=>
     intro h;cases ds with
     |nil=>trivial
     |cons d ds=>
      grind [a5]
   grind
   refine⟨B,_,rfl, ?_⟩;have e1:b.rows.getD i []=[]:=by grind
   rw[e1];grind [a5];omega;omega
   grind
theorem x4.fz {K:Kn} {S:Nat->Bool} (h:∀d v,z3 g d v->(∀k∈d.l4,(lk s.H k).isSome=true)->z3 {g with K:=K} (d.o7 s.H S) v):∀{ds:List D} {vs:List Value},x4 g ds vs->(∀k∈ds.flatMap D.l4,(lk s.H k).isSome=true)->x4 {g with K:=K} (ds.map (D.o7 s.H S)) vs
 |[],[],_,_=>trivial
 |d::ds,v::vs,h1,h2=>⟨h d v h1.1 λk hk=>h2 k Wb,x4.fz h h1.2 λk hk=>h2 k Wb⟩
 |[],_::_,h1,_=>h1.elim
 |_::_,[],h1,_=>h1.elim
theorem l6.fz {K:Kn} {S:Nat->Bool} (h:∀d v,z3 g d v->(∀k∈d.l4,(lk s.H k).isSome=true)->z3 {g with K:=K} (d.o7 s.H S) v) {d:D} {v:Value} (hd:l6 g d v) (hi:Has s d):l6 {g with K:=K} (d.fz s.H S) v:=by
 cases d
 case agg cs=>
  obtain⟨vs,rfl,h1,h2⟩:=hd;refine⟨vs,rfl,x4.fz h h1 hi,λd hd=>?_⟩;obtain⟨y,C,rfl⟩:=Qz1.1 hd
  grind [Lq]
 case w8 f cs=>
  obtain⟨vs,rfl,h1⟩:=hd;exact⟨vs,rfl,x4.fz h h1 hi⟩
 case w9 cs x=>
  obtain⟨vs,u,rfl,h1,h2,M⟩:=hd;refine⟨vs,u,rfl,x4.fz h h1 hi,λd hd=>?_, ?_⟩;obtain⟨y,C,rfl⟩:=Qz1.1 hd
  grind [Lq]
  have hx:x.own=false:=by cases x<;>first |rfl |(trivial)
  have G:x.o7 s.H S=x:=by cases x<;>first |rfl |(trivial)
  have O:x.l4=[]:=by cases x<;>first |rfl |(trivial)
  have:=h x u (z3.of M) (λk hk=>by grind);rw[G]at this;exact this.mc hx
 case s4 k n=>
  have:=h _ _ (show z3 g (.s4 k n) v from hd) hi;simp only[D.fz];revert this;simp only[D.o7]
  (repeat' split)<;>exact id
 case y9 k lo c n=>
  have:=h _ _ (show z3 g (.y9 k lo c n) v from hd) hi;simp only[D.fz];revert this;simp only[D.o7]
  (repeat' split)<;>exact id
 case r9 f k ps=>
  have:=h _ _ (show z3 g (.r9 f k ps) v from hd) hi;simp only[D.fz];revert this;simp only[D.o7]
  (repeat' split)<;>exact id
 case ref k i off=>
  have:=h _ _ (show z3 g (.ref k i off) v from hd) hi;simp only[D.fz];revert this;simp only[D.o7]
  (repeat' split)<;>exact id
 case undef=>trivial
 case top=>trivial
 case r8=>trivial
 case int k n=>trivial
 case bool b=>trivial
 case val b=>trivial
 case re f l=>exact h (.re f l) v hd hi
 case str l=>trivial
 case sl l=>exact h (.sl l) v hd hi
 case x7 l=>exact h (.x7 l) v hd hi
 case ptr l=>exact h (.ptr l) v hd hi
 case l7 l=>exact h (.l7 l) v hd hi
def u4.fz (H:QzK) (S:Nat->Bool) (b:u4):u4:=if b.pr then b else{b with rows:=b.rows.map λr=>r.map (D.o7 H S)}
def St.freeze (k:Nat) (s:St):St:=
 {fr:=s.fr.map λp=>(p.1,p.2.fz s.H (·==k)),H:=rem k (s.H.map λp=>(p.1,p.2.fz s.H (·==k)))}
theorem Rel.freeze (r:Rel E g s a w) (k:Nat) (hk0:k<1000000):∃g',g'.β=g.β/\Rel E g' (s.freeze k) a w:=by
 obtain⟨K,hle,hkr,O,hrep⟩:=Pf r (·==k);refine⟨{g with K:=K},rfl, ?_⟩
 have hlk:∀j,lk (s.freeze k).H j=if j=k then none else(lk s.H j).map (u4.fz s.H (·==k)):=λj=>by
  grind [St.freeze,MJ,Z9]
 have C:∀j,j≠k->(lk (s.freeze k).H j).isSome=(lk s.H j).isSome:=λj M=>by
  grind
 have key:∀j b,lk (s.freeze k).H j=some b->j≠k/\∃b0,lk s.H j=some b0/\b=b0.fz s.H (·==k):=λj b h=>by
  grind [Option.map_eq_some_iff]
 have V:∀j b B e,j≠k->lk s.H j=some b->g.β j=some (B,e)->K B=g.K B:=λj b B e M hb hβ=>O B λk' bx e' h1 h2 h3=>by
  have:k'=k:=by grind
  subst this;exact M (r.inj j k' b bx B e e' hb h1 hβ h3)
 refine⟨r.nt,r.df,λt d h=>?_,λt d h j M=>?_,λj b h i hi=>?_,λj b h=>?_,λj j' b b' B e e' h1 h2=>?_,hkr,r.ext,λb hb hf=>?_,λj M=>let⟨h1,h2,h3,h4⟩:=r.kp j M;⟨h1,h2,h3,(C j Wa).trans h4⟩⟩
 simp only[St.freeze,Z9]at h;obtain⟨d0,h1,rfl⟩:=QzM.1 h;exact(r.fr t d0 h1).fz hrep (r.s9 t d0 h1);simp only[St.freeze,Z9]at h;obtain⟨d0,h1,rfl⟩:=QzM.1 h;obtain⟨U,q2⟩:=Qpr M;have:j≠k:=by grind
 rw[C j this];exact r.s9 t d0 h1 j U;obtain⟨_,b0,h1,rfl⟩:=key j b h;unfold u4.fz at hi;cases hp:b0.pr with
 |true=>grind [u4.ids]
 |false=>
  simp only[hp,QzV,if_false,u4.ids]at hi;obtain⟨r0,hr,hi⟩:=QzU.1 hi;obtain⟨r1,hr1,rfl⟩:=Qz1.1 hr;obtain⟨d,hd,hi⟩:=QzU.1 hi;obtain⟨d1,hd1,rfl⟩:=Qz1.1 hd;obtain⟨U,q2⟩:=Gb hi;have:i≠k:=by grind
  rw[C i this];exact r.ua j b0 h1 r1 hr1 d1 hd1 i U
 obtain⟨M,b0,h1,rfl⟩:=key j b h;obtain⟨U,q2,q3⟩:=r.bx j b0 h1;unfold u4.fz;cases hp:b0.pr with
 |true=>
  simp only[if_true];refine⟨U,λ_=>q2 hp,q3.imp (λ⟨x,y⟩=>⟨x,y.imp id λi=>by have:=i.2.2.1;grind⟩) ?_⟩
  rintro⟨Y,B,c,T,q6,q7,q8,q9,G⟩;refine⟨Y,B,c,T,q6,q7,l5.congr (g:=g) hle q8 (λ_ _ _ _ _ _=>⟨rfl,rfl⟩),λo=>?_,G⟩;show K B o=none;rw[V j b0 B _ M h1 T];grind
 |false=>
  simp only[QzV,if_false];refine⟨?_,by simp, ?_⟩
  grind
  rcases q3 with⟨q3,Y⟩ |⟨Y,B,c,T,q6,q7,q8,q9,G⟩;exact .inl ⟨by grind,Y.imp (λ⟨y,z⟩=>⟨y,⟨(λh=>by rw[z.1 h]at hp;cases hp),λh=>by have:=congrArg u4.pr h;trivial⟩⟩) λ⟨i1,i2,i3,sv,p,B,i4,i5,i6,i7,i8⟩=>⟨by grind,i2,rfl,sv,p,B,i4,i5,i6,(λo=>by show K B o=none;rw[V j b0 B _ M h1 i5];grind),i8⟩⟩
  refine .inr ⟨by simp_all,B,c,T,q6,q7, ?_,λo=>?_,G⟩
  have cells:∀{off:Nat} {ds:List D},z4 g c off ds->(∀d∈ds,∀i∈d.l4,(lk s.H i).isSome=true)->z4 {g with K:=K} c off (ds.map (D.o7 s.H (·==k))):=by
   intro off ds
   induction ds generalizing off with
   |nil=>intro _ _;trivial
   |cons d ds ih=>
    grind [z4,Lq]
  have rows:∀{off:Nat} {rs:List (List D)},l5 g c off rs->(∀r∈rs,∀d∈r,∀i∈d.l4,(lk s.H i).isSome=true)->l5 {g with K:=K} c off (rs.map λr=>r.map (D.o7 s.H (·==k))):=by
   intro off rs
   induction rs generalizing off with
   |nil=>intro _ _;trivial
   |cons r rs ih=>
    intro h hs
    grind [l5]
  exact rows q8 (r.ua j b0 h1);show K B o=none;rw[V j b0 B _ M h1 T];grind
 obtain⟨_,b0,U,_⟩:=key j b h1;obtain⟨_,b0',q2,_⟩:=key j' b' h2;exact r.inj j j' b0 b0' B e e' U q2;show K b=E.K0 b;rw[O b λk' bx e h1 h2 h3=>?_];exact r.kx b hb hf
 ·obtain⟨_,_,q3⟩:=r.bx k' bx h1;rcases q3 with⟨_,⟨Y,_⟩ |⟨_,_,_,_,_,B,_,T,_,_,G⟩⟩ |⟨_,B,c,T,_,_,_,_,G⟩
  grind
  all_goals
   grind
end
variable {b:Bool} {ks:List Nat} {t:TypeId}
def KJ:List Nat->List D->List D->Option Bool
 |[],[],[]=>some true
 |0::ks,.int k m::r,.int j n::q=>if k=j then(KJ ks r q).map (decide (m=n)&&·)else none
 |1::ks,.bool m::r,.bool n::q=>(KJ ks r q).map (decide (m=n)&&·)
 |2::ks,.str m::r,.str n::q=>(KJ ks r q).map (decide (m=n)&&·)
 |_,_,_=>none
def kindOf (P:Program) (t:TypeId):Option Nat:=
 match P.underlying t with
 |some (.int _)=>some 0
 |some .bool=>some 1
 |some .string=>some 2
 |_=>none
def Tf (P:Program) (kT:TypeId->Option (List Nat)):Nat->List Field->Option (List Nat)
 |_,[]=>some []
 |k,f::fs=>if f.offset=k/\f.name≠ "_" then match kT f.type,YS P f.type with
   |some ks,some sz=>if ks.length=sz then(Tf P kT (k+sz) fs).map (ks++·)else none
   |_,_=>none
  else none
def MH (P:Program):Nat->TypeId->Option (List Nat)
 |0,_=>none
 |n+1,t=>match P.underlying t with
  |some (.int _)=>some [0]
  |some .bool=>some [1]
  |some .string=>some [2]
  |some (.struct fields)=>if P.stoodInHeld t=false then Tf P (MH P n) 0 fields.toList else none
  |_=>none
def Ch (P:Program):Nat->List Field->Option (List Nat):=Tf P (MH P 50)
theorem KU:∀(k1:List Nat) {k2:List Nat} {ds es:List D} {b:Bool},KJ (k1++k2) ds es=some b->
  ∃G C,KJ k1 (ds.take k1.length) (es.take k1.length)=some G/\KJ k2 (ds.drop k1.length) (es.drop k1.length)=some C/\b=(G&&C)
 |[],k2,ds,es,b,h=>⟨true,b,by rfl,by grind,by simp⟩
 |c::k1,k2,ds,es,b,h=>by
  rw[QAJ]at h
  match c,ds,es,h with
  |0,.int k m::r,.int j n::q,h=>
   simp only[KJ]at h;split at h;rename_i hk;obtain⟨b',h1,rfl⟩:=QzM.1 h;obtain⟨G,C,h2,M,rfl⟩:=KU k1 h1
   grind [KJ]
   grind
  |1,.bool m::r,.bool n::q,h=>
   simp only[KJ]at h;obtain⟨b',h1,rfl⟩:=QzM.1 h;obtain⟨G,C,h2,M,rfl⟩:=KU k1 h1
   grind [KJ]
  |2,.str m::r,.str n::q,h=>
   simp only[KJ]at h;obtain⟨b',h1,rfl⟩:=QzM.1 h;obtain⟨G,C,h2,M,rfl⟩:=KU k1 h1
   grind [KJ]
section
variable {P:Program} {E:Env} {g:Gh} {s:St} {a:Act} {w:World} {o:Oper} {dst:Option Nat}
theorem R5:∀{ds:List D} {vs:List Value} (n:Nat),x4 g ds vs->x4 g (ds.drop n) (vs.drop n)
 |[],[],n,h=>by grind
 |_::_,_::_,0,h=>h
 |_::_,_::_,n+1,h=>R5 n h.2
 |[],_::_,_,h=>h.elim
 |_::_,[],_,h=>h.elim
theorem CZ:∀{ds:List D} {vs:List Value} (n:Nat),x4 g ds vs->x4 g (ds.take n) (vs.take n)
 |[],[],n,h=>by grind
 |_::_,_::_,0,_=>trivial
 |_::_,_::_,n+1,h=>⟨h.1,CZ n h.2⟩
 |[],_::_,_,h=>h.elim
 |_::_,[],_,h=>h.elim
def RV (P:Program) (g:Gh) (t:TypeId) (ds:List D) (v:Value):Prop:=
 (Bf P t=some true/\∃vs:List Value,v=.agg vs.toArray/\x4 g ds vs)\/(Bf P t=some false/\∃d,ds=[d]/\z3 g d v)
theorem Qgm {f:TypeId} {sz off:Nat} {cs:List Value} {ds:List D} (hb:Bf P f=some b) (G:YS P f=some sz) (h1:b=false->sz=1) (M:off+sz<=cs.length) (h:x4 g ds (cs.drop off)):
  ∃v,(part f cs.toArray off).run P w=.ok v w/\RV P g f (ds.take sz) v:=by
 cases b with
 |false=>
  have:=h1 rfl;subst this;have C:off<cs.length:=Wa;rw[Qz4 C]at h;cases ds with
  |nil=>trivial
  |cons d ds=>
   refine⟨cs[off], ?_,.inr ⟨hb,d,rfl,h.1⟩⟩
   (repeat clear hK K);simp_all [part,ZC]
 |true=>
  refine⟨.agg ((cs.drop off).take sz).toArray, ?_,.inl ⟨hb,_,rfl,CZ sz h⟩⟩;simp[part,ZC hb,QM G]
theorem Qgv {n:Nat} (h:MH P n t=some ks):∃b,Bf P t=some b/\(b=false->ks.length=1):=by
 cases n with
 |zero=>trivial
 |succ n=>
  simp only[MH]at h;unfold Bf;cases hu:P.underlying t with
  |none=>grind
  |some d=>cases d<;>simp[hu]at h<;>first |grind |simp
theorem Pe:∀{ks:List Nat} {ds es:List D} {b:Bool},KJ ks ds es=some b->ds.length=ks.length/\es.length=ks.length
 |[],[],[],_,_=>⟨rfl,rfl⟩
 |c::ks,ds,es,b,h=>by
  match c,ds,es,h with
  |0,.int k m::r,.int j n::q,h=>
   simp only[KJ]at h;split at h;obtain⟨b',h1,rfl⟩:=QzM.1 h;obtain⟨h2,C⟩:=Pe h1
   grind
   grind
  |1,.bool m::r,.bool n::q,h=>
   simp only[KJ]at h;obtain⟨b',h1,rfl⟩:=QzM.1 h;obtain⟨h2,C⟩:=Pe h1
   grind
  |2,.str m::r,.str n::q,h=>
   simp only[KJ]at h;obtain⟨b',h1,rfl⟩:=QzM.1 h;obtain⟨h2,C⟩:=Pe h1
   grind
 |[],_::_,_,_,h=>by trivial
 |[],[],_::_,_,h=>by trivial
theorem Qep (n d:Nat) (hT:∀(t:TypeId) (ks:List Nat) (ds es:List D) (O M:Value) (b:Bool),MH P n t=some ks->RV P g t ds O->RV P g t es M->KJ ks ds es=some b->(Op.equalIn d t O M).run P w=.ok b w):
  ∀(fs:List Field) (k:Nat) (ks:List Nat) (ds es:List D) (xs ys:List Value) (b:Bool),Tf P (MH P n) k fs=some ks->x4 g ds (xs.drop k)->x4 g es (ys.drop k)->KJ ks ds es=some b->
  (Op.eqFields d xs.toArray ys.toArray fs).run P w=.ok b w
 |[],k,ks,ds,es,xs,ys,b,hk,_,_,hb=>by
  simp only[Tf,QzQ]at hk;subst hk;cases ds with
  |nil=>cases es with
   |nil=>simp_all [KJ,Op.eqFields]
   |cons=>trivial
  |cons=>trivial
 |f::fs,k,ks,ds,es,xs,ys,b,hk,hx,hy,hb=>by
  simp only[Tf]at hk;split at hk;rename_i hf;obtain⟨hfo,G⟩:=hf;split at hk;rename_i k1 sz e1 e2;split at hk;rename_i hlen;obtain⟨k2,h2,rfl⟩:=QzM.1 hk;obtain⟨b1,b2,c1,c2,rfl⟩:=KU k1 hb;obtain⟨Y,t1,t2⟩:=Qgv e1;obtain⟨l1,l2⟩:=Pe hb;have lx:=hx.len;have ly:=hy.len;simp only[List.length_drop,QAs]at lx ly l1 l2;rw[hlen]at c1 c2 l1 l2;have C:Y=false->sz=1:=λh=>by grind
  have hex:∃v,(part f.type xs.toArray f.offset).run P w=.ok v w/\RV P g f.type (ds.take sz) v:=by
   by_cases h0:sz=0/\xs.length<k
   obtain⟨h0,h1⟩:=h0;cases Y with
   |false=>grind
   |true=>
    subst h0;refine⟨.agg #[], ?_,.inl ⟨t1,[],rfl,by trivial⟩⟩
    (repeat clear hK K);simp_all [part,ZC,QM]
   exact Qgm t1 e2 C Wa Wb
  have V:∃v,(part f.type ys.toArray f.offset).run P w=.ok v w/\RV P g f.type (es.take sz) v:=by
   by_cases h0:sz=0/\ys.length<k
   obtain⟨h0,h1⟩:=h0;cases Y with
   |false=>grind
   |true=>
    subst h0;refine⟨.agg #[], ?_,.inl ⟨t1,[],rfl,by trivial⟩⟩
    (repeat clear hK K);simp_all [part,ZC,QM]
   exact Qgm t1 e2 C Wa Wb
  obtain⟨O,r1,rx⟩:=hex;obtain⟨M,r2,ry⟩:=V;have he:=hT f.type k1 _ _ O M b1 e1 rx ry c1;have U:x4 g (ds.drop sz) (xs.drop (k+sz)):=by rw[<- List.drop_drop];grind [R5]
  have T:x4 g (es.drop sz) (ys.drop (k+sz)):=by rw[<- List.drop_drop];grind [R5]
  have ih:=Qep n d hT fs (k+sz) k2 _ _ xs ys b2 h2 U T c2;simp only[Op.eqFields,ne_eq,G,not_false_eq_true,if_true];cases b1
  (repeat clear hK K);simp_all
  (repeat clear hK K);simp_all
  grind
  grind
  grind
theorem Ca:∀(n:Nat) (d:Nat),n<=d->∀(t:TypeId) (ks:List Nat) (ds es:List D) (O M:Value) (b:Bool),MH P n t=some ks->RV P g t ds O->RV P g t es M->KJ ks ds es=some b->
  (Op.equalIn d t O M).run P w=.ok b w
 |0,_,_,_,_,_,_,_,_,_,h,_,_,_=>by trivial
 |n+1,0,hd,_,_,_,_,_,_,_,_,_,_,_=>Wa
 |n+1,d+1,hd,t,ks,ds,es,O,M,b,hk,hx,G,hb=>by
  simp only[MH]at hk
  have V:∀ty,P.underlying t=some ty->Bf P t=some (match ty with | .struct _=>true | .array _ _=>true |_=>false):=λty h=>by
   grind [Bf]
  cases hu:P.underlying t with
  |none=>grind
  |some ty=>
   have ha:=V ty hu;cases ty<;>simp only[hu,QzQ,reduceCtorEq]at hk
   case int kk=>
    subst hk;rcases hx with⟨h,_⟩ |⟨_,x,rfl,rx⟩
    grind
    rcases G with⟨h,_⟩ |⟨_,y,rfl,C⟩
    grind
    cases x<;>try trivial
    cases y<;>try trivial
    rename_i i m j n;simp only[KJ]at hb;split at hb;rename_i hk;subst hk;simp only[QAy,QzQ,Bool.and_true]at hb
    grind [z3,l3,run_equalIn_int]
    grind
   case bool=>
    subst hk;rcases hx with⟨h,_⟩ |⟨_,x,rfl,rx⟩
    grind
    rcases G with⟨h,_⟩ |⟨_,y,rfl,C⟩
    grind
    cases x<;>try trivial
    cases y<;>try trivial
    rename_i m n;simp only[KJ,QAy,QzQ,Bool.and_true]at hb
    grind [z3,l3,run_equalIn_bool]
   case string=>
    subst hk;rcases hx with⟨h,_⟩ |⟨_,x,rfl,rx⟩
    grind
    rcases G with⟨h,_⟩ |⟨_,y,rfl,C⟩
    grind
    cases x<;>try trivial
    cases y<;>try trivial
    rename_i m n;simp only[KJ,QAy,QzQ,Bool.and_true]at hb;simp only[z3,l3]at rx C;subst rx;subst C;subst hb;rw[run_equalIn_string w d t _ _ hu];rw[ByteArray.toList_mk,ByteArray.toList_mk]
    grind
   case struct fields=>
    split at hk
    ·rename_i T;rcases hx with⟨_,xs,rfl,rx⟩ |⟨h,_⟩
     rotate_left
     grind
     rcases G with⟨_,ys,rfl,C⟩ |⟨h,_⟩
     rotate_left
     grind
     have U:P.fieldsOf t=fields:=by grind [Program.fieldsOf]
     rw[run_equalIn_struct w d t _ _ Wb T,U];exact Qep n d (Ca n d Wa) fields.toList 0 ks ds es xs ys b hk rx C hb
    grind
theorem Qbl {op:BinOp} {u:TypeId} {x y:Operand} {x' y':n5} {xs ys:List D} {fields:Array Field} (r:Rel E g s a w) (ho:o.op=.binOp op t x y u) (hx:Qi x=some x') (T:Qi y=some y')
 (hu:P.underlying t=some (.struct fields)) (hk:Ch P 0 fields.toList=some ks) (C:P.stoodInHeld t=false) (hm:P.eqGuardType P.depth t=false)
 (he:s.ev x'=some (.agg xs)) (U:s.ev y'=some (.agg ys)) (hb:KJ ks xs ys=some b):
  (op=.eql->Good P E s a w o dst (.bool b) none)/\(op=.neq->Good P E s a w o dst (.bool (!b)) none):=by
 obtain⟨O,e1,h1,_⟩:=(QH r hx he).1;obtain⟨M,e2,h2,_⟩:=(QH r T U).1;have G:P.fieldsOf t=fields:=by grind [Program.fieldsOf]
 have heq:(Op.equalIn 10000 t (.agg O.toArray) (.agg M.toArray)).run P w=.ok b w:=by
  rw[run_equalIn_struct w 9999 t _ _ Wb C,G];exact Qep 50 9999 (Ca 50 9999 Wa) _ 0 ks xs ys O M b hk (by simpa using h1) Wb hb
 constructor;rintro rfl;exact Good.bool r (by simp_all [execOp,run_eqGuard_agg,run_eql_struct]);rintro rfl;exact Good.bool r (by simp_all [execOp,run_eqGuard_agg,run_neq_struct])
end
variable {e:TypeId}
section
variable {P:Program} {E:Env} {g:Gh} {s:St} {a:Act} {w:World} {o:Oper} {dst:Option Nat}
def P2 (c:UInt8):List D:=[.int .u8 c.toNat]
def Ks:List (List D)->Option (List UInt8)
 |[]=>some []
 |[.int .u8 n]::r=>(Ks r).map (UInt8.ofNat n.toNat::·)
 |_=>none
def Qop (P:Program) (e:TypeId):Bool:=match P.underlying e with |some (.int .u8)=>true |_=>false
theorem Qe7 (h:Qop P e=true):P.underlying e=some (.int .u8):=by
 grind [Qop]
theorem TB {K:Kn} {b:Nat}:∀(l:List UInt8) (off:Nat),(∀j (h:j<l.length),K b (off+j)=some (.int .u8 (l[j]).toNat))->u5 K b off (l.map P2)
 |[],_,_=>by trivial
 |c::l,off,h=>by
  simp only[QAr,u5,P2,a5];refine⟨⟨⟨rfl,.int .u8 c.toNat,h 0 Wc,by rfl⟩,trivial⟩, ?_⟩
  exact TB l (off+1) λj C=>by
   have:=h (j+1) Wb
   grind
theorem B3 (r:Rel E g s a w) (ho:o.op=.convert t u x) (hx:Qi x=some x')
 (M:P.underlying t=some .string) (hu:P.underlying u=some (.slice e)) (O:Qop P e=true) (he:s.ev x'=some (.str l)):Good P E s a w o dst (.sl (l.map P2)) none:=by
 obtain⟨h1,h2⟩:=QH r hx he;simp only[l6,z3,l3]at h1;have G:=Go.Lib.run_convert_string_bytes (P:=P) w t u e ⟨l.toArray⟩ M hu (Qe7 O);have C:(⟨l.toArray⟩:ByteArray).size=l.length:=by rfl
 refine⟨.slice (some ⟨w.heap.size,0,none⟩) (⟨l.toArray⟩:ByteArray).size (grownCap w (⟨l.toArray⟩:ByteArray).size 0 e),Go.Lib.bytesWorld w e ⟨l.toArray⟩,{g with K:=λb o=>if b=w.heap.size then(if h:o<l.length then some (.int .u8 (l[o]).toNat)else none)else g.K b o}, ?_, ?_, ?_, ?_⟩
 (repeat clear hK K);simp_all [execOp]
 have hr:Rel E {g with K:=λb o=>if b=w.heap.size then(if h:o<l.length then some (.int .u8 (l[o]).toNat)else none)else g.K b o} s a (Go.Lib.bytesWorld w e ⟨l.toArray⟩):=by
  refine r.move (λb hb=>?_) (λ_ _=>⟨rfl,rfl⟩) (λb o x hk=>?_) (λb hb=>Go.Lib.bytesWorld_at_old w e _ b hb) (by grind [Go.Lib.bytesWorld_size]) ⟨rfl,rfl,rfl⟩
  grind
  dsimp only at hk;split at hk
  grind [Go.Lib.bytesWorld_at_new,Go.Lib.bytesCells]
  obtain⟨c,e',f,U,T⟩:=r.kr b o x hk
  grind [Go.Lib.bytesWorld_at_old]
 cases dst<;>exact hr
 rw[C];simp only[l6,z3,l3];refine⟨_,_,by rw[QAH],by grind [grownCap_ge],.inr ⟨_,0,1,rfl,λr hr=>by obtain⟨c,_,rfl⟩:=Qz1.1 hr;rfl,TB l 0 λj V=>?_⟩⟩
 grind
 cases dst<;>exactλk hk=>by trivial
theorem SZ:∀{ys:List (List D)} {l:List UInt8} {vs:List Value},Ks ys=some l->x4 g ys.flatten vs->
  ∃ns:List Int,vs=ns.map (Value.int .u8)/\∀b:ByteArray,ns.foldl (λr n=>r.push (UInt8.ofNat n.toNat)) b=⟨(b.data.toList++l).toArray⟩
 |[],l,vs,h,hv=>by
  simp only[Ks,QzQ]at h;subst h;cases vs with
  |nil=>simp
  |cons v vs=>trivial
 |y::ys,l,vs,h,hv=>by
  unfold Ks at h;split at h
  grind
  rename_i n r heq;cases heq
  obtain⟨l',h1,rfl⟩:=QzM.1 h;simp only[QAp,List.singleton_append]at hv;cases vs with
  |nil=>trivial
  |cons v vs=>
   obtain⟨G,C⟩:=hv;simp only[z3,l3]at G;obtain⟨ns,rfl,M⟩:=SZ h1 C;refine⟨n::ns,by grind,λb=>?_⟩
   (repeat clear hK K);simp_all
  grind
theorem BZ {q:D} {ys:List (List D)} {pr:Bool} (r:Rel E g s a w) (ho:o.op=.convert t u x) (hx:Qi x=some x')
 (ht:P.underlying t=some (.slice e)) (hu:P.underlying u=some .string) (h8:Qop P e=true) (he:s.ev x'=some q) (hs:s.src 1 q ys pr) (M:Ks ys=some l):Good P E s a w o dst (.str l) none:=by
 obtain⟨h1,h2⟩:=QH r hx he;obtain⟨Y,cap,hv,V,C,hlen,_⟩:=NO r h1 hs
 have U:(convert t u (a.eval x)).run P w=.ok (.string ⟨l.toArray⟩) w:=by
  rw[hv,run_convert_bytes_string w t u e Y _ _ ht (Qe7 h8) hu]
  have O:ys.flatten.length=ys.length:=by
   have:∀{G:List (List D)},(∀r∈G,r.length=1)->G.flatten.length=G.length:=by
    intro G
    induction G with
    |nil=>simp
    |cons z G ih=>grind
   grind
  rcases C with rfl |⟨B,off,rfl,C⟩;simp only[Ks,QzQ]at M;subst M;cases Y with
  |none=>rfl
  |some b=>
   rfl
  obtain⟨cs,q1,q2,q3,T⟩:=Qcn (P:=P) C;obtain⟨ns,rfl,h3⟩:=SZ M q2;rw[O]at T;rw[run_bytesToString w _ _ _ ns T,h3];simp
 refine Good.of r (v:=.string ⟨l.toArray⟩) ?_ Wl λk hk=>by trivial
 (repeat clear hK K);simp_all [execOp]
end
variable {ao:z5} {b:Builtin} {c:Call} {captured:Array Operand} {ps:List D} {f:Nat} {xs:List n5}
def QoU (op:BinOp) (bt:Bool) (p q d:D):Prop:=
  match p,q with
  | .int k m,.int j n=>(Mi op=true\/k=j)/\Qq6 op k m n d
  | .bool m,.bool n=>bt=true/\((op=.eql/\d=.bool (decide (m=n)))\/(op=.neq/\d=.bool (!decide (m=n))))
  | .str m,.str n=>Qq7 op m n d
  | .w8 _ _,.val v=>v=.nilFunc/\op=.xor/\bt=true/\d=.bool false
  |_,_=>False
def unD (op:UnOp) (p d:D):Prop:=
  match p with
  | .bool b=>op=.not/\d=.bool (!b)
  | .int k n=>op=.neg/\d=.int k (k.wrap (0 - n))
  | .sl rows=>op=.plus/\rows≠[]/\d=.bool false
  |_=>False
def D.kd:D->Bool
  | .ptr _ | .ref _ _ _ | .w8 _ _ | .r9 _ _ _=>true
  |_=>false
def D.rows?:D->Option (List (List D))
  | .sl rows | .x7 rows=>some rows
  |_=>none
def Qhf (d:D):Option Int:=
  match d with
  | .sl rows | .x7 rows=>some rows.length
  | .s4 _ n=>some n
  |_=>none
def S8 (s:St) (off:Nat) (p d:D):Prop:=
  match p with
  | .ptr cells=>off<=cells.length/\d=.ptr (cells.drop off)
  | .ref k i j=>(lk s.H k).isSome=true/\d=.ref k i (j+off)
  |_=>False
def Qe1 (s:St) (l0:Nat) (n:Int) (p d:D):Prop:=
  match p with
  | .sl rows | .x7 rows=>∃row,rows[n.toNat]?=some row/\row.length=l0/\d=.ptr row
  | .s4 j m=>∃b,lk s.H j=some b/\m=b.rows.length/\n<m/\b.l0=l0/\d=.ref j n.toNat 0
  |_=>False
def Qha (et:Nat) (cells:List D):u4:=⟨[cells],cells.length,et,cells.all λd=>d.l4.isEmpty⟩
def QD (s:St):List n5->Option (List D)
  |[]=>some []
  |x::r=>match s.ev x,QD s r with
    |some d,some ds=>some (d::ds)
    |_,_=>none
def D.fa:D->Bool
  | .agg cs=>cs.all λd=>!d.own
  | .w8 _ cs=>cs.all λd=>!d.own
  | .w9 _ _=>false
  |_=>true
def SO (op:z5) (dst:Option Nat) (s:St) (d:D) (bx:Option u4):Prop:=
  match op with
  | .we x=>s.ev x=some d/\bx=none
  | .pick c x y=>∃t,s.ev c=some (.bool t)/\s.ev (if t=true then x else y)=some d/\bx=none
  | .alloc et cells=>∃t,dst=some t/\lk s.H t=none/\d=.ref t 0 0/\bx=some (Qha et cells)
  | .box et x=>∃t v cells,dst=some t/\s.ev x=some v/\v.cells=some cells/\lk s.H t=none/\d=.ref t 0 0/\bx=some (Qha et cells)
  | .build zero parts=>∃qs ds,Y1 s parts=some qs/\Rj zero qs=some ds/\d=.agg ds/\bx=none
  | .buildSlice l0 et parts=>(∃t rows,dst=some t/\Yz s l0 parts=some rows/\lk s.H t=none/\d=.s4 t parts.length/\bx=some ⟨rows,l0,et,rows.all λr=>r.all λd=>d.l4.isEmpty⟩)\/
      ∃rows,Yz s l0 parts=some rows/\(rows.all λr=>r.all λd=>d.l4.isEmpty)=true/\d=.x7 rows/\bx=none
  | .load agg sz x=>∃p cells,s.ev x=some p/\s.at p cells/\(if agg=true then sz<=cells.length/\d=.agg (cells.take sz)else cells.head?=some d)/\bx=none
  | .nilCheck x=>∃p,s.ev x=some p/\p.kd=true/\d=p/\bx=none
  | .bin op bt x y=>∃p q,s.ev x=some p/\s.ev y=some q/\QoU op bt p q d/\bx=none
  | .eqs neg ks x y=>∃xs ys b,s.ev x=some (.agg xs)/\s.ev y=some (.agg ys)/\KJ ks xs ys=some b/\d=.bool (if neg=true then !b else b)/\bx=none
  | .un op x=>∃p,s.ev x=some p/\unD op p d/\bx=none
  | .conv k x=>∃j n,s.ev x=some (.int j n)/\d=.int k (k.wrap n)/\bx=none
  | .k9 sb x=>∃q,s.ev x=some q/\bx=none/\(if sb=true then∃l,q=.str l/\d=.sl (l.map P2)else∃ys pr l,s.src 1 q ys pr/\Ks ys=some l/\d=.str l)
  | .slice l0 x lo hi mx=>(∃p rows l h,s.ev x=some p/\p.rows?=some rows/\s.bd lo 0 l/\s.bd hi rows.length h/\l<=h/\h<=rows.length/\(∀r∈rows,r.length=l0)/\
      (match mx with
       |none=>d=.sl ((rows.take h).drop l)
       |some _=>s.bd mx 0 h/\hi.isSome=true/\d=.x7 ((rows.take h).drop l))/\bx=none)\/
      (mx=none/\bx=none/\s.bd lo 0 0/\((∃rows,s.ev x=some (.x7 rows)/\s.bd hi rows.length rows.length/\d=.x7 rows)\/∃k n m,s.ev x=some (.s4 k n)/\s.bd hi n m/\m<=n/\d=.s4 k m))\/
      (mx=none/\bx=none/\∃k n l,s.ev x=some (.s4 k n)/\s.bd lo 0 l/\s.bd hi n n/\l<=n/\d=.y9 k l (l*l0) (n - l))
  | .a8 x lo hi=>∃c l h,s.ev x=some (.str c)/\s.bd lo 0 l/\s.bd hi c.length h/\l<=h/\h<=c.length/\d=.str ((c.take h).drop l)/\bx=none
  | .fieldAddr off x=>∃p,s.ev x=some p/\S8 s off p d/\bx=none
  | .field agg off sz x=>∃cells,s.ev x=some (.agg cells)/\(if agg=true then off+sz<=cells.length/\d=.agg ((cells.drop off).take sz)else cells[off]?=some d)/\bx=none
  | .indexAddr l0 x i=>∃k n p,s.ev i=some (.int k n)/\s.ev x=some p/\0<=n/\Qe1 s l0 n p d/\bx=none
  | .k8 x i=>∃k n l c,s.ev i=some (.int k n)/\s.ev x=some (.str l)/\0<=n/\l[n.toNat]?=some c/\d=.int .u8 c.toNat/\bx=none
  | .extract i x=>∃p ds,s.ev x=some p/\QqU p=some ds/\ds[i]?=some d/\bx=none
  | .len x=>∃p n,s.ev x=some p/\Qhf p=some n/\d=.int .i64 n/\bx=none
  | .o9 x=>∃l,s.ev x=some (.str l)/\d=.int .i64 l.length/\bx=none
  | .min x y=>∃k j m n,s.ev x=some (.int k m)/\s.ev y=some (.int j n)/\d=.int k (min m n)/\bx=none
  | .max x y=>∃k j m n,s.ev x=some (.int k m)/\s.ev y=some (.int j n)/\d=.int k (max m n)/\bx=none
  | .append l0 et bytes x y=>∃t rows q ys pr,dst=some t/\s.ev x=some (.x7 rows)/\s.ev y=some q/\s.src l0 q ys pr/\lk s.H t=none/\(rows=[]\/ys≠[])/\(∀r∈rows,r.length=l0)/\
      (rows.length+ys.length)*bytes<=140737488355328/\rows.length+ys.length<=4611686018427387904/\d=.s4 t (rows.length+ys.length)/\bx=some ⟨rows++ys,l0,et,pr⟩
  | .makeSlice l0 et bytes zero x y=>∃t k j n,dst=some t/\s.ev x=some (.int k n)/\s.ev y=some (.int j n)/\lk s.H t=none/\0<=n/\n.toNat*bytes<=281474976710656/\n.toNat<=4611686018427387904/\
      d=.s4 t n.toNat/\bx=some ⟨List.replicate n.toNat zero,l0,et,true⟩
  | .nc x=>∃rows,s.ev x=some (.x7 rows)/\d=.int .i64 rows.length/\bx=none
  | .xd l0 et bytes zero x y=>∃t k n,dst=some t/\s.ev x=some (.x7 [])/\s.ev y=some (.int k n)/\lk s.H t=none/\0<n/\n.toNat*bytes<=140737488355328/\n.toNat<=4611686018427387904/\
      d=.s4 t n.toNat/\bx=some ⟨List.replicate n.toNat zero,l0,et,true⟩
  | .store .. =>False
  | .call .. =>False
  | .ga .. =>False
  | .stop=>False
  | .yd f xs=>∃ds,QD s xs=some ds/\ds.all D.fa=true/\(d=.w8 f ds\/∃k ps,HD f=[]/\ds=.ref k 0 0::ps/\(ps.all λd=>!d.own)=true/\d=.r9 f k ps)/\bx=none
  | .oe f xs=>∃ds,QD s xs=some ds/\ds.all D.pure=true/\d=.re f ds/\bx=none
  | .next .. =>False
  | .range x=>∃t l,dst=some t/\s.ev x=some (.str l)/\lk s.H t=none/\d=.ref t 0 0/\bx=some ⟨[],0,QR l 0,false⟩
  | .b8 len l0 x i=>∃k n p,s.ev i=some (.int k n)/\s.ev x=some p/\0<=n/\n<len/\S8 s (n.toNat*l0) p d/\bx=none
  | .j8 agg len l0 x i=>∃k n cells,s.ev i=some (.int k n)/\s.ev x=some (.agg cells)/\0<=n/\n<len/\(if agg=true then n.toNat*l0+l0<=cells.length/\d=.agg ((cells.drop (n.toNat*l0)).take l0)else cells[n.toNat*l0]?=some d)/\bx=none
def Bg (op:z5) (s:St) (s':St) (d:D):Prop:=
  match op with
  | .store sz x v=>∃k i off b row q cells,s.ev x=some (.ref k i off)/\lk s.H k=some b/\b.rows[i]?=some row/\s.ev v=some q/\q.cells=some cells/\cells.length=sz/\off+sz<=row.length/\
      d=.undef/\s'={s with H:=(k,{b with rows:=b.rows.set i (setRow row off cells),pr:=b.pr&&cells.all λd=>d.l4.isEmpty})::s.H}
  | .append l0 et bytes x y=>∃k n b q ys pr,s.ev x=some (.s4 k n)/\k<1000000/\lk s.H k=some b/\n=b.rows.length/\b.l0=l0/\b.et=et/\((b.pr&&pr)=true\/∀r0∈b.rows++ys,∀d∈r0,k∉d.l4)/\s.ev y=some q/\s.src l0 q ys pr/\
      (n+ys.length)*bytes<=140737488355328/\n+ys.length<=4611686018427387904/\d=.s4 k (n+ys.length)/\s'={fr:=(s.z2 k).fr,H:=(k,⟨b.rows++ys,l0,et,b.pr&&pr⟩)::(s.z2 k).H}
  | .slice l0 x lo hi mx=>∃k n l b,mx=none/\s.ev x=some (.s4 k n)/\k<1000000/\lk s.H k=some b/\n=b.rows.length/\b.l0=l0/\l0≠0/\(∀r0∈b.rows,∀d∈r0,k∉d.l4)/\s.bd lo 0 l/\s.bd hi n n/\l<=n/\
      d=.s4 k (n - l)/\s'={fr:=(s.z2 k).fr,H:=(k,⟨b.rows.drop l,l0,b.et,b.pr⟩)::(s.z2 k).H}
  | .next x=>∃k l p,s.ev x=some (.ref k 0 0)/\lk s.H k=some ⟨[],0,QR l p,false⟩/\
      ((p<l.length/\d=.l7 [.bool true,.int .i64 p,.int .i32 (Utf8.decode ⟨l.toArray⟩ p).1]/\s'={s with H:=(k,⟨[],0,QR l (p+(Utf8.decode ⟨l.toArray⟩ p).2),false⟩)::s.H})\/(¬p<l.length/\d=.l7 [.bool false]/\s'=s))
  |_=>False
def B7 (P:Program) (t:TypeId):Bool:=match P.underlying t with |some .bool=>true |_=>false
def Za:List Operand->Option (List n5)
  |[]=>some []
  |x::r=>match Qi x,Za r with
    |some x',some r'=>some (x'::r')
    |_,_=>none
def Qe4:n5->Bool
  | .c (.val .nilFunc)=>true
  |_=>false
theorem Qe5 {y:n5} (h:Qe4 y=true) (he:s.ev y=some d):d=.val .nilFunc:=by
  unfold Qe4 at h
  grind [St.ev]
theorem QeR {y':n5} {C:List D} {ta tb tc} (r:Rel E g s a w) (ho:o.op=.binOp .eql t x y u) (hx:Qi x=some x') (G:Qi y=some y')
 (he:s.ev x'=some (.w8 f C)) (M:s.ev y'=some (.val .nilFunc)) (hu:P.underlying t=some (.func ta tb tc)):Good P E s a w o dst (.bool false) none:=by
  have h1:=(QH r hx he).1;have h2:=(QH r G M).1;obtain⟨cs,O,_⟩:=h1;simp[l6,z3,l3]at h2;refine Good.bool r ?_;have e0:∀n,(Op.equalIn (n+1) t (.func (.func f) #[] cs.toArray) .nilFunc).run P w=.ok false w:=λn=>by simp[Op.equalIn,run_underlying hu]
  have e:(Op.equal t (.func (.func f) #[] cs.toArray) .nilFunc).run P w=.ok false w:=e0 9999
  have e2:(binOp .eql t (.func (.func f) #[] cs.toArray) .nilFunc).run P w=.ok (.bool false) w:=by
    (repeat clear hK K);simp_all [binOp]
  have e3:(eqGuard .eql t x y (.func (.func f) #[] cs.toArray) .nilFunc).run P w=.ok () w:=rfl
  (repeat clear hK K);simp_all [execOp]
def Qe6:Operand->Bool
  | .const (.slice none 0 0)=>true
  |_=>false
theorem QeS {e0:TypeId} {rows:List (List D)} (r:Rel E g s a w) (ho:o.op=.binOp .eql t x y u) (hx:Qi x=some x') (G:Qe6 y=true)
 (he:s.ev x'=some (.sl rows)) (C:rows≠[]) (hu:P.underlying t=some (.slice e0)):Good P E s a w o dst (.bool false) none:=by
  have h1:=(QH r hx he).1;obtain⟨Y,cap,V,_,h2⟩:=h1;obtain⟨b,off,l0,rfl,_⟩:=h2.resolve_left C;unfold Qe6 at G;split at G;have M:∀n,(Op.equalIn (n+1) t (.slice (some ⟨b,off,none⟩) rows.length cap) (.slice none 0 0)).run P w=.ok false w:=λn=>by simp[Op.equalIn,run_underlying hu]
  have q:(Op.equal t (.slice (some ⟨b,off,none⟩) rows.length cap) (.slice none 0 0)).run P w=.ok false w:=M 9999
  have U:(binOp .eql t (.slice (some ⟨b,off,none⟩) rows.length cap) (.slice none 0 0)).run P w=.ok (.bool false) w:=by
    (repeat clear hK K);simp_all [binOp]
  have T:∀y,(eqGuard .eql t x y (.slice (some ⟨b,off,none⟩) rows.length cap) (.slice none 0 0)).run P w=.ok () w:=λ_=>rfl;refine Good.bool r ?_;have O:a.eval (.const (.slice none 0 0))=.slice none 0 0:=rfl
  (repeat clear hK K);simp_all [execOp]
  grind
def XR (P:Program) (op:BinOp) (t:TypeId) (x y:Operand):Option z5:=
  match Qi x,Qi y with
  |some x',some y'=>
    match P.underlying t with
    |some (.struct fields)=>
      if P.stoodInHeld t=false/\P.eqGuardType P.depth t=false then
        match Ch P 0 fields.toList,op with
        |some ks,.eql=>some (.eqs false ks x' y')
        |some ks,.neq=>some (.eqs true ks x' y')
        |_,_=>none
      else none
    |some (.func ..)=>if op=.eql/\Qe4 y'=true then some (.bin .xor true x' y')else none
    |some (.slice _)=>if op=.eql/\Qe6 y=true then some (.un .plus x')else none
    |_=>if op=.xor/\B7 P t=true then none else some (.bin op (B7 P t) x' y')
  |_,_=>none
def ZU (P:Program) (t:TypeId) (x:Operand) (lo hi mx:Option Operand):Option z5:=
  match Qi x,Q4 lo,Q4 hi,Q4 mx with
  |some x',some lo',some hi',some mx'=>
    match P.underlying t,mx with
    |some (.slice e),_=>(YS P e).map λl0=>.slice l0 x' lo' hi' mx'
    |some .string,none=>some (.a8 x' lo' hi')
    |_,_=>none
  |_,_,_,_=>none
def Q3 (P:Program) (t:TypeId) (x:Operand) (n:Nat):Option z5:=
  match Qi x,P.underlying t with
  |some x',some (.struct fields)=>
    match fields[n]? with
    |some f=>match YS P f.type with
      |some sz=>if sz≠0 then some (.fieldAddr f.offset x')else none
      |none=>none
    |none=>none
  |_,_=>none
def ZT (P:Program) (t:TypeId) (x:Operand) (n:Nat):Option z5:=
  match Qi x,P.underlying t with
  |some x',some (.struct fields)=>
    match fields[n]? with
    |some f=>match YS P f.type,Bf P f.type with
      |some sz,some b=>some (.field b f.offset sz x')
      |_,_=>none
    |none=>none
  |_,_=>none
def QU (P:Program) (t:TypeId) (n:Nat) (parts:List (Nat × Operand)):Option z5:=
  match P.underlying t with
  |some (.slice e)=>
    match YS P e,Gy P e,Yn 0 parts with
    |some l0,some _,some ps=>if n=parts.length/\n*l0<=2 ^ 24 then some (.buildSlice l0 e ps)else none
    |_,_,_=>none
  |_=>none
def YI (P:Program) (t:TypeId) (x y:Operand):Option z5:=
  match Qi x,Qi y,P.underlying t with
  |some x',some y',some (.slice e)=>
    match P.info? e,Gy P e with
    |some i,some z=>if z.length=i.size then some (.makeSlice i.size e i.bytes z x' y')else none
    |_,_=>none
  |_,_,_=>none
def YG (P:Program) (t u:TypeId) (x' y':n5):Option z5:=
  match P.underlying t,P.underlying u with
  |some (.slice e),some (.int _)=>
    match P.info? e,Gy P e with
    |some i,some z=>if z.length=i.size then some (.xd i.size e i.bytes z x' y')else none
    |_,_=>none
  |_,_=>none
def ZA (P:Program) (ts:List TypeId) (x y:Operand):Option z5:=
  match Qi x,Qi y,ts with
  |some x',some y',[t,u]=>
    if t=u then
      match P.underlying t with
      |some (.slice e)=>
        match P.info? e,Gy P e with
        |some i,some z=>if z.length=i.size/\i.size≠0 then some (.append i.size e i.bytes x' y')else none
        |_,_=>none
      |_=>none
    else YG P t u x' y'
  |_,_,_=>none
def XT (P:Program) (ts:List TypeId) (x:Operand):Option z5:=
  match Qi x,ts with
  |some x',t::_=>
    match P.underlying t with
    |some (.slice _)=>some (.len x')
    |some .string=>some (.o9 x')
    |_=>none
  |_,_=>none
def XS (P:Program) (ts:List TypeId) (x:Operand):Option z5:=
  match Qi x,ts with
  |some x',t::_=>
    match P.underlying t with
    |some (.slice _)=>some (.nc x')
    |_=>none
  |_,_=>none
def YH (P:Program) (c:Call):Option z5:=
  match c.callee,c.args.toList with
  | .builtin .len,[x]=>XT P c.argTypes.toList x
  | .builtin .min,[x,y]=>match Qi x,Qi y with
    |some x',some y'=>some (.min x' y')
    |_,_=>none
  | .builtin .max,[x,y]=>match Qi x,Qi y with
    |some x',some y'=>some (.max x' y')
    |_,_=>none
  | .builtin .append,[x,y]=>ZA P c.argTypes.toList x y
  | .builtin .cap,[x]=>XS P c.argTypes.toList x
  | .value (.func f),args=>(Za (args++(HD f).map .global)).map (.call f)
  | .value (.tmp t),args=>if t<900000 then(Za args).map (.ga (.s t))else none
  |_,_=>none
def Ym (x:Operand) (b:Bool):Option z5:=
  match b with
  |true=>(Qi x).map .next
  |false=>none
def Q8 (P:Program) (n:Nat) (e:TypeId) (x' i':n5):Option z5:=
  match YS P e,Bf P e with
  |some sz,some b=>some (.j8 b n sz x' i')
  |_,_=>none
def Hs (fn:Fn) (first captured:List Operand):Option z5:=
  match fn,first with
  | .func f,[]=>(Za (captured++(HD f).map .global)).map (.yd f)
  | .func f,[x]=>match captured with
    |[]=>(Za (x::(HD f).map .global)).map (.oe f)
    |_=>none
  |_,_=>none
def Zx (P:Program) (op:Op):Option z5:=
  match op with
  | .makeFunc fn first captured=>Hs fn first.toList captured.toList
  | .panic _=>some .stop
  | .makeInterface _ _=>some .stop
  | .move x=>(Qi x).map .we
  | .assign x=>(Qi x).map .we
  | .pick c x y=>match Qi c,Qi x,Qi y with
    |some c',some x',some y'=>some (.pick c' x' y')
    |_,_,_=>none
  | .alloc e=>(Gy P e).map (.alloc e)
  | .box e x=>(Qi x).map (.box e)
  | .build t parts=>match Gy P t,LY P t with
    |some z,some pl=>(Xb pl parts.toList).map (.build z)
    |_,_=>none
  | .buildSlice t n parts=>QU P t n parts.toList
  | .load t x=>match Bf P t,YS P t,Qi x with
    |some b,some sz,some x'=>some (.load b sz x')
    |_,_,_=>none
  | .store t x y=>match YS P t,Qi x,Qi y with
    |some sz,some x',some y'=>if sz≠0 then some (.store sz x' y')else none
    |_,_,_=>none
  | .nilCheck x=>(Qi x).map .nilCheck
  | .binOp op t x y _=>XR P op t x y
  | .unOp op _ x=>if op=.plus then none else(Qi x).map (.un op)
  | .convert t u x=>match P.underlying t,P.underlying u,Qi x with
    |some _,some (.int k),some x'=>some (.conv k x')
    |some .string,some (.slice e),some x'=>if Qop P e=true then some (.k9 true x')else none
    |some (.slice e),some .string,some x'=>if Qop P e=true then some (.k9 false x')else none
    |_,_,_=>none
  | .slice t x lo hi mx=>ZU P t x lo hi mx
  | .fieldAddr t x n=>Q3 P t x n
  | .field t x n=>ZT P t x n
  | .indexAddr t x i=>match Qi x,Qi i,P.underlying t with
    |some x',some i',some (.slice e)=>(YS P e).map λl0=>.indexAddr l0 x' i'
    |some x',some i',some (.array n e)=>(YS P e).map λl0=>.b8 n l0 x' i'
    |_,_,_=>none
  | .index t x i=>match Qi x,Qi i,P.underlying t with
    |some x',some i',some .string=>some (.k8 x' i')
    |some x',some i',some (.array n e)=>Q8 P n e x' i'
    |_,_,_=>none
  | .range t x=>match Qi x,P.underlying t with
    |some x',some .string=>some (.range x')
    |_,_=>none
  | .next x b=>Ym x b
  | .extract x n=>(Qi x).map (.extract n)
  | .makeSlice t x y=>YI P t x y
  | .call c=>YH P c
  |_=>none
section
variable {P:Program} {E:Env} {g:Gh} {s:St} {a:Act} {w:World} {o:Oper} {dst:Option Nat}
theorem Qd9 (G:c.callee=.builtin b) (hx:c.args.toList=[x]):c={callee:=.builtin b,args:=#[x],argTypes:=c.argTypes}:=by
  obtain⟨O,C,M⟩:=c;have:C=#[x]:=by grind
  grind
theorem GB (G:c.callee=.builtin b) (hx:c.args.toList=[x,y]):c={callee:=.builtin b,args:=#[x,y],argTypes:=c.argTypes}:=by
  obtain⟨O,C,M⟩:=c;have:C=#[x,y]:=by grind
  grind
theorem _root_.Wp {p:Prop} (h:p:=by trivial):p:=h
theorem l6.qf {K:Kn} (h:l6 g d v) (C:d.fa=true):z3 g d v:=by
  cases d<;>try exact h
  case agg cs=>exact z3.of (h.mc Wp)
  case w8 f cs=>exact z3.of (h.mc Wp)
  trivial
theorem Qec (C:d.fa=true):∀k∈d.ids,k∈d.l4:=by
  have one:∀cs:List D,(cs.all λd=>!d.own)=true->∀k,k∉cs.flatMap D.l4:=λcs h k hk=>by
    obtain⟨x,hx,hk⟩:=QzU.1 hk;have:=QzX.1 h x hx;cases x<;>simp[D.own]at this<;>cases hk
  intro k hk;cases d<;>try exact hk
  case agg cs=>exact absurd hk (one cs C k)
  case w8 f cs=>exact absurd hk (one cs C k)
  trivial
theorem z3.vg (h:z3 g d v):l6 g d v:=by
  cases d<;>try exact h
  case agg cs=>exact l6.of (z3.mc h rfl)
  case w8 f cs=>exact l6.of (z3.mc h rfl)
  case w9 cs x=>exact l6.of (z3.mc h rfl)
theorem Qo4 (M:HD f=[]) (hp:(ps.all λd=>!d.own)=true) (h:l6 g (.w8 f (.ref k 0 0::ps)) v):l6 g (.r9 f k ps) v:=by
  obtain⟨cs,rfl,C⟩:=h;have G:gVs f=[]:=by grind [gVs]
  rw[G,QAj]at C;cases cs with
  |nil=>trivial
  |cons c cs=>
    obtain⟨⟨B,l0,o,h1,rfl⟩,C⟩:=C;refine⟨B,l0,o,cs,h1,by simp, ?_⟩;rw[G,QAj];exact C.ue hp
theorem Qp4 (h:l6 g (.r9 f k ps) v):l6 g (.w8 f (.ref k 0 0::ps)) v:=by
  obtain⟨B,l0,o,cs,h1,rfl,h2⟩:=h;exact⟨_,rfl,⟨B,l0,o,h1,by simp⟩,x4.uf h2⟩
theorem Cm {first:Array Operand} (r:Rel E g s a w) (ho:o.op=.makeFunc (.func f) first captured) (U:first.toList=[]) (hp:Za (captured.toList++(HD f).map .global)=some xs) (he:QD s xs=some ds) (M:ds.all D.fa=true):
    Good P E s a w o dst (.w8 f ds) none:=by
  have key:∀{cs:List Operand} {xs:List n5} {ds:List D},Za cs=some xs->QD s xs=some ds->ds.all D.fa=true->x4 g ds (cs.map a.eval)/\∀k∈ds.flatMap D.l4,(lk s.H k).isSome=true:=by
    intro cs
    induction cs with
    |nil=>
      intro xs ds h1 h2 _;simp[Za]at h1;subst h1;simp[QD]at h2;subst h2;exact⟨trivial,by simp⟩
    |cons c cs ih=>
      intro xs ds h1 h2 C;simp[Za]at h1;split at h1;rename_i x' O e1 e2;cases h1
      simp[QD]at h2;split at h2;rename_i d ds' f1 f2;cases h2
      simp only[QAK,QzR]at C;obtain⟨G,T⟩:=ih e2 f2 C.2;obtain⟨g1,g2⟩:=QH r e1 f1;refine⟨⟨g1.qf (K:=g.K) C.1,G⟩,λk hk=>?_⟩;rw[QAi]at hk;rcases QzY.1 hk with hk |hk
      refine g2 k ?_;cases d<;>simp only[D.l4]at hk<;>first |grind |exact hk
      grind
      grind
      grind
  obtain⟨h1,h2⟩:=key hp he M;have h1:x4 g ds (captured.toList.map a.eval++gVs f):=by simp_all [gVs,Function.comp_def,Act.eval]
  refine Good.of r ?_ ⟨_,rfl,h1⟩ h2;have e1:(captured.map a.eval)=(captured.toList.map a.eval).toArray:=by grind
  (repeat clear hK K);simp_all [execOp,Instr.makeFunc]
theorem Qc2 {first:Array Operand} (r:Rel E g s a w) (ho:o.op=.makeFunc (.func f) first captured) (M:first.toList=[]) (hp:Za (captured.toList++(HD f).map .global)=some xs) (he:QD s xs=some (.ref k 0 0::ps)) (O:(D.ref k 0 0::ps).all D.fa=true) (G:HD f=[]) (C:(ps.all λd=>!d.own)=true):
    Good P E s a w o dst (.r9 f k ps) none:=by
  obtain⟨v,w',g',h1,h2,U,T⟩:=Cm r ho M hp he O;exact⟨v,w',g',h1,h2,Qo4 G C U,λj V=>T j (by grind [D.ids,D.l4])⟩
theorem QeP {first:Array Operand} (r:Rel E g s a w) (ho:o.op=.makeFunc (.func f) first captured) (V:first.toList=[x]) (M:captured.toList=[]) (hp:Za (x::(HD f).map .global)=some xs) (he:QD s xs=some ds) (O:ds.all D.pure=true):
    Good P E s a w o dst (.re f ds) none:=by
  have G:first=#[x]:=by grind
  have key:∀{cs:List Operand} {xs:List n5} {ds:List D},Za cs=some xs->QD s xs=some ds->ds.all D.pure=true->j5 g.K ds (cs.map a.eval):=by
    intro cs
    induction cs with
    |nil=>
      grind [Za,QD,j5]
    |cons c cs ih=>
      intro xs ds h1 h2 C;simp[Za]at h1;split at h1;rename_i x' U e1 e2;cases h1
      simp[QD]at h2;split at h2;rename_i d ds' f1 f2;cases h2
      simp only[QAK,QzR]at C;exact⟨(QH r e1 f1).1.mc C.1,ih e2 f2 C.2⟩
      grind
      grind
  have h1:=key hp he O;have h1:j5 g.K ds ([a.eval x]++gVs f):=by simp_all [gVs,Function.comp_def,Act.eval]
  have T:l6 g (.re f ds) (.func (.func f) #[a.eval x] #[]):=by
    simp[l6,z3,l3]
    grind
  refine Good.of r ?_ T (λk hk=>by cases hk)
  (repeat clear hK K);simp_all [execOp,Instr.makeFunc]
theorem QcY (r:Rel E g s a w) (hp:Zx P o.op=some ao) {bx:Option u4} (hx:SO ao dst s d bx):Good P E s a w o dst d bx:=by
  cases ho:o.op<;>rw[ho]at hp<;>simp only[Zx,reduceCtorEq]at hp
  case move x=>
    obtain⟨x',h1,rfl⟩:=QzM.1 hp;obtain⟨h2,rfl⟩:=hx
    grind [Qbn]
  case assign x=>
    obtain⟨x',h1,rfl⟩:=QzM.1 hp;obtain⟨h2,rfl⟩:=hx;exact Qbn r (.inr ho) h1 h2
  case pick c x y=>
    split at hp;rename_i c' x' y' e1 e2 e3;cases hp
    obtain⟨t,h1,h2,rfl⟩:=hx
    grind [QeT]
    grind
  case alloc e=>
    obtain⟨z,h1,rfl⟩:=QzM.1 hp;obtain⟨t,h2,C,rfl,rfl⟩:=hx;exact QcZ r ho h1 h2 C
  case box e x=>
    obtain⟨x',h1,rfl⟩:=QzM.1 hp;obtain⟨t,v,cells,h2,C,M,O,rfl,rfl⟩:=hx;exact Qie r ho h1 C M h2 O
  case build t parts=>
    split at hp;rename_i z pl e1 e2;obtain⟨ps,h1,rfl⟩:=QzM.1 hp;obtain⟨qs,ds,h2,C,rfl,rfl⟩:=hx
    grind [Qc0]
    grind
  case buildSlice t n parts=>
    unfold QU at hp;split at hp;rename_i e hu;split at hp;rename_i l0 z ps e1 e2 e3;split at hp
    ·rename_i hn;cases hp
     rcases hx with hx |⟨rows,h2,C,rfl,rfl⟩
     case inr=>grind [M0]
     obtain⟨t,rows,h1,h2,C,rfl,rfl⟩:=hx
     have hlen:∀(k:Nat) (l:List (Nat × Operand)) (l':List n5),Yn k l=some l'->l'.length=l.length:=by
       intro k l
       induction l generalizing k with
       |nil=>grind [Yn]
       |cons p l ih=>
         grind [Yn]
     grind [Rt]
    grind
    grind
    grind
  case load t x=>
    split at hp;rename_i b sz x' e1 e2 e3;cases hp
    obtain⟨p,cells,h1,h2,C,rfl⟩:=hx;cases b with
    |true=>
      simp only[if_true]at C;obtain⟨C,rfl⟩:=C
      grind [Cl]
    |false=>
      simp only[QzV,if_false]at C
      grind [QeO]
    grind
  case store t x y=>
    split at hp;split at hp;cases hp;trivial
    grind
    grind
  case nilCheck x=>
    obtain⟨x',h1,rfl⟩:=QzM.1 hp;obtain⟨p,h2,C,rfl,rfl⟩:=hx;refine Lw r ho h1 h2 ?_;cases d<;>simp[D.kd]at C;simp;simp;simp;simp
  case binOp op t x y u=>
    unfold XR at hp;split at hp;rename_i x' y' e1 e2;split at hp;rename_i fields hu;split at hp;rename_i V;split at hp;rename_i ks hk;cases hp
    obtain⟨xs,ys,b,h1,h2,C,rfl,rfl⟩:=hx;exact(Qbl r ho e1 e2 hu hk V.1 V.2 h1 h2 C).1 rfl;rename_i ks hk;cases hp
    obtain⟨xs,ys,b,h1,h2,C,rfl,rfl⟩:=hx;exact(Qbl r ho e1 e2 hu hk V.1 V.2 h1 h2 C).2 rfl
    grind
    grind
    rename_i hu;split at hp;rename_i T;cases hp
    obtain⟨rfl,T⟩:=T;obtain⟨p,q,h1,h2,C,rfl⟩:=hx;obtain rfl:=Qe5 T h2;cases p<;>simp only[QoU]at C;obtain⟨_,_,_,rfl⟩:=C
    grind [QeR]
    grind
    rename_i hu;split at hp;rename_i T;cases hp
    obtain⟨rfl,T⟩:=T;obtain⟨p,h1,C,rfl⟩:=hx;cases p<;>simp only[unD,reduceCtorEq,false_and]at C;obtain⟨_,M,rfl⟩:=C
    grind [QeS]
    grind
    split at hp
    grind
    rename_i hxor;cases hp
    obtain⟨p,q,h1,h2,C,rfl⟩:=hx;cases p<;>cases q<;>simp only[QoU]at C
    grind [Qig]
    obtain⟨hb,C⟩:=C
    have hu:P.underlying t=some .bool:=by
      grind [B7]
    rcases C with⟨rfl,rfl⟩ |⟨rfl,rfl⟩;exact(Cj r ho e1 e2 h1 h2 hu).1 rfl;exact(Cj r ho e1 e2 h1 h2 hu).2 rfl
    grind [QeU]
    grind
    grind
  case unOp op t x=>
    split at hp
    grind
    rename_i hpl;obtain⟨x',h1,rfl⟩:=QzM.1 hp;obtain⟨p,h2,C,rfl⟩:=hx;cases p<;>simp only[unD]at C;obtain⟨rfl,rfl⟩:=C;exact(QeV r ho h1).2 _ _ rfl h2;obtain⟨rfl,rfl⟩:=C;exact(QeV r ho h1).1 _ rfl h2
    grind
  case convert t u x=>
    split at hp;rename_i b k x' e1 e2 e3;cases hp
    obtain⟨j,n,h1,rfl,rfl⟩:=hx
    grind [QeM]
    ·rename_i e x' e1 e2 e3;split at hp
     case isFalse=>grind
     rename_i h8;cases hp
     obtain⟨q,h1,rfl,h2⟩:=hx;simp only[if_true]at h2;obtain⟨l,rfl,rfl⟩:=h2
     grind [B3]
    ·rename_i e x' e1 e2 e3;split at hp
     case isFalse=>grind
     rename_i h8;cases hp
     obtain⟨q,h1,rfl,h2⟩:=hx;simp only[QzV,if_false]at h2;obtain⟨ys,pr,l,C,M,rfl⟩:=h2
     grind [BZ]
    grind
  case slice t x lo hi mx=>
    unfold ZU at hp;split at hp;rename_i x' lo' hi' mx' e1 e2 e3 e4;split at hp
    ·rename_i e hu;obtain⟨l0,h1,rfl⟩:=QzM.1 hp;rcases hx with⟨p,rows,l,h,h2,C,M,O,h6,h7,h8,Y,rfl⟩ |⟨hm,rfl,hlo,⟨rows,h2,hbh,rfl⟩ |⟨k,n,m,h2,hbh,hmn,rfl⟩⟩ |⟨hm,rfl,k,n,l,h2,hbl,hbh,hln,rfl⟩
     rotate_left
     grind [B4]
     grind [B5]
     grind [B6]
     have hd:p=.sl rows\/p=.x7 rows:=by
       cases p<;>simp[D.rows?]at C
       grind
       grind
     cases mx' with
     |none=>
       simp only at Y;subst Y;exact(Tc (m:=0) r ho e1 e2 e3 e4 hu h1 h2 hd M O h6 h7 h8).1 rfl
     |some m'=>
       simp only at Y;obtain⟨Y,h10,rfl⟩:=Y;exact(Tc r ho e1 e2 e3 e4 hu h1 h2 hd M O h6 h7 h8).2 Y rfl h10 rfl
    rename_i hu;cases hp
    obtain⟨c,l,h,h1,h2,C,M,O,rfl,rfl⟩:=hx
    grind [Lx]
    grind
    grind
  case fieldAddr t x n=>
    unfold Q3 at hp;split at hp;rename_i x' fields e1 hu;split at hp;rename_i f hf;split at hp;rename_i sz hs;split at hp;rename_i h0;cases hp
    obtain⟨p,h1,h2,rfl⟩:=hx;cases p<;>simp only[S8]at h2;obtain⟨_,rfl⟩:=h2;exact(Fg r ho e1 hu hf hs h0 rfl h1).2 _ _ _ rfl;obtain⟨h2,rfl⟩:=h2;exact(Fg r ho e1 hu hf hs h0 rfl h1).1 _ rfl h2
    grind
    grind
    grind
    grind
  case field t x n=>
    unfold ZT at hp;split at hp;rename_i x' fields e1 hu;split at hp;rename_i f hf;split at hp;rename_i sz b hs hb;cases hp
    obtain⟨cells,h1,h2,rfl⟩:=hx;exact Qc1 r ho e1 hu hf hs hb rfl h1 h2
    grind
    grind
    grind
  case indexAddr t x i=>
    split at hp;rename_i x' i' e e1 e2 hu;obtain⟨l0,h1,rfl⟩:=QzM.1 hp;obtain⟨k,n,p,h2,C,M,O,rfl⟩:=hx;have:=SG (dst:=dst) r ho e1 e2 hu h1 C h2 M;cases p<;>simp only[Qe1]at O
    grind
    grind
    grind
    rename_i x' i' len e e1 e2 hu;obtain⟨l0,h1,rfl⟩:=QzM.1 hp;obtain⟨k,n,p,h2,C,M,h4',O,rfl⟩:=hx;have:=Lu (dst:=dst) r ho e1 e2 hu h1 C h2 M h4';cases p<;>simp only[S8]at O
    grind
    grind
    grind
  case index t x i=>
    split at hp;rename_i x' i' e1 e2 hu;cases hp
    obtain⟨k,n,l,c,h1,h2,C,M,rfl,rfl⟩:=hx
    grind [Lv]
    rename_i x' i' len e e1 e2 hu;unfold Q8 at hp;split at hp;rename_i sz b e3 e4;cases hp
    obtain⟨k,n,cells,h1,h2,C,M,O,rfl⟩:=hx
    grind [Lt]
    grind
    grind
  case range t x=>
    split at hp;rename_i x' e1 hu;cases hp
    obtain⟨t',l,h1,h2,C,rfl,rfl⟩:=hx
    grind [Qc3]
    grind
  case next x b=>
    cases b<;>simp only[Ym,reduceCtorEq]at hp
    obtain⟨x',h1,rfl⟩:=QzM.1 hp;trivial
  case extract x n=>
    obtain⟨x',h1,rfl⟩:=QzM.1 hp;obtain⟨p,ds,h2,M,C,rfl⟩:=hx
    grind [Ls]
  case makeSlice t x y=>
    unfold YI at hp;split at hp;rename_i x' y' e e1 e2 hu;split at hp;rename_i i z hi hz;split at hp;rename_i U;cases hp
    obtain⟨t,k,j,n,h1,h2,C,M,O,h6,h7,rfl,rfl⟩:=hx;have hn:(n.toNat:Int)=n:=Int.toNat_of_nonneg O;rw[<- hn]at h2 C;exact SH r ho e1 e2 hu hi rfl rfl hz U h2 C h6 h7 h1 M
    grind
    grind
    grind
  case call c=>
    unfold YH at hp;split at hp;rename_i x T G;unfold XT at hp;split at hp;rename_i x' t ts e1 e2;have ho':o.op=.call {callee:=.builtin .len,args:=#[x],argTypes:=c.argTypes}:=by grind [Qd9]
    have ht:c.argTypes[0]?=some t:=by
      rw[<- QAF,e2];rfl
    split at hp;rename_i e hu;cases hp
    obtain⟨p,n,h1,h2,rfl,rfl⟩:=hx;have:=Qbm (P:=P) (dst:=dst) r ho' e1 ht h1;cases p<;>simp only[Qhf,QzQ,reduceCtorEq]at h2<;>subst h2
    grind
    grind
    grind
    rename_i hu;cases hp
    obtain⟨l,h1,rfl,rfl⟩:=hx;exact(Qbm r ho' e1 ht h1).2.2 l hu rfl
    grind
    grind
    rename_i x y T G;split at hp;rename_i x' y' e1 e2;cases hp
    obtain⟨k,j,m,n,h1,h2,rfl,rfl⟩:=hx;exact Qii r (by rw[ho,<- GB T G]) e1 e2 h1 h2
    grind
    rename_i x y T G;split at hp;rename_i x' y' e1 e2;cases hp
    obtain⟨k,j,m,n,h1,h2,rfl,rfl⟩:=hx;exact Qih r (by rw[ho,<- GB T G]) e1 e2 h1 h2
    grind
    rename_i x y T G;unfold ZA at hp;split at hp;rename_i x' y' t u e1 e2 e3;split at hp;rename_i htu;subst htu;split at hp;rename_i e hu;split at hp;rename_i i z hi hz;split at hp;rename_i U;cases hp
    obtain⟨t',rows,q,ys,pr,h1,h2,C,M,O,h6,h7,h8,Y,rfl,rfl⟩:=hx;have hat:c.argTypes=#[t,t]:=by grind
    exact Rs r (by grind [GB]) rfl e1 e2 hu hi rfl rfl hz U.1 h2 C M h6 h7 h8 Y h1 O
    grind
    grind
    grind
    unfold YG at hp;split at hp;rename_i e kt hu hut;split at hp;rename_i i z hi hz;split at hp;rename_i U;cases hp
    obtain⟨t',k,n,h1,h2,C,M,O,h6,h7,rfl,rfl⟩:=hx;have hat:c.argTypes=#[t,u]:=by grind
    have hn:(n.toNat:Int)=n:=Int.toNat_of_nonneg Wa;rw[<- hn]at C;exact QeL r (by grind [GB]) rfl e1 e2 hu hut hi rfl rfl hz U h2 C Wa h6 h7 h1 M
    grind
    grind
    grind
    grind
    rename_i x T G;unfold XS at hp;split at hp;rename_i x' t ts e1 e2;have ho':o.op=.call {callee:=.builtin .cap,args:=#[x],argTypes:=c.argTypes}:=by grind [Qd9]
    have ht:c.argTypes[0]?=some t:=by
      rw[<- QAF,e2];rfl
    split at hp;rename_i e hu;cases hp
    obtain⟨rows,h1,rfl,rfl⟩:=hx
    grind [Qif]
    grind
    grind
    obtain⟨args',h1,rfl⟩:=QzM.1 hp;trivial
    ·split at hp
     case isFalse=>grind
     obtain⟨args',h1,rfl⟩:=QzM.1 hp;trivial
    grind
  case makeFunc fn first captured=>
    unfold Hs at hp;split at hp;rename_i f hf;obtain⟨xs,h1,rfl⟩:=QzM.1 hp;obtain⟨ds,h2,C,hd,rfl⟩:=hx;rcases hd with rfl |⟨k,ps,hg,rfl,hps,rfl⟩
    grind [Cm]
    grind [Qc2]
    split at hp;obtain⟨xs,h1,rfl⟩:=QzM.1 hp;obtain⟨ds,h2,C,rfl,rfl⟩:=hx
    grind [QeP]
    grind
    grind
  case panic x=>cases hp;trivial
  case makeInterface t x=>cases hp;trivial
theorem Ri (r:Rel E g s a w) (hp:Zx P o.op=some ao) {s':St} (hx:Bg ao s s' d):FO P E a w o s' d:=by
  cases ao<;>simp only[Bg]at hx
  case store sz x' y'=>
    obtain⟨k,i,off,b,row,q,cells,h1,h2,C,h4,h5,Y,V,rfl,rfl⟩:=hx;cases ho:o.op<;>rw[ho]at hp<;>simp only[Zx,reduceCtorEq]at hp
    case store t x y=>
      split at hp;rename_i sz' G y'' e1 e2 e3;split at hp;rename_i h0;cases hp
      exact Qc4 r ho e2 e3 e1 h1 h2 C h4 h5 Y V h0;cases hp
      cases hp
    all_goals
      first
        |(obtain⟨_,_,h⟩:=QzM.1 hp;cases h;done)
        |(
          simp only[XR,ZU,Q3,ZT,QU,YI,YH,XT,ZA,YG,XS,Q8,Ym,Hs]at hp
          (repeat' split at hp)<;>first |(cases hp;done) |(obtain⟨_,_,h⟩:=QzM.1 hp;cases h;done))
        |((repeat' split at hp)<;>first |(cases hp;done) |(obtain⟨_,_,h⟩:=QzM.1 hp;cases h;done))
  case slice l0 x' lo' hi' mx'=>
    obtain⟨k,n,l,b,h0,h1,h2,C,h4,h5,Y,V,h8,h9,O,rfl,rfl⟩:=hx;cases ho:o.op<;>rw[ho]at hp<;>simp only[Zx,reduceCtorEq]at hp
    case slice t x lo hi mx=>
      unfold ZU at hp;split at hp;rename_i G lo'' hi'' mx'' e1 e2 e3 e4;split at hp;rename_i e hu;obtain⟨esz',hs,h⟩:=QzM.1 hp;cases h
      exact QeN r ho e1 e2 e3 e4 hu hs h1 h2 C h4 h5 Y V h8 h9 O h0;cases hp
      cases hp
      cases hp
    all_goals
      first
        |(obtain⟨_,_,h⟩:=QzM.1 hp;cases h;done)
        |(
          simp only[XR,Q3,ZT,QU,YI,YH,XT,ZA,YG,XS,Q8,Ym,Hs]at hp
          (repeat' split at hp)<;>first |(cases hp;done) |(obtain⟨_,_,h⟩:=QzM.1 hp;cases h;done))
        |((repeat' split at hp)<;>first |(cases hp;done) |(obtain⟨_,_,h⟩:=QzM.1 hp;cases h;done))
  case append l0 et bytes x' y'=>
    obtain⟨k,n,b,q,ys,pr,h1,h1',h2,C,h4,h5,Y,V,h8,h9,O,rfl,rfl⟩:=hx;cases ho:o.op<;>rw[ho]at hp<;>simp only[Zx,reduceCtorEq]at hp
    case call c=>
      unfold YH at hp;split at hp
      ·unfold XT at hp;(repeat' split at hp)<;>cases hp
      ·(repeat' split at hp)<;>cases hp
      ·(repeat' split at hp)<;>cases hp
      rename_i x y hc M;unfold ZA at hp;split at hp;rename_i G y'' t u e1 e2 e3;split at hp;rename_i htu;subst htu;split at hp;rename_i e hu;split at hp;rename_i i z hi hz;split at hp;rename_i U;cases hp
      have hat:c.argTypes=#[t,t]:=by apply Array.ext';simpa using e3
      exact Rr r (by rw[ho,<- hat,<- GB hc M]) rfl e1 e2 hu hi rfl rfl hz U.1 U.2 h1 h1' h2 C h4 h5 Y V h8 h9 O;cases hp
      cases hp
      cases hp
      ·unfold YG at hp;(repeat' split at hp)<;>cases hp
      cases hp
      ·unfold XS at hp;(repeat' split at hp)<;>cases hp
      obtain⟨T,_,h⟩:=QzM.1 hp;cases h;split at hp;obtain⟨T,_,h⟩:=QzM.1 hp;cases h;cases hp
      cases hp
    all_goals
      first
        |(obtain⟨_,_,h⟩:=QzM.1 hp;cases h;done)
        |(
          simp only[XR,ZU,Q3,ZT,QU,YI,Q8,Ym,Hs]at hp
          (repeat' split at hp)<;>first |(cases hp;done) |(obtain⟨_,_,h⟩:=QzM.1 hp;cases h;done))
        |((repeat' split at hp)<;>first |(cases hp;done) |(obtain⟨_,_,h⟩:=QzM.1 hp;cases h;done))
  case next x'=>
    obtain⟨k,l,p,h1,h2,C⟩:=hx;cases ho:o.op<;>rw[ho]at hp<;>simp only[Zx,reduceCtorEq]at hp
    case next x b=>
      cases b<;>simp only[Ym,reduceCtorEq]at hp
      obtain⟨G,e1,e2⟩:=QzM.1 hp;cases e2
      rcases C with⟨C,rfl,rfl⟩ |⟨C,rfl,rfl⟩;exact QeQ r ho e1 h1 h2 C rfl;exact Co r ho e1 h1 h2 C
    all_goals
      first
        |(obtain⟨_,_,h⟩:=QzM.1 hp;cases h;done)
        |(
          simp only[XR,ZU,Q3,ZT,QU,YI,YH,XT,ZA,YG,XS,Q8,Ym,Hs]at hp
          (repeat' split at hp)<;>first |(cases hp;done) |(obtain⟨_,_,h⟩:=QzM.1 hp;cases h;done))
        |((repeat' split at hp)<;>first |(cases hp;done) |(obtain⟨_,_,h⟩:=QzM.1 hp;cases h;done))
end
variable {b:u4} {e:Nat} {α:Type}
def D.o6 (ρ:Nat->Nat):D->D
 | .s4 k n=>.s4 (ρ k) n
 | .y9 k lo c n=>.y9 (ρ k) lo c n
 | .ref k i o=>.ref (ρ k) i o
 | .r9 f k ps=>.r9 f (ρ k) ps
 |d=>d
def D.o5 (ρ:Nat->Nat):D->D
 | .agg cs=>.agg (cs.map (D.o6 ρ))
 | .w8 f cs=>.w8 f (cs.map (D.o6 ρ))
 | .w9 cs x=>.w9 (cs.map (D.o6 ρ)) x
 |d=>d.o6 ρ
def u4.o5 (ρ:Nat->Nat) (b:u4):u4:={b with rows:=b.rows.map λr=>r.map (D.o6 ρ)}
def Gh.pull (g:Gh) (ρ:Nat->Nat):Gh:=⟨g.K,λk=>g.β (ρ k),λk=>g.σ (ρ k)⟩
section
variable {g:Gh} {ρ:Nat->Nat}
theorem z3.o5 {v:Value}:z3 g (d.o6 ρ) v↔z3 (g.pull ρ) d v:=by cases d<;>exact Iff.rfl
theorem Gr:(d.o6 ρ).y4=d.y4:=by cases d<;>rfl
theorem L2:(d.o6 ρ).l4=d.l4.map ρ:=by cases d<;>rfl
theorem x4.o5:∀{ds:List D} {vs:List Value},x4 g (ds.map (D.o6 ρ)) vs↔x4 (g.pull ρ) ds vs
 |[],[]=>Iff.rfl
 |d::ds,v::vs=>by simp only[QAr,x4];rw[z3.o5,x4.o5]
 |[],_::_=>Iff.rfl
 |_::_,[]=>Iff.rfl
theorem l6.o5 {d:D} {v:Value}:l6 g (d.o5 ρ) v↔l6 (g.pull ρ) d v:=by
 cases d
 case agg cs=>
  simp only[D.o5,l6];constructor
  grind [x4.o5,List.mem_map_of_mem,Gr]
  rintro⟨vs,h1,h2,G⟩;refine⟨vs,h1,x4.o5.2 h2,λd hd=>?_⟩;obtain⟨y,M,rfl⟩:=Qz1.1 hd
  grind [Gr]
 case w9 cs x=>
  simp only[D.o5,l6];constructor;rintro⟨vs,u,h1,h2,G,C⟩;exact⟨vs,u,h1,x4.o5.1 h2,λd hd=>by grind [List.mem_map_of_mem,Gr],C⟩;rintro⟨vs,u,h1,h2,G,C⟩;refine⟨vs,u,h1,x4.o5.2 h2,λd hd=>?_,C⟩;obtain⟨y,M,rfl⟩:=Qz1.1 hd
  grind [Gr]
 case w8 f cs=>
  grind [D.o5,l6,x4.o5]
 all_goals rfl
theorem Js:∀{cs:List D},(cs.map (D.o6 ρ)).flatMap D.l4=(cs.flatMap D.l4).map ρ
 |[]=>rfl
 |c::cs=>by rw[QAr,QAi,QAi,QAM,L2,Js]
theorem j7:(d.o5 ρ).ids=d.ids.map ρ:=by
 cases d
 case agg cs=>exact Js
 case w8 f cs=>exact Js
 case w9 cs x=>exact Js
 all_goals rfl
theorem z4.o5 {c:Array Value}:∀{off:Nat} {ds:List D},z4 g c off (ds.map (D.o6 ρ))↔z4 (g.pull ρ) c off ds
 |_,[]=>by rfl
 |off,d::ds=>by
  simp only[QAr,z4];rw[z4.o5,Gr]
  grind [z3.o5]
theorem l5.o5 {c:Array Value}:∀{off:Nat} {rs:List (List D)},l5 g c off (rs.map λr=>r.map (D.o6 ρ))↔l5 (g.pull ρ) c off rs
 |_,[]=>by rfl
 |off,r::rs=>by
  simp only[QAr,l5,QAH];rw[z4.o5,l5.o5]
theorem u4.j7:(b.o5 ρ).ids=b.ids.map ρ:=by
 unfold u4.ids u4.o5;simp only;split;rfl
 induction b.rows with
 |nil=>rfl
 |cons r rs ih=>grind [Js]
theorem u4.bg:b.o5 ρ=Zr↔b=Zr:=by
 obtain⟨rows,l0,et,pr⟩:=b;simp[u4.o5,Zr]
theorem j6.o5 {E:Env} {w:World} {k:Nat} {b:u4}:j6 E g w (ρ k) (b.o5 ρ)↔j6 E (g.pull ρ) w k b:=by
 have C:(b.o5 ρ).rows=[]↔b.rows=[]:=by simp[u4.o5]
 have ye:TJ E g w (ρ k) (b.o5 ρ)↔TJ E (g.pull ρ) w k b:=by
  unfold TJ;rw[C];rfl
 have hlen:(∀r∈(b.o5 ρ).rows,r.length=(b.o5 ρ).l0)↔∀r∈b.rows,r.length=b.l0:=by
  simp[u4.o5]
 have G:((b.o5 ρ).pr=true->∀r∈(b.o5 ρ).rows,∀d∈r,d.l4=[])↔(b.pr=true->∀r∈b.rows,∀d∈r,d.l4=[]):=by
  constructor;intro h hp r hr d hd;have:=h hp (r.map (D.o6 ρ)) (QAL hr) (d.o6 ρ) (QAL hd)
  (repeat clear hK K);simp_all [L2]
  intro h hp r hr d hd;obtain⟨Y,M,rfl⟩:=Qz1.1 hr;obtain⟨d',O,rfl⟩:=Qz1.1 hd;rw[L2,h hp Y M d' O];rfl
 unfold j6;rw[hlen,G,C,ye,u4.bg];refine and_congr_right λ_=>and_congr_right λ_=>or_congr Iff.rfl (and_congr (or_congr (not_congr C) Iff.rfl) ?_);constructor;rintro⟨B,c,h1,h2,V,U,T⟩;exact⟨B,c,h1,h2,V,l5.o5.1 U,T⟩;rintro⟨B,c,h1,h2,V,U,T⟩;exact⟨B,c,h1,h2,V,l5.o5.2 U,T⟩
end
theorem j6.move {E':Env} {g':Gh} {w':World} (h:j6 E g w k b) (C:g'.β k=g.β k/\g'.σ k=g.σ k) (Y:∀r∈b.rows,∀d∈r,∀j∈d.l4,g'.β j=g.β j/\g'.σ j=g.σ j) (hK:g.K.le g'.K)
 (U:∀B e,g.β k=some (B,e)->w'.heap[B]?=w.heap[B]?/\(∀o,g.K B o=none->g'.K B o=none)/\(E.B0<=B\/E.fo B->E'.B0<=B\/E'.fo B)):j6 E' g' w' k b:=by
 obtain⟨h1,h2,V⟩:=h
 refine⟨h1,h2,V.imp (λ⟨x,y⟩=>⟨x,y.imp (λy=>⟨C.1.trans y.1,by grind⟩) λ⟨i1,i2,i3,G,p,B,i4,i5,i6,i7,i8⟩=>by
  obtain⟨T,O,M⟩:=U B 0 i5;exact⟨i1,i2,i3,G,p,B,i4,C.1.trans i5,T.trans i6,λo=>O o (i7 o),M i8.1,by grind⟩⟩) ?_⟩
 grind [l5.congr]
theorem j6.gb {B:Nat} (h:j6 E g w k b) (M:g.β k=some (B,e)):B<w.heap.size/\(∀o,g.K B o=none)/\(E.B0<=B\/E.fo B):=by
 obtain⟨_,_,C⟩:=h;rcases C with⟨_,⟨C,_⟩ |⟨_,_,_,_,_,B',_,i5,i6,i7,i8⟩⟩ |⟨_,B',c,U,T,_,_,O,G⟩
 all_goals grind
theorem j6.xe {B:Nat} (h:j6 E g w k b) (G:g.β k=some (B,e)):¬XN w B:=λhd=>by
 obtain⟨_,_,C⟩:=h;unfold XN at hd;rcases C with⟨_,⟨C,_⟩ |⟨_,_,_,_,_,B',_,i5,i6,i7,i8⟩⟩ |⟨_,B',c,O,M,_⟩
 all_goals grind
def E0 (w:World):Env:=⟨0,0,w,λ_ _=>none,λ_=>False,λ_=>False,λ_=>none,λ_=>(0,0),none,none⟩
structure ia (g:Gh) (H:QzK) (w:World):Prop where
 u9:∀k b,lk H k=some b->∀j∈b.ids,(lk H j).isSome=true
 bx:∀k b,lk H k=some b->j6 (E0 w) g w k b
 inj:∀k k' b b' B e e',lk H k=some b->lk H k'=some b'->g.β k=some (B,e)->g.β k'=some (B,e')->k=k'
 kr:x9 g.K w
def o8 (g:Gh):List D->List Value->Prop
 |[],[]=>True
 |d::ds,v::vs=>l6 g d v/\o8 g ds vs
 |_,_=>False
def NW (g:Gh) (H:QzK) (b:Nat):Prop:=∃k e,(lk H k).isSome=true/\g.β k=some (b,e)
def Qdz (P:Program) (f:Nat):Prop:=∃fn,P.funcs[f]?=some fn/\(fn.name== "runtime.NumGoroutine")=false/\fn.body.isNone=false
def n6 (P:Program) (f:Nat) (ds:List D) (H:QzK) (d:D) (H':QzK):Prop:=
 Qdz P f/\∀(g:Gh) (w:World) (vs:List Value),ia g H w->o8 g ds (vs++gVs f)->(∀x∈ds,∀k∈x.ids,(lk H k).isSome=true)->Calls P f vs.toArray w λe w'=>
  ∃v g',e=.returned v/\l6 g' d v/\ia g' H' w'/\w.heap.size<=w'.heap.size/\(∀b,b<w.heap.size->¬NW g H b->w'.heap[b]?=w.heap[b]?/\g'.K b=g.K b)/\z7 w w'/\
   (∀k,1000000<=k->(lk H k).isSome=true->(lk H' k).isSome=true/\g'.β k=g.β k/\g'.σ k=g.σ k)/\
   ∀k B e,k<1000000->(lk H' k).isSome=true->g'.β k=some (B,e)->w.heap.size<=B\/∃k2 e2,k2<1000000/\(lk H k2).isSome=true/\g.β k2=some (B,e2)
def upN (k:Nat):Nat:=k+1000000
def upH (H:QzK):QzK:=H.map λp=>(upN p.1,p.2.o5 upN)
theorem MK:∀(H:QzK) (k:Nat),lk (upH H) (upN k)=(lk H k).map (u4.o5 upN)
 |[],_=>rfl
 |(j,b)::H,k=>by
  simp only[upH,QAr,Qe];have:=MK H k;simp only[upH]at this;rw[this]
  by_cases h:j=k
  (repeat clear hK K);simp_all
  (repeat clear hK K);simp_all [upN]
theorem RH:∀(H:QzK) {k:Nat},k<1000000->lk (upH H) k=none
 |[],_,_=>rfl
 |(j,b)::H,k,hk=>by
  simp only[upH,QAr,Qe];rw[if_neg (by grind [upN])];exact RH H hk
theorem Xp {H:QzK} (h:lk (upH H) k=some b):∃j b0,k=upN j/\lk H j=some b0/\b=b0.o5 upN:=by
 by_cases hk:k<1000000
 grind [RH]
 have e:k=upN (k - 1000000):=by grind [upN]
 grind [MK,Option.map_eq_some_iff]
theorem Z8 {α:Type}:∀(A B:List (Nat × α)) (k:Nat),lk (A++B) k=match lk A k with |some v=>some v |none=>lk B k
 |[],_,_=>rfl
 |(j,v)::A,B,k=>by
  simp only[QAJ,Qe];split;rfl;exact Z8 A B k
theorem Zv {A B:List (Nat × α)} (h:lk A k=none):lk (A++B) k=lk B k:=by rw[Z8,h]
theorem Zm {A B:List (Nat × α)} {v:α} (h:lk A k=some v):lk (A++B) k=some v:=by rw[Z8,h]
theorem QnZ {a b:Nat} (h:upN a=upN b):a=b:=by grind [upN]
variable {K:Kn} {nt:Nat} {o':z1} {ops:Array Oper}
def Ok (P:Program) (f:Nat) (ds:List D) (d:D):Prop:=
 Qdz P f/\∀(K:Kn) (w:World) (vs:List Value),x9 K w->j5 K ds (vs++gVs f)->Calls P f vs.toArray w λe w'=>
  ∃v K',e=.returned v/\l3 K' d v/\x9 K' w'/\w.heap.size<=w'.heap.size/\(∀b,b<w.heap.size->w'.heap[b]?=w.heap[b]?)/\(∀b,b<w.heap.size->K' b=K b)/\z7 w w'
def D.y6:D->D
 | .x7 rows=>.sl rows
 |d=>d
def D.can:D->D
 | .agg cs=>.agg (cs.map D.y6)
 |d=>d.y6
def D.l9:D->Bool
 | .int _ _ | .bool _ | .str _=>true
 |_=>false
def D.flat:D->Bool
 | .l7 ds=>ds.all D.l9
 |d=>d.l9
def JG:Nat->Bool:=λ_=>true
def XL (s:St) (d:D):D:=(d.fz s.H JG).can
def Qod (d:D):D:=(d.o5 upN).can
def OkU (P:Program) (f:Nat) (ds:List D) (H:QzK) (d:D) (H':QzK):Prop:=n6 P f (ds.map Qod) H d H'\/n6 P f (ds.map (D.o5 upN)) H d H'
def FA (P:Program) (f:Nat) (args:List n5) (s:St) (HF Hn Hu:QzK) (d:D):Prop:=
 ∃ds,QD s args=some ds/\(∀k b,lk HF k=some b->lk s.H k=some b)/\(∀k b,lk HF k=some b->∀j∈b.ids,(lk HF j).isSome=true)/\(∀x∈ds,∀j∈x.ids,(lk HF j).isSome=true)/\
  (∀k b,lk Hu k=some b->(lk HF k).isSome=true/\∀j∈b.ids,(lk HF j).isSome=true)/\
  (∀k b,lk Hn k=some b->k<1000000/\lk s.H k=none/\∀j∈b.ids,(lk Hn j).isSome=true)/\(∀k∈d.ids,(lk Hn k).isSome=true)/\
  OkU P f ds (upH HF) d (Hn++upH (Hu++HF))
def QsA (k:Nat) (d:D):D:=(d.o5 λj=>if j=k then 500000 else upN j).can
def QcT (P:Program) (f:Nat) (args:List n5) (s:St) (HF:QzK) (k t:Nat) (b b':u4) (n':Nat):Prop:=
 ∃ds,QD s args=some ds/\lk s.H k=some b/\b.pr=true/\k<1000000/\lk s.H t=none/\t<1000000/\(∀j x,lk HF j=some x->j≠k/\lk s.H j=some x)/\(∀j x,lk HF j=some x->∀i∈x.ids,(lk HF i).isSome=true)/\
  (∀x∈ds,∀j∈x.ids,j=k\/(lk HF j).isSome=true)/\(∃x∈ds,k∈x.ids)/\b'.pr=true/\n6 P f (ds.map (QsA k)) ((500000,b)::upH HF) (.s4 500000 n') ((500000,b')::upH HF)
def St.g8 (s:St) (dst:Option Nat) (d:D) (ef:QzK):St:=
 ⟨match dst with |some t=>(t,d)::s.fr |none=>s.fr,ef++s.H⟩
def EF (P:Program) (B:Nat->Prop) (op:z5) (dst:Option Nat) (s:St) (p q:List Nat) (d:D) (ef:QzK):Prop:=
 match op with
 | .call f args=>(∃HF k b,FA P f args s HF [] [(k,b)] d/\(∀j∈HF.map Prod.fst,B j)/\p=HF.map Prod.fst/\q=[k]/\ef=[(k,b)])\/
   (∃HF k t b b' n',dst=some t/\QcT P f args s HF k t b b' n'/\(∀j∈HF.map Prod.fst,B j)/\p=k::HF.map Prod.fst/\q=[k]/\d=.s4 t n'/\ef=[(t,b'),(k,Zr)])\/
   ∃HF t b n,dst=some t/\FA P f args s HF [(t,b)] [] (.s4 t n)/\lk s.H t=none/\(∀j∈HF.map Prod.fst,B j)/\p=HF.map Prod.fst/\q=[]/\d=.s4 t n/\ef=[(t,b)]
 | .append l0 et bytes x y=>∃t k n b e ys pr,dst=some t/\s.ev x=some (.s4 k n)/\k<1000000/\lk s.H t=none/\t<1000000/\lk s.H k=some b/\n=b.rows.length/\b.l0=l0/\b.et=et/\s.ev y=some e/\k∉e.ids/\s.src l0 e ys pr/\
   (n+ys.length)*bytes<=140737488355328/\n+ys.length<=4611686018427387904/\p=k::e.ids/\q=[k]/\d=.s4 t (n+ys.length)/\ef=[(t,⟨b.rows++ys,l0,et,b.pr&&pr⟩),(k,Zr)]
 |_=>False
def Jg (s:St) (op:z5) (f:Nat) (args:List n5):Prop:=
 op=.call f args\/(∃x az caps,op=.ga x az/\(s.ev x=some (.w8 f caps)\/∃k ps,s.ev x=some (.r9 f k ps)/\caps=.ref k 0 0::ps)/\caps.all D.fa=true/\args=az++caps.map .c)\/
  ∃x rs,op=.ga x []/\s.ev x=some (.re f rs)/\rs.all D.pure=true/\args=rs.map .c
def QhL (P:Program) (f:Nat) (args:List n5) (s:St) (d:D):Prop:=
 ∃ds,QD s args=some ds/\Ok P f (ds.map (XL s)) d/\(ds.all D.pure=true\/d.flat=true)
def St.apply (s:St) (dst:Option Nat) (d:D) (bx:Option u4):St:=
 match dst with
 |some t=>(s.s6 dst bx).put t d
 |none=>s
def gw (s:St):Option (Nat × Bool)->Option Bool
 |none=>some true
 |some (t,b)=>match lk s.fr t with
  |some (.bool c)=>some (c==b)
  |some .undef=>some false
  |_=>none
def St.v8:List Nat->St->St
 |[],s=>s
 |k::ks,s=>St.v8 ks (s.freeze k)
def Xz (P:Program) (o:z1) (s:St) (d:D) (bx:Option u4):Prop:=
 match o.op with
 | .call f args=>bx=none/\QhL P f args s d
 | .ga x az=>bx=none/\((∃f caps,s.ev x=some (.w8 f caps)/\caps.all D.fa=true/\QhL P f (az++caps.map .c) s d)\/(az=[]/\∃f rs,s.ev x=some (.re f rs)/\rs.all D.pure=true/\QhL P f (rs.map .c) s d))
 |op=>SO op o.dst s d bx
def St.le (s s':St):Prop:=∀E g a w,Rel E g s a w->∃g',Rel E g' s' a w
def Qg8 (P:Program) (o:z1) (K:St->Prop) (s:St):Prop:=
 match gw s o.guard with
 |none=>False
 |some false=>K (s.apply o.dst .undef none)
 |some true=>(∃d bx,Xz P o s d bx/\K (s.apply o.dst d bx))\/(∃s' d,Bg o.op s s' d/\K (s'.apply o.dst d none))\/(∃p q d ef,EF P (λ_=>True) o.op o.dst s p q d ef/\K (s.g8 o.dst d ef))\/
   (∃f args HF Hn Hu d,Jg s o.op f args/\FA P f args s HF Hn Hu d/\K (St.apply {s with H:=Hn++(Hu++s.H)} o.dst d none))\/
   ∃s' d bx,s.le s'/\Xz P o s' d bx/\K (s'.apply o.dst d bx)
def HL (P:Program):List z1->(St->Prop)->St->Prop
 |[],K,s=>K s
 |o::r,K,s=>Qg8 P o (HL P r K) s
def Zo (ops:Array Oper):Option (Nat × Bool)->Option (Option (Nat × Bool))
 |none=>some none
 |some (j,b)=>match(ops[j]?).bind (·.dst)with
  |some t=>some (some (t,b))
  |none=>none
def QW (P:Program) (nt:Nat) (ops:Array Oper) (o:Oper):Option z1:=
 match Zx P o.op,Zo ops o.guard,o.dst with
 |some ao,some gd,none=>some ⟨none,ao,gd⟩
 |some ao,some gd,some t=>if t<nt/\t<900000 then some ⟨some t,ao,gd⟩else none
 |_,_,_=>none
def Ql (P:Program) (nt:Nat) (ops:Array Oper):List Oper->Option (List z1)
 |[]=>some []
 |o::r=>match QW P nt ops o,Ql P nt ops r with
  |some o',some r'=>some (o'::r')
  |_,_=>none
section
variable {P:Program} {E:Env} {g:Gh} {s:St} {a:Act} {w:World}
theorem Qq (h:QW P nt ops o=some o'):
  Zx P o.op=some o'.op/\Zo ops o.guard=some o'.guard/\o'.dst=o.dst/\∀t,o.dst=some t->t<nt:=by
 grind [QW]
theorem NB (h:QW P nt ops o=some o') {t:Nat} (C:o.dst=some t):t<900000:=by
 grind [QW]
theorem Rel.apply {dst:Option Nat} {d:D} {bx:Option u4} {v:Value} (r:Rel E g (s.s6 dst bx) a w) (C:l6 g d v) (hd:Has (s.s6 dst bx) d) (G:∀t,dst=some t->t<E.nt):
  Rel E g (s.apply dst d bx) (a.put dst v) w:=by
 cases dst with
 |none=>exact r
 |some t=>exact r.put (G t rfl) C hd
theorem S5 {s:St}:∀{xs ys:List n5} {ds:List D},QD s (xs++ys)=some ds->∃d1 d2,ds=d1++d2/\QD s xs=some d1/\QD s ys=some d2
 |[],ys,ds,h=>⟨[],ds,rfl,rfl,h⟩
 |x::xs,ys,ds,h=>by
  simp only[QAJ,QD]at h;split at h;rename_i d ds' e1 e2;cases h
  obtain⟨d1,d2,rfl,h1,h2⟩:=S5 e2;exact⟨d::d1,d2,rfl,by grind [QD],h2⟩
  grind
theorem KV {s:St}:∀(ds:List D),QD s (ds.map .c)=some ds
 |[]=>rfl
 |d::ds=>by simp only[QAr,QD,St.ev,KV ds]
theorem o8.app {g:Gh}:∀{d1:List D} {v1:List Value} {d2:List D} {v2:List Value},o8 g d1 v1->o8 g d2 v2->o8 g (d1++d2) (v1++v2)
 |[],[],_,_,_,h=>h
 |_::_,_::_,_,_,h,h'=>⟨h.1,o8.app h.2 h'⟩
 |[],_::_,_,_,h,_=>h.elim
 |_::_,[],_,_,h,_=>h.elim
theorem x4.ji {g:Gh}:∀{ds:List D} {vs:List Value},x4 g ds vs->o8 g ds vs
 |[],[],_=>trivial
 |_::_,_::_,h=>⟨h.1.vg,x4.ji h.2⟩
 |[],_::_,h=>h.elim
 |_::_,[],h=>h.elim
theorem Qk4 (r:Rel E g s a w):∀{xs:List Operand} {C:List n5} {ds:List D},Za xs=some C->QD s C=some ds->o8 g ds (xs.map a.eval)/\∀d∈ds,Has s d
 |[],C,ds,h1,h2=>by
  simp only[Za,QzQ]at h1;subst h1;simp only[QD,QzQ]at h2;subst h2;exact⟨trivial,by simp⟩
 |x::xs,C,ds,h1,h2=>by
  simp only[Za]at h1;split at h1;rename_i x' T e1 e2;cases h1
  simp only[QD]at h2;split at h2;rename_i d ds' f1 f2;cases h2
  obtain⟨M,G⟩:=Qk4 r e2 f2;obtain⟨g1,g2⟩:=QH r e1 f1;refine⟨⟨g1,M⟩,λy O=>?_⟩;cases O with
  |head=>exact g2
  |tail _ hm=>exact G y hm
  cases h2
  cases h1
theorem QaS (h:l3 K d v):l3 K d.y6 v:=by
 cases d<;>simp only[D.y6]<;>try exact h
 simp only[l3]at h ⊢;obtain⟨M,G,C⟩:=h;exact⟨M,_,G,QAe _,C⟩
theorem BK (h:l3 K d v):l3 K d.can v:=by
 cases d<;>simp only[D.can]<;>try exact QaS h
 case agg cs=>
  simp only[l3]at h ⊢;obtain⟨vs,G,C⟩:=h;refine⟨vs,G, ?_⟩
  have:∀{cs:List D} {vs:List Value},x5 K cs vs->x5 K (cs.map D.y6) vs:=by
   intro cs
   induction cs with
   |nil=>intro vs h;exact h
   |cons c cs ih=>
    intro vs h;cases vs with
    |nil=>simp only[x5]at h
    |cons v vs=>
     simp only[QAr,x5]at h ⊢;refine⟨⟨?_,QaS h.1.2⟩,ih h.2⟩;have:=h.1.1;cases c<;>first |exact this |rfl
  exact this C
theorem Qb9 {K:Kn} (C:∀d v,z3 g d v->(∀k∈d.l4,(lk s.H k).isSome=true)->z3 {g with K:=K} (d.o7 s.H JG) v):∀{ds:List D} {vs:List Value},
  o8 g ds vs->(∀d∈ds,Has s d)->(∀d∈ds,(d.fz s.H JG).pure=true)->j5 K (ds.map (XL s)) vs
 |[],[],_,_,_=>by trivial
 |d::ds,v::vs,h,h2,h3=>by
  have hp:=(l6.fz C h.1 (h2 d Wc)).mc (h3 d Wc);simp only[QAr,j5];exact⟨BK hp,Qb9 C h.2 (λx hx=>h2 x Wb) λx hx=>h3 x Wb⟩
 |[],_::_,h,_,_=>h.elim
 |_::_,[],h,_,_=>h.elim
theorem Jt:(d.o7 H JG).own=false:=by
 cases d<;>simp only[D.o7,JG,if_true]<;>try rfl
 all_goals (repeat' split)<;>rfl
theorem Rq:(d.fz H JG).pure=true:=by
 cases d
 case agg cs=>simp only[D.fz,D.pure,QzX];intro x hx;obtain⟨y,_,rfl⟩:=Qz1.1 hx;simp[Jt]
 case w8 f cs=>simp only[D.fz,D.pure,QzX];intro x hx;obtain⟨y,_,rfl⟩:=Qz1.1 hx;simp[Jt]
 case w9 cs z=>simp only[D.fz,D.pure,QzX];intro x hx;obtain⟨y,_,rfl⟩:=Qz1.1 hx;simp[Jt]
 case s4 k n=>
  have:=Jt (H:=H) (d:=.s4 k n);simp only[D.fz];revert this;simp only[D.o7,JG,if_true]
  (repeat' split)<;>intro _<;>rfl
 case r9 f k ps=>rfl
 case ref k i j=>
  have:=Jt (H:=H) (d:=.ref k i j);simp only[D.fz];revert this;simp only[D.o7,JG,if_true]
  (repeat' split)<;>intro _<;>rfl
 all_goals rfl
theorem ZG {f:D->D}:∀{cs:List D},(∀x∈cs,f x=x)->cs.map f=cs
 |[],_=>rfl
 |c::cs,h=>by rw[QAr,h c Wc,ZG λx hx=>h x Wb]
theorem Ta {S:Nat->Bool} (h:d.pure=true):d.fz H S=d:=by
 have one:∀{d:D},d.own=false->d.o7 H S=d:=by
  intro d h;cases d<;>first |rfl |(trivial)
 cases d
 case agg cs=>
  grind [D.pure,D.fz,ZG]
 case w8 f cs=>
  grind [D.pure,D.fz,ZG]
 case w9 cs z=>
  grind [D.pure,D.fz,ZG]
 all_goals first |rfl |(simp[D.pure,D.own]at h)
end
variable {HF:QzK} {K':Act->World->Prop} {Q:Exit->Act->World->Prop} {args:List n5}
section
variable {P:Program} {E:Env} {g:Gh} {s:St} {a:Act} {w:World}
theorem o8.mi {g:Gh}:∀{ds:List D} {vs:List Value},j5 g.K ds vs->o8 g ds vs
 |[],[],_=>trivial
 |d::ds,v::vs,h=>by simp only[j5]at h;exact⟨l6.of h.1,o8.mi h.2⟩
 |[],_::_,h=>by trivial
 |_::_,[],h=>by trivial
theorem j5.ids {K:Kn}:∀{ds:List D} {vs:List Value},j5 K ds vs->∀d∈ds,d.ids=[]
 |[],[],_,d,hd=>by grind
 |d::ds,v::vs,h,x,hx=>by
  simp only[j5]at h;rcases QzP.1 hx with rfl |hx
  grind [Xr]
  exact j5.ids h.2 x hx
 |[],_::_,h,_,_=>by grind
 |_::_,[],h,_,_=>by trivial
theorem Kv {ds:List D} (r:Rel E g s a w) (hp:Zx P o.op=some ao) (hc:Jg s ao f args) (hds:QD s args=some ds) (he:Qdz P f):
  ∃vs:List Value,o8 g ds (vs++gVs f)/\(∀d∈ds,Has s d)/\(execOp a.eval o).run P w=.ok (.enter f vs.toArray) w:=by
 obtain⟨fn,hfn,hnm,hbd⟩:=he;have hnm':¬fn.name= "runtime.NumGoroutine":=by grind
 have hbd':¬fn.body=none:=λh=>by grind
 have hao:(∃az,ao=.call f az)\/∃x az,ao=.ga x az:=by
  rcases hc with h |⟨x,az,_,h,_⟩ |⟨x,_,h,_⟩
  grind
  grind
  grind
 cases ho:o.op<;>rw[ho]at hp<;>simp only[Zx,reduceCtorEq]at hp
 case call c=>
  have e1:(c.args.map a.eval)=(c.args.toList.map a.eval).toArray:=by grind
  unfold YH at hp;split at hp;unfold XT at hp
  grind
  grind
  grind
  unfold ZA YG at hp
  grind
  unfold XS at hp
  grind
  rename_i f' xs hcal;obtain⟨args'',h1,h2⟩:=QzM.1 hp;subst h2;rcases hc with h |⟨x,az,caps,h,_⟩ |⟨x,_,h,_⟩
  cases h
  obtain⟨q1,q2⟩:=Qk4 r h1 hds;refine⟨c.args.toList.map a.eval,by simp_all [gVs,Function.comp_def,Act.eval],q2, ?_⟩;have hev:a.eval (.func f)=.func (.func f) #[] #[]:=rfl
  (repeat clear hK K);simp_all [execOp,resolve,Deferred.ofValue,invoke,callFunc]
  grind
  grind
  ·rename_i xs t hcal;split at hp
   case isFalse=>grind
   rename_i ht9;obtain⟨args'',h1,h2⟩:=QzM.1 hp;subst h2;rcases hc with h |⟨x,az,caps,h,hx,hcap,rfl⟩ |⟨x,rs,h,hx,hcap,rfl⟩
   grind
   cases h
   obtain⟨d1,d2,rfl,h3,h4⟩:=S5 hds;rw[KV]at h4;cases h4;obtain⟨q1,q2⟩:=Qk4 r h1 h3
   obtain⟨⟨cs,hv,hl⟩,hid⟩:l6 g (.w8 f caps) (a.eval (.tmp t))/\Has s (.w8 f caps):=by
    rcases hx with hx |⟨k,ps,hx,rfl⟩;exact QH (x:=.tmp t) r (if_pos ht9) hx;obtain⟨q1,q2⟩:=QH (x:=.tmp t) r (if_pos ht9) hx
    refine⟨Qp4 q1,λj hj=>?_⟩;simp only[D.ids,QAi,QzY]at hj;rcases hj with hj |hj
    exact q2 j hj;obtain⟨B,l0,o,cs,_,_,h2⟩:=q1
    grind [Px]
   refine⟨c.args.toList.map a.eval++cs,by rw[QAD];exact q1.app hl.ji,λd hd=>?_, ?_⟩
   rcases QzY.1 hd with hd |hd
   grind
   intro k hk;exact hid k (QzU.2 ⟨d,hd,Qec (QzX.1 hcap d hd) k hk⟩)
   (repeat clear hK K);simp_all [execOp,resolve,Deferred.ofValue,invoke,callFunc]
   cases h
   rw[KV]at hds;cases hds
   have hxs:c.args=#[]:=by
    cases hl:c.args.toList with
    |nil=>grind
    |cons y ys=>
     grind [Za]
   obtain⟨hR,hid⟩:=QH (x:=.tmp t) r (if_pos ht9) hx;simp only[l6,z3,l3]at hR;obtain⟨cs,hv,hl⟩:=hR;refine⟨cs,o8.mi hl,λd hd k hk=>?_, ?_⟩
   grind [j5.ids]
   (repeat clear hK K);simp_all [execOp,resolve,Deferred.ofValue,invoke,callFunc]
  grind
 all_goals
  first
   |(cases hp;rcases hao with⟨_,h⟩ |⟨_,_,h⟩<;>cases h;done)
   |(obtain⟨_,_,h⟩:=QzM.1 hp;subst h;rcases hao with⟨_,h⟩ |⟨_,_,h⟩<;>cases h;done)
   |(
    simp only[XR,ZU,Q3,ZT,QU,YI,Q8,Ym,Hs]at hp
    (repeat' split at hp)<;>first |(cases hp;done) |(cases hp;rcases hao with⟨_,h⟩ |⟨_,_,h⟩<;>cases h;done) |(obtain⟨_,_,h⟩:=QzM.1 hp;subst h;rcases hao with⟨_,h⟩ |⟨_,_,h⟩<;>cases h;done))
   |((repeat' split at hp)<;>first |(cases hp;done) |(cases hp;rcases hao with⟨_,h⟩ |⟨_,_,h⟩<;>cases h;done) |(obtain⟨_,_,h⟩:=QzM.1 hp;subst h;rcases hao with⟨_,h⟩ |⟨_,_,h⟩<;>cases h;done))
theorem l6.lh {v:Value} (h:l6 g d v):l6 g d.can v:=by
 have y6:∀{d:D} {v:Value},z3 g d v->z3 g d.y6 v:=by
  intro d v h;cases d<;>simp only[D.y6]<;>try exact h
  simp only[z3,l3]at h ⊢;obtain⟨T,C,G⟩:=h;exact⟨T,_,C,QAe _,G⟩
 cases d
 case agg cs=>
  obtain⟨vs,C,G,M⟩:=h;refine⟨vs,C, ?_,λd hd=>?_⟩
  have:∀{cs:List D} {vs:List Value},x4 g cs vs->x4 g (cs.map D.y6) vs:=by
   intro cs
   induction cs with
   |nil=>simp
   |cons c cs ih=>
    intro vs h;cases vs with
    |nil=>trivial
    |cons v vs=>exact⟨y6 h.1,ih h.2⟩
  grind
  obtain⟨y,O,rfl⟩:=Qz1.1 hd;have:=M y O;cases y<;>first |trivial |rfl
 case x7 rows=>exact y6 (d:=.x7 rows) h
 all_goals exact h
theorem Le:d.can.ids=d.ids:=by
 have one:∀d:D,d.y6.l4=d.l4:=λd=>by cases d<;>rfl
 cases d
 case agg cs=>
  simp only[D.can,D.ids]
  induction cs with
  |nil=>rfl
  |cons c cs ih=>grind
 all_goals rfl
theorem Ku {G:Gh} {ρ:Nat->Nat} (C:G.pull ρ=g):∀{ds:List D} {vs:List Value},o8 g ds vs->o8 G (ds.map λd=>(d.o5 ρ).can) vs
 |[],[],_=>trivial
 |d::ds,v::vs,h=>⟨(l6.o5.2 (by rw[C];exact h.1)).lh,Ku C h.2⟩
 |[],_::_,h=>h.elim
 |_::_,[],h=>h.elim
theorem P8 {G:Gh} {ρ:Nat->Nat} (C:G.pull ρ=g):∀{ds:List D} {vs:List Value},o8 g ds vs->o8 G (ds.map λd=>d.o5 ρ) vs
 |[],[],_=>trivial
 |d::ds,v::vs,h=>⟨l6.o5.2 (by rw[C];exact h.1),P8 C h.2⟩
 |[],_::_,h=>h.elim
 |_::_,[],h=>h.elim
theorem FB {Hn Hu:QzK} (r:Rel E g s a w) (hp:Zx P o.op=some ao) (hcal:Jg s ao f args) (hc:FA P f args s HF Hn Hu d)
 (ht:∀t,o.dst=some t->t<E.nt) (hK:∀g' a' w',Rel E g' (St.apply {s with H:=Hn++(Hu++s.H)} o.dst d none) a' w'->K' a' w'):o.wp P a w K' Q:=by
 obtain⟨ds,hds,c1,c2,c3,c4,c5,c6,hokU⟩:=hc;obtain⟨vs,hxs,_,hrun⟩:=Kv r hp hcal hds (hokU.elim And.left And.left);unfold Oper.wp;rw[hrun,Oper.upon_enter];let O:Gh:=⟨g.K,λk=>g.β (k - 1000000),λk=>g.σ (k - 1000000)⟩
 have V:O.pull upN=g:=by
  have h1:∀k,upN k - 1000000=k:=λk=>by simp_all [upN]
  show(⟨g.K,λk=>g.β (upN k - 1000000),λk=>g.σ (upN k - 1000000)⟩:Gh)=g
  (repeat clear hK K);simp_all
 have guβ:∀k,O.β (upN k)=g.β k:=λk=>congrFun (congrArg Gh.β V) k;have guσ:∀k,O.σ (upN k)=g.σ k:=λk=>congrFun (congrArg Gh.σ V) k
 have inH:∀k,(lk HF k).isSome=true->(lk s.H k).isSome=true:=λk hk=>by
  grind [Option.isSome_iff_exists]
 have hrel:ia O (upH HF) w:=by
  refine⟨λk b hk j hj=>?_,λk b hk=>?_,λk k' b b' B e e' h1 h2 h3 h4=>?_,r.kr⟩;obtain⟨i,b0,rfl,h1,rfl⟩:=Xp hk;rw[u4.j7]at hj;obtain⟨j0,hj0,rfl⟩:=Qz1.1 hj
  grind [MK]
  obtain⟨i,b0,rfl,h1,rfl⟩:=Xp hk;refine j6.o5.2 ?_;rw[V];exact(r.bx i b0 (c1 i b0 h1)).move ⟨rfl,rfl⟩ (λ_ _ _ _ _ _=>⟨rfl,rfl⟩) (Kn.le_refl _) λB e _=>⟨rfl,λ_ h=>h,λ_=>.inl (QzZ _)⟩;obtain⟨i,b0,rfl,q1,rfl⟩:=Xp h1;obtain⟨i',b0',rfl,q2,rfl⟩:=Xp h2;rw[guβ]at h3 h4;rw[r.inj i i' b0 b0' B e e' (c1 _ _ q1) (c1 _ _ q2) h3 h4]
 have hcall:Calls P f vs.toArray w λe w'=>∃v g',e=.returned v/\l6 g' d v/\ia g' (Hn++upH (Hu++HF)) w'/\w.heap.size<=w'.heap.size/\(∀b,b<w.heap.size->¬NW O (upH HF) b->w'.heap[b]?=w.heap[b]?/\g'.K b=O.K b)/\z7 w w'/\
   (∀k,1000000<=k->(lk (upH HF) k).isSome=true->(lk (Hn++upH (Hu++HF)) k).isSome=true/\g'.β k=O.β k/\g'.σ k=O.σ k)/\
   ∀k B e,k<1000000->(lk (Hn++upH (Hu++HF)) k).isSome=true->g'.β k=some (B,e)->w.heap.size<=B\/∃k2 e2,k2<1000000/\(lk (upH HF) k2).isSome=true/\O.β k2=some (B,e2):=by
  rcases hokU with⟨_,hok⟩ |⟨_,hok⟩;refine hok O w vs hrel (Ku V hxs) ?_;intro x hx k hk;obtain⟨x0,hx0,rfl⟩:=Qz1.1 hx
  unfold Qod at hk;rw[Le,j7]at hk;obtain⟨k0,hk0,rfl⟩:=Qz1.1 hk
  grind [MK]
  refine hok O w vs hrel (P8 V hxs) ?_;intro x hx k hk;obtain⟨x0,hx0,rfl⟩:=Qz1.1 hx;rw[j7]at hk;obtain⟨k0,hk0,rfl⟩:=Qz1.1 hk
  grind [MK]
 refine hcall.mono λe w' ⟨v,g',he,hv,hr',hsz,hfr,hfx,hkeep,hnew⟩=>?_;subst he
 -- what is the callee's own is the caller's own
 have C:∀b,NW O (upH HF) b->∃k b0 e,lk HF k=some b0/\lk s.H k=some b0/\g.β k=some (b,e):=λb ⟨k,e,h1,h2⟩=>by
  obtain⟨b1,hb1⟩:=QzT.1 h1;obtain⟨i,b0,rfl,q1,_⟩:=Xp hb1
  grind
 have hKle:g.K.le g'.K:=λb q x hx=>by
  have hb:=r.kr.lt hx
  have U:¬NW O (upH HF) b:=λh=>by
   obtain⟨k,b0,e,_,h2,h3⟩:=C b h;have:=((r.bx k b0 h2).gb h3).2.1 q
   grind
  grind
 have kU:∀k,(lk HF k).isSome=true->g'.β (upN k)=g.β k/\g'.σ (upN k)=g.σ k:=λk hk=>by
  grind [upN,MK]
 let g2:Gh:=⟨g'.K,λk=>if(lk Hn k).isSome=true then g'.β k else g.β k,λk=>if(lk Hn k).isSome=true then g'.σ k else g.σ k⟩;have Y:∀k,(lk Hn k).isSome=true->g2.β k=g'.β k/\g2.σ k=g'.σ k:=λk hk=>⟨if_pos hk,if_pos hk⟩
 have freshN:∀k,(lk Hn k).isSome=true->k<1000000/\lk s.H k=none:=λk hk=>by
  obtain⟨b,hb⟩:=QzT.1 hk
  grind
 have notN:∀k,(lk s.H k).isSome=true->lk Hn k=none:=λk hk=>by
  cases h:lk Hn k with
  |none=>rfl
  |some b=>grind
 have G:∀k,(lk s.H k).isSome=true->g2.β k=g.β k/\g2.σ k=g.σ k:=λk hk=>by
  grind
 have lkr:∀k,lk Hn k=none->lk (Hn++(Hu++s.H)) k=lk (Hu++s.H) k:=λk hk=>Zv hk;have uIn:∀k b,lk Hu k=some b->(lk s.H k).isSome=true:=λk b h=>inH k (c4 k b h).1
 have sIn:∀k,(lk s.H k).isSome=true->(lk (Hn++(Hu++s.H)) k).isSome=true:=λk hk=>by
  rw[lkr k (notN k hk)];cases h:lk Hu k with
  |some b=>grind [Zm]
  |none=>grind [Zv]
 have nIn:∀k,(lk Hn k).isSome=true->(lk (Hn++(Hu++s.H)) k).isSome=true:=λk hk=>by
  obtain⟨b,hb⟩:=QzT.1 hk
  grind [Zm]
 have T:∀k b,lk (Hn++(Hu++s.H)) k=some b->lk Hn k=some b\/(lk Hn k=none/\(lk s.H k).isSome=true/\((lk HF k).isSome=true/\lk (Hu++HF) k=some b\/lk HF k=none/\lk s.H k=some b)):=λk b h=>by
  cases hn:lk Hn k with
  |some b'=>grind [Zm]
  |none=>
   rw[lkr k hn]at h;refine .inr ⟨rfl, ?_⟩;cases hu:lk Hu k with
   |some b'=>
    grind [Zm]
   |none=>
    rw[Zv hu]at h;refine⟨by grind, ?_⟩;cases hf:lk HF k with
    |some b'=>
     have:=c1 k b' hf
     have e:b=b':=by
      grind
     subst e;exact .inl ⟨rfl,by grind [Zv]⟩
    |none=>grind
 have lkR:∀k b,lk (Hu++HF) k=some b->lk (Hn++upH (Hu++HF)) (upN k)=some (b.o5 upN):=λk b h=>by
  have hn:lk Hn (upN k)=none:=by
   cases hh:lk Hn (upN k)with
   |none=>rfl
   |some b'=>grind [upN]
  grind [Zv,MK]
 have lkN:∀k b,lk Hn k=some b->lk (Hn++upH (Hu++HF)) k=some b:=λk b h=>Zm h
 have blkN:∀k B e,(lk Hn k).isSome=true->g'.β k=some (B,e)->w.heap.size<=B:=λk B e hk hβ=>by
  obtain⟨b,hb⟩:=QzT.1 hk;refine(hnew k B e (freshN k hk).1 Wb hβ).resolve_right ?_
  grind [RH]
 have blkO:∀k B e,(lk s.H k).isSome=true->g.β k=some (B,e)->B<w.heap.size/\(∀o,g.K B o=none)/\(E.B0<=B\/E.fo B):=λk B e hk hβ=>by
  obtain⟨b,hb⟩:=QzT.1 hk;exact(r.bx k b hb).gb hβ
 have r2:Rel E g2 {s with H:=Hn++(Hu++s.H)} a w':=by
  refine⟨r.nt,r.df.of rfl (λD hD=>((hfr D (QAc.1 hD).1 (λho=>by
   obtain⟨k,b0,e,_,h2,h3⟩:=C D ho;exact(r.bx k b0 h2).xe h3 hD)).1).trans hD),λt x h=>(r.fr t x h).congr hKle λk hk=>G k (r.s9 t x h k hk),λt x h k hk=>sIn k (r.s9 t x h k hk),λk b h j hj=>?_,λk b h=>?_,λk k' b b' B e e' h1 h2 h3 h4=>?_,hr'.kr,
   ⟨Qz6 r.ext.1 hsz,λb hb hf=>?_,r.ext.2.2.trans hfx⟩,λb hb hf=>?_,λk hk=>?_⟩
  rcases T k b h with h |⟨_,_,⟨_,h⟩ |⟨_,h⟩⟩
  grind
  cases hu:lk Hu k with
  |some b'=>
   grind [Zm]
  |none=>
   grind [Zv]
  exact sIn j (r.u9 k b h j hj);rcases T k b h with h |⟨hn,hs,⟨hf,h⟩ |⟨hf,h⟩⟩
  have hk:(lk Hn k).isSome=true:=by grind
  have hb:=hr'.bx k b (lkN k b h);refine hb.move (Y k hk) (λrow M x hx j hj=>?_) (Kn.le_refl _) λB e hβ=>⟨rfl,λ_ h=>h,λ_=>.inl (Qz6 r.ext.1 (blkN k B e hk hβ))⟩;cases hp:b.pr with
  |true=>rw[hb.2.1 hp row M x hx]at hj;grind
  |false=>exact Y j ((c5 k b h).2.2 j (by simp only[u4.ids,hp];grind))
  have hb:=j6.o5.1 (hr'.bx (upN k) _ (lkR k b h));refine hb.move ⟨(G k hs).1.trans (kU k hf).1.symm,(G k hs).2.trans (kU k hf).2.symm⟩ (λrow M x hx j hj=>?_) (Kn.le_refl _) λB e hβ=>⟨rfl,λ_ h=>h,λ_=>?_⟩
  have hj':(lk HF j).isSome=true:=by
   cases hp:b.pr with
   |true=>rw[hb.2.1 hp row M x hx]at hj;grind
   |false=>
    have hin:j∈b.ids:=by simp only[u4.ids,hp];grind
    cases hu:lk Hu k with
    |some b'=>grind [Zm]
    |none=>grind [Zv]
  exact⟨(G j (inH j hj')).1.trans (kU j hj').1.symm,(G j (inH j hj')).2.trans (kU j hj').2.symm⟩;exact(blkO k B e hs ((kU k hf).1 ▸ hβ)).2.2;refine(r.bx k b h).move (G k hs) (λrow M x hx j hj=>G j (r.ua k b h row M x hx j hj)) hKle λB e hβ=>?_;obtain⟨q1,q2,q3⟩:=(r.bx k b h).gb hβ
  have U:¬NW O (upH HF) B:=λho=>by
   obtain⟨k',b0,e',p1,p2,p3⟩:=C B ho;have:=r.inj k k' b b0 B e e' h p2 hβ p3
   grind
  grind
  have hh:∀k b,lk (Hn++(Hu++s.H)) k=some b->(lk Hn k).isSome=true\/(lk Hn k=none/\(lk s.H k).isSome=true):=λk b h=>by
   grind
  rcases hh k b h1 with p |⟨p,q⟩<;>rcases hh k' b' h2 with p' |⟨p',q'⟩
  obtain⟨x,hx⟩:=QzT.1 p;obtain⟨x',hx'⟩:=QzT.1 p';exact hr'.inj k k' x x' B e e' (lkN k x hx) (lkN k' x' hx') ((Y k p).1 ▸ h3) ((Y k' p').1 ▸ h4)
  grind
  grind
  obtain⟨x,hx⟩:=QzT.1 q;obtain⟨x',hx'⟩:=QzT.1 q';exact r.inj k k' x x' B e e' hx hx' ((G k q).1 ▸ h3) ((G k' q').1 ▸ h4)
  have U:¬NW O (upH HF) b:=λho=>by
   grind
  exact(hfr b (QAd hb r.ext.1) U).1.trans (r.ext.2.1 b hb hf)
  have U:¬NW O (upH HF) b:=λho=>by
   grind
  exact(hfr b (QAd hb r.ext.1) U).2.trans (r.kx b hb hf);obtain⟨h1,h2,h3,h4⟩:=r.kp k hk
  grind
 have r3:Rel E g2 (St.s6 {s with H:=Hn++(Hu++s.H)} o.dst none) a w':=by cases o.dst<;>exact r2
 refine hK g2 _ w' (r3.apply (hv.congr (Kn.le_refl _) λk hk=>Y k (c6 k hk)) ?_ ht);intro k hk
 grind [St.s6]
theorem u4.n9 {ρ:Nat->Nat} (h:∀r∈b.rows,∀d∈r,d.l4=[]):b.o5 ρ=b:=by
 have one:∀d:D,d.l4=[]->d.o6 ρ=d:=λd hd=>by cases d<;>first |rfl |(trivial)
 have:b.rows.map (λr=>r.map (D.o6 ρ))=b.rows:=by
  have:∀rs:List (List D),(∀r∈rs,∀d∈r,d.l4=[])->rs.map (λr=>r.map (D.o6 ρ))=rs:=by
   intro rs
   induction rs with
   |nil=>simp
   |cons r rs C=>
    intro h;rw[QAr,C λr hr=>h r Wb]
    congr 1
    have h0:=h r Wc;clear h C
    induction r with
    |nil=>rfl
    |cons d ds C=>grind
  grind
 (repeat clear hK K);simp_all [u4.o5]
theorem j6.gg {E E':Env} {g':Gh} {w:World} {k':Nat} (hp:b.pr=true) (h:j6 E g w k b) (C:g'.β k'=g.β k/\g'.σ k'=g.σ k) (hK:g'.K=g.K) (G:∀B e,g.β k=some (B,e)->E'.B0<=B\/E'.fo B):j6 E' g' w k' b:=by
 obtain⟨h1,h2,V⟩:=h;refine⟨h1,h2,V.imp (λ⟨x,y⟩=>⟨x,y.imp (λy=>⟨C.1.trans y.1,by grind⟩) λ⟨i1,i2,i3,O,p,B,i4,i5,i6,i7,i8⟩=>⟨i1,i2,i3,O,p,B,i4,C.1.trans i5,i6,Wb,G B 0 i5,by grind⟩⟩) ?_⟩;rintro⟨U,B,c,M,T,h7,h8,h9,Y⟩;exact⟨U,B,c,C.1.trans M,T,Wb,(by grind [l5.congr,Kn.le_refl]),(by simp_all),G B _ M⟩
theorem BJ {t n':Nat} {b':u4} (r:Rel E g s a w) (hp:Zx P o.op=some ao) (hcal:Jg s ao f args) (hc:QcT P f args s HF k t b b' n')
 (ht:∀t,o.dst=some t->t<E.nt) (hK:∀g' a' w',Rel E g' (St.apply {s with H:=(t,b')::(k,Zr)::s.H} o.dst (.s4 t n') none) a' w'->K' a' w'):o.wp P a w K' Q:=by
 obtain⟨ds,hds,m1,m2,m3,m4,m5,c1,c2,c3,_,m6,hen,hok⟩:=hc;obtain⟨vs,hxs,_,hrun⟩:=Kv r hp hcal hds hen;unfold Oper.wp;rw[hrun,Oper.upon_enter]
 obtain⟨G,guK,hB0,hS0⟩:∃G:Gh,G.K=g.K/\(∀j,G.β j=if j=500000 then g.β k else g.β (j - 1000000))/\∀j,G.σ j=if j=500000 then g.σ k else g.σ (j - 1000000):=
  ⟨⟨g.K,λj=>if j=500000 then g.β k else g.β (j - 1000000),λj=>if j=500000 then g.σ k else g.σ (j - 1000000)⟩,rfl,λ_=>rfl,λ_=>rfl⟩
 have hup:∀j,G.β (upN j)=g.β j/\G.σ (upN j)=g.σ j:=λj=>by
  have h1:upN j≠500000:=by grind [upN]
  have h2:upN j - 1000000=j:=by simp_all [upN]
  (repeat clear hK K);simp_all
 have guβ:∀j,G.β (upN j)=g.β j:=λj=>(hup j).1;have guk:G.β 500000=g.β k/\G.σ 500000=g.σ k:=by grind
 have V:∀ρ:Nat->Nat,(∀j,G.β (ρ j)=g.β j/\G.σ (ρ j)=g.σ j)->G.pull ρ=g:=λρ h=>by
  have h1:(λj=>G.β (ρ j))=g.β:=funext λj=>(h j).1;have h2:(λj=>G.σ (ρ j))=g.σ:=funext λj=>(h j).2
  (repeat clear hK K);simp_all [Gh.pull]
 have hguU:G.pull upN=g:=V upN hup
 have hguR:G.pull (λj=>if j=k then 500000 else upN j)=g:=V _ λj=>by
  grind
 have hC:∀j x,lk ((500000,b)::upH HF) j=some x->(j=500000/\x=b)\/∃i b0,j=upN i/\lk HF i=some b0/\x=b0.o5 upN:=λj x h=>by
  rw[Qe]at h;split at h
  grind
  grind [Xp]
 have upC:∀(x:u4) i,lk ((500000,x)::upH HF) (upN i)=(lk HF i).map (u4.o5 upN):=λx i=>by
  rw[Qe,if_neg (by grind [upN]),MK]
 have hrel:ia G ((500000,b)::upH HF) w:=by
  refine⟨λj x C i hi=>?_,λj x C=>?_,λj j' x x' B e e' h1 h2 M h4=>?_,by rw[guK];exact r.kr⟩
  rcases hC j x C with⟨rfl,rfl⟩ |⟨i0,b0,rfl,h1,rfl⟩
  grind [u4.ids]
  rw[u4.j7]at hi
  grind
  rcases hC j x C with⟨rfl,rfl⟩ |⟨i0,b0,rfl,h1,rfl⟩;exact(r.bx k x m1).gg m2 guk guK λB e _=>.inl (QzZ _)
  refine j6.o5.2 ?_;rw[hguU];exact(r.bx i0 b0 (c1 i0 b0 h1).2).move ⟨rfl,rfl⟩ (λ_ _ _ _ _ _=>⟨rfl,rfl⟩) (Kn.le_refl _) λB e _=>⟨rfl,λ_ h=>h,λ_=>.inl (QzZ _)⟩;rcases hC j x h1 with⟨rfl,rfl⟩ |⟨i0,b0,rfl,q1,rfl⟩<;>rcases hC j' x' h2 with⟨rfl,rfl⟩ |⟨i1,b1,rfl,q2,rfl⟩
  rfl;rw[guk.1]at M;rw[guβ]at h4;exact absurd (r.inj k i1 _ b1 B e e' m1 (c1 i1 b1 q2).2 M h4).symm (c1 i1 b1 q2).1;rw[guβ]at M;rw[guk.1]at h4;exact absurd (r.inj i0 k b0 _ B e e' (c1 i0 b0 q1).2 m1 M h4) (c1 i0 b0 q1).1;rw[guβ]at M h4;rw[r.inj i0 i1 b0 b1 B e e' (c1 _ _ q1).2 (c1 _ _ q2).2 M h4]
 refine(hok G w vs hrel (Ku hguR hxs) ?_).mono λe w' ⟨v,g',he,hv,hr',hsz,hfr,hfx,hkeep,hnew⟩=>?_;intro x hx j C;obtain⟨x0,hx0,rfl⟩:=Qz1.1 hx;unfold QsA at C;rw[Le,j7]at C;obtain⟨j0,hj0,rfl⟩:=Qz1.1 C;rcases c3 x0 hx0 j0 hj0 with rfl |h
 simp[Qe]
 have:j0≠k:=λe=>by
  subst e;obtain⟨b0,hb0⟩:=QzT.1 h
  grind
 grind
 subst he;rw[guK]at hfr
 have inH:∀j,(lk HF j).isSome=true->(lk s.H j).isSome=true/\j≠k:=λj C=>by
  grind [Option.isSome_iff_exists]
 obtain⟨g1,q1,q2,q3,q4,q5,r1⟩:=r.y8 m1 m3 m4;have nt:∀j,(lk s.H j).isSome=true->j≠t:=λj C e=>by grind
 have htk:t≠k:=λe=>by grind
 -- what is the callee's own is the caller's own
 have O:∀B,NW G ((500000,b)::upH HF) B->(∃e,g.β k=some (B,e))\/∃j b0 e,lk HF j=some b0/\lk s.H j=some b0/\g.β j=some (B,e):=λB ⟨j,e,h1,h2⟩=>by
  obtain⟨b1,hb1⟩:=QzT.1 h1
  grind
 have own_blk:∀B,NW G ((500000,b)::upH HF) B->(∀o,g.K B o=none)/\(E.B0<=B\/E.fo B):=λB hB=>by
  rcases O B hB with⟨e,h⟩ |⟨j,b0,e,_,h1,h2⟩;exact((r.bx k b m1).gb h).2;exact((r.bx j b0 h1).gb h2).2
 have hKle:g.K.le g'.K:=λB q x hx=>by
  have hb:=r.kr.lt hx
  grind
 have kU:∀j,(lk HF j).isSome=true->g'.β (upN j)=g.β j/\g'.σ (upN j)=g.σ j:=λj C=>by
  grind [upN]
 let g2:Gh:=⟨g'.K,λj=>if j=t then g'.β 500000 else g1.β j,λj=>if j=t then g'.σ 500000 else g1.σ j⟩;have g2t:g2.β t=g'.β 500000/\g2.σ t=g'.σ 500000:=⟨if_pos rfl,if_pos rfl⟩;have U:∀j,j≠t->g2.β j=g1.β j/\g2.σ j=g1.σ j:=λj C=>⟨if_neg C,if_neg C⟩;have T:g2.gone k:=⟨(U k (Ne.symm htk)).1.trans q2.1,(U k (Ne.symm htk)).2.trans q2.2⟩;have g2s:∀j,(lk s.H j).isSome=true->j≠k->g2.β j=g.β j/\g2.σ j=g.σ j:=λj C hk=>⟨(U j (nt j C)).1.trans (q5 j hk (nt j C)).1,(U j (nt j C)).2.trans (q5 j hk (nt j C)).2⟩
 have hsome:∀j,(lk s.H j).isSome=true->(lk ((t,b')::(k,Zr)::s.H) j).isSome=true:=λj C=>by
  grind [Qe]
 have key:∀j x,lk ((t,b')::(k,Zr)::s.H) j=some x->(j=t/\x=b')\/(j=k/\x=Zr)\/(j≠t/\j≠k/\lk s.H j=some x):=λj x h=>by
  rw[Qe]at h;split at h
  grind
  rename_i e;rw[Qe]at h
  grind
 have blkT:∀B e,g'.β 500000=some (B,e)->w.heap.size<=B\/∃e2,g.β k=some (B,e2):=λB e Y=>by
  rcases hnew 500000 B e Wa Wl Y with h |⟨k2,e2,h1,h2,M⟩;omega;obtain⟨b2,hb2⟩:=QzT.1 h2
  rcases hC k2 b2 hb2 with⟨rfl,_⟩ |⟨i,_,rfl,_⟩
  grind
  grind [upN]
 have r2:Rel E g2 {s with H:=(t,b')::(k,Zr)::s.H} a w':=by
  refine⟨r.nt,r.df.of rfl (λD hD=>((hfr D (QAc.1 hD).1 (λho=>by
   rcases O D ho with⟨e,h⟩ |⟨j,b0,e,_,h2,M⟩;exact(r.bx k b m1).xe h hD;exact(r.bx j b0 h2).xe M hD)).1).trans hD),λu x h=>?_,λu x h j C=>hsome j (r.s9 u x h j C),λj x h i hi=>?_,λj x h=>?_,λj j' x x' B e e' h1 h2 M h4=>?_,hr'.kr,
   ⟨Qz6 r.ext.1 hsz,λB hb hf=>?_,r.ext.2.2.trans hfx⟩,λB hb hf=>?_,λj C=>?_⟩
  refine(r1.fr u x h).congr Wb λj C=>U j ?_;exact nt j (r.s9 u x h j C);rcases key j x h with⟨_,rfl⟩ |⟨_,rfl⟩ |⟨_,_,h⟩
  grind [u4.ids]
  trivial;exact hsome i (r.u9 j x h i hi);rcases key j x h with⟨rfl,rfl⟩ |⟨rfl,rfl⟩ |⟨h1,h2,h⟩
  refine(hr'.bx 500000 x Wl).gg m6 g2t rfl λB e Y=>?_;rcases blkT B e Y with h |⟨e2,h⟩
  exact .inl (Qz6 r.ext.1 h);exact((r.bx k b m1).gb h).2.2;exact⟨by trivial,by trivial,.inl ⟨rfl,.inl ⟨T.1,by simp[T.2]⟩⟩⟩;have hs:(lk s.H j).isSome=true:=by grind
  cases hf:lk HF j with
  |some x'=>
   have e:x=x':=by
    grind
   subst e;have hjF:(lk HF j).isSome=true:=by grind
   have hb:=j6.o5.1 (hr'.bx (upN j) (x.o5 upN) Wb);refine hb.move ⟨(g2s j hs h2).1.trans (kU j hjF).1.symm,(g2s j hs h2).2.trans (kU j hjF).2.symm⟩ (λrow hrow y hy i hi=>?_) (Kn.le_refl _) λB e Y=>⟨rfl,λ_ h=>h,λ_=>?_⟩
   have hi':(lk HF i).isSome=true:=by
    cases hp:x.pr with
    |true=>rw[hb.2.1 hp row hrow y hy]at hi;grind
    |false=>exact c2 j x hf i (by simp only[u4.ids,hp];grind)
   obtain⟨p1,p2⟩:=inH i hi';exact⟨(g2s i p1 p2).1.trans (kU i hi').1.symm,(g2s i p1 p2).2.trans (kU i hi').2.symm⟩;have:g.β j=some (B,e):=(kU j hjF).1 ▸ Y;exact((r.bx j x h).gb this).2.2
  |none=>
   have hb1:=r1.bx j x (by rw[Qe,if_neg (Ne.symm h1),Qe,if_neg (Ne.symm h2)];exact h)
   refine hb1.move (U j h1) (λrow hrow y hy i hi=>U i (nt i (r.ua j x h row hrow y hy i hi))) Wb λB e Y=>?_;have hβ':g.β j=some (B,e):=(q5 j h2 h1).1 ▸ Y;obtain⟨p1,p2,p3⟩:=(r.bx j x h).gb hβ'
   have hno:¬NW G ((500000,b)::upH HF) B:=λho=>by
    rcases O B ho with⟨e2,M⟩ |⟨j',b0,e2,M,h4,h5⟩;exact h2 (r.inj j k x b B e e2 h m1 hβ' M);have:=r.inj j j' x b0 B e e2 h h4 hβ' h5
    grind
   grind
  have hh:∀j x B e,lk ((t,b')::(k,Zr)::s.H) j=some x->g2.β j=some (B,e)->(j=t/\g'.β 500000=some (B,e))\/(j≠t/\j≠k/\lk s.H j=some x/\g.β j=some (B,e)):=λj x B e h Y=>by
   rcases key j x h with⟨rfl,_⟩ |⟨rfl,_⟩ |⟨p1,p2,h⟩
   grind
   exact(T.no Y).elim
   grind
  have cross:∀j x B e e',j≠k->lk s.H j=some x->g.β j=some (B,e)->g'.β 500000=some (B,e')->False:=λj x B e e' p2 h Y hβ'=>by
   rcases blkT B e' hβ' with M |⟨e2,M⟩;exact absurd ((r.bx j x h).gb Y).1 (Nat.not_lt.2 M);exact p2 (r.inj j k x b B e e2 h m1 Y M)
  rcases hh j x B e h1 M with⟨p,q⟩ |⟨_,p,q,p2⟩<;>rcases hh j' x' B e' h2 h4 with⟨p',q'⟩ |⟨_,p',q',p2'⟩
  omega
  grind
  grind
  exact r.inj j j' x x' B e e' q q' p2 p2'
  have hno:¬NW G ((500000,b)::upH HF) B:=λho=>by
   grind
  exact(hfr B (QAd hb r.ext.1) hno).1.trans (r.ext.2.1 B hb hf)
  have hno:¬NW G ((500000,b)::upH HF) B:=λho=>by
   grind
  exact(hfr B (QAd hb r.ext.1) hno).2.trans (r.kx B hb hf);obtain⟨h1,h2,M,h4⟩:=r.kp j C
  grind
 have r3:Rel E g2 (St.s6 {s with H:=(t,b')::(k,Zr)::s.H} o.dst none) a w':=by cases o.dst<;>exact r2
 refine hK g2 _ w' (r3.apply ?_ ?_ ht);obtain⟨a0,cap,h1,h2,M⟩:=hv;refine⟨a0,cap,h1,h2, ?_⟩
 (repeat clear hK K);simp_all [Gh.gone]
 intro j C;have:(St.s6 {s with H:=(t,b')::(k,Zr)::s.H} o.dst none).H=(t,b')::(k,Zr)::s.H:=by cases o.dst<;>rfl
 rw[this];simp[D.ids,D.l4]at C;subst C;simp[Qe]
end
section
variable {P:Program} {E:Env} {g:Gh} {s:St} {a:Act} {w:World}
theorem Qia {K K':Kn} {v:Value} (h:d.flat=true) (hr:l3 K d v):l3 K' d v:=by
 have one:∀{d:D} {v:Value},d.l9=true->l3 K d v->l3 K' d v:=by
  intro d v h hr;cases d<;>simp only[D.l9,QzV]at h<;>simp only[l3]at hr ⊢<;>exact hr
 cases d<;>try trivial
 case l7 ds=>
  simp only[l3]at hr ⊢;obtain⟨vs,h1,h2⟩:=hr;refine⟨vs,h1, ?_⟩;simp only[D.flat,QzX]at h;clear h1
  induction ds generalizing vs with
  |nil=>grind [j5]
  |cons d ds ih=>
   cases vs with
   |nil=>trivial
   |cons v vs=>
    grind [j5]
theorem N7 {ao:z5} {f:Nat} {args:List n5} (r:Rel E g s a w) (hp:Zx P o.op=some ao) (hcal:Jg s ao f args) (hc:QhL P f args s d) (ht:∀t,o.dst=some t->t<E.nt)
 (hK:∀g' a' w',Rel E g' (s.apply o.dst d none) a' w'->K' a' w'):o.wp P a w K' Q:=by
 obtain⟨ds,hds,⟨⟨fn,hfn,hnm,hbd⟩,Y⟩,T⟩:=hc;obtain⟨vs,hvs,hhas,U⟩:=Kv r hp hcal hds ⟨fn,hfn,hnm,hbd⟩;unfold Oper.wp;rw[U,Oper.upon_enter]
 by_cases hpure:ds.all D.pure=true
 -- the arguments hold nothing of one's own
 have C:j5 g.K (ds.map (XL s)) (vs++gVs f):=by
  have:∀{ds:List D} {vs:List Value},o8 g ds vs->(∀d∈ds,d.pure=true)->j5 g.K (ds.map (XL s)) vs:=by
   intro ds
   induction ds with
   |nil=>intro vs h _;cases vs with
    |nil=>trivial
    |cons=>trivial
   |cons d ds ih=>intro vs h h3;cases vs with
    |nil=>trivial
    |cons v vs=>
     simp only[QAr,j5];refine⟨?_,ih h.2 λx hx=>h3 x Wb⟩;unfold XL;rw[Ta (h3 d Wc)];exact BK (h.1.mc (h3 d Wc))
  grind
 refine(Y g.K w vs r.kr C).mono λe w' ⟨v,K2,he,hv,hkr,M,hh,hk,O⟩=>?_;subst he;have r':Rel E {g with K:=K2} s a w':=r.move hk (λ_ _=>⟨rfl,rfl⟩) hkr hh M O;have G:Rel E {g with K:=K2} (s.s6 o.dst none) a w':=by cases o.dst<;>exact r'
 refine hK {g with K:=K2} _ w' (G.apply (l6.of hv) ?_ ht);intro k hk;grind [Xr];have hfl:=T.resolve_left hpure;obtain⟨K2,hle,hkr2,hoth,V⟩:=Pf r JG;have C:=Qb9 V hvs hhas (λd _=>Rq);refine(Y K2 w vs hkr2 C).mono λe w' ⟨v,K3,he,hv,hkr,M,hh,hk,O⟩=>?_;subst he
 have r':Rel E g s a w':=r.move (λ_ _=>rfl) (λ_ _=>⟨rfl,rfl⟩) (λb q x hx=>by
  obtain⟨c,e,f,h1,h2⟩:=r.kr b q x hx
  grind) hh M O
 have G:Rel E g (s.s6 o.dst none) a w':=by cases o.dst<;>exact r'
 refine hK g _ w' (G.apply (l6.of (Qia hfl hv)) ?_ ht);intro k hk;grind [Xr]
theorem Yf {gd:Option (Nat × Bool)} (r:Rel E g s a w) (hp:Zo ops o.guard=some gd) (T:∀(j:Nat) (o':Oper),ops[j]?=some o'->∀t,o'.dst=some t->t<E.nt):
  ∀b,gw s gd=some b->Region.wanted o (yielded ops a.tmps)=b:=by
 intro b hb;unfold Region.wanted;cases O:o.guard with
 |none=>
  rw[O]at hp;grind [Zo,gw]
 |some jb=>
  obtain⟨j,G⟩:=jb;rw[O]at hp;simp only[Zo]at hp;split at hp;rename_i t M;cases hp
  simp only[gw]at hb
  have U:t<a.tmps.size:=by
   obtain⟨o',h1,h2⟩:=QAl.1 M;rw[r.nt.1];grind
  have V:∀v,a.tmps.getD t (Fb t)=v->yielded ops a.tmps j=match(some v:Option Value)with |some (.bool b)=>some b |_=>none:=by
   intro v Y;unfold yielded;rw[M];simp only[Option.bind_some]
   have:a.tmps[t]?=some v:=by
    (repeat clear hK K);simp_all
   grind
  split at hb;rename_i c C;have:=r.fr t _ C
  (repeat clear hK K);simp_all [l6,z3,l3]
  rename_i C;have:=r.fr t _ C
  grind [l6,z3,l3,Go.undef]
  grind
  grind
theorem Rel.skip {dst:Option Nat} (r:Rel E g s a w) (C:∀t,dst=some t->t<E.nt):Rel E g (s.apply dst .undef none) (a.put dst Go.undef) w:=by
 cases dst with
 |none=>exact r
 |some t=>exact r.put (C t rfl) Wl (Has.of_nil rfl)
theorem FM {o':z1} {bx:Option u4} (r:Rel E g s a w) (hp:Zx P o.op=some o'.op) (hd:o'.dst=o.dst) (M:Xz P o' s d bx) (U:∀t,o.dst=some t->t<E.nt)
 (V:∀g' a' w',Rel E g' (s.apply o.dst d bx) a' w'->K' a' w'):o.wp P a w K' Q:=by
 unfold Xz at M;split at M;rename_i f args G;obtain⟨rfl,O⟩:=M;rw[G]at hp;exact N7 r hp (.inl rfl) O U V;rename_i x az G;rw[G]at hp;rcases M with⟨rfl,⟨f,T,hx,C,O⟩ |⟨rfl,f,rs,hx,C,O⟩⟩
 exact N7 r hp (.inr (.inl ⟨x,az,T,rfl,.inl hx,C,rfl⟩)) O U V;exact N7 r hp (.inr (.inr ⟨x,rs,rfl,hx,C,rfl⟩)) O U V;rw[hd]at M;obtain⟨v,w',g',h1,h2,h3,Y⟩:=QcY r hp M;unfold Oper.wp;rw[h1,Oper.upon_value];exact V g' _ w' (h2.apply h3 Y U)
theorem Qa4 {op:z5} {B:Nat->Prop} {p q:List Nat} {ef:QzK} (r:Rel E g s a w) (hp:Zx P o.op=some op) (h:EF P B op o.dst s p q d ef) (U:∀t,o.dst=some t->t<E.nt)
 (V:∀g' a' w',Rel E g' (s.g8 o.dst d ef) a' w'->K' a' w'):o.wp P a w K' Q:=by
 cases op<;>simp only[EF]at h
 case call f args=>
  rcases h with⟨HF,k,b,C,_,_,_,rfl⟩ |⟨HF,k,t,b,b',n',hd,C,_,_,_,rfl,rfl⟩ |⟨HF,t,b,n,hd,C,_,_,_,_,rfl,rfl⟩;refine FB r hp (.inl rfl) C U λg' a' w' O=>V g' a' w' ?_
  have e:St.apply {s with H:=[]++([(k,b)]++s.H)} o.dst d none=s.g8 o.dst d [(k,b)]:=by cases o.dst<;>rfl
  rw[<- e];exact O;refine BJ r hp (.inl rfl) C U λg' a' w' O=>V g' a' w' ?_;have e:St.apply {s with H:=(t,b')::(k,Zr)::s.H} o.dst (.s4 t n') none=s.g8 o.dst (.s4 t n') [(t,b'),(k,Zr)]:=by cases o.dst<;>rfl
  rw[<- e];exact O;refine FB r hp (.inl rfl) C U λg' a' w' O=>V g' a' w' ?_;have e:St.apply {s with H:=[(t,b)]++([]++s.H)} o.dst (.s4 t n) none=s.g8 o.dst (.s4 t n) [(t,b)]:=by cases o.dst<;>rfl
  rw[<- e];exact O
 case append l0 et bytes x' y'=>
  obtain⟨t,k,n,b,e,ys,pr,h0,h1,h2,h3,h4,h5,h6,h7,h8,h9,h10,h11,h12,h13,_,_,rfl,rfl⟩:=h
  have hg:FO P E a w o {s with H:=(t,⟨b.rows++ys,l0,et,b.pr&&pr⟩)::(k,Zr)::s.H} (.s4 t (n+ys.length)):=by
   cases ho:o.op<;>rw[ho]at hp<;>simp only[Zx,reduceCtorEq]at hp
   case call c=>
    unfold YH at hp;split at hp
    ·unfold XT at hp;(repeat' split at hp)<;>cases hp
    ·(repeat' split at hp)<;>cases hp
    ·(repeat' split at hp)<;>cases hp
    rename_i x y C G;unfold ZA at hp;split at hp;rename_i x'' y'' t u e1 e2 e3;split at hp;rename_i htu;subst htu;split at hp;rename_i e hu;split at hp;rename_i i z hi hz;split at hp;rename_i T;cases hp
    have hat:c.argTypes=#[t,t]:=by apply Array.ext';simpa using e3
    exact Ci r (by rw[ho,<- hat,<- GB C G]) rfl e1 e2 hu hi rfl rfl hz T.1 T.2 h1 h2 h3 h4 h5 h6 h7 h8 h9 h10 h11 h12 h13;cases hp
    cases hp
    cases hp
    ·unfold YG at hp;(repeat' split at hp)<;>cases hp
    cases hp
    ·unfold XS at hp;(repeat' split at hp)<;>cases hp
    obtain⟨M,_,h⟩:=QzM.1 hp;cases h;split at hp;obtain⟨M,_,h⟩:=QzM.1 hp;cases h;cases hp
    cases hp
   all_goals
    first
     |(obtain⟨_,_,h⟩:=QzM.1 hp;cases h;done)
     |(
      simp only[XR,ZU,Q3,ZT,QU,YI,Q8,Ym,Hs]at hp
      (repeat' split at hp)<;>first |(cases hp;done) |(obtain⟨_,_,h⟩:=QzM.1 hp;cases h;done))
     |((repeat' split at hp)<;>first |(cases hp;done) |(obtain⟨_,_,h⟩:=QzM.1 hp;cases h;done))
  obtain⟨nx,w',g',q1,q2,q3,q4⟩:=hg;unfold Oper.wp;rw[q1];have q2':Rel E g' (St.s6 {s with H:=(t,⟨b.rows++ys,l0,et,b.pr&&pr⟩)::(k,Zr)::s.H} o.dst none) a w':=by cases o.dst<;>exact q2
  have Y:Has (St.s6 {s with H:=(t,⟨b.rows++ys,l0,et,b.pr&&pr⟩)::(k,Zr)::s.H} o.dst none) (.s4 t (n+ys.length)):=by cases o.dst<;>exact q3
  have e:∀d,St.apply {s with H:=(t,⟨b.rows++ys,l0,et,b.pr&&pr⟩)::(k,Zr)::s.H} o.dst d none=s.g8 o.dst d [(t,⟨b.rows++ys,l0,et,b.pr&&pr⟩),(k,Zr)]:=λd=>by cases o.dst<;>rfl
  rcases q4 with⟨_,h⟩ |⟨u,rfl,q5⟩;cases h
  rw[Oper.upon_value];exact V g' _ w' (e _ ▸ q2'.apply q5 Y U)
theorem Rel.v8:∀(ks:List Nat) {s:St} {g:Gh},Rel E g s a w->(∀k∈ks,k<1000000)->∃g',Rel E g' (s.v8 ks) a w
 |[],_,g,r,_=>⟨g,r⟩
 |k::ks,_,g,r,h=>by
  obtain⟨g',_,C⟩:=r.freeze k (h k Wc);exact Rel.v8 ks C λj G=>h j Wb
theorem Pz {nt:Nat} {o':z1} {K:St->Prop} (hnt:E.nt=nt) (r:Rel E g s a w) (hp:QW P nt ops o=some o') (C:∀(j:Nat) (o':Oper),ops[j]?=some o'->∀t,o'.dst=some t->t<E.nt)
 (h:Qg8 P o' K s) (U:∀s' g' a' w',Rel E g' s' a' w'->K s'->K' a' w'):
  if Region.wanted o (yielded ops a.tmps)=true then o.wp P a w K' Q else K' (a.put o.dst Go.undef) w:=by
 obtain⟨h1,h2,Y,h4⟩:=Qq hp;have G:∀t,o.dst=some t->t<E.nt:=λt G=>by grind
 unfold Qg8 at h;split at h
 grind
 rename_i T;rw[Yf r h2 C false T];simp only[QzV,if_false];rw[Y]at h;exact U _ g _ w (r.skip G) h;rename_i T;rw[Yf r h2 C true T];simp only[if_true];rcases h with⟨d,bx,hy,hk⟩ |⟨s',d,hx,hk⟩ |⟨p,q,d,ef,he,hk⟩ |⟨f,args,HF,Hn,Hu,d,hop,hc,hk⟩ |⟨s',d,bx,hle,hy,hk⟩
 grind [FM]
 obtain⟨n,w',g',q1,V,q3,q4⟩:=Ri r h1 hx;unfold Oper.wp;rw[q1];rw[Y]at hk;have O:Rel E g' (s'.s6 o.dst none) a w':=by cases o.dst<;>exact V
 have M:Has (s'.s6 o.dst none) d:=by cases o.dst<;>exact q3
 rcases q4 with⟨rfl,rfl⟩ |⟨u,rfl,q5⟩;rw[Oper.upon_skip];exact U _ g' _ w' (V.skip G) hk;rw[Oper.upon_value];exact U _ g' _ w' (O.apply q5 M G) hk
 grind [Qa4]
 grind [FB]
 obtain⟨g1,r1⟩:=hle E g a w r
 grind [FM]
theorem RZ {nt:Nat} {ops:Array Oper} {K:St->Prop} {Q:Exit->Act->World->Prop} (G:E.nt=nt) (C:∀(j:Nat) (o':Oper),ops[j]?=some o'->∀t,o'.dst=some t->t<E.nt):∀(l:List Oper) (k:Nat) (l':List z1) (s:St) (g:Gh) (a:Act) (w:World),(∀j,l[j]?=ops[k+j]?)->
  Ql P nt ops l=some l'->Rel E g s a w->HL P l' K s->(∀s' g' a' w',Rel E g' s' a' w'->K s'->Q .normal a' w')->wpOps P ops Q (List.range' k l.length) a w
 |[],k,l',s,g,a,w,_,hp,r,h,hK=>by
  simp only[Ql,QzQ]at hp;subst hp;exact hK s g a w r h
 |o::l,k,l',s,g,a,w,hl,hp,r,h,hK=>by
  simp only[Ql]at hp;split at hp;rename_i o' O e1 e2;cases hp
  have h0:ops[k]?=some o:=by simpa using(hl 0).symm
  rw[QAt,List.range'_succ,wpOps_cons];unfold wpOp;rw[h0];simp only
  have:=Pz (Q:=Q) G r e1 C h (K':=wpOps P ops Q (List.range' (k+1) l.length)) λs' g' a' w' M h2=>
   RZ G C l (k+1) O s' g' a' w' (λj=>by have:=hl (j+1);grind) e2 M h2 hK
  grind
  grind
end
variable {oi oj op:z5} {p q:List Nat}
def z5.u6:z5->List n5
 | .we x=>[x]
 | .pick c a b=>[c,a,b]
 | .alloc _ _=>[]
 | .box _ x=>[x]
 | .build _ ps=>ps.map λp=>p.2.2
 | .buildSlice _ _ ps=>ps
 | .load _ _ x=>[x]
 | .store _ x v=>[x,v]
 | .nilCheck x=>[x]
 | .bin _ _ x y=>[x,y]
 | .eqs _ _ x y=>[x,y]
 | .un _ x=>[x]
 | .conv _ x=>[x]
 | .k9 _ x=>[x]
 | .slice _ x lo hi mx=>[x]++lo.toList++hi.toList++mx.toList
 | .a8 x lo hi=>[x]++lo.toList++hi.toList
 | .fieldAddr _ x=>[x]
 | .field _ _ _ x=>[x]
 | .indexAddr _ x i=>[x,i]
 | .k8 x i=>[x,i]
 | .extract _ x=>[x]
 | .len x=>[x]
 | .o9 x=>[x]
 | .min x y=>[x,y]
 | .max x y=>[x,y]
 | .append _ _ _ x y=>[x,y]
 | .makeSlice _ _ _ _ x y=>[x,y]
 | .nc x=>[x]
 | .xd _ _ _ _ x y=>[x,y]
 | .call _ args=>args
 | .yd _ xs=>xs
 | .oe _ xs=>xs
 | .ga x args=>x::args
 | .stop=>[]
 | .range x=>[x]
 | .next x=>[x]
 | .b8 _ _ x i=>[x,i]
 | .j8 _ _ _ x i=>[x,i]
def z5.ma:z5->Bool
 | .store .. =>true
 |_=>false
def z5.yc:z5->Bool
 | .indexAddr .. =>true
 |_=>false
def HC (op:z5) (p:List Nat):List Nat:=if op.yc=true then p.map λk=>2*k+1 else p.map λk=>2*k
def Kl (op:z5) (q:List Nat):List Nat:=if op.ma=true then q.map λk=>2*k else(q.map λk=>2*k)++q.map λk=>2*k+1
theorem PH:HC op []=[]:=by grind [HC]
theorem PI:Kl op []=[]:=by grind [Kl]
theorem QgI (h:∀t∈HC oj p,t∉Kl oi q):(oj.yc=true/\oi.ma=true)\/∀k∈p,k∉q:=by
 unfold HC Kl at h;cases h1:oj.yc<;>cases h2:oi.ma<;>simp only[h1,h2,QzV,if_false,if_true]at h;exact .inr λk hk C=>h (2*k) (Qz1.2 ⟨k,hk,rfl⟩) (QAN _ (Qz1.2 ⟨k,C,rfl⟩));exact .inr λk hk C=>h (2*k) (Qz1.2 ⟨k,hk,rfl⟩) (Qz1.2 ⟨k,C,rfl⟩);exact .inr λk hk C=>h (2*k+1) (Qz1.2 ⟨k,hk,rfl⟩) (Qz2 _ (Qz1.2 ⟨k,C,rfl⟩));simp
theorem Qdn (h:∀t∈Kl oj p,t∉Kl oi q):∀k∈p,k∉q:=λk hk C=>by
 refine h (2*k) ?_ ?_<;>unfold Kl<;>split<;>first
  |grind
  |exact Qz1.2 ⟨k,C,rfl⟩
  |grind
  |grind
theorem Gn:∀{xs:List Operand} {C:List n5},Za xs=some C->∀x∈C,∃y∈xs,Qi y=some x
 |[],C,h,x,hx=>by grind [Za]
 |y::ys,C,h,x,hx=>by
  simp only[Za]at h;split at h;rename_i x' G e1 e2;cases h
  cases hx with
  |head=>grind
  |tail _ hm=>obtain⟨z,h1,h2⟩:=Gn e2 x hm;grind
  grind
theorem NC {pl:Nat->Option (Nat × Nat)}:∀{xs:List (Nat × Operand)} {C:List (Nat × Nat × n5)},Xb pl xs=some C->∀x∈C.map (λp=>p.2.2),∃y∈xs.map (·.2),Qi y=some x
 |[],C,h,x,hx=>by grind [Xb]
 |(i,y)::ys,C,h,x,hx=>by
  simp only[Xb]at h;split at h;rename_i off size x' G e1 e2 e3;cases h
  simp only[QAr]at hx;cases hx with
  |head=>grind
  |tail _ hm=>obtain⟨z,h1,h2⟩:=NC e3 x hm;grind
  grind
theorem MT:∀{k:Nat} {xs:List (Nat × Operand)} {C:List n5},Yn k xs=some C->∀x∈C,∃y∈xs.map (·.2),Qi y=some x
 |k,[],C,h,x,hx=>by grind [Yn]
 |k,(i,y)::ys,C,h,x,hx=>by
  simp only[Yn]at h;split at h;split at h;rename_i x' G e1 e2;cases h
  cases hx with
  |head=>grind
  |tail _ hm=>obtain⟨z,h1,h2⟩:=MT e2 x hm;grind
  grind
  grind
theorem FI {x:Option Operand} {x':Option n5} (h:Q4 x=some x'):∀z∈x'.toList,∃y∈x.toArray,Qi y=some z:=by
 intro z C;cases x with
 |none=>grind [Q4]
 |some y=>
  simp only[Q4,QzM]at h
  grind
theorem Mo {P:Program} {op:Op} {ao:z5} (hp:Zx P op=some ao):∀x∈ao.u6,(∃y∈op.operands,Qi y=some x)\/∃i,x=.s (900000+i):=by
 intro z G
 have gl:∀{l:List Operand} {f:Nat} {xs:List n5},Za (l++(HD f).map .global)=some xs->z∈xs->(∃y∈l,Qi y=some z)\/∃i,z=.s (900000+i):=λh1 G=>by
  obtain⟨y,h2,M⟩:=Gn h1 z G;rcases QzY.1 h2 with h2 |h2
  grind
  obtain⟨i,_,rfl⟩:=Qz1.1 h2
  grind [Qi]
 cases op<;>simp only[Zx,reduceCtorEq]at hp
 case move x=>obtain⟨x',h1,rfl⟩:=QzM.1 hp;grind [z5.u6,Op.operands]
 case assign x=>obtain⟨x',h1,rfl⟩:=QzM.1 hp;grind [z5.u6,Op.operands]
 case pick c x y=>
  split at hp;rename_i c' x' y' e1 e2 e3;cases hp
  simp[z5.u6]at G;rcases G with rfl |rfl |rfl
  grind [Op.operands]
  grind [Op.operands]
  grind [Op.operands]
  grind
 case alloc e=>obtain⟨x',h1,rfl⟩:=QzM.1 hp;trivial
 case box e x=>obtain⟨x',h1,rfl⟩:=QzM.1 hp;grind [z5.u6,Op.operands]
 case build t parts=>
  split at hp;obtain⟨ps,h1,rfl⟩:=QzM.1 hp;obtain⟨y,h2,M⟩:=NC h1 z G
  grind [Op.operands]
  grind
 case buildSlice t n parts=>
  unfold QU at hp;split at hp;split at hp;rename_i l0 z' ps e1 e2 e3;split at hp;cases hp
  obtain⟨y,h2,M⟩:=MT e3 z G
  grind [Op.operands]
  grind
  grind
  grind
 case load t x=>
  grind [z5.u6,Op.operands]
 case store t x y=>
  split at hp;rename_i sz x' y' e1 e2 e3;split at hp;cases hp
  simp[z5.u6]at G;rcases G with rfl |rfl
  grind [Op.operands]
  grind [Op.operands]
  grind
  grind
 case nilCheck x=>obtain⟨x',h1,rfl⟩:=QzM.1 hp;grind [z5.u6,Op.operands]
 case binOp op t x y u=>
  unfold XR at hp;split at hp;rename_i x' y' e1 e2
  have fin:z=x'\/z=y'->(∃U∈(Op.binOp op t x y u).operands,Qi U=some z)\/∃i,z=.s (900000+i):=by
   rintro(rfl |rfl)
   grind [Op.operands]
   grind [Op.operands]
  grind [z5.u6]
  grind
 case unOp op t x=>
  split at hp
  grind
  obtain⟨x',h1,rfl⟩:=QzM.1 hp;grind [z5.u6,Op.operands]
 grind [z5.u6,Op.operands]
 case slice t x lo hi mx=>
  unfold ZU at hp;split at hp;rename_i x' lo' hi' mx' e1 e2 e3 e4
  have fin:z∈[x']++lo'.toList++hi'.toList++mx'.toList->(∃y∈(Op.slice t x lo hi mx).operands,Qi y=some z)\/∃i,z=.s (900000+i):=by
   intro G;simp only[QzY,QzW]at G;rcases G with((rfl |G) |G) |G
   grind [Op.operands]
   grind [FI,Op.operands]
   grind [FI,Op.operands]
   grind [FI,Op.operands]
  split at hp;obtain⟨l0,_,rfl⟩:=QzM.1 hp;exact fin G;cases hp
  exact fin (QAN _ G)
  grind
  grind
 case fieldAddr t x n=>
  unfold Q3 at hp;split at hp
  grind [z5.u6,Op.operands]
  grind
 case field t x n=>
  unfold ZT at hp;split at hp
  grind [z5.u6,Op.operands]
  grind
 case indexAddr t x i=>
  split at hp;rename_i x' i' e e1 e2 e3;obtain⟨l0,_,rfl⟩:=QzM.1 hp;simp[z5.u6]at G;rcases G with rfl |rfl
  grind [Op.operands]
  grind [Op.operands]
  rename_i x' i' len e e1 e2 e3;obtain⟨l0,_,rfl⟩:=QzM.1 hp;simp[z5.u6]at G;rcases G with rfl |rfl
  grind [Op.operands]
  grind [Op.operands]
  grind
 case index t x i=>
  split at hp;rename_i x' i' e1 e2 e3;cases hp
  simp[z5.u6]at G;rcases G with rfl |rfl
  grind [Op.operands]
  grind [Op.operands]
  rename_i x' i' len e e1 e2 e3;unfold Q8 at hp;split at hp;cases hp
  simp[z5.u6]at G;rcases G with rfl |rfl
  grind [Op.operands]
  grind [Op.operands]
  grind
  grind
 case range t x=>
  grind [z5.u6,Op.operands]
 case next x b=>
  cases b<;>simp only[Ym,reduceCtorEq]at hp
  obtain⟨x',h1,rfl⟩:=QzM.1 hp
  grind [z5.u6,Op.operands]
 case extract x n=>obtain⟨x',h1,rfl⟩:=QzM.1 hp;grind [z5.u6,Op.operands]
 case makeSlice t x y=>
  unfold YI at hp;split at hp;rename_i x' y' e e1 e2 e3;split at hp;split at hp;cases hp
  simp[z5.u6]at G;rcases G with rfl |rfl
  grind [Op.operands]
  grind [Op.operands]
  grind
  grind
  grind
 case call c=>
  have ops:∀y,y∈c.args->y∈(Op.call c).operands:=λy V=>by grind [Op.operands,Call.operands]
  unfold YH at hp;split at hp;rename_i x T C;have hx:x∈c.args:=by rw[<- QAO,C];simp
  unfold XT at hp
  grind [z5.u6]
  rename_i x y T C;have hx:x∈c.args:=by rw[<- QAO,C];simp
  have V:y∈c.args:=by rw[<- QAO,C];simp
  split at hp;rename_i x' y' e1 e2;cases hp
  simp[z5.u6]at G
  grind
  grind
  rename_i x y T C;have hx:x∈c.args:=by rw[<- QAO,C];simp
  have V:y∈c.args:=by rw[<- QAO,C];simp
  split at hp;rename_i x' y' e1 e2;cases hp
  simp[z5.u6]at G
  grind
  grind
  rename_i x y T C;have hx:x∈c.args:=by rw[<- QAO,C];simp
  have V:y∈c.args:=by rw[<- QAO,C];simp
  unfold ZA at hp;split at hp
  ·rename_i x' y' t u e1 e2 e3
   (repeat' split at hp)<;>first
    |(
     cases hp
     simp[z5.u6]at G
     grind)
    |grind
    |(
     unfold YG at hp
     (repeat' split at hp)<;>first
      |(
       cases hp
       simp[z5.u6]at G
       grind)
      |grind)
  grind
  rename_i x T C;have hx:x∈c.args:=by rw[<- QAO,C];simp
  unfold XS at hp
  grind [z5.u6]
  obtain⟨O,h1,rfl⟩:=QzM.1 hp;exact(gl h1 G).imp (λ⟨y,h2,M⟩=>⟨y,ops y Wb,M⟩) id
  ·rename_i xs t hcal;split at hp
   case isFalse=>grind
   rename_i Y;obtain⟨O,h1,rfl⟩:=QzM.1 hp;simp only[z5.u6,QzP]at G;rcases G with rfl |G
   exact .inl ⟨.tmp t,by grind [Op.operands,Call.operands],if_pos Y⟩
   grind [Gn]
  grind
 case makeFunc fn first captured=>
  unfold Hs at hp;split at hp;obtain⟨xs,h1,rfl⟩:=QzM.1 hp;exact(gl h1 G).imp (λ⟨y,h2,M⟩=>⟨y,by simp only[Op.operands,Array.mem_append];grind,M⟩) id
  rename_i f x hf;split at hp;obtain⟨xs,h1,rfl⟩:=QzM.1 hp;exact(gl (l:=[x]) h1 G).imp (λ⟨y,h2,M⟩=>⟨y,by simp only[Op.operands,Array.mem_append];grind,M⟩) id
  grind
  grind
 case panic x=>cases hp;cases G
 case makeInterface t x=>cases hp;cases G
theorem NA {y:Operand} {x:n5} (h:Qi y=some x):(∃t,y=.tmp t/\x=.s t)\/(∃d,x=.c d/\d.ids=[])\/∃i,x=.s (900000+i):=by
 cases y with
 |tmp t=>exact .inl ⟨t,rfl,(Ha h).2⟩
 |const v=>
  simp only[Qi,QzM]at h;obtain⟨d,h1,h2⟩:=h;exact .inr (.inl ⟨d,h2.symm,(GC h1 (λ_ _=>none)).2⟩)
 |func f=>exact .inr (.inl ⟨_,(Gp h).2,rfl⟩)
 |global i=>grind [Qi]
variable {ef:QzK} {b':u4} {bx:Option u4} {t:Nat} {o:z1} {s':St} {w:Bool}
def z5.b9:z5->List n5
 | .load _ _ x=>[x]
 | .k9 _ x=>[x]
 | .store _ x _=>[x]
 | .indexAddr _ x _=>[x]
 | .append _ _ _ x y=>[x,y]
 | .call _ args=>args
 | .ga x args=>x::args
 |_=>[]
def Qbr:Option D->List Nat
 |some d=>d.ids
 |none=>[]
def pk (op:z5) (s:St):List Nat:=op.b9.flatMap λx=>Qbr (s.ev x)
theorem MR {x:n5} (hx:x∈op.b9) (he:s.ev x=some d) (hk:k∈d.ids):k∈pk op s:=
 QzU.2 ⟨x,hx,by rw[he];exact hk⟩
structure DG (ao:z5) (dst:Option Nat) (p:List Nat) (s s':St):Prop where
 ev:∀x∈ao.u6,s'.ev x=s.ev x
 H:ao.yc=false->∀k∈p,lk s'.H k=lk s.H k
 sh:ao.yc=true->∀k∈p,∀b,lk s.H k=some b->∃b',lk s'.H k=some b'/\b'.rows.length=b.rows.length/\b'.l0=b.l0
 so:∀x∈ao.u6,∀d,s.ev x=some d->∀k∈d.ids,(lk s.H k).isSome=true->(lk s'.H k).isSome=true
 al:∀t,dst=some t->lk s.H t=none->lk s'.H t=none
section
variable {s s':St}
theorem QhB {cells:List D} (hk:∀k∈d.ids,lk s'.H k=lk s.H k) (h:s.at d cells):s'.at d cells:=by
 cases d<;>simp only[St.at]at h ⊢
 grind [D.ids,D.l4]
 omega
theorem Sh {l0:Nat} {rows:List (List D)} {pr:Bool} (hk:∀k∈d.ids,lk s'.H k=lk s.H k) (h:s.src l0 d rows pr):s'.src l0 d rows pr:=by
 cases d<;>simp only[St.src]at h ⊢
 omega;omega
 grind [D.ids,D.l4]
theorem Qbk {S:Nat->Bool} (hk:∀k∈d.ids,lk s'.H k=lk s.H k):d.fz s'.H S=d.fz s.H S:=by
 have one:∀{d:D},(∀k∈d.l4,lk s'.H k=lk s.H k)->d.o7 s'.H S=d.o7 s.H S:=by
  intro d hk;cases d<;>simp only[D.o7]<;>rw[hk _ (by simp[D.l4])]
 cases d
 case agg cs=>simp only[D.fz];congr 1;exact QAP λx hx=>one λk C=>hk k (QzU.2 ⟨x,hx,C⟩)
 case w8 f cs=>simp only[D.fz];congr 1;exact QAP λx hx=>one λk C=>hk k (QzU.2 ⟨x,hx,C⟩)
 case w9 cs z=>simp only[D.fz];congr 1;exact QAP λx hx=>one λk C=>hk k (QzU.2 ⟨x,hx,C⟩)
 case s4 k n=>exact one (d:=.s4 k n) hk
 case y9 k lo c n=>rfl
 case ref k i o=>exact one (d:=.ref k i o) hk
 case r9 f k ps=>rfl
 all_goals rfl
theorem JR {x:Option n5} {n m:Nat} (he:∀y∈x.toList,s'.ev y=s.ev y) (h:s.bd x n m):s'.bd x n m:=by
 cases x with
 |none=>exact h
 |some y=>grind [St.bd]
theorem Z7:∀{xs:List n5},(∀x∈xs,s'.ev x=s.ev x)->QD s' xs=QD s xs
 |[],_=>rfl
 |x::xs,h=>by simp only[QD];rw[h x Wc,Z7 λy C=>h y Wb]
theorem MD {l0:Nat}:∀{xs:List n5},(∀x∈xs,s'.ev x=s.ev x)->Yz s' l0 xs=Yz s l0 xs
 |[],_=>rfl
 |x::xs,h=>by simp only[Yz];rw[h x Wc,MD λy C=>h y Wb]
theorem Na:∀{xs:List (Nat × Nat × n5)},(∀x∈xs.map (λp=>p.2.2),s'.ev x=s.ev x)->Y1 s' xs=Y1 s xs
 |[],_=>rfl
 |(i,j,x)::xs,h=>by simp only[Y1];rw[h x Wc,Na λy C=>h y Wb]
theorem GE:∀{xs:List n5} {ds:List D},QD s xs=some ds->∀d∈ds,∃x∈xs,s.ev x=some d
 |[],ds,h,d,hd=>by grind [QD]
 |x::xs,ds,h,d,hd=>by
  simp only[QD]at h;split at h;rename_i d0 ds0 e1 e2;cases h
  cases hd with
  |head=>grind
  |tail _ hm=>obtain⟨y,h1,h2⟩:=GE e2 d hm;grind
  grind
theorem _root_.Wo {p:Prop} (h:p:=by simp[z5.b9]):p:=h
theorem _root_.Wf {p:Prop} (h:p:=by simp[D.ids,D.l4]):p:=h
theorem Qaz {ao:z5} (ag:DG ao dst (pk ao s) s s') (h:SO ao dst s d bx):SO ao dst s' d bx:=by
 obtain⟨ev,H,sh,so,al⟩:=ag;cases ao<;>simp only[SO]at h ⊢<;>simp only[z5.u6]at ev so
 grind
 grind
 grind
 grind
 grind [Na]
 grind [MD]
 case load b sz x=>
  obtain⟨p,cells,h1,h2,C⟩:=h;exact⟨p,cells,by grind,QhB (λk hk=>H rfl k (MR (x:=x) Wo h1 hk)) h2,C⟩
 grind
 grind
 grind
 grind
 grind
 case k9 sb x=>
  obtain⟨q,h1,h2,C⟩:=h;refine⟨q,by grind,h2, ?_⟩;cases sb
  simp only[QzV,if_false]at C ⊢;obtain⟨ys,pr,l,G,M⟩:=C;exact⟨ys,pr,l,Sh (λk hk=>H rfl k (MR (x:=x) Wo h1 hk)) G,M⟩
  grind
 case slice l0 x lo hi mx=>
  have e1:∀y∈lo.toList,s'.ev y=s.ev y:=λy hy=>ev y Wb;have e2:∀y∈hi.toList,s'.ev y=s.ev y:=λy hy=>ev y Wb;have e3:∀y∈mx.toList,s'.ev y=s.ev y:=λy hy=>ev y Wb;rcases h with⟨p,rows,l,h0,h1,h2,C,G,M,U,h7,h8,h9⟩ |⟨h1,h2,C,G⟩ |⟨h1,h2,k,n,l,C,G,M,U,h7⟩
  rotate_left
  exact .inr (.inl ⟨h1,h2,JR e1 C,G.imp (λ⟨rows,V,T,O⟩=>⟨rows,by grind,JR e2 T,O⟩) λ⟨k,n,m,V,T,O,q4⟩=>⟨k,n,m,by grind,JR e2 T,O,q4⟩⟩)
  grind [JR]
  refine .inl ⟨p,rows,l,h0,by grind,h2,JR e1 C,JR e2 G,M,U,h7, ?_,h9⟩
  grind [JR]
 grind [JR]
 case fieldAddr off x=>
  obtain⟨p,h1,h2,C⟩:=h;refine⟨p,by grind, ?_,C⟩;cases p<;>simp only[S8]at h2 ⊢
  (repeat clear hK K);simp_all [D.ids,D.l4]
  omega
 grind
 case indexAddr l0 x i=>
  obtain⟨k,n,p,h1,h2,C,G,M⟩:=h;refine⟨k,n,p,by grind,by grind,C, ?_,M⟩;cases p<;>simp only[Qe1]at G ⊢;omega;omega;obtain⟨b,V,T,O,q4,q5⟩:=G;obtain⟨b',r1,r2,r3⟩:=sh rfl _ (MR (x:=x) Wo h2 Wf) b V
  grind
 grind
 grind
 grind
 grind
 grind
 grind
 case append l0 et bytes x y=>
  obtain⟨t,rows,q,ys,pr,h1,h2,C,G,M,U⟩:=h;exact⟨t,rows,q,ys,pr,h1,by grind,by grind,Sh (λk hk=>H rfl k (MR (x:=y) Wo C hk)) G,al t h1 M,U⟩
 case range x=>
  grind
 case b8 len l0 x i=>
  obtain⟨k,n,p,h1,h2,C,Y,G,M⟩:=h;refine⟨k,n,p,by grind,by grind,C,Y, ?_,M⟩;cases p<;>simp only[S8]at G ⊢
  (repeat clear hK K);simp_all [D.ids,D.l4]
  omega
 case j8 b len l0 x i=>grind
 case yd f xs=>grind [Z7]
 case oe f xs=>grind [Z7]
 case nc x=>grind
 case xd l0 et bytes z x y=>
  grind
 grind
theorem _root_.Wm {p:Prop} (h:p:=by simp[z5.u6]):p:=h
theorem DS {P:Program} (G:DG o.op o.dst (pk o.op s) s s') (h:Xz P o s d bx):Xz P o s' d bx:=by
 unfold Xz at h ⊢;split at h;rename_i f args T;rw[T]at G;obtain⟨h1,ds,h2,h3,V⟩:=h;have e1:=Z7 (s:=s) (s':=s') (xs:=args) G.ev;refine⟨h1,ds,by grind, ?_,V⟩
 have:ds.map (XL s')=ds.map (XL s):=QAP λd hd=>by
  obtain⟨x,hx,he⟩:=GE h2 d hd;unfold XL;rw[Qbk λk hk=>G.H rfl k (MR (x:=x) hx he hk)]
 grind
 ·rename_i x az T;rw[T]at G;obtain⟨h1,h⟩:=h;refine⟨h1,h.imp ?_ ?_⟩
  rotate_left
  rintro⟨has,f,rs,hx,Y,ds,h2,h3,V⟩;have e0:s'.ev x=s.ev x:=G.ev x Wm;rw[KV]at h2;cases h2;refine⟨has,f,rs,by grind,Y,rs,KV _, ?_,V⟩
  grind [XL,List.map_congr_left,Ta]
  rintro⟨f,O,hx,M,ds,h2,h3,V⟩;have e0:s'.ev x=s.ev x:=G.ev x Wm
  have e1:=Z7 (s:=s) (s':=s') (xs:=az++O.map .c) λy C=>by
   rcases QzY.1 C with C |C;exact G.ev y (by grind [z5.u6]);obtain⟨d,_,rfl⟩:=Qz1.1 C;rfl
  refine⟨f,O,by grind,M,ds,by grind, ?_,V⟩
  have:ds.map (XL s')=ds.map (XL s):=QAP λd hd=>by
   obtain⟨y,C,he⟩:=GE h2 d hd;unfold XL;rw[Qbk λk hk=>?_];rcases QzY.1 C with C |C
   exact G.H rfl k (MR (x:=y) (by grind [z5.b9]) he hk);obtain⟨d0,U,rfl⟩:=Qz1.1 C;simp only[St.ev,QzQ]at he;subst he;exact G.H rfl k (MR (x:=x) Wo hx (QzU.2 ⟨d0,U,Qec (QzX.1 M d0 U) k hk⟩))
  grind
 grind [Qaz]
end
def stD (op:z5) (s:St) (k:Nat) (b':u4):Prop:=
 match op with
 | .store sz x v=>∃i off b row q cells,s.ev x=some (.ref k i off)/\lk s.H k=some b/\b.rows[i]?=some row/\s.ev v=some q/\q.cells=some cells/\cells.length=sz/\off+sz<=row.length/\
   b'={b with rows:=b.rows.set i (setRow row off cells),pr:=b.pr&&cells.all λd=>d.l4.isEmpty}
 |_=>False
theorem De (h:stD op s k b'):Bg op s {s with H:=(k,b')::s.H} .undef:=by
 cases op<;>simp only[stD]at h
 obtain⟨i,off,b,row,q,cells,h1,h2,T,O,M,G,C,rfl⟩:=h;exact⟨k,i,off,b,row,q,cells,h1,h2,T,O,M,G,C,rfl,rfl⟩
theorem Qgr (C:DG op dst (pk op s) s s') (h:stD op s k b'):stD op s' k b':=by
 cases op<;>simp only[stD]at h ⊢
 obtain⟨i,off,b,row,q,cells,h1,h2,U,V,T,O,M,G⟩:=h;exact⟨i,off,b,row,q,cells,by rw[C.ev _ Wm];omega,by rw[C.H rfl k (MR Wo h1 Wf)];omega,U,by rw[C.ev _ Wm];omega,T,O,M,G⟩
def wk (op:z5) (s:St):List Nat:=
 match op with
 | .store _ x _=>Qbr (s.ev x)
 |_=>[]
theorem QqN (h:stD op s k b'):k∈wk op s/\(lk s.H k).isSome=true:=by
 cases op<;>simp only[stD]at h
 grind [wk,Qbr,D.ids,D.l4]
def alL (dst:Option Nat) (bx:Option u4):QzK:=
 match dst,bx with
 |some t,some b=>[(t,b)]
 |_,_=>[]
theorem HJ (s:St) (dst:Option Nat) (d:D) (bx:Option u4):s.apply dst d bx=s.g8 dst d (alL dst bx):=by
 cases dst<;>cases bx<;>rfl
def YD (P:Program) (B:Nat->Prop) (o:z1) (s:St) (p q:List Nat) (d:D) (ef:QzK):Prop:=
 (gw s o.guard=some true/\((((∃bx,Xz P o s d bx/\ef=alL o.dst bx)\/∃k b,stD o.op s k b/\d=.undef/\ef=[(k,b)])/\p=pk o.op s/\q=wk o.op s)\/EF P B o.op o.dst s p q d ef))\/
 (gw s o.guard=some false/\d=.undef/\ef=[]/\p=[]/\q=[])
def mf (anc:Nat->Prop) (p q:List Nat) (R W:List (Nat × Nat)):Prop:=
 (∀k∈p,∀i,(k,i)∈W->anc i)/\∀k∈q,(∀i,(k,i)∈R->anc i)/\∀i,(k,i)∈W->anc i
def tag (i:Nat) (l:List Nat):List (Nat × Nat):=l.map λk=>(k,i)
theorem FF {i j:Nat} {l:List Nat}:(k,j)∈tag i l↔k∈l/\j=i:=by
 simp only[tag,Qz1,QAG]
 grind
def Qls (k c:Nat):Nat:=2*(k*4096+2048+c)
def Rc (k off sz:Nat):List Nat:=(List.range sz).map λj=>Qls k (off+j)
def cR (op:z5) (s:St) (p:List Nat):List Nat:=
 match op,p with
 | .load agg sz x,k0::p0=>(match s.ev x with
  |some (.ref k _ off)=>if Nat.ble 1000000 k=true then(2*k+1)::Rc k off (if agg=true then sz else 1)else HC (.load agg sz x) (k0::p0)
  |_=>HC (.load agg sz x) (k0::p0))
 |op,p=>HC op p
def cW (op:z5) (s:St) (q:List Nat):List Nat:=
 match op,q with
 | .store sz x v,k0::q0=>(match s.ev x with
  |some (.ref k _ off)=>if Nat.ble 1000000 k=true then Kl (.store sz x v) (k0::q0)++Rc k off sz else Kl (.store sz x v) (k0::q0)
  |_=>Kl (.store sz x v) (k0::q0))
 |op,q=>Kl op q
def tkR (w:Bool) (op:z5) (s:St) (p:List Nat):List Nat:=
 match w with
 |false=>HC op p
 |true=>cR op s p
def tkW (w:Bool) (op:z5) (s:St) (q:List Nat):List Nat:=
 match w with
 |false=>Kl op q
 |true=>cW op s q
theorem Do:tkR w op s []=[]:=by
 cases w
 exact PH
 grind [tkR,cR,PH]
theorem Dq:tkW w op s []=[]:=by
 cases w
 exact PI
 grind [tkW,cW,PI]
theorem Dt (h:t∈Kl op q):t∈tkW w op s q:=by
 cases w
 trivial;show t∈cW op s q;unfold cW
 grind
theorem QgE (h:∀x∈op.u6,s'.ev x=s.ev x):tkR w op s' p=tkR w op s p:=by
 cases w
 rfl;show cR op s' p=cR op s p;unfold cR
 grind [z5.u6]
theorem QgF (h:∀x∈op.u6,s'.ev x=s.ev x):tkW w op s' p=tkW w op s p:=by
 cases w
 rfl;show cW op s' p=cW op s p;unfold cW
 grind [z5.u6]
def Hm (w:Bool) (P:Program) (B:Nat->Prop) (anc:Nat->Nat->Prop):List z1->Nat->List (Nat × Nat)->List (Nat × Nat)->(St->Prop)->St->Prop
 |[],_,_,_,K,s=>K s
 |o::r,j,R,W,K,s=>∃p q d ef,YD P B o s p q d ef/\mf (anc j) (tkR w o.op s p) (tkW w o.op s q) R W/\Hm w P B anc r (j+1) (tag j (tkR w o.op s p)++R) (tag j (tkW w o.op s q)++W) K (s.g8 o.dst d ef)
abbrev QaN:=Hm false
def St.same (s s':St):Prop:=(∀t,lk s.fr t=lk s'.fr t)/\∀k,lk s.H k=lk s'.H k
section
variable {P:Program} {E:Env} {g:Gh} {s s':St} {a:Act} {w:World}
theorem Rel.same (r:Rel E g s a w) (h:s.same s'):Rel E g s' a w:=
 ⟨r.nt,r.df,λt d e=>r.fr t d (by rw[h.1];exact e),λt d e k hk=>by rw[<- h.2];exact r.s9 t d (by rw[h.1];exact e) k hk,λk b e j C=>by rw[<- h.2];exact r.u9 k b (by rw[h.2];exact e) j C,
  λk b e=>r.bx k b (by rw[h.2];exact e),λk k' b b' B e e' h1 h2=>r.inj k k' b b' B e e' (by rw[h.2];omega) (by rw[h.2];omega),r.kr,r.ext,r.kx,λj C=>let⟨h1,h2,h3,h4⟩:=r.kp j C;⟨h1,h2,h3,by rw[<- h.2];omega⟩⟩
theorem Qgn (h:s.same s') (x:n5):s'.ev x=s.ev x:=by
 cases x with
 |s t=>exact(h.1 t).symm
 |c d=>rfl
theorem Qdf (h:s.same s') (ao:z5) (dst:Option Nat) (p:List Nat):DG ao dst p s s':=
 ⟨λx _=>Qgn h x,λ_ k _=>(h.2 k).symm,λ_ k _ b hb=>⟨b,by rw[<- h.2];omega,rfl,rfl⟩,λ_ _ _ _ k _ hk=>by rw[<- h.2];omega,λt _ C=>by rw[<- h.2];omega⟩
theorem QmY (h:s.same s') (gd:Option (Nat × Bool)):gw s' gd=gw s gd:=by
 cases gd with
 |none=>rfl
 |some p=>obtain⟨t,b⟩:=p;simp only[gw];rw[h.1 t]
theorem QmK (h:∀x∈op.u6,s'.ev x=s.ev x):pk op s'=pk op s/\wk op s'=wk op s:=by
 have C:∀x∈op.b9,x∈op.u6:=by
  intro x hx;cases op<;>simp only[z5.b9,z5.u6]at hx ⊢<;>first |exact hx |grind |(grind)
 constructor;unfold pk
 have:∀l:List n5,(∀x∈l,s'.ev x=s.ev x)->(l.flatMap λx=>Qbr (s'.ev x))=l.flatMap λx=>Qbr (s.ev x):=by
  intro l
  induction l with
  |nil=>simp
  |cons x l ih=>grind
 grind
 cases op<;>simp only[wk]
 grind [z5.u6]
theorem P7 {Hn Hu:QzK} (M:∀x∈args,s'.ev x=s.ev x) (Y:∀k∈HF.map Prod.fst,lk s'.H k=lk s.H k) (h:FA P f args s HF Hn Hu d) (G:∀k b,lk Hn k=some b->lk s.H k=none->lk s'.H k=none):FA P f args s' HF Hn Hu d:=by
 obtain⟨ds,h1,h2,V,U,T,C,O⟩:=h;refine⟨ds,by grind [Z7],λk b hk=>?_,V,U,T,(λk b hk=>⟨(C k b hk).1,G k b hk (C k b hk).2.1,(C k b hk).2.2⟩),O⟩
 have hm:∀(l:QzK),lk l k=some b->k∈l.map Prod.fst:=by
  intro l
  induction l with
  |nil=>intro h;cases h
  |cons p l ih=>
   grind [Qe]
 grind
theorem Qiy {l:QzK} (h:lk l k=some b):k∈l.map Prod.fst:=by
 induction l with
 |nil=>cases h
 |cons p l ih=>
  grind [Qe]
theorem BI {M:Nat} (T:∀x∈args,s'.ev x=s.ev x) (hH:∀j∈k::HF.map Prod.fst,lk s'.H j=lk s.H j) (O:lk s.H t=none->lk s'.H t=none) (h:QcT P f args s HF k t b b' M):QcT P f args s' HF k t b b' M:=by
 obtain⟨ds,h1,h2,h3,h4,h5,Y,h7,V,U,C,G⟩:=h;refine⟨ds,by grind [Z7],by grind,h3,h4,O h5,Y,λj x hj=>?_,V,U,C,G⟩
 grind [Qiy]
theorem QhY {B:Nat->Prop} (C:DG op dst p s s') (h:EF P B op dst s p q d ef):EF P B op dst s' p q d ef:=by
 cases op<;>simp only[EF]at h ⊢
 case call f args=>
  rcases h with⟨HF,k,b,h1,h2,rfl,G⟩ |⟨HF,k,t,b,b',n',h1,h2,G,rfl,M⟩ |⟨HF,t,b,n,h1,h2,G,M,rfl,h5⟩;exact .inl ⟨HF,k,b,P7 (λx hx=>C.ev x hx) (C.H rfl) h1 (λ_ _ h=>by cases h),h2,rfl,G⟩;exact .inr (.inl ⟨HF,k,t,b,b',n',h1,BI (λx hx=>C.ev x hx) (C.H rfl) (C.al t h1) h2,G,rfl,M⟩);refine .inr (.inr ⟨HF,t,b,n,h1,P7 (λx hx=>C.ev x hx) (C.H rfl) h2 (λk b' hk hn=>?_),C.al t h1 G,M,rfl,h5⟩);rw[Qe]at hk;split at hk;rename_i e;subst e;exact C.al _ h1 hn;trivial
 case append l0 et bytes x y=>
  obtain⟨t,k,n,b,e,ys,pr,h0,h1,h2,G,M,h5,h6,h7,h8,h9,Y,V,U,T,rfl,O⟩:=h
  exact⟨t,k,n,b,e,ys,pr,h0,by rw[C.ev x Wm];omega,h2,C.al t h0 G,M,by rw[C.H rfl k Wc];omega,h6,h7,h8,by rw[C.ev y Wm];omega,Y,
   Sh (λj hj=>C.H rfl j (QAQ _ hj)) V,U,T,rfl,O⟩
theorem NV {B:Nat->Prop} (C:gw s o.guard=some true->DG o.op o.dst p s s') (M:gw s' o.guard=gw s o.guard) (G:YD P B o s p q d ef):YD P B o s' p q d ef:=by
 unfold YD at G ⊢;rw[M];refine G.imp (λ⟨h1,h2⟩=>⟨h1, ?_⟩) id;have C:=C h1;rcases h2 with⟨h2,rfl,rfl⟩ |h2
 obtain⟨e1,e2⟩:=QmK (op:=o.op) C.ev
 grind [DS,Qgr]
 grind [QhY]
theorem Qn7 (h:s.same s') {B:Nat->Prop} (C:YD P B o s p q d ef):YD P B o s' p q d ef:=NV (λ_=>Qdf h _ _ _) (QmY h _) C
theorem KB (s:St) (dst:Option Nat) (d:D) (ef:QzK) (t:Nat):lk (s.g8 dst d ef).fr t=if dst=some t then some d else lk s.fr t:=by
 cases dst with
 |none=>rfl
 |some u=>grind [St.g8,Qe]
theorem QbE (s:St) (dst:Option Nat) (d:D) (ef:QzK) (k:Nat):lk (s.g8 dst d ef).H k=match lk ef k with
  |some b=>some b
  |none=>lk s.H k:=(Z8 ef s.H k).trans Wb
theorem X7 (h:lk ef k=none):lk (s.g8 dst d ef).H k=lk s.H k:=Zv h
theorem K5 (h:lk ef k=some b):lk (s.g8 dst d ef).H k=some b:=Zm h
theorem Qh0 (h:s.same s') (dst:Option Nat) (d:D) (ef:QzK):(s.g8 dst d ef).same (s'.g8 dst d ef):=
 ⟨λt=>by rw[KB,KB,h.1],λk=>by rw[QbE,QbE,h.2]⟩
theorem QhZ (s:St) {x y:Option Nat} (C:∀t,x=some t->y≠some t) (d e:D) (ef eg:QzK) (hk:∀k b,lk ef k=some b->lk eg k=none):((s.g8 x d ef).g8 y e eg).same ((s.g8 y e eg).g8 x d ef):=by
 constructor;intro t;simp only[KB]
 grind
 intro k;cases h1:lk ef k with
 |some b=>
  grind [X7,K5]
 |none=>
  rw[X7 (s:=s.g8 y e eg) h1];cases h2:lk eg k with
  |some b=>grind [K5]
  |none=>grind [X7]
end
end Go.Abs
