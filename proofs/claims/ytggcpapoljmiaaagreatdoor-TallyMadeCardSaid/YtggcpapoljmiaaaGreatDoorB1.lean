/- Part 1 of the means of the proof: a verified abstract evaluator and contracts of functions. It states nothing of the claim by itself. -/
import Derived.Calls
import Derived.Still
import Derived.Laws.Sem
import Derived.Laws.World
import Derived.Laws.Cells
import Derived.Laws.AppendOwn
import Derived.Laws.Strings
import Derived.Laws.Slices
import Derived.Laws.MakeOwn
import Derived.Laws.StructEq
import Derived.Laws.Small
import Derived.Laws.Entries
import Derived.Laws.RangeString
import Derived.Laws.BytesString
import Derived.Lib.ConvBytes
set_option maxRecDepth 4000
set_option maxHeartbeats 1000000
set_option linter.unusedSimpArgs false
set_option linter.unusedVariables false
set_option linter.unusedSectionVars false
abbrev QEh:=@Option.map_eq_some_iff
abbrev QEi:=@Nat.le_of_ble_eq_true
abbrev QEj:=@List.not_mem_nil
abbrev QEk:=@List.mem_cons
abbrev QEl:=@Option.some.injEq
abbrev QEm:=@Bool.and_eq_true
abbrev QEn:=@List.getElem_mem
abbrev QEo:=@Option.isSome_iff_exists
abbrev QEp:=@List.mem_flatMap
abbrev QEq:=@Bool.false_eq_true
abbrev QEr:=@List.mem_singleton
abbrev QEs:=@List.all_eq_true
abbrev QEt:=@List.mem_append
abbrev QEu:=@Nat.zero_le
abbrev QEv:=@Bool.and_eq_false_iff
abbrev QEw:=@List.mem_map
abbrev QEx:=@List.mem_append_right
abbrev QEy:=@List.take_of_length_le
abbrev QEz:=@List.drop_eq_getElem_cons
abbrev QEA:=@Option.isSome_map
abbrev QEB:=@Nat.le_trans
abbrev QEC:=@List.mem_of_mem_take
abbrev QED:=@List.drop_eq_nil_of_le
abbrev QEE:=@List.mem_range
abbrev QEF:=@Nat.lt_or_ge
abbrev QEG:=@Array.getElem?_eq_some_iff
abbrev QEH:=@Nat.lt_of_lt_of_le
abbrev QEI:=@Nat.le_refl
abbrev QEJ:=@Array.getD_eq_getD_getElem?
abbrev QEK:=@List.mem_of_getElem?
abbrev QEL:=@List.mem_of_mem_drop
abbrev QEM:=@List.flatMap_cons
abbrev QEN:=@List.append_nil
abbrev QEO:=@List.length_take
abbrev QEP:=@Option.bind_eq_some_iff
abbrev QEQ:=@List.getElem?_eq_some_iff
abbrev QER:=@List.foldl_cons
abbrev QES:=@List.take_append_drop
abbrev QET:=@Array.toList_map
abbrev QEU:=@List.flatten_cons
abbrev QEV:=@List.eq_nil_of_length_eq_zero
abbrev QEW:=@List.map_cons
abbrev QEX:=@Bool.false_or
abbrev QEY:=@List.length_append
abbrev QEZ:=@List.length_cons
abbrev QE0:=@List.length_pos_iff
abbrev QE1:=@Array.length_toList
abbrev QE2:=@Nat.add_mul
abbrev QE3:=@List.replicate_succ
abbrev QE4:=@List.getElem?_map
abbrev QE5:=@List.getElem?_range
abbrev QE6:=@Option.map_some
abbrev QE7:=@Bool.true_and
abbrev QE8:=@List.getElem?_eq_getElem
abbrev QE9:=@Nat.add_zero
abbrev QFa:=@List.append_assoc
abbrev QFb:=@List.getElem?_append_right
abbrev QFc:=@Array.getElem?_toList
abbrev QFd:=@List.getElem?_set_self
abbrev QFe:=@Prod.mk.injEq
abbrev QFf:=@List.length_map
abbrev QFg:=@List.getElem?_append_left
abbrev QFh:=@List.drop_zero
abbrev QFi:=@List.cons_append
abbrev QFj:=@Bool.and_true
abbrev QFk:=@List.all_cons
abbrev QFl:=@List.mem_map_of_mem
abbrev QFm:=@List.map_append
abbrev QFn:=@List.range'_succ
abbrev QFo:=@List.mem_append_left
abbrev QFp:=@Array.mem_toList_iff
abbrev QFq:=@List.map_congr_left
abbrev QFr:=@List.mem_cons_of_mem
abbrev QFs:=@List.isEmpty_iff
abbrev QFt:=@Array.getElem?_eq_getElem
abbrev QFu:=@Bool.or_eq_true
abbrev QFv:=@Bool.not_eq_true'
abbrev QFw:=@List.range_eq_range'
abbrev QFx:=@List.map_nil
abbrev QFy:=@List.any_eq_true
abbrev QFz:=@Nat.lt_succ_self
abbrev QFA:=@Bool.or_true
abbrev QFB:=@List.take_succ_eq_append_getElem
abbrev QFC:=@List.contains_eq_mem
abbrev QFD:=@Option.some.inj
abbrev QFE:=@List.cons.injEq
abbrev QFF:=@List.mem_filter
abbrev QFG:=@Nat.eq_of_beq_eq_true
abbrev QFH:=@List.map_map
abbrev QFI:=@Nat.ble_eq_true_of_le
abbrev QFJ:=@List.nil_append
abbrev QFK:=@List.all_append
abbrev QFL:=@Classical.byContradiction
abbrev QFM:=@List.filter_cons
abbrev QFN:=@Bool.eq_iff_iff
abbrev QFO:=@Nat.pow_le_pow_right
abbrev QFP:=@Bool.and_false
abbrev QFQ:=@List.map_set
abbrev QFR:=@List.mem_iff_getElem
abbrev QFS:=@List.ext_getElem
abbrev QFT:=@List.getElem_map
abbrev QFU:=@List.length_set
abbrev QFV:=@List.map_replicate
abbrev QFW:=@Bool.eq_false_iff
abbrev QFX:=@List.range_succ
abbrev QFY:=@Nat.not_lt_zero
abbrev QFZ:=@List.getElem_set
namespace Go.Abs
open Go
variable {p:Prop} {v:Value}
inductive D where
 |undef
 |top
 |z7
 |int (k:IntKind) (n:Int)
 |bool (b:Bool)
 |str (l:List UInt8)
 |sl (rows:List (List D))
 |u7 (rows:List (List D))
 |u4 (k n:Nat)
 |la (k lo c n:Nat)
 |ref (k i off:Nat)
 |ptr (cells:List D)
 |agg (cells:List D)
 |g8 (vs:List D)
 |ia (cells:List D) (x:D)
 |k9 (f:Nat) (caps:List D)
 |w8 (f k:Nat) (ps:List D)
 |pe (f:Nat) (rs:List D)
 |val (v:Value)
 deriving Inhabited
variable {d:D}
abbrev Kn:=Nat->Nat->Option Value
def gfuncs:List Nat:=[3,4,5,6,7,8,9,10,11,12,13,14,17,18,21,23,25,28,41,42,43,51,54,55,73,74,83,84,103,119,120,156]
def Gz (f:Nat):List Nat:=if gfuncs.contains f=true then[0]else[]
def gVs (f:Nat):List Value:=(Gz f).map λi=>.pointer (some ⟨i,0,none⟩)
def F6 (t:Nat):Value:=if t<900000 then Go.undef else .pointer (some ⟨t - 900000,0,none⟩)
def D.l5:D->Bool
 | .undef | .top | .agg _ | .g8 _ | .ia _ _=>false
 |_=>true
mutual
def s4 (K:Kn):D->Value->Prop
 | .undef,v=>v=Go.undef
 | .top,_=>True
 | .z7,v=>v.oneCell'=true
 | .int k n,v=>v=.int k n
 | .bool b,v=>v=.bool b
 | .str l,v=>v=.string ⟨l.toArray⟩
 | .sl rows,v=>∃a cap,v=.slice a rows.length cap/\rows.length<=cap/\
   (rows=[]\/∃b off l0,a=some ⟨b,off,none⟩/\(∀r∈rows,r.length=l0)/\j6 K b off rows)
 | .u7 rows,v=>∃a,v=.slice a rows.length rows.length/\
   (rows=[]\/∃b off l0,a=some ⟨b,off,none⟩/\(∀r∈rows,r.length=l0)/\j6 K b off rows)
 | .ptr cells,v=>∃b off,v=.pointer (some ⟨b,off,none⟩)/\o5 K b off cells
 | .agg cells,v=>∃cs:List Value,v=.agg cs.toArray/\l6 K cells cs
 | .g8 ds,v=>∃vs:List Value,v=.tuple vs.toArray/\x5 K ds vs
 | .ia cells x,v=>∃(cs:List Value) (u:Value),v=.tuple #[.agg cs.toArray,u]/\l6 K cells cs/\s4 K x u
 | .k9 f caps,v=>∃cs:List Value,v=.func (.func f) #[] cs.toArray/\x5 K caps (cs++gVs f)
 | .pe f rs,v=>∃vs:List Value,v=.func (.func f) vs.toArray #[]/\x5 K rs (vs++gVs f)
 | .val x,v=>v=x/\x.oneCell'=true
 | .u4 _ _,_=>False
 | .la _ _ _ _,_=>False
 | .ref _ _ _,_=>False
 | .w8 _ _ _,_=>False
def j6 (K:Kn) (b:Nat):Nat->List (List D)->Prop
 |_,[]=>True
 |off,r::rs=>o5 K b off r/\j6 K b (off+r.length) rs
def o5 (K:Kn) (b:Nat):Nat->List D->Prop
 |_,[]=>True
 |off,d::ds=>(d.l5=true/\∃x,K b off=some x/\s4 K d x)/\o5 K b (off+1) ds
def l6 (K:Kn):List D->List Value->Prop
 |[],[]=>True
 |d::ds,v::vs=>(d.l5=true/\s4 K d v)/\l6 K ds vs
 |_,_=>False
def x5 (K:Kn):List D->List Value->Prop
 |[],[]=>True
 |d::ds,v::vs=>s4 K d v/\x5 K ds vs
 |_,_=>False
end
def Kn.le (K K':Kn):Prop:=∀b o x,K b o=some x->K' b o=some x
theorem Kn.le_refl (K:Kn):K.le K:=λ_ _ _ h=>h
mutual
theorem s4.mono {K K':Kn} (h:K.le K'):∀(d:D) (v:Value),s4 K d v->s4 K' d v
 | .undef,_,e=>by trivial
 | .z7,_,e=>by trivial
 | .top,_,_=>by trivial
 | .int ..,_,e=>by trivial
 | .bool ..,_,e=>by trivial
 | .str ..,_,e=>by trivial
 | .val ..,_,e=>by trivial
 | .sl rows,v,e=>by
  simp only[s4]at e ⊢;obtain⟨a,cap,C,G,M⟩:=e;refine⟨a,cap,C,G,M.imp id ?_⟩;rintro⟨b,off,l0,g1,g2,O⟩;exact⟨b,off,l0,g1,g2,j6.mono h b off rows O⟩
 | .u7 rows,v,e=>by
  simp only[s4]at e ⊢;obtain⟨a,C,M⟩:=e;refine⟨a,C,M.imp id ?_⟩;rintro⟨b,off,l0,g1,g2,O⟩;exact⟨b,off,l0,g1,g2,j6.mono h b off rows O⟩
 | .ptr cells,v,e=>by
  simp only[s4]at e ⊢;obtain⟨b,off,C,G⟩:=e;exact⟨b,off,C,o5.mono h b off cells G⟩
 | .agg cells,v,e=>by
  simp only[s4]at e ⊢;obtain⟨cs,C,G⟩:=e;exact⟨cs,C,l6.mono h cells cs G⟩
 | .g8 ds,v,e=>by
  simp only[s4]at e ⊢;obtain⟨cs,C,G⟩:=e;exact⟨cs,C,x5.mono h ds cs G⟩
 | .ia cells x,v,e=>by
  simp only[s4]at e ⊢;obtain⟨cs,u,C,G,T⟩:=e;exact⟨cs,u,C,l6.mono h cells cs G,s4.mono h x u T⟩
 | .k9 f caps,v,e=>by
  simp only[s4]at e ⊢;obtain⟨cs,C,G⟩:=e;exact⟨cs,C,x5.mono h caps _ G⟩
 | .pe f caps,v,e=>by
  simp only[s4]at e ⊢;obtain⟨cs,C,G⟩:=e;exact⟨cs,C,x5.mono h caps _ G⟩
 | .u4 ..,_,e=>by trivial
 | .la ..,_,e=>by trivial
 | .ref ..,_,e=>by trivial
 | .w8 ..,_,e=>by trivial
theorem j6.mono {K K':Kn} (h:K.le K') (b:Nat):∀(off:Nat) (rows:List (List D)),j6 K b off rows->j6 K' b off rows
 |_,[],_=>by trivial
 |off,r::rs,e=>by
  simp only[j6]at e ⊢;exact⟨o5.mono h b off r e.1,j6.mono h b _ rs e.2⟩
theorem o5.mono {K K':Kn} (h:K.le K') (b:Nat):∀(off:Nat) (cells:List D),o5 K b off cells->o5 K' b off cells
 |_,[],_=>by trivial
 |off,d::ds,e=>by
  simp only[o5]at e ⊢;obtain⟨⟨O,x,M,G⟩,C⟩:=e;exact⟨⟨O,x,h _ _ _ M,s4.mono h d x G⟩,o5.mono h b _ ds C⟩
theorem l6.mono {K K':Kn} (h:K.le K'):∀(ds:List D) (vs:List Value),l6 K ds vs->l6 K' ds vs
 |[],[],_=>by trivial
 |d::ds,v::vs,e=>by
  simp only[l6]at e ⊢;exact⟨⟨e.1.1,s4.mono h d v e.1.2⟩,l6.mono h ds vs e.2⟩
 |[],_::_,e=>by trivial
 |_::_,[],e=>by trivial
theorem x5.mono {K K':Kn} (h:K.le K'):∀(ds:List D) (vs:List Value),x5 K ds vs->x5 K' ds vs
 |[],[],_=>by trivial
 |d::ds,v::vs,e=>by
  simp only[x5]at e ⊢;exact⟨s4.mono h d v e.1,x5.mono h ds vs e.2⟩
 |[],_::_,e=>by trivial
 |_::_,[],e=>by trivial
end
theorem s4.cell {K:Kn} (h:s4 K d v) (C:d.l5=true):v.oneCell'=true:=by
 cases d<;>simp only[D.l5,QEq]at C<;>simp only[s4]at h
 case z7=>exact h
 case int=>subst h;rfl
 case bool=>subst h;rfl
 case val=>grind
 case str=>subst h;rfl
 case sl=>obtain⟨a,cap,rfl,_⟩:=h;rfl
 case u7=>obtain⟨a,rfl,_⟩:=h;rfl
 case ptr=>obtain⟨b,off,rfl,_⟩:=h;rfl
 case k9=>obtain⟨cs,rfl,_⟩:=h;rfl
 case pe=>obtain⟨cs,rfl,_⟩:=h;rfl
structure Gh where
 K:Kn
 β:Nat->Option (Nat × Nat)
 σ:Nat->Nat × Nat
variable {g:Gh}
def Gh.gone (g:Gh) (k:Nat):Prop:=g.β k=none/\g.σ k=(1,0)
theorem Gh.gone.no {k:Nat} {x:Nat × Nat} (h:g.gone k) (C:g.β k=some x):False:=by rw[h.1]at C;grind
def z4 (g:Gh):D->Value->Prop
 | .u4 k n,v=>∃a cap,v=.slice a n cap/\n<=cap/\((n=0/\cap=0)\/(∃B l0,g.β k=some (B,l0)/\a=some ⟨B,(g.σ k).2,none⟩/\(g.σ k).2+cap*l0<=(g.σ k).1)\/g.gone k)
 | .la k lo c n,v=>∃a cap,v=.slice a n cap/\n<=cap/\((n=0/\cap=0)\/(∃B l0,g.β k=some (B,l0)/\a=some ⟨B,(g.σ k).2+c,none⟩/\(g.σ k).2+(lo+cap)*l0<=(g.σ k).1)\/g.gone k)
 | .ref k i off,v=>∃B l0 o,((g.β k=some (B,l0)/\o=(g.σ k).2)\/g.gone k)/\v=.pointer (some ⟨B,o+(i*l0+off),none⟩)
 | .w8 f k ps,v=>∃(B l0 o:Nat) (cs:List Value),((g.β k=some (B,l0)/\o=(g.σ k).2)\/g.gone k)/\v=.func (.func f) #[] (Value.pointer (some ⟨B,o,none⟩)::cs).toArray/\x5 g.K ps (cs++gVs f)
 |d,v=>s4 g.K d v
def n5 (g:Gh):List D->List Value->Prop
 |[],[]=>True
 |d::ds,v::vs=>z4 g d v/\n5 g ds vs
 |_,_=>False
def a7 (g:Gh):D->Value->Prop
 | .agg cells,v=>∃cs:List Value,v=.agg cs.toArray/\n5 g cells cs/\∀d∈cells,d.l5=true
 | .k9 f caps,v=>∃cs:List Value,v=.func (.func f) #[] cs.toArray/\n5 g caps (cs++gVs f)
 | .ia cells x,v=>∃(cs:List Value) (u:Value),v=.tuple #[.agg cs.toArray,u]/\n5 g cells cs/\(∀d∈cells,d.l5=true)/\s4 g.K x u
 |d,v=>z4 g d v
theorem z4.of (h:s4 g.K d v):z4 g d v:=by
 cases d<;>first |exact h |(trivial)
theorem n5.cb {g:Gh}:∀{ds:List D} {vs:List Value},l6 g.K ds vs->n5 g ds vs/\∀d∈ds,d.l5=true
 |[],[],_=>⟨trivial,by simp⟩
 |d::ds,v::vs,h=>by
  simp only[l6]at h;obtain⟨C,G⟩:=n5.cb (g:=g) h.2;exact⟨⟨z4.of h.1.2,C⟩,by grind⟩
 |[],_::_,h=>by trivial
 |_::_,[],h=>by trivial
theorem n5.mf {g:Gh}:∀{ds:List D} {vs:List Value},x5 g.K ds vs->n5 g ds vs
 |[],[],_=>trivial
 |d::ds,v::vs,h=>by
  simp only[x5]at h;exact⟨z4.of h.1,n5.mf h.2⟩
 |[],_::_,h=>by trivial
 |_::_,[],h=>by trivial
theorem a7.of (h:s4 g.K d v):a7 g d v:=by
 cases d<;>try trivial
 case agg cells=>
  simp only[s4]at h;obtain⟨cs,G,C⟩:=h;exact⟨cs,G,n5.cb C⟩
 case k9 f caps=>
  simp only[s4]at h;obtain⟨cs,G,C⟩:=h;exact⟨cs,G,n5.mf C⟩
 case ia cells x=>
  simp only[s4]at h;obtain⟨cs,u,G,C,M⟩:=h;exact⟨cs,u,G,(n5.cb C).1,(n5.cb C).2,M⟩
def D.own:D->Bool
 | .u4 _ _=>true
 | .la _ _ _ _=>true
 | .ref _ _ _=>true
 | .w8 _ _ _=>true
 |_=>false
def D.pure:D->Bool
 | .agg cs=>cs.all λd=>!d.own
 | .k9 _ cs=>cs.all λd=>!d.own
 | .ia cs _=>cs.all λd=>!d.own
 |d=>!d.own
theorem z4.oc (h:z4 g d v) (hp:d.own=false):s4 g.K d v:=by
 cases d<;>first |exact h |(trivial)
theorem _root_.Wd (h:p:=by simp):p:=h
theorem _root_.Wc (h:p:=by grind):p:=h
theorem n5.rf {g:Gh}:∀{ds:List D} {vs:List Value},n5 g ds vs->(∀d∈ds,d.l5=true)->(ds.all λd=>!d.own)=true->l6 g.K ds vs
 |[],[],_,_,_=>by trivial
 |d::ds,v::vs,h,hc,hp=>by
  simp only[l6];simp at hp;exact⟨⟨hc d Wd,h.1.oc Wc⟩,n5.rf h.2 (λx hx=>hc x Wc) Wc⟩
 |[],_::_,h,_,_=>h.elim
 |_::_,[],h,_,_=>h.elim
theorem n5.te {g:Gh}:∀{ds:List D} {vs:List Value},n5 g ds vs->(ds.all λd=>!d.own)=true->x5 g.K ds vs
 |[],[],_,_=>by trivial
 |d::ds,v::vs,h,hp=>by
  simp only[x5];simp at hp;exact⟨h.1.oc Wc,n5.te h.2 Wc⟩
 |[],_::_,h,_=>h.elim
 |_::_,[],h,_=>h.elim
theorem a7.oc (h:a7 g d v) (hp:d.pure=true):s4 g.K d v:=by
 cases d<;>try trivial
 case agg cells=>
  obtain⟨cs,G,C,M⟩:=h;simp only[s4];exact⟨cs,G,C.rf M hp⟩
 case k9 f caps=>
  obtain⟨cs,G,C⟩:=h;simp only[s4];exact⟨cs,G,C.te hp⟩
 case ia cells x=>
  obtain⟨cs,u,G,C,M,O⟩:=h;simp only[s4];exact⟨cs,u,G,C.rf M hp,O⟩
def D.y4:D->List Nat
 | .u4 k _=>[k]
 | .la k _ _ _=>[k]
 | .ref k _ _=>[k]
 | .w8 _ k _=>[k]
 |_=>[]
def D.ids:D->List Nat
 | .agg cs=>cs.flatMap D.y4
 | .k9 _ cs=>cs.flatMap D.y4
 | .ia cs _=>cs.flatMap D.y4
 |d=>d.y4
theorem z4.congr {g':Gh} (h:z4 g d v) (C:g.K.le g'.K) (G:∀k∈d.y4,g'.β k=g.β k/\g'.σ k=g.σ k):z4 g' d v:=by
 cases d
 case u4 k n=>
  grind [D.y4,z4,Gh.gone]
 case la k lo c n=>
  grind [D.y4,z4,Gh.gone]
 case ref k i off=>
  grind [D.y4,z4,Gh.gone]
 case w8 f k ps=>
  obtain⟨e1,e2⟩:=G k (by simp[D.y4]);simp only[z4,Gh.gone]at h ⊢;rw[e1,e2];obtain⟨B,l0,o,cs,T,O,M⟩:=h;exact⟨B,l0,o,cs,T,O,x5.mono C _ _ M⟩
 all_goals exact s4.mono C _ _ h
theorem n5.congr {g g':Gh} (C:g.K.le g'.K):∀{ds:List D} {vs:List Value},n5 g ds vs->(∀k∈ds.flatMap D.y4,g'.β k=g.β k/\g'.σ k=g.σ k)->n5 g' ds vs
 |[],[],_,_=>trivial
 |d::ds,v::vs,h,hβ=>⟨h.1.congr C λk hk=>hβ k Wc,n5.congr C h.2 λk hk=>hβ k (by
   grind)⟩
 |[],_::_,h,_=>h.elim
 |_::_,[],h,_=>h.elim
theorem a7.congr {g g':Gh} {d:D} {v:Value} (h:a7 g d v) (C:g.K.le g'.K) (G:∀k∈d.ids,g'.β k=g.β k/\g'.σ k=g.σ k):a7 g' d v:=by
 cases d
 case agg cells=>
  obtain⟨cs,O,M,T⟩:=h;exact⟨cs,O,M.congr C G,T⟩
 case k9 f caps=>
  obtain⟨cs,O,M⟩:=h;exact⟨cs,O,M.congr C G⟩
 case ia cells x=>
  obtain⟨cs,u,O,M,T,U⟩:=h;exact⟨cs,u,O,M.congr C G,T,s4.mono C _ _ U⟩
 case u4 k n=>exact z4.congr (d:=.u4 k n) h C G
 case la k lo c n=>exact z4.congr (d:=.la k lo c n) h C G
 case ref k i off=>exact z4.congr (d:=.ref k i off) h C G
 case w8 f k ps=>exact z4.congr (d:=.w8 f k ps) h C G
 all_goals exact s4.mono C _ _ h
end Go.Abs
namespace Go.Abs
open Go
variable {a:Act} {l0 et t:Nat} {g:Gh} {w w':World}
structure x4 where
 rows:List (List D)
 l0:Nat
 et:Nat
 pr:Bool
def x4.ids (b:x4):List Nat:=if b.pr then[]else b.rows.flatMap λr=>r.flatMap D.y4
def lk {α:Type}:List (Nat × α)->Nat->Option α
 |[],_=>none
 |(k,v)::r,t=>if k=t then some v else lk r t
theorem Qz {α:Type} (k:Nat) (v:α) (r:List (Nat × α)) (t:Nat):lk ((k,v)::r) t=if k=t then some v else lk r t:=rfl
structure St where
 fr:List (Nat × D)
 H:List (Nat × x4)
variable {s:St}
structure Env where
 nt:Nat
 B0:Nat
 w0:World
 K0:Kn
 fo:Nat->Prop
 zf:Nat->Prop
 β0:Nat->Option (Nat × Nat)
 σ0:Nat->Nat × Nat
 rd:Option Nat:=none
 bd:Option Nat:=none
variable {E:Env}
mutual
def s5 (g:Gh) (c:Array Value):Nat->List (List D)->Prop
 |_,[]=>True
 |off,r::rs=>j5 g c off r/\s5 g c (off+r.length) rs
def j5 (g:Gh) (c:Array Value):Nat->List D->Prop
 |_,[]=>True
 |off,d::ds=>(d.l5=true/\∃x,c[off]?=some x/\z4 g d x)/\j5 g c (off+1) ds
end
def ZM:List UInt8->Nat->Nat
 |[],p=>257*p
 |c::l,p=>257*ZM l p+(c.toNat+1)
theorem _root_.Wa {p:Prop} (h:p:=by omega):p:=h
theorem PF:∀{l m:List UInt8} {p q:Nat},ZM l p=ZM m q->l=m/\p=q
 |[],[],p,q,h=>by simp only[ZM]at h;grind
 |[],c::m,p,q,h=>by have:=c.toNat_lt;grind [ZM]
 |c::l,[],p,q,h=>by have:=c.toNat_lt;grind [ZM]
 |c::l,d::m,p,q,h=>by
  have O:=c.toNat_lt;have M:=d.toNat_lt;simp only[ZM]at h;obtain⟨G,C⟩:=PF (l:=l) (m:=m) (p:=p) (q:=q) Wa
  grind [UInt8.toNat_inj]
def LC (E:Env) (g:Gh) (w:World) (k:Nat) (b:x4):Prop:=
 b.rows=[]/\b.l0=0/\b.pr=false/\∃s p B,b.et=ZM s p/\g.β k=some (B,0)/\w.heap[B]?=some (.stringIter ⟨s.toArray⟩ p)/\(∀o,g.K B o=none)/\(E.B0<=B\/E.fo B)/\(g.σ k).2=0
def Yn:x4:=⟨[],0,0,true⟩
def u6 (E:Env) (g:Gh) (w:World) (k:Nat) (b:x4):Prop:=
 (∀r∈b.rows,r.length=b.l0)/\(b.pr=true->∀r∈b.rows,∀d∈r,d.y4=[])/\
 ((b.rows=[]/\((g.β k=none/\(g.σ k=(1,0)↔b=Yn))\/LC E g w k b))\/((b.rows≠[]\/b.l0≠0)/\∃B c,g.β k=some (B,b.l0)/\w.heap[B]?=some (.cells c b.et (0,0))/\c.size=(g.σ k).1/\s5 g c (g.σ k).2 b.rows/\(∀o,g.K B o=none)/\(E.B0<=B\/E.fo B)))
def ka (K:Kn) (w:World):Prop:=∀b o x,K b o=some x->∃c e f,w.heap[b]?=some (.cells c e f)/\c[o]?=some x
def m8 (w w':World):Prop:=w'.os=w.os/\w'.tape=w.tape/\w'.output=w.output
theorem m8.refl (w:World):m8 w w:=⟨rfl,rfl,rfl⟩
theorem m8.trans {a b c:World} (h:m8 a b) (k:m8 b c):m8 a c:=⟨k.1.trans h.1,k.2.1.trans h.2.1,k.2.2.trans h.2.2⟩
def JN (w:World) (D:Nat):Prop:=w.heap[D]?=some (Obj.deferred (some []))
def Quz:Option Nat->Nat->Prop
 |none,_=>False
 |some n,D=>n<=D
structure nc (bd:Option Nat) (a:Act) (w:World):Prop where
 ex:∃dd:List Nat,a.defers=dd.map (λD=>({target:=.collected D,args:=#[]}:Deferred))/\dd.Nodup/\∀D∈dd,JN w D/\Quz bd D
theorem nc.of {bd:Option Nat} {a':Act} (h:nc bd a w) (ha:a'.defers=a.defers) (hw:∀D,JN w D->JN w' D):nc bd a' w':=
 let⟨dd,h1,h2,h3⟩:=h.ex;⟨dd,ha.trans h1,h2,λD C=>⟨hw D (h3 D C).1,(h3 D C).2⟩⟩
theorem nc.nil {bd:Option Nat} (h:a.defers=[]):nc bd a w:=⟨[],h,by simp,by simp⟩
theorem Act.put_defers (a:Act) (t:Option Nat) (v:Value):(a.put t v).defers=a.defers:=by cases t<;>rfl
structure Rel (E:Env) (g:Gh) (s:St) (a:Act) (w:World):Prop where
 nt:a.tmps.size=E.nt/\E.nt<=900000
 df:nc E.bd a w
 fr:∀t d,lk s.fr t=some d->a7 g d (a.tmps.getD t (F6 t))
 da:∀t d,lk s.fr t=some d->∀k∈d.ids,(lk s.H k).isSome=true
 x9:∀k b,lk s.H k=some b->∀j∈b.ids,(lk s.H j).isSome=true
 bx:∀k b,lk s.H k=some b->u6 E g w k b
 inj:∀k k' b b' B e e',lk s.H k=some b->lk s.H k'=some b'->g.β k=some (B,e)->g.β k'=some (B,e')->k=k'
 kr:ka g.K w
 ext:E.B0<=w.heap.size/\(∀b,b<E.B0->¬E.fo b->w.heap[b]?=E.w0.heap[b]?)/\m8 E.w0 w
 kx:∀b,b<E.B0->¬E.fo b->g.K b=E.K0 b
 kp:∀k,E.zf k->1000000<=k/\g.β k=E.β0 k/\g.σ k=E.σ0 k/\(lk s.H k).isSome=true
theorem j5.congr {g g':Gh} {c:Array Value} (C:g.K.le g'.K):∀{off:Nat} {ds:List D},j5 g c off ds->(∀d∈ds,∀k∈d.y4,g'.β k=g.β k/\g'.σ k=g.σ k)->j5 g' c off ds
 |_,[],_,_=>by trivial
 |off,d::ds,h,hβ=>by
  simp only[j5]at h ⊢;obtain⟨⟨T,x,O,M⟩,G⟩:=h;exact⟨⟨T,x,O,M.congr C (hβ d Wd)⟩,j5.congr C G λd hd=>hβ d Wc⟩
theorem s5.congr {g g':Gh} {c:Array Value} (C:g.K.le g'.K):∀{off:Nat} {rs:List (List D)},s5 g c off rs->(∀r∈rs,∀d∈r,∀k∈d.y4,g'.β k=g.β k/\g'.σ k=g.σ k)->s5 g' c off rs
 |_,[],_,_=>by trivial
 |off,r::rs,h,hβ=>by
  simp only[s5]at h ⊢;exact⟨j5.congr C h.1 (hβ r Wd),s5.congr C h.2 λr hr=>hβ r Wc⟩
theorem ka.lt {K:Kn} (h:ka K w) {b o:Nat} {x:Value} (hk:K b o=some x):b<w.heap.size:=by
 obtain⟨c,e,f,C,_⟩:=h b o x hk
 grind
theorem Rel.wa (r:Rel E g s a w) (k:Nat) (b:x4) (h:lk s.H k=some b):
  ∀r∈b.rows,∀d∈r,∀j∈d.y4,(lk s.H j).isSome=true:=by
 intro row hr d hd j C;cases hp:b.pr with
 |true=>rw[(r.bx k b h).2.1 hp row hr d hd]at C;grind
 |false=>exact r.x9 k b h j (by simp only[x4.ids,hp];grind)
theorem Rel.move {g':Gh} (r:Rel E g s a w)
 (hK:∀b,b<w.heap.size->g'.K b=g.K b) (G:∀k,(lk s.H k).isSome=true->g'.β k=g.β k/\g'.σ k=g.σ k)
 (Y:ka g'.K w') (U:∀b,b<w.heap.size->w'.heap[b]?=w.heap[b]?) (hs:w.heap.size<=w'.heap.size) (hx:m8 w w':=by exact⟨rfl,rfl,rfl⟩):Rel E g' s a w':=by
 have hle:g.K.le g'.K:=λb o x e=>by rw[hK b (r.kr.lt e)];exact e
 refine⟨r.nt,r.df.of rfl (λD hD=>(U D (QEG.1 hD).1).trans hD),λt d h=>(r.fr t d h).congr hle λk hk=>G k (r.da t d h k hk),r.da,r.x9,λk b h=>?_, ?_,Y,
  ⟨QEB r.ext.1 hs,λb hb hf=>(U b (QEH hb r.ext.1)).trans (r.ext.2.1 b hb hf),r.ext.2.2.trans hx⟩,
  λb hb hf=>(hK b (QEH hb r.ext.1)).trans (r.kx b hb hf),
  λk hk=>let⟨T,O,M,C⟩:=r.kp k hk;⟨T,(G k C).1.trans O,(G k C).2.trans M,C⟩⟩
 obtain⟨T,V,O⟩:=r.bx k b h;have hk:=G k Wc
 refine⟨T,V,O.imp (λ⟨x,y⟩=>⟨x,y.imp (λy=>⟨hk.1.trans y.1,by grind⟩) λ⟨i1,i2,i3,sv,p,B,i4,i5,i6,i7,i8⟩=>by
  have hB:B<w.heap.size:=(QEG.1 i6).1;exact⟨i1,i2,i3,sv,p,B,i4,hk.1.trans i5,(U B hB).trans i6,λo=>by simp_all,i8.1,by grind⟩⟩) ?_⟩
 rintro⟨h0,B,c,M,C,h5,h6,h7,h8⟩;have hB:B<w.heap.size:=(QEG.1 C).1
 exact⟨h0,B,c,hk.1.trans M,(U B hB).trans C,h5.trans (congrArg Prod.fst hk.2.symm),s5.congr hle Wc λr' hr d hd j hj=>G j (r.wa k b h r' hr d hd j hj),
  λo=>by simp_all,h8⟩
 intro k k' b b' B e e' T O M C;exact r.inj k k' b b' B e e' T O ((G k Wc).1 ▸ M) ((G k' Wc).1 ▸ C)
theorem Rel.heap {E:Env} {g:Gh} {s:St} {a:Act} {w w':World} (r:Rel E g s a w) (h:w'.heap=w.heap) (hx:m8 w w':=by exact⟨rfl,rfl,rfl⟩):Rel E g s a w':=
 r.move (λ_ _=>rfl) (λ_ _=>⟨rfl,rfl⟩) (λb o x e=>by rw[h];exact r.kr b o x e) (λ_ _=>by rw[h]) Wc hx
def St.put (s:St) (t:Nat) (d:D):St:={s with fr:=(t,d)::s.fr}
theorem Act.pf {v:Value} (h:t<a.tmps.size) (u:Nat):(a.put (some t) v).tmps.getD u (F6 u)=if t=u then v else a.tmps.getD u (F6 u):=by
 simp only[Act.put]
 by_cases e:t=u
 (repeat clear hK K);simp_all
 (repeat clear hK K);simp_all
theorem Rel.put {E:Env} {g:Gh} {s:St} {a:Act} {w:World} {t:Nat} {d:D} {v:Value} (r:Rel E g s a w) (O:t<E.nt)
  (M:a7 g d v) (hd:∀k∈d.ids,(lk s.H k).isSome=true):Rel E g (s.put t d) (a.put (some t) v) w:=by
 have G:t<a.tmps.size:=by rw[r.nt.1];omega
 refine⟨⟨by simp[Act.put,r.nt.1],r.nt.2⟩,r.df.of (Act.put_defers _ _ _) (λ_ h=>h),λu C h=>?_,λu C h=>?_,r.x9,r.bx,r.inj,r.kr,r.ext,r.kx,r.kp⟩;rw[Act.pf G];simp only[St.put,Qz]at h;split at h
 grind
 rename_i e;rw[if_neg e];exact r.fr u C h;simp only[St.put,Qz]at h ⊢;split at h
 grind
 exact r.da u C h
theorem Rel.less {s':St} (r:Rel E g s a w)
 (T:∀t d,lk s'.fr t=some d->lk s.fr t=some d) (M:∀k b,lk s'.H k=some b->lk s.H k=some b)
 (da:∀t d,lk s'.fr t=some d->∀k∈d.ids,(lk s'.H k).isSome=true)
 (x9:∀k b,lk s'.H k=some b->∀j∈b.ids,(lk s'.H j).isSome=true) (C:∀k,1000000<=k->(lk s.H k).isSome=true->(lk s'.H k).isSome=true):Rel E g s' a w:=
 ⟨r.nt,r.df,λt d h=>r.fr t d (T t d h),da,x9,λk b h=>r.bx k b (M k b h),λk k' b b' B e e' G O=>r.inj k k' b b' B e e' (M _ _ G) (M _ _ O),r.kr,r.ext,r.kx,λk hk=>let⟨G,O,h3,h4⟩:=r.kp k hk;⟨G,O,h3,C k G h4⟩⟩
theorem Rel.alloc {E:Env} {g:Gh} {s:St} {a:Act} {w:World} {t:Nat} {b:x4} {c:Array Value} (r:Rel E g s a w)
  (hn:lk s.H t=none) (V:∀r∈b.rows,r.length=b.l0) (Y:b.pr=true->∀r∈b.rows,∀d∈r,d.y4=[]) (hne:b.rows≠[]\/b.l0≠0) (hc:s5 g c 0 b.rows)
  (hid:∀r∈b.rows,∀d∈r,∀j∈d.y4,(lk s.H j).isSome=true):
  ∃g',g'.K=g.K/\g'.β t=some (w.heap.size,b.l0)/\g'.σ t=(c.size,0)/\(∀k,k≠t->g'.β k=g.β k/\g'.σ k=g.σ k)/\
   Rel E g' {s with H:=(t,b)::s.H} a (w.alloc (.cells c b.et)):=by
 refine⟨{K:=g.K,β:=λk=>if k=t then some (w.heap.size,b.l0)else g.β k,σ:=λk=>if k=t then(c.size,0)else g.σ k},rfl,by simp,by simp,λk hk=>by grind, ?_⟩;have hnt:∀k,(lk s.H k).isSome=true->k≠t:=λk hk e=>by grind
 have hold:∀i,i<w.heap.size->(w.alloc (.cells c b.et)).heap[i]?=w.heap[i]?:=λi hi=>by
  simp only[World.alloc,Array.getElem?_push];grind
 have hKn:∀o,g.K w.heap.size o=none:=λo=>by
  cases h:g.K w.heap.size o with
  |none=>rfl
  |some x=>exact absurd (r.kr.lt h) (Nat.lt_irrefl _)
 have hkr:ka g.K (w.alloc (.cells c b.et)):=λi o x e=>by
  obtain⟨c',e',f,U,G⟩:=r.kr i o x e
  grind
 have M:Rel E {K:=g.K,β:=λk=>if k=t then some (w.heap.size,b.l0)else g.β k,σ:=λk=>if k=t then(c.size,0)else g.σ k} s a (w.alloc (.cells c b.et)):=
  r.move (λ_ _=>rfl) (λk hk=>by grind) hkr hold Wd
 have C:∀k,(lk s.H k).isSome=true->(lk ((t,b)::s.H) k).isSome=true:=λk hk=>by
  grind [Qz]
 refine⟨M.nt,M.df,M.fr,λu d h k hk=>C k (r.da u d h k hk),λk b' h j hj=>?_,λk b' h=>?_,λk k' b1 b2 B e e' U G T O=>?_,M.kr,M.ext,M.kx,λk hk=>let⟨U,G,T,O⟩:=M.kp k hk;⟨U,G,T,C k O⟩⟩
 rw[Qz]at h;split at h;cases h
 grind [x4.ids]
 exact C j (r.x9 k b' h j hj);rw[Qz]at h;split at h;rename_i e;cases h;subst e;refine⟨V,Y,.inr ⟨hne,w.heap.size,c,by simp,heap_alloc_new w _,by simp,s5.congr (g:=g) (g':={K:=g.K,β:=λk=>if k=t then some (w.heap.size,b.l0)else g.β k,σ:=λk=>if k=t then(c.size,0)else g.σ k}) (Kn.le_refl _) Wc λr0 hr d hd j hj=>by grind,hKn,.inl r.ext.1⟩⟩;exact M.bx k b' h
 have hlt:∀k b e,lk s.H k=some b->g.β k=some (B,e)->B<w.heap.size:=λk b e h hb=>by
  obtain⟨_,_,G⟩:=r.bx k b h;rcases G with⟨_,⟨G,_⟩ |⟨_,_,_,_,_,B',_,T,O,_⟩⟩ |⟨_,B',c',T,O,_⟩
  grind
  grind
  grind
 rw[Qz]at U G;simp only at T O;split at U<;>split at G;omega
 grind
 grind
 rename_i e1 e2;rw[if_neg (Ne.symm e1)]at T;rw[if_neg (Ne.symm e2)]at O;exact r.inj k k' b1 b2 B e e' U G T O
theorem Rel.fa (pr:Bool) (r:Rel E g s a w) (hn:lk s.H t=none):
  ∃g',g'.K=g.K/\(∀k,k≠t->g'.β k=g.β k/\g'.σ k=g.σ k)/\Rel E g' {s with H:=(t,⟨[],l0,et,pr⟩)::s.H} a w:=by
 refine⟨{K:=g.K,β:=λk=>if k=t then none else g.β k,σ:=λk=>if k=t then(if l0=0/\et=0/\pr=true then(1,0)else(0,0))else g.σ k},rfl,λk hk=>by grind, ?_⟩;have V:∀k,(lk s.H k).isSome=true->k≠t:=λk hk e=>by grind
 have G:Rel E {K:=g.K,β:=λk=>if k=t then none else g.β k,σ:=λk=>if k=t then(if l0=0/\et=0/\pr=true then(1,0)else(0,0))else g.σ k} s a w:=
  r.move (λ_ _=>rfl) (λk hk=>by grind) r.kr (λ_ _=>rfl) (QEI _)
 have C:∀k,(lk s.H k).isSome=true->(lk ((t,(⟨[],l0,et,pr⟩:x4))::s.H) k).isSome=true:=λk hk=>by
  grind [Qz]
 refine⟨G.nt,G.df,G.fr,λu d h k hk=>C k (r.da u d h k hk),λk b' h j Y=>?_,λk b' h=>?_,λk k' b1 b2 B e e' U T O M=>?_,G.kr,G.ext,G.kx,λk hk=>let⟨U,T,O,M⟩:=G.kp k hk;⟨U,T,O,C k M⟩⟩
 rw[Qz]at h;split at h
 grind [x4.ids]
 exact C j (r.x9 k b' h j Y);rw[Qz]at h;split at h;rename_i e;cases h;subst e;exact⟨by simp,by simp,.inl ⟨rfl,.inl ⟨by simp,by simp[Yn]⟩⟩⟩;exact G.bx k b' h;rw[Qz]at U T;simp only at O M;split at U
 grind
 split at T
 grind
 rename_i e1 e2;rw[if_neg (Ne.symm e1)]at O;rw[if_neg (Ne.symm e2)]at M;exact r.inj k k' b1 b2 B e e' U T O M
theorem Rel.fb (r:Rel E g s a w) (C:lk s.H t=none):
  ∃g',g'.K=g.K/\(∀k,k≠t->g'.β k=g.β k/\g'.σ k=g.σ k)/\Rel E g' {s with H:=(t,⟨[],l0,et,true⟩)::s.H} a w:=r.fa true C
abbrev QEf:=List (Nat × x4)
abbrev QEg:=List (Nat × D)
variable {P:Program} {cs ds:List D} {d:D} {dst:Option Nat} {o:Oper} {off:Nat} {v:Value} {x:Operand}
inductive y5 where
 |s (t:Nat)
 |c (d:D)
variable {x':y5}
inductive s6 where
 |wb (x:y5)
 |pick (c a b:y5)
 |alloc (et:Nat) (cells:List D)
 |box (et:Nat) (x:y5)
 |build (zero:List D) (parts:List (Nat × Nat × y5))
 |buildSlice (l0 et:Nat) (parts:List y5)
 |load (agg:Bool) (sz:Nat) (x:y5)
 |store (sz:Nat) (x v:y5)
 |nilCheck (x:y5)
 |bin (op:BinOp) (bt:Bool) (x y:y5)
 |eqs (neg:Bool) (kinds:List Nat) (x y:y5)
 |un (op:UnOp) (x:y5)
 |conv (k:IntKind) (x:y5)
 |slice (l0:Nat) (x:y5) (lo hi mx:Option y5)
 |o8 (x:y5) (lo hi:Option y5)
 |fieldAddr (off:Nat) (x:y5)
 |field (agg:Bool) (off sz:Nat) (x:y5)
 |indexAddr (l0:Nat) (x i:y5)
 |y8 (x i:y5)
 |extract (i:Nat) (x:y5)
 |len (x:y5)
 |z9 (x:y5)
 |min (x y:y5)
 |max (x y:y5)
 |ba (b:Bool) (x:y5)
 |append (l0 et bytes:Nat) (x y:y5)
 |makeSlice (l0 et bytes:Nat) (zero:List D) (n c:y5)
 |sc (x:y5)
 |de (l0 et bytes:Nat) (zero:List D) (x n:y5)
 |call (f:Nat) (args:List y5)
 |range (x:y5)
 |next (x:y5)
 |r8 (n l0:Nat) (x i:y5)
 |x8 (agg:Bool) (n l0:Nat) (x i:y5)
 |vd (f:Nat) (xs:List y5)
 |oe (f:Nat) (xs:List y5)
 |ja (x:y5) (args:List y5)
 |stop
structure u3 where
 dst:Option Nat
 op:s6
 guard:Option (Nat × Bool)
def T0:Value->Option D
 | .int k n=>some (.int k n)
 | .bool b=>some (.bool b)
 | .string s=>some (.str s.data.toList)
 | .slice none 0 0=>some (.u7 [])
 | .nilFunc=>some (.val .nilFunc)
 | .pointer none=>some (.val (.pointer none))
 |_=>none
def QP:Operand->Option y5
 | .tmp t=>if t<900000 then some (.s t)else none
 | .const v=>(T0 v).map .c
 | .func f=>if gfuncs.contains f=true then none else some (.c (.k9 f []))
 | .global i=>some (.s (900000+i))
def St.ev (s:St):y5->Option D
 | .s t=>lk s.fr t
 | .c d=>some d
theorem Fx (h:T0 v=some d) (K:Kn):s4 K d v/\d.ids=[]:=by
 unfold T0 at h;split at h<;>cases h<;>simp[s4,D.ids,D.y4,Value.oneCell']
theorem Gn {t:Nat} {x:y5} (h:QP (.tmp t)=some x):t<900000/\x=.s t:=by
 simp only[QP]at h
 grind
theorem Fk {f:Nat} {x:y5} (h:QP (.func f)=some x):Gz f=[]/\x=.c (.k9 f []):=by
 simp only[QP]at h;split at h
 grind
 rename_i C;cases h;exact⟨if_neg C,rfl⟩
def Has (s:St) (d:D):Prop:=∀k∈d.ids,(lk s.H k).isSome=true
section
variable {E:Env} {g:Gh} {s:St} {a:Act} {w:World}
theorem Zy (r:Rel E g s a w) (hx:QP x=some x') (he:s.ev x'=some d):
  a7 g d (a.eval x)/\Has s d:=by
 cases x with
 |tmp t=>
  obtain⟨G,rfl⟩:=Gn hx;have:=r.fr t d he;rw[F6,if_pos G]at this;exact⟨this,r.da t d he⟩
 |const v=>
  simp only[QP,QEh]at hx;obtain⟨V,T,rfl⟩:=hx;simp only[St.ev,QEl]at he;subst he;obtain⟨O,U⟩:=Fx T g.K;exact⟨a7.of O,λk hk=>by grind⟩
 |func f=>
  obtain⟨M,rfl⟩:=Fk hx;simp only[St.ev,QEl]at he;subst he;exact⟨⟨[],rfl,by rw[gVs,M];trivial⟩,λk hk=>by trivial⟩
 |global i=>
  simp only[QP,QEl]at hx;subst hx;have:=r.fr _ d he;have C:a.tmps.size<=900000+i:=by rw[r.nt.1];exact QEB r.nt.2 (Nat.le_add_right _ _)
  rw[QEJ,Array.getElem?_eq_none C,Option.getD_none,F6,if_neg Wa,Nat.add_sub_cancel_left]at this;exact⟨this,r.da _ d he⟩
def a6 (g:Gh) (w:World) (B off:Nat) (cells:List D):Prop:=
 ∃cs:List Value,cs.length=cells.length/\n5 g cells cs/\(∀d∈cells,d.l5=true)/\∀j v,cs[j]?=some v->w.cell? ⟨B,off+j,none⟩=some v
theorem a6.nil (B off:Nat):a6 g w B off []:=⟨[],rfl,trivial,by simp,by simp⟩
theorem a6.cons {B:Nat} {x:Value} (M:d.l5=true) (hx:w.cell? ⟨B,off,none⟩=some x) (hr:z4 g d x)
 (h:a6 g w B (off+1) ds):a6 g w B off (d::ds):=by
 obtain⟨cs,U,C,T,O⟩:=h;refine⟨x::cs,by grind,⟨hr,C⟩,by grind,λj v G=>?_⟩
 grind
theorem a6.tail {B:Nat} (h:a6 g w B off (d::ds)):a6 g w B (off+1) ds:=by
 obtain⟨cs,U,M,G,C⟩:=h;cases cs with
 |nil=>grind
 |cons x cs=>
  refine⟨cs,by grind,M.2,λy O=>G y Wc,λj v T=>?_⟩;have:=C (j+1) v Wc
  grind
theorem a6.drop {B:Nat}:∀{off:Nat} {ds:List D} (n:Nat),a6 g w B off ds->a6 g w B (off+n) (ds.drop n)
 |_,_,0,h=>h
 |_,[],n+1,_=>a6.nil _ _
 |off,d::ds,n+1,h=>by
  have:=a6.drop n h.tail
  grind
theorem a6.take {B:Nat}:∀{off:Nat} {ds:List D} (n:Nat),a6 g w B off ds->a6 g w B off (ds.take n)
 |_,_,0,_=>a6.nil _ _
 |_,[],n+1,_=>a6.nil _ _
 |off,d::ds,n+1,h=>by
  have C:=a6.take n h.tail;obtain⟨cs,T,O,M,G⟩:=h;cases cs with
  |nil=>grind
  |cons x cs=>exact a6.cons (M d Wd) (G 0 x Wd) O.1 C
theorem QfK {B o:Nat} {c:Array Value} {e:TypeId} {f:Nat × Nat} {x:Value} (h:w.heap[B]?=some (.cells c e f)) (hx:c[o]?=some x):w.cell? ⟨B,o,none⟩=some x:=by
 grind [World.cell?]
theorem RP (hk:ka g.K w) (B:Nat):∀(off:Nat) (ds:List D),o5 g.K B off ds->a6 g w B off ds
 |off,[],_=>a6.nil B off
 |off,d::ds,h=>by
  simp only[o5]at h;obtain⟨⟨U,x,T,O⟩,M⟩:=h;obtain⟨c,e,f,G,C⟩:=hk B off x T;exact a6.cons U (QfK G C) (z4.of O) (RP hk B _ ds M)
theorem RO {B:Nat} {c:Array Value} {e:TypeId} {f:Nat × Nat} (h:w.heap[B]?=some (.cells c e f)):∀(off:Nat) (ds:List D),j5 g c off ds->a6 g w B off ds
 |off,[],_=>a6.nil B off
 |off,d::ds,hc=>by
  simp only[j5]at hc;obtain⟨⟨O,x,M,G⟩,C⟩:=hc;exact a6.cons O (QfK h M) G (RO h _ ds C)
theorem Qds {K:Kn} {b l0:Nat}:∀{off:Nat} {rows:List (List D)} (i:Nat) {row:List D},(∀r∈rows,r.length=l0)->j6 K b off rows->rows[i]?=some row->o5 K b (off+i*l0) row
 |_,[],_,_,_,_,h=>by grind
 |off,r::rs,0,row,hl,hr,h=>by
  grind [j6]
 |off,r::rs,i+1,row,hl,hr,h=>by
  simp only[j6]at hr;have:=Qds (l0:=l0) i (λr hr=>hl r Wc) hr.2 (by simpa using h)
  grind
theorem KL {c:Array Value} {l0:Nat}:∀{off:Nat} {rows:List (List D)} (i:Nat) {row:List D},(∀r∈rows,r.length=l0)->s5 g c off rows->rows[i]?=some row->j5 g c (off+i*l0) row
 |_,[],_,_,_,_,h=>by grind
 |off,r::rs,0,row,hl,hr,h=>by
  grind [s5]
 |off,r::rs,i+1,row,hl,hr,h=>by
  simp only[s5]at hr;have:=KL (l0:=l0) i (λr hr=>hl r Wc) hr.2 (by simpa using h)
  grind
def St.at (s:St) (d:D) (cells:List D):Prop:=
 match d with
 | .ptr cs=>cells=cs
 | .ref k i off=>∃b row,lk s.H k=some b/\b.rows[i]?=some row/\cells=row.drop off
 |_=>False
theorem P1 (r:Rel E g s a w) {cells:List D} (hd:a7 g d v) (h:s.at d cells):
  ∃B off,v=.pointer (some ⟨B,off,none⟩)/\a6 g w B off cells/\∀x∈cells,∀k∈x.y4,(lk s.H k).isSome=true:=by
 cases d<;>simp only[St.at]at h
 case ptr cs=>
  subst h;simp only[a7,z4,s4]at hd;obtain⟨b,off,rfl,C⟩:=hd;refine⟨b,off,rfl,RP r.kr b off _ C, ?_⟩
  have:∀(ds:List D) (o:Nat),o5 g.K b o ds->∀x∈ds,x.y4=[]:=by
   intro ds
   induction ds with
   |nil=>simp
   |cons d ds ih=>
    intro o h x hx;simp only[o5]at h;cases hx with
    |head=>obtain⟨⟨_,y,_,T⟩,_⟩:=h;cases d<;>first |rfl |(trivial)
    |tail _ hm=>exact ih _ h.2 x hm
  grind
 case ref k i off=>
  obtain⟨b,row,U,C,rfl⟩:=h;obtain⟨B,l0,o,T,rfl⟩:=hd;obtain⟨h4,_,O⟩:=r.bx k b U;rcases O with⟨O,_⟩ |⟨_,B',c,G,h7,_,h8,_⟩
  grind
  obtain⟨M,rfl⟩:=T.resolve_right λY=>Y.no G;rw[M]at G;cases G;refine⟨B,(g.σ k).2+(i*b.l0+off),rfl, ?_,λx hx j V=>r.wa k b U row (QEK C) x (QEL hx) j V⟩;have:=a6.drop off (RO h7 _ _ (KL i h4 h8 C))
  grind
theorem z4.ae (h:z4 g d v) (C:d.l5=true):a7 g d v:=by
 cases d<;>first |exact h |trivial |exact a7.of h
theorem Rp {K:Kn}:∀{ds:List D} {vs:List Value},x5 K ds vs->ds.flatMap D.y4=[]
 |[],[],_=>rfl
 |d::ds,v::vs,h=>by
  simp only[x5]at h;rw[QEM,Rp h.2,QEN];cases d<;>first |rfl |(have:=h.1;simp only[s4]at this)
 |[],_::_,h=>by simp only[x5]at h
 |_::_,[],h=>by simp only[x5]at h
theorem Ma (h:z4 g d v) (G:d.l5=true) (C:∀k∈d.y4,(lk s.H k).isSome=true):Has s d:=by
 intro k hk;cases d<;>first |exact C k hk |(simp[D.l5]at G;done) |skip
 case k9 f caps=>
  simp only[z4,s4]at h;obtain⟨cs,_,M⟩:=h;simp only[D.ids]at hk;rw[Rp M]at hk;cases hk
def St.j7 (s:St) (dst:Option Nat) (bx:Option x4):St:=
 match dst,bx with
 |some t,some b=>{s with H:=(t,b)::s.H}
 |_,_=>s
def Good (P:Program) (E:Env) (s:St) (a:Act) (w:World) (o:Oper) (dst:Option Nat) (d:D) (bx:Option x4):Prop:=
 ∃v w' g',(execOp a.eval o).run P w=.ok (.value v) w'/\Rel E g' (s.j7 dst bx) a w'/\a7 g' d v/\Has (s.j7 dst bx) d
theorem Good.of (r:Rel E g s a w) (h:(execOp a.eval o).run P w=.ok (.value v) w) (C:a7 g d v) (hd:Has s d):
  Good P E s a w o dst d none:=by
 refine⟨v,w,g,h, ?_,C, ?_⟩<;>cases dst<;>assumption
theorem Has.of_nil (h:d.ids=[]):Has s d:=λk hk=>by grind
theorem QcD (r:Rel E g s a w) (ho:o.op=.move x\/o.op=.assign x) (hx:QP x=some x')
 (he:s.ev x'=some d):Good P E s a w o dst d none:=by
 obtain⟨G,C⟩:=Zy r hx he;refine Good.of r (v:=a.eval x) ?_ G C;rcases ho with ho |ho<;>simp[execOp,ho]
theorem Qgr {c y:Operand} {c' y':y5} {t:Bool} (r:Rel E g s a w) (ho:o.op=.pick c x y) (O:QP c=some c') (hx:QP x=some x') (M:QP y=some y')
 (h0:s.ev c'=some (.bool t)) (he:s.ev (if t then x' else y')=some d):Good P E s a w o dst d none:=by
 have T:=(Zy r O h0).1;simp only[a7,z4,s4]at T;cases t
 obtain⟨G,C⟩:=Zy r M he;exact Good.of r (v:=a.eval y) (by simp_all [execOp,asBool]) G C;obtain⟨G,C⟩:=Zy r hx he;exact Good.of r (v:=a.eval x) (by simp_all [execOp,asBool]) G C
theorem n5.len:∀{ds:List D} {vs:List Value},n5 g ds vs->vs.length=ds.length
 |[],[],_=>rfl
 |d::ds,v::vs,h=>by simp[n5.len h.2]
 |[],_::_,h=>h.elim
 |_::_,[],h=>h.elim
def D.cells:D->Option (List D)
 | .agg cs=>some cs
 | .undef=>none
 | .top=>none
 | .g8 _=>none
 | .ia _ _=>none
 | .k9 f caps=>if(caps.all λd=>!d.own)=true then some [.k9 f caps]else none
 |d=>some [d]
theorem NZ (G:d.cells=some cs):∀y∈cs,∀k∈y.y4,k∈d.ids:=λy C k hk=>by
 cases d<;>simp only[D.cells,QEl,reduceCtorEq]at G
 case agg xs=>subst G;exact QEp.2 ⟨y,C,hk⟩
 case k9 f caps=>
  split at G;cases G;simp at C;subst C;cases hk
  grind
 all_goals (subst G;simp at C;subst C;exact hk)
theorem NY (M:d.cells=some cs) (h:a7 g d v):
  ∃vs,v.cells=List.toArray vs/\n5 g cs vs/\(∀x∈cs,x.l5=true)/\∀x∈vs,x.oneCell'=true:=by
 have one:∀{ds:List D} {vs:List Value},n5 g ds vs->(∀x∈ds,x.l5=true)->∀x∈vs,x.oneCell'=true:=by
  intro ds
  induction ds with
  |nil=>intro vs h _ x hx;cases vs with
   |nil=>cases hx
   |cons=>exact h.elim
  |cons d ds ih=>
   intro vs h C x hx;cases vs with
   |nil=>exact h.elim
   |cons v vs=>
    cases hx with
    |head=>
     have hd:=C d Wd;have O:=h.1;cases d<;>first |exact s4.cell O hd |(obtain⟨_,_,rfl,_⟩:=O;rfl) |(obtain⟨_,_,_,_,rfl⟩:=O;rfl) |(obtain⟨_,_,_,_,_,rfl,_⟩:=O;rfl)
    |tail _ hm=>exact ih h.2 (λy V=>C y (by simp[V])) x hm
 cases d<;>simp only[D.cells,QEl,reduceCtorEq]at M
 case agg xs=>
  subst M;obtain⟨vs,rfl,U,T⟩:=h;exact⟨vs,rfl,U,T,one U T⟩
 case k9 f caps=>
  split at M;rename_i hp;cases M
  obtain⟨cs,rfl,Y⟩:=h;exact⟨[_],rfl,⟨⟨cs,rfl,Y.te hp⟩,trivial⟩,by simp[D.l5],by simp[Value.oneCell']⟩;cases M
 all_goals (subst M)
 case u4 k n=>
  have G:v.oneCell'=true:=by obtain⟨_,_,rfl,_⟩:=h;rfl
  refine⟨[v], ?_,⟨h,trivial⟩,by simp[D.l5],by simpa using G⟩;obtain⟨_,_,rfl,_⟩:=h;rfl
 case la k lo c n=>
  have G:v.oneCell'=true:=by obtain⟨_,_,rfl,_⟩:=h;rfl
  refine⟨[v], ?_,⟨h,trivial⟩,by simp[D.l5],by simpa using G⟩;obtain⟨_,_,rfl,_⟩:=h;rfl
 case ref k i off=>
  have G:v.oneCell'=true:=by obtain⟨_,_,_,_,rfl⟩:=h;rfl
  refine⟨[v], ?_,⟨h,trivial⟩,by simp[D.l5],by simpa using G⟩;obtain⟨_,_,_,_,rfl⟩:=h;rfl
 case w8 f k ps=>
  have G:v.oneCell'=true:=by obtain⟨_,_,_,_,_,rfl,_⟩:=h;rfl
  refine⟨[v], ?_,⟨h,trivial⟩,by simp[D.l5],by simpa using G⟩;obtain⟨_,_,_,_,_,rfl,_⟩:=h;rfl
 all_goals
  have G:v.oneCell'=true:=s4.cell (K:=g.K) h rfl;refine⟨[v], ?_,⟨h,trivial⟩,by simp[D.l5],by simpa using G⟩;cases v<;>first |rfl |(simp[Value.oneCell']at G)
end
variable {et t:TypeId} {vs:List Value}
section
variable {P:Program} {E:Env} {g:Gh} {s:St} {a:Act} {w:World} {o:Oper} {dst:Option Nat}
theorem add_lit (b o n:Nat):Addr.add ⟨b,o,none⟩ n=⟨b,o+n,none⟩:=by
 grind [Addr.add]
theorem Qdv {B off:Nat} {cells:List D} (h:a6 g w B off cells):∃cs:List Value,cs.length=cells.length/\n5 g cells cs/\(∀d∈cells,d.l5=true)/\
  (loadCells ⟨B,off,none⟩ cells.length).run P w=.ok cs.toArray w:=by
 obtain⟨cs,O,M,G,C⟩:=h
 grind [run_loadCells_list,add_lit]
def XV (P:Program) (t:TypeId):Option Nat:=(P.info? t).map (·.size)
def Qai (P:Program) (t:TypeId):Option Bool:=
 match P.underlying t with
 |some (.struct _)=>some true
 |some (.array _ _)=>some true
 |some _=>some false
 |none=>none
theorem YB {b:Bool} (h:Qai P t=some b):(isAgg t).run P w=.ok b w:=by
 unfold Qai at h;unfold isAgg;cases hu:P.underlying t with
 |none=>grind
 |some d=>cases d<;>simp[hu]at h<;>subst h<;>simp[underlying,hu]
theorem ZH {t n:Nat} (h:XV P t=some n):(sizeOf t).run P w=.ok n w:=by
 unfold XV at h;cases hi:P.info? t with
 |none=>grind
 |some i=>simp_all [sizeOf,typeInfo]
theorem Bj {sz:Nat} {cells:List D} (r:Rel E g s a w) (ho:o.op=.load t x) (hx:QP x=some x')
 (ht:Qai P t=some true) (hs:XV P t=some sz) (he:s.ev x'=some d) (C:s.at d cells) (G:sz<=cells.length):
  Good P E s a w o dst (.agg (cells.take sz)) none:=by
 obtain⟨B,off,Y,O,M⟩:=P1 r (Zy r hx he).1 C;obtain⟨cs,h1,V,U,T⟩:=Qdv (P:=P) (O.take sz);rw[QEO,Nat.min_eq_left G]at T;refine Good.of r (v:=.agg cs.toArray) ?_ ⟨cs,rfl,V,U⟩ ?_
 (repeat clear hK K);simp_all [execOp,Instr.loadAt,Instr.sureAddr,loadVar,YB,ZH]
 intro k hk;simp only[D.ids]at hk
 grind
theorem Qgm {V:D} {cells:List D} (r:Rel E g s a w) (ho:o.op=.load t x) (hx:QP x=some x')
 (ht:Qai P t=some false) (he:s.ev x'=some d) (M:s.at d cells) (O:cells.head?=some V):
  Good P E s a w o dst V none:=by
 obtain⟨B,off,hv,Y,C⟩:=P1 r (Zy r hx he).1 M;cases cells with
 |nil=>grind
 |cons y ys=>
  simp at O;subst O;obtain⟨cs,h1,U,T,h4⟩:=Y;cases cs with
  |nil=>grind
  |cons c cs=>
   have G:=h4 0 c Wd;refine Good.of r (v:=c) ?_ (U.1.ae (T _ Wd)) (Ma U.1 (T _ Wd) λk hk=>C _ Wd k hk)
   (repeat clear hK K);simp_all [execOp,Instr.loadAt,Instr.sureAddr,loadVar,YB]
def Fs (P:Program) (t:TypeId):Option (List D):=
 match P.info? t with
 |some i=>match i.zero with
  |some z=>z.cells.toList.mapM T0
  |none=>none
 |none=>none
theorem Lh {K:Kn}:∀{vs:List Value} {ds:List D},vs.mapM T0=some ds->l6 K ds vs/\∀d∈ds,d.ids=[]/\d.y4=[]
 |[],ds,h=>by grind [l6]
 |v::vs,ds,h=>by
  simp only[List.mapM_cons,Option.bind_eq_bind,QEP,Option.pure_def,QEl]at h;obtain⟨d,C,ds',M,rfl⟩:=h;obtain⟨V,U⟩:=Lh (K:=K) M;obtain⟨T,O⟩:=Fx C K
  have G:d.l5=true/\d.y4=[]:=by
   unfold T0 at C;split at C<;>cases C<;>exact⟨rfl,rfl⟩
  grind [l6]
theorem XS (h:Fs P t=some ds) (K:Kn):
  ∃i z,P.info? t=some i/\i.zero=some z/\l6 K ds z.cells.toList/\∀d∈ds,d.ids=[]/\d.y4=[]:=by
 grind [Fs,Lh]
theorem CT (c:List Value):∀(pre:List Value) (ds:List D) (vs:List Value),n5 g ds vs->(∀d∈ds,d.l5=true)->c=pre++vs->j5 g c.toArray pre.length ds
 |_,[],_,_,_,_=>by trivial
 |pre,d::ds,[],h,_,_=>h.elim
 |pre,d::ds,v::vs,h,hc,e=>by
  simp only[j5];refine⟨⟨hc d Wd,v,by grind,h.1⟩, ?_⟩;have:=CT c (pre++[v]) ds vs h.2 (λx hx=>hc x Wc) Wc
  grind
theorem QhX (h:n5 g ds vs) (C:∀d∈ds,d.l5=true):s5 g vs.toArray 0 [ds]:=by
 simp only[s5,and_true];exact CT vs [] ds vs h C rfl
theorem Sx {t:Nat} (r:Rel E g s a w) (G:dst=some t) (O:lk s.H t=none) (h:n5 g ds vs) (T:∀d∈ds,d.l5=true)
 (Y:∀d∈ds,∀k∈d.y4,(lk s.H k).isSome=true) (C:(execOp a.eval o).run P w=.ok (.value (.pointer (some ⟨w.heap.size,0,none⟩))) (w.alloc (.cells vs.toArray et))):
  Good P E s a w o dst (.ref t 0 0) (some ⟨[ds],ds.length,et,ds.all λd=>d.y4.isEmpty⟩):=by
 obtain⟨g',h1,V,U,h4,M⟩:=r.alloc (b:=⟨[ds],ds.length,et,ds.all λd=>d.y4.isEmpty⟩) (c:=vs.toArray) O Wd
  Wd (.inl Wd) (QhX h T) Wc
 subst G;refine⟨_,_,g',C,M, ?_, ?_⟩;exact⟨w.heap.size,ds.length,0,.inl ⟨V,by rw[U]⟩,by simp⟩;intro k hk
 grind [D.ids,D.y4,St.j7,Qz]
theorem Qeb {t:Nat} (r:Rel E g s a w) (ho:o.op=.alloc et) (M:Fs P et=some ds) (C:dst=some t) (O:lk s.H t=none):
  Good P E s a w o dst (.ref t 0 0) (some ⟨[ds],ds.length,et,ds.all λd=>d.y4.isEmpty⟩):=by
 obtain⟨i,z,hi,G,V,Y⟩:=XS M g.K;obtain⟨U,T⟩:=n5.cb (g:=g) V;refine Sx r C O U T (λd hd k hk=>by grind) ?_
 (repeat clear hK K);simp_all [execOp,Instr.alloc,zeroValue,typeInfo,newVar,newRow]
theorem Qkd {t:Nat} (r:Rel E g s a w) (ho:o.op=.box et x) (hx:QP x=some x') (he:s.ev x'=some d) (hd:d.cells=some ds)
 (C:dst=some t) (M:lk s.H t=none):
  Good P E s a w o dst (.ref t 0 0) (some ⟨[ds],ds.length,et,ds.all λd=>d.y4.isEmpty⟩):=by
 obtain⟨V,U⟩:=Zy r hx he;obtain⟨vs,Y,T,O,_⟩:=NY hd V;refine Sx r C M T O ?_ ?_;intro y G k hk;exact U k (NZ hd y G k hk)
 (repeat clear hK K);simp_all [execOp,Instr.box,newVar,newRow]
end
variable {e:TypeId} {i y:Operand} {i':y5} {k k':IntKind} {m n:Int} {op:BinOp}
section
variable {P:Program} {E:Env} {g:Gh} {s:St} {a:Act} {w:World} {o:Oper} {dst:Option Nat}
theorem Nh {n off:Nat} {fields:Array Field} {f:Field} {sz:Nat} (r:Rel E g s a w) (ho:o.op=.fieldAddr t x n) (hx:QP x=some x')
 (hu:P.underlying t=some (.struct fields)) (Y:fields[n]?=some f) (U:XV P f.type=some sz) (T:sz≠0) (G:f.offset=off) (he:s.ev x'=some d):
  (∀cells,d=.ptr cells->off<=cells.length->Good P E s a w o dst (.ptr (cells.drop off)) none)/\
  (∀k i j,d=.ref k i j->Good P E s a w o dst (.ref k i (j+off)) none):=by
 obtain⟨M,O⟩:=Zy r hx he;subst G
 have run:∀B j,a.eval x=.pointer (some ⟨B,j,none⟩)->(execOp a.eval o).run P w=.ok (.value (.pointer (some ⟨B,j+f.offset,none⟩))) w:=λB j C=>by
  (repeat clear hK K);simp_all [execOp,Instr.fieldAt,underlying,Instr.sureAddr,fieldPlace,ZH,add_lit]
 constructor;rintro cells rfl V;simp only[a7,z4,s4]at M;obtain⟨B,j,C,hc⟩:=M;refine Good.of r (run B j C) ?_ (Has.of_nil rfl);simp only[a7,z4,s4];refine⟨B,j+f.offset,rfl, ?_⟩;clear run C he O Y U;generalize f.offset=n at V ⊢
 induction n generalizing cells j with
 |zero=>grind
 |succ n ih=>
  cases cells with
  |nil=>grind
  |cons c cs=>
   grind [o5]
 rintro k i j rfl;obtain⟨B,l0,o1,h3,C⟩:=M;exact Good.of r (run B _ C) ⟨B,l0,o1,h3,by grind⟩ O
theorem TB (r:Rel E g s a w) (ho:o.op=.indexAddr t x i) (hx:QP x=some x') (hi:QP i=some i')
 (hu:P.underlying t=some (.slice e)) (hs:XV P e=some l0) (he:s.ev x'=some d) (hn:s.ev i'=some (.int k n)) (h0:0<=n):
  (∀rows row,d=.sl rows\/d=.u7 rows->rows[n.toNat]?=some row->row.length=l0->Good P E s a w o dst (.ptr row) none)/\
  (∀j m b,d=.u4 j m->lk s.H j=some b->m=b.rows.length->n<m->b.l0=l0->Good P E s a w o dst (.ref j n.toNat 0) none):=by
 obtain⟨h1,h2⟩:=Zy r hx he;have V:=(Zy r hi hn).1;simp only[a7,z4,s4]at V
 have run:∀B off len cap,a.eval x=.slice (some ⟨B,off,none⟩) len cap->n<len->(execOp a.eval o).run P w=.ok (.value (.pointer (some ⟨B,off+n.toNat*l0,none⟩))) w:=λB off len cap O hl=>by
  have hs':(sizeOf e).run P w=.ok l0 w:=ZH hs
  (repeat clear hK K);simp_all [execOp,Instr.indexAt,asIntOf,underlying,add_lit]
 constructor;intro rows row hd G hlen;have U:n.toNat<rows.length:=(QEQ.1 G).1
 have key:∀T cap,a.eval x=.slice T rows.length cap->(rows=[]\/∃b off l0,T=some ⟨b,off,none⟩/\(∀r∈rows,r.length=l0)/\j6 g.K b off rows)->Good P E s a w o dst (.ptr row) none:=by
  intro T cap O hr;rcases hr with rfl |⟨b,off,C,rfl,hl,hr⟩
  grind
  have M:C=l0:=by grind
  subst M;refine Good.of r (run b off _ cap O Wa) ?_ (Has.of_nil rfl);simp only[a7,z4,s4];exact⟨b,_,rfl,Qds n.toNat hl hr G⟩
 rcases hd with rfl |rfl
 grind [a7,z4,s4]
 grind [a7,z4,s4]
 ·rintro j m b rfl hb hm U M;obtain⟨T,cap,O,hcap,hh⟩:=h1;rcases hh with⟨rfl,_⟩ |⟨B,C,hB,rfl,_⟩ |hg
  omega
  rotate_left
  obtain⟨_,_,Y⟩:=r.bx j b hb;rcases Y with⟨Y,_⟩ |⟨_,B',c,h6,_⟩
  grind
  exact(hg.no h6).elim
  have:C=l0:=by
   obtain⟨_,_,Y⟩:=r.bx j b hb
   grind
  subst this;refine Good.of r (run B _ _ cap O Wa) ⟨B,C,(g.σ j).2,.inl ⟨hB,rfl⟩,by simp⟩ ?_;trivial
theorem Dc {len:Nat} (r:Rel E g s a w) (ho:o.op=.indexAddr t x i) (hx:QP x=some x') (hi:QP i=some i')
 (hu:P.underlying t=some (.array len e)) (O:XV P e=some l0) (he:s.ev x'=some d) (V:s.ev i'=some (.int k n)) (h0:0<=n) (h1n:n<len):
  (∀cells,d=.ptr cells->n.toNat*l0<=cells.length->Good P E s a w o dst (.ptr (cells.drop (n.toNat*l0))) none)/\
  (∀j m off,d=.ref j m off->Good P E s a w o dst (.ref j m (off+n.toNat*l0)) none):=by
 obtain⟨M,T⟩:=Zy r hx he;have G:=(Zy r hi V).1;simp only[a7,z4,s4]at G
 have run:∀B off,a.eval x=.pointer (some ⟨B,off,none⟩)->(execOp a.eval o).run P w=.ok (.value (.pointer (some ⟨B,off+n.toNat*l0,none⟩))) w:=λB off C=>by
  have U:(sizeOf e).run P w=.ok l0 w:=ZH O
  (repeat clear hK K);simp_all [execOp,Instr.indexAt,asIntOf,underlying,add_lit,Instr.sureAddr]
 constructor;rintro cells rfl Y;simp only[a7,z4,s4]at M;obtain⟨B,j,C,hc⟩:=M;refine Good.of r (run B j C) ?_ (Has.of_nil rfl);simp only[a7,z4,s4];refine⟨B,j+n.toNat*l0,rfl, ?_⟩;clear run C he T O G;generalize n.toNat*l0=m at Y ⊢
 induction m generalizing cells j with
 |zero=>grind
 |succ n ih=>
  cases cells with
  |nil=>grind
  |cons c cs=>
   grind [o5]
 rintro j m off rfl;obtain⟨B,bz,o1,h3,C⟩:=M;exact Good.of r (run B _ C) ⟨B,bz,o1,h3,by grind⟩ T
theorem De (r:Rel E g s a w) (ho:o.op=.nilCheck x) (hx:QP x=some x') (he:s.ev x'=some d) (hd:(∃cs,d=.ptr cs)\/(∃k i j,d=.ref k i j)\/(∃f cs,d=.k9 f cs)\/∃f k ps,d=.w8 f k ps):
  Good P E s a w o dst d none:=by
 obtain⟨C,M⟩:=Zy r hx he;refine Good.of r (v:=a.eval x) ?_ C M;rcases hd with⟨cs,rfl⟩ |⟨k,i,j,rfl⟩ |⟨f,cs,rfl⟩ |⟨f,k,ps,rfl⟩
 simp only[a7,z4,s4]at C;obtain⟨b,off,G,_⟩:=C
 (repeat clear hK K);simp_all [execOp]
 obtain⟨B,l0,_,_,G⟩:=C
 (repeat clear hK K);simp_all [execOp]
 obtain⟨O,G,_⟩:=C
 (repeat clear hK K);simp_all [execOp]
 obtain⟨_,_,_,_,_,G,_⟩:=C
 (repeat clear hK K);simp_all [execOp]
theorem Jq {K:Kn} {v:Value} (h:s4 K d v):d.ids=[]:=by
 cases d
 case agg cs=>
  simp only[s4]at h;obtain⟨vs,G,C⟩:=h;simp only[D.ids]
  induction cs generalizing vs v with
  |nil=>rfl
  |cons c cs ih=>
   cases vs with
   |nil=>trivial
   |cons v vs=>
    simp only[l6]at C;rw[QEM,ih (v:=.agg vs.toArray) vs rfl C.2,QEN];cases c<;>first |rfl |(grind [s4])
 case ia cs x=>
  simp only[s4]at h;obtain⟨vs,u,G,C,M⟩:=h;simp only[D.ids];clear G
  induction cs generalizing vs with
  |nil=>rfl
  |cons c cs ih=>
   cases vs with
   |nil=>trivial
   |cons v vs=>
    simp only[l6]at C;rw[QEM,ih vs C.2,QEN];cases c<;>first |rfl |(grind [s4])
 case k9 f cs=>
  simp only[s4]at h;obtain⟨vs,_,C⟩:=h;exact Rp C
 case u4=>trivial
 case la=>trivial
 case ref=>trivial
 case w8=>trivial
 all_goals rfl
theorem Bi {n:Nat} (r:Rel E g s a w) (ho:o.op=.extract x n) (hx:QP x=some x') (he:s.ev x'=some (.g8 ds)) (hd:ds[n]?=some d):
  Good P E s a w o dst d none:=by
 have C:=(Zy r hx he).1;simp only[a7,z4,s4]at C;obtain⟨vs,O,M⟩:=C
 have:∀{ds:List D} {vs:List Value} (n:Nat) {d:D},x5 g.K ds vs->ds[n]?=some d->∃v,vs[n]?=some v/\s4 g.K d v:=by
  intro ds
  induction ds with
  |nil=>simp
  |cons x xs ih=>
   intro vs n d h hd;cases vs with
   |nil=>trivial
   |cons v vs=>
    grind [x5]
 obtain⟨v,T,G⟩:=this n M hd;refine Good.of r (v:=v) (by simp_all [execOp,Instr.extract]) (a7.of G) ?_;intro k hk
 grind [Jq]
def Quh:D->Option (List D)
 | .g8 cs=>some cs
 | .ia cs x=>some [.agg cs,x]
 |_=>none
theorem Da {n:Nat} {p:D} (r:Rel E g s a w) (ho:o.op=.extract x n) (hx:QP x=some x') (he:s.ev x'=some p) (hp:Quh p=some ds) (hd:ds[n]?=some d):
  Good P E s a w o dst d none:=by
 cases p<;>simp only[Quh,QEl,reduceCtorEq]at hp
 grind [Bi]
 rename_i cs z;subst hp;obtain⟨T,O⟩:=Zy r hx he;obtain⟨vs,u,U,M,G,C⟩:=T
 match n,hd with
 |0,hd=>
  simp at hd;subst hd;exact Good.of r (v:=.agg vs.toArray) (by simp_all [execOp,Instr.extract]) ⟨vs,rfl,M,G⟩ λk hk=>O k hk
 |1,hd=>
  simp at hd;subst hd;exact Good.of r (v:=u) (by simp_all [execOp,Instr.extract]) (a7.of C) λk hk=>by grind [Jq]
 |n+2,hd=>grind
def Kd (op:BinOp) (k:IntKind) (x y:Int):Int:=
 match op with
 | .and=>k.wrap ((BitVec.ofInt k.bits x&&& BitVec.ofInt k.bits y).toNat:Int)
 | .or=>k.wrap ((BitVec.ofInt k.bits x|||BitVec.ofInt k.bits y).toNat:Int)
 | .xor=>k.wrap ((BitVec.ofInt k.bits x ^^^ BitVec.ofInt k.bits y).toNat:Int)
 |_=>k.wrap ((BitVec.ofInt k.bits x&&& ~~~ (BitVec.ofInt k.bits y)).toNat:Int)
def QuA (op:BinOp) (k:IntKind) (x y:Int) (d:D):Prop:=
 match op with
 | .add=>d=.int k (k.wrap (x+y))
 | .sub=>d=.int k (k.wrap (x - y))
 | .mul=>d=.int k (k.wrap (x*y))
 | .quo=>y≠0/\d=.int k (k.wrap (x.tdiv y))
 | .rem=>y≠0/\d=.int k (x.tmod y)
 | .and | .or | .xor | .andNot=>d=.int k (Kd op k x y)
 | .shl=>0<=y/\d=.int k (k.wrap (x*2 ^ min y.toNat k.bits))
 | .shr=>0<=y/\d=.int k (x.fdiv (2 ^ min y.toNat k.bits))
 | .eql=>d=.bool (decide (x=y))
 | .neq=>d=.bool (!decide (x=y))
 | .lss=>d=.bool (decide (x<y))
 | .leq=>d=.bool (decide (x<=y))
 | .gtr=>d=.bool (decide (y<x))
 | .geq=>d=.bool (decide (y<=x))
def Pe (op:BinOp):Bool:=match op with | .shl | .shr=>true |_=>false
theorem QaV:(eqGuard op t x y (.int k m) (.int k' n)).run P w=.ok () w:=by
 cases op<;>rfl
theorem PB {m n:Bool}:(eqGuard op t x y (.bool m) (.bool n)).run P w=.ok () w:=by
 cases op<;>rfl
theorem QaW {m n:ByteArray}:(eqGuard op t x y (.string m) (.string n)).run P w=.ok () w:=by
 cases op<;>rfl
theorem _root_.Wg {p:Prop} (h:p:=by rfl):p:=h
theorem Qkf {u:TypeId} {y':y5} (r:Rel E g s a w) (ho:o.op=.binOp op t x y u) (hx:QP x=some x') (M:QP y=some y')
 (he:s.ev x'=some (.int k m)) (O:s.ev y'=some (.int k' n)) (hk:Pe op=true\/k=k') (hd:QuA op k m n d):Good P E s a w o dst d none:=by
 have U:=(Zy r hx he).1;have T:=(Zy r M O).1;simp only[a7,z4,s4]at U T
 have run:∀v,(binOp op t (.int k m) (.int k' n)).run P w=.ok v w->(execOp a.eval o).run P w=.ok (.value v) w:=λv V=>by
  (repeat clear hK K);simp_all [execOp,QaV]
 have C:∀z,d=.int k z->(binOp op t (.int k m) (.int k' n)).run P w=.ok (.int k z) w->Good P E s a w o dst d none:=λz hd hr=>by
  subst hd;exact Good.of r (run _ hr) (a7.of Wg) (Has.of_nil rfl)
 have G:∀z,d=.bool z->(binOp op t (.int k m) (.int k' n)).run P w=.ok (.bool z) w->Good P E s a w o dst d none:=λz hd hr=>by
  subst hd;exact Good.of r (run _ hr) (a7.of Wg) (Has.of_nil rfl)
 cases op
 case shl=>exact C _ hd.2 (by simp[binOp,Op.shift,Int.not_lt.2 hd.1])
 case shr=>exact C _ hd.2 (by simp[binOp,Op.shift,Int.not_lt.2 hd.1])
 all_goals
  have hk:k=k':=by grind [Pe]
  subst hk
 case quo=>exact C _ hd.2 (by simp[binOp,Op.intDiv,hd.1])
 case rem=>exact C _ hd.2 (by simp[binOp,Op.intDiv,hd.1])
 case add=>exact C _ hd (by simp[binOp,Op.intArith])
 case sub=>exact C _ hd (by simp[binOp,Op.intArith])
 case mul=>exact C _ hd (by simp[binOp,Op.intArith])
 case and=>exact C _ hd (by simp[binOp,Op.intBits,Kd])
 case or=>exact C _ hd (by simp[binOp,Op.intBits,Kd])
 case xor=>exact C _ hd (by simp[binOp,Op.intBits,Kd])
 case andNot=>exact C _ hd (by simp[binOp,Op.intBits,Kd])
 case eql=>exact G _ hd (by simp[binOp,Op.intCmp];rfl)
 case neq=>exact G _ hd (by simp[binOp,Op.intCmp];rfl)
 case lss=>exact G _ hd (by simp[binOp,Op.intCmp])
 case leq=>exact G _ hd (by simp[binOp,Op.intCmp])
 case gtr=>exact G _ hd (by simp[binOp,Op.intCmp])
 case geq=>exact G _ hd (by simp[binOp,Op.intCmp])
end
variable {b:Bool} {u:TypeId} {y':y5} {j:IntKind} {sz:Nat} {ts:Array TypeId}
section
variable {P:Program} {E:Env} {g:Gh} {s:St} {a:Act} {w:World} {o:Oper} {dst:Option Nat}
theorem KF (r:Rel E g s a w) (hx:QP x=some x') (he:s.ev x'=some (.int k n)):a.eval x=.int k n:=by
 have:=(Zy r hx he).1;trivial
theorem P3 {n:Bool} (r:Rel E g s a w) (hx:QP x=some x') (he:s.ev x'=some (.bool n)):a.eval x=.bool n:=by
 have:=(Zy r hx he).1;trivial
theorem D7 {n:List UInt8} (r:Rel E g s a w) (hx:QP x=some x') (he:s.ev x'=some (.str n)):a.eval x=.string ⟨n.toArray⟩:=by
 have:=(Zy r hx he).1;trivial
theorem Good.int {k:IntKind} {n:Int} (r:Rel E g s a w) (h:(execOp a.eval o).run P w=.ok (.value (.int k n)) w):Good P E s a w o dst (.int k n) none:=
 Good.of r h (a7.of Wg) (Has.of_nil rfl)
theorem Good.bool {n:Bool} (r:Rel E g s a w) (h:(execOp a.eval o).run P w=.ok (.value (.bool n)) w):Good P E s a w o dst (.bool n) none:=
 Good.of r h (a7.of Wg) (Has.of_nil rfl)
theorem Good.str {n:List UInt8} (r:Rel E g s a w) (h:(execOp a.eval o).run P w=.ok (.value (.string ⟨n.toArray⟩)) w):Good P E s a w o dst (.str n) none:=
 Good.of r h (a7.of Wg) (Has.of_nil rfl)
theorem Bh {m n:Bool} (r:Rel E g s a w) (ho:o.op=.binOp op t x y u) (hx:QP x=some x') (M:QP y=some y')
 (he:s.ev x'=some (.bool m)) (O:s.ev y'=some (.bool n)) (hu:P.underlying t=some .bool):
  (op=.eql->Good P E s a w o dst (.bool (decide (m=n))) none)/\(op=.neq->Good P E s a w o dst (.bool (!decide (m=n))) none):=by
 have G:=P3 r hx he;have C:=P3 r M O;constructor;rintro rfl;refine Good.bool r ?_;simp[execOp,ho,G,C,PB,run_eql_bool w t m n hu];rfl;rintro rfl;refine Good.bool r ?_;simp[execOp,ho,G,C,PB,run_neq_bool w t m n hu];rfl
def QuB (op:BinOp) (x y:List UInt8) (d:D):Prop:=
 match op with
 | .add=>x.length+y.length<=9223372036854775807/\d=.str (x++y)
 | .eql=>d=.bool (decide (x=y))
 | .neq=>d=.bool (!decide (x=y))
 | .lss=>d=.bool (Op.bytesLess x y)
 | .leq=>d=.bool (Op.bytesLess x y||decide (x=y))
 | .gtr=>d=.bool (!(Op.bytesLess x y||decide (x=y)))
 | .geq=>d=.bool (!Op.bytesLess x y)
 |_=>False
theorem Qgs {m n:List UInt8} (r:Rel E g s a w) (ho:o.op=.binOp op t x y u) (hx:QP x=some x') (C:QP y=some y')
 (he:s.ev x'=some (.str m)) (M:s.ev y'=some (.str n)) (hd:QuB op m n d):Good P E s a w o dst d none:=by
 have V:=D7 r hx he;have U:=D7 r C M
 have run:∀v,(Op.stringOp op ⟨m.toArray⟩ ⟨n.toArray⟩).run P w=.ok v w->(execOp a.eval o).run P w=.ok (.value v) w:=λv O=>by
  (repeat clear hK K);simp_all [binOp,execOp,QaW]
 have G:(m==n)=decide (m=n):=by grind
 cases op<;>simp only[QuB]at hd
 case add=>
  obtain⟨h0,rfl⟩:=hd;refine Good.str r (run _ ?_);have T:¬(9223372036854775807<((m.length:Int)+(n.length:Int))):=Wa;have e1:(ByteArray.mk m.toArray).size=m.length:=by rfl
  have e2:(ByteArray.mk n.toArray).size=n.length:=by rfl
  have Y:ByteArray.mk m.toArray++ByteArray.mk n.toArray=ByteArray.mk (m++n).toArray:=by
   rfl
  (repeat clear hK K);simp_all [Op.stringOp]
 all_goals
  subst hd;refine Good.bool r (run _ ?_);simp[Op.stringOp,G]
theorem Qgt {op:UnOp} (r:Rel E g s a w) (ho:o.op=.unOp op t x) (hx:QP x=some x'):
  (∀b,op=.not->s.ev x'=some (.bool b)->Good P E s a w o dst (.bool (!b)) none)/\
  (∀k n,op=.neg->s.ev x'=some (.int k n)->Good P E s a w o dst (.int k (k.wrap (0 - n))) none):=by
 constructor;rintro b rfl he;exact Good.bool r (by simp[execOp,ho,P3 r hx he,Op.unary]);rintro k n rfl he;exact Good.int r (by simp[execOp,ho,KF r hx he,Op.unary,Op.intArith])
theorem Qgk {b:TypeDesc} (r:Rel E g s a w) (ho:o.op=.convert t u x) (hx:QP x=some x')
 (C:P.underlying t=some b) (hu:P.underlying u=some (.int k)) (he:s.ev x'=some (.int j n)):Good P E s a w o dst (.int k (k.wrap n)) none:=by
 refine Good.int r ?_;simp[execOp,ho,KF r hx he,convert,underlying,C,hu,Conv.intToInt]
theorem QcC (r:Rel E g s a w) (ho:o.op=.call {callee:=.builtin .len,args:=#[x],argTypes:=ts}) (hx:QP x=some x') (O:ts[0]?=some t) (he:s.ev x'=some d):
  (∀rows e,P.underlying t=some (.slice e)->d=.sl rows\/d=.u7 rows->Good P E s a w o dst (.int .i64 rows.length) none)/\
  (∀k n e,P.underlying t=some (.slice e)->d=.u4 k n->Good P E s a w o dst (.int .i64 n) none)/\
  (∀l,P.underlying t=some .string->d=.str l->Good P E s a w o dst (.int .i64 l.length) none):=by
 have G:=(Zy r hx he).1
 have run:∀v n,a.eval x=v->(Builtin.len_ ts o.type #[v]).run P w=.ok (.int .i64 n) w->(execOp a.eval o).run P w=.ok (.value (.int .i64 n)) w:=λv n C h=>by
  (repeat clear hK K);simp_all [execOp,resolve,invoke,builtin]
 refine⟨?_, ?_, ?_⟩;intro rows e hu hd
 have:∃M cap,a.eval x=.slice M rows.length cap:=by
  rcases hd with rfl |rfl
  grind [a7,z4,s4]
  grind [a7,z4,s4]
 obtain⟨M,cap,C⟩:=this;exact Good.int r (run _ _ C (by simp_all [Builtin.len_,underlying,goInt]));rintro k n e hu rfl;obtain⟨M,cap,C,_⟩:=G;exact Good.int r (run _ _ C (by simp_all [Builtin.len_,underlying,goInt]));rintro l hu rfl;simp only[a7,z4,s4]at G;have e1:(ByteArray.mk l.toArray).size=l.length:=by rfl
 exact Good.int r (run _ _ G (by simp_all [Builtin.len_,underlying,goInt]))
theorem Qke {rows:List (List D)} (r:Rel E g s a w) (ho:o.op=.call {callee:=.builtin .cap,args:=#[x],argTypes:=ts}) (hx:QP x=some x') (M:ts[0]?=some t) (hu:P.underlying t=some (.slice e)) (he:s.ev x'=some (.u7 rows)):
  Good P E s a w o dst (.int .i64 rows.length) none:=by
 have G:=(Zy r hx he).1
 have run:∀v n,a.eval x=v->(Builtin.cap_ ts o.type #[v]).run P w=.ok (.int .i64 n) w->(execOp a.eval o).run P w=.ok (.value (.int .i64 n)) w:=λv n C h=>by
  (repeat clear hK K);simp_all [execOp,resolve,invoke,builtin]
 simp only[a7,z4,s4]at G;obtain⟨O,C,_⟩:=G;exact Good.int r (run _ _ C (by simp_all [Builtin.cap_,underlying,goInt]))
theorem Qkh (r:Rel E g s a w) (ho:o.op=.call {callee:=.builtin .min,args:=#[x,y],argTypes:=ts}) (hx:QP x=some x') (C:QP y=some y')
 (he:s.ev x'=some (.int k m)) (G:s.ev y'=some (.int j n)):Good P E s a w o dst (.int k (min m n)) none:=by
 refine Good.int r ?_;have:(if n<m then n else m)=min m n:=Wa;simp[execOp,ho,resolve,invoke,builtin,KF r hx he,KF r C G,run_min_int2,this]
theorem Qkg (r:Rel E g s a w) (ho:o.op=.call {callee:=.builtin .max,args:=#[x,y],argTypes:=ts}) (hx:QP x=some x') (C:QP y=some y')
 (he:s.ev x'=some (.int k m)) (G:s.ev y'=some (.int j n)):Good P E s a w o dst (.int k (max m n)) none:=by
 refine Good.int r ?_;have:(if n>m then n else m)=max m n:=Wa;simp[execOp,ho,resolve,invoke,builtin,KF r hx he,KF r C G,run_max_int2,this]
theorem Dd {l:List UInt8} {c:UInt8} (r:Rel E g s a w) (ho:o.op=.index t x i) (hx:QP x=some x') (hi:QP i=some i')
 (hu:P.underlying t=some .string) (he:s.ev x'=some (.str l)) (G:s.ev i'=some (.int k n)) (h0:0<=n) (T:l[n.toNat]?=some c):Good P E s a w o dst (.int .u8 c.toNat) none:=by
 refine Good.int r ?_
 have O:(ByteArray.mk l.toArray)[n.toNat]?=some c:=by
  have M:=(QEQ.1 T).1;have C:n.toNat<(ByteArray.mk l.toArray).size:=by trivial
  rw[ByteArray.getElem?_lt' _ _ C];have:(ByteArray.mk l.toArray)[n.toNat]=l[n.toNat]:=rfl
  grind
 simp[execOp,ho,Instr.index,D7 r hx he,KF r hi G,asIntOf,underlying,hu,h0,O]
theorem Qed {n off:Nat} {fields:Array Field} {f:Field} {cells:List D} (r:Rel E g s a w) (ho:o.op=.field t x n) (hx:QP x=some x')
 (hu:P.underlying t=some (.struct fields)) (hf:fields[n]?=some f) (hs:XV P f.type=some sz) (hb:Qai P f.type=some b) (M:f.offset=off) (he:s.ev x'=some (.agg cells))
 (hd:if b then off+sz<=cells.length/\d=.agg ((cells.drop off).take sz)else cells[off]?=some d):Good P E s a w o dst d none:=by
 obtain⟨⟨cs,hv,V,Y⟩,O⟩:=Zy r hx he;subst M;cases b with
 |false=>
  simp only[QEq,if_false]at hd
  have:∀{ds:List D} {vs:List Value} (n:Nat) {d:D},n5 g ds vs->ds[n]?=some d->∃v,vs[n]?=some v/\z4 g d v:=by
   intro ds
   induction ds with
   |nil=>simp
   |cons x xs ih=>
    intro vs n d h hd;cases vs with
    |nil=>trivial
    |cons v vs=>
     cases n with
     |zero=>simp at hd;subst hd;exact⟨v,by simp,h.1⟩
     |succ n=>simpa using ih n h.2 Wc
  obtain⟨v,h3,h4⟩:=this _ V hd;have T:=Y d (QEK hd);refine Good.of r (v:=v) ?_ (h4.ae T) (Ma h4 T λk hk=>O k (QEp.2 ⟨d,QEK hd,hk⟩))
  (repeat clear hK K);simp_all [execOp,Instr.field,underlying,part,YB,asAgg]
 |true=>
  simp only[if_true]at hd;obtain⟨hle,rfl⟩:=hd
  have G:∀{ds:List D} {vs:List Value} (n:Nat),n5 g ds vs->n5 g (ds.drop n) (vs.drop n):=by
   intro ds
   induction ds with
   |nil=>intro vs n h;cases vs with
    |nil=>grind
    |cons=>trivial
   |cons x xs ih=>
    intro vs n h;cases vs with
    |nil=>trivial
    |cons v vs=>cases n with
     |zero=>exact h
     |succ n=>exact ih n h.2
  have C:∀{ds:List D} {vs:List Value} (n:Nat),n5 g ds vs->n5 g (ds.take n) (vs.take n):=by
   intro ds
   induction ds with
   |nil=>intro vs n h;cases vs with
    |nil=>grind
    |cons=>trivial
   |cons x xs ih=>
    intro vs n h;cases vs with
    |nil=>trivial
    |cons v vs=>cases n with
     |zero=>trivial
     |succ n=>exact⟨h.1,ih n h.2⟩
  refine Good.of r (v:=.agg ((cs.drop f.offset).take sz).toArray) ?_ ⟨_,rfl,C sz (G f.offset V),λy U=>Y y (QEL (QEC U))⟩ ?_
  (repeat clear hK K);simp_all [execOp,Instr.field,underlying,part,YB,asAgg,ZH]
  intro k hk;simp only[D.ids]at hk;obtain⟨y,U,hk⟩:=QEp.1 hk;exact O k (QEp.2 ⟨y,QEL (QEC U),hk⟩)
theorem Db {len:Nat} {cells:List D} (r:Rel E g s a w) (ho:o.op=.index t x i) (hx:QP x=some x') (hi:QP i=some i')
 (hu:P.underlying t=some (.array len e)) (hs:XV P e=some sz) (hb:Qai P e=some b) (he:s.ev x'=some (.agg cells)) (hn:s.ev i'=some (.int k n)) (h0:0<=n) (h1n:n<len)
 (hd:if b then n.toNat*sz+sz<=cells.length/\d=.agg ((cells.drop (n.toNat*sz)).take sz)else cells[n.toNat*sz]?=some d):Good P E s a w o dst d none:=by
 obtain⟨⟨cs,hv,V,Y⟩,M⟩:=Zy r hx he;have U:=(Zy r hi hn).1;simp only[a7,z4,s4]at U;cases b with
 |false=>
  simp only[QEq,if_false]at hd
  have:∀{ds:List D} {vs:List Value} (n:Nat) {d:D},n5 g ds vs->ds[n]?=some d->∃v,vs[n]?=some v/\z4 g d v:=by
   intro ds
   induction ds with
   |nil=>simp
   |cons x xs ih=>
    intro vs n d h hd;cases vs with
    |nil=>trivial
    |cons v vs=>
     cases n with
     |zero=>simp at hd;subst hd;exact⟨v,by simp,h.1⟩
     |succ n=>simpa using ih n h.2 Wc
  obtain⟨v,h3,h4⟩:=this _ V hd;have O:=Y d (QEK hd);refine Good.of r (v:=v) ?_ (h4.ae O) (Ma h4 O λk hk=>M k (QEp.2 ⟨d,QEK hd,hk⟩))
  (repeat clear hK K);simp_all [execOp,Instr.index,underlying,part,YB,ZH,asIntOf]
 |true=>
  simp only[if_true]at hd;obtain⟨hle,rfl⟩:=hd
  have G:∀{ds:List D} {vs:List Value} (n:Nat),n5 g ds vs->n5 g (ds.drop n) (vs.drop n):=by
   intro ds
   induction ds with
   |nil=>intro vs n h;cases vs with
    |nil=>grind
    |cons=>trivial
   |cons x xs ih=>
    intro vs n h;cases vs with
    |nil=>trivial
    |cons v vs=>cases n with
     |zero=>exact h
     |succ n=>exact ih n h.2
  have C:∀{ds:List D} {vs:List Value} (n:Nat),n5 g ds vs->n5 g (ds.take n) (vs.take n):=by
   intro ds
   induction ds with
   |nil=>intro vs n h;cases vs with
    |nil=>grind
    |cons=>trivial
   |cons x xs ih=>
    intro vs n h;cases vs with
    |nil=>trivial
    |cons v vs=>cases n with
     |zero=>trivial
     |succ n=>exact⟨h.1,ih n h.2⟩
  refine Good.of r (v:=.agg ((cs.drop (n.toNat*sz)).take sz).toArray) ?_ ⟨_,rfl,C sz (G _ V),λy T=>Y y (QEL (QEC T))⟩ ?_
  (repeat clear hK K);simp_all [execOp,Instr.index,underlying,part,YB,ZH,asIntOf]
  intro k hk;simp only[D.ids]at hk;obtain⟨y,T,hk⟩:=QEp.1 hk;exact M k (QEp.2 ⟨y,QEL (QEC T),hk⟩)
end
section
variable {P:Program} {E:Env} {g:Gh} {s:St} {a:Act} {w:World} {o:Oper} {dst:Option Nat}
theorem So (off:Nat):∀(vs:List Value) (j:Nat) (cells:Array Value) (pre C post:List Value),cells.toList=pre++C++post->pre.length=off+j->C.length=vs.length->
  ((vs.zipIdx j).foldl (λcs (p:Value × Nat)=>cs.setIfInBounds (off+p.2) p.1) cells).toList=pre++vs++post
 |[],j,cells,pre,C,post,h,_,hm=>by
  (repeat clear hK K);simp_all
 |v::vs,j,cells,pre,[],post,_,_,hm=>by grind
 |v::vs,j,cells,pre,m::C,post,h,hp,hm=>by
  simp only[List.zipIdx_cons,QER];rw[So off vs (j+1) (cells.setIfInBounds (off+j) v) (pre++[v]) C post ?_ Wc Wc];simp
  (repeat clear hK K);simp_all
theorem Qka (off:Nat) (vs:List Value) (j:Nat) (cells:Array Value) (h:off+j+vs.length<=cells.size):
  ((vs.zipIdx j).foldl (λcs (p:Value × Nat)=>cs.setIfInBounds (off+p.2) p.1) cells).toList=cells.toList.take (off+j)++vs++cells.toList.drop (off+j+vs.length):=by
 refine So off vs j cells _ ((cells.toList.drop (off+j)).take vs.length) _ ?_ Wc Wc
 grind [List.drop_drop,List.take_append_drop]
def Sj:List D->List (Nat × Nat × D)->Option (List D)
 |ds,[]=>some ds
 |ds,(off,size,d)::r=>
  match d.cells with
  |some cs=>if cs.length=size/\off+size<=ds.length then Sj (ds.take off++cs++ds.drop (off+size)) r else none
  |none=>none
theorem n5.append:∀{xs ys:List D} {us vs:List Value},n5 g xs us->n5 g ys vs->n5 g (xs++ys) (us++vs)
 |[],_,[],_,_,h=>h
 |_::_,_,_::_,_,h,h'=>⟨h.1,n5.append h.2 h'⟩
 |[],_,_::_,_,h,_=>h.elim
 |_::_,_,[],_,h,_=>h.elim
theorem n5.drop:∀{ds:List D} {vs:List Value} (n:Nat),n5 g ds vs->n5 g (ds.drop n) (vs.drop n)
 |[],[],n,h=>by grind
 |_::_,_::_,0,h=>h
 |_::_,_::_,n+1,h=>n5.drop n h.2
 |[],_::_,_,h=>h.elim
 |_::_,[],_,h=>h.elim
theorem n5.take:∀{ds:List D} {vs:List Value} (n:Nat),n5 g ds vs->n5 g (ds.take n) (vs.take n)
 |[],[],n,h=>by grind
 |_::_,_::_,0,_=>trivial
 |_::_,_::_,n+1,h=>⟨h.1,n5.take n h.2⟩
 |[],_::_,_,h=>h.elim
 |_::_,[],_,h=>h.elim
def X1 (s:St):List (Nat × Nat × y5)->Option (List (Nat × Nat × D))
 |[]=>some []
 |(off,size,x)::r=>match s.ev x,X1 s r with
  |some d,some ds=>some ((off,size,d)::ds)
  |_,_=>none
def DJ (P:Program) (t:TypeId):Option (Nat->Option (Nat × Nat)):=
 match P.underlying t with
 |some (.array _ e)=>match P.info? e with
  |some ie=>some λi=>some (i*ie.size,ie.size)
  |none=>none
 |some (.struct fields)=>match fields.toList.mapM (λf=>(P.info? f.type).map λi=>(f.offset,i.size))with
  |some places=>some λi=>places.toArray[i]?
  |none=>none
 |_=>none
def X6 (place:Nat->Option (Nat × Nat)):List (Nat × Operand)->Option (List (Nat × Nat × y5))
 |[]=>some []
 |(i,x)::r=>match place i,QP x,X6 place r with
  |some (off,size),some x',some r'=>some ((off,size,x')::r')
  |_,_,_=>none
theorem T6 (r:Rel E g s a w) (place:Nat->Option (Nat × Nat)):∀(ps:List (Nat × Operand)) (G:List (Nat × Nat × y5)) (qs:List (Nat × Nat × D)) (cells:Array Value) (ds ds':List D),
  X6 place ps=some G->X1 s G=some qs->n5 g ds cells.toList->(∀d∈ds,d.l5=true/\∀k∈d.y4,(lk s.H k).isSome=true)->Sj ds qs=some ds'->
  ∃C,Instr.fill place cells (ps.map λ(i,x)=>(i,a.eval x))=some C/\n5 g ds' C.toList/\(∀d∈ds',d.l5=true/\∀k∈d.y4,(lk s.H k).isSome=true)
 |[],G,qs,cells,ds,ds',U,T,h3,h4,O=>by
  simp only[X6,QEl]at U;subst U;simp only[X1,QEl]at T;subst T;simp only[Sj,QEl]at O;subst O;exact⟨cells,rfl,h3,h4⟩
 |(i,x)::ps,G,qs,cells,ds,ds',U,T,h3,h4,O=>by
  simp only[X6]at U;split at U;rename_i off size x' r' e1 e2 e3;cases U
  simp only[X1]at T;split at T;rename_i d ds0 f1 f2;cases T
  simp only[Sj]at O;split at O;rename_i cs Y;split at O;rename_i hlen;obtain⟨g1,g2⟩:=Zy r e2 f1;obtain⟨vs,k1,k2,k3,_⟩:=NY Y g1;have hvl:vs.length=size:=by rw[k2.len];omega
  have hcl:cells.toList.length=ds.length:=h3.len
  have hsid:∀y∈cs,∀k∈y.y4,(lk s.H k).isSome=true:=by
   intro y hy k hk;exact g2 k (NZ Y y hy k hk)
  have M:((a.eval x).cells.zipIdx.foldl (λcs (p:Value × Nat)=>cs.setIfInBounds (off+p.2) p.1) cells).toList=cells.toList.take off++vs++cells.toList.drop (off+size):=by
   (repeat clear hK K);simp_all [Qka]
  have V:n5 g (ds.take off++cs++ds.drop (off+size)) ((a.eval x).cells.zipIdx.foldl (λcs (p:Value × Nat)=>cs.setIfInBounds (off+p.2) p.1) cells).toList:=by
   rw[M];exact((h3.take off).append k2).append (h3.drop (off+size))
  obtain⟨C,m1,m2,m3⟩:=T6 r place ps r' ds0 _ _ ds' e3 f2 V (λy hy=>by
   grind) O
  refine⟨C, ?_,m2,m3⟩;have hsz:(a.eval x).cells.size=size:=by grind
  (repeat clear hK K);simp_all [Instr.fill]
  grind
  grind
  grind
  grind
theorem Qec {t:TypeId} {parts:Array (Nat × Operand)} {parts':List (Nat × Nat × y5)} {place:Nat->Option (Nat × Nat)} {zero ds':List D} {M:List (Nat × Nat × D)} (r:Rel E g s a w) (ho:o.op=.build t parts)
 (Y:Fs P t=some zero) (hp:DJ P t=some place) (O:X6 place parts.toList=some parts') (he:X1 s parts'=some M) (hf:Sj zero M=some ds'):Good P E s a w o dst (.agg ds') none:=by
 obtain⟨it,z,hi,V,h1,h2⟩:=XS Y g.K;obtain⟨h3,h4⟩:=n5.cb (g:=g) h1;obtain⟨C,m1,U,T⟩:=T6 r place parts.toList parts' M z.cells zero ds' O he h3 (λd hd=>⟨h4 d hd,λk hk=>by grind⟩) hf
 have G:P.built t (parts.map λ(i,x)=>(i,a.eval x)).toList=some C:=by
  rw[QET];unfold DJ at hp;unfold Program.built
  grind
 refine Good.of r (v:=.agg C) ?_ ⟨C.toList,by simp,U,λd hd=>(T d hd).1⟩ ?_
 (repeat clear hK K);simp_all [execOp,run_build]
 intro k hk;simp only[D.ids]at hk
 grind
end
variable {n:Nat} {pr:Bool} {rows:List (List D)}
section
variable {P:Program} {E:Env} {g:Gh} {s:St} {a:Act} {w:World} {o:Oper} {dst:Option Nat}
theorem NX {c:Array Value}:∀{off:Nat} {ds:List D},(∀j d,ds[j]?=some d->d.l5=true/\∃x,c[off+j]?=some x/\z4 g d x)->j5 g c off ds
 |_,[],_=>by trivial
 |off,d::ds,h=>by
  simp only[j5];refine⟨by simpa using h 0 d Wd,NX λj C hd=>?_⟩;have:=h (j+1) C Wc
  grind
theorem Qdr {c:Array Value} {l0:Nat}:∀{off:Nat} {rows:List (List D)},(∀r∈rows,r.length=l0)->(∀i row,rows[i]?=some row->j5 g c (off+i*l0) row)->s5 g c off rows
 |_,[],_,_=>by trivial
 |off,r::rs,hl,h=>by
  simp only[s5];refine⟨by simpa using h 0 r Wd, ?_⟩;rw[hl r Wd];refine Qdr (λr hr=>hl r Wc) λi row hi=>?_;have:=h (i+1) row Wc
  grind
theorem H6 {c:Array Value} {post:List Value}:∀(pre:List Value) (rows:List (List D)) (vs:List Value),n5 g rows.flatten vs->(∀r∈rows,∀d∈r,d.l5=true)->c=(pre++vs++post).toArray->s5 g c pre.length rows
 |_,[],_,_,_,_=>by trivial
 |pre,r::rs,vs,h,hc,e=>by
  simp only[s5];rw[QEU]at h;have G:=h.take r.length;have C:=h.drop r.length;rw[List.take_left' rfl]at G;rw[List.drop_left' rfl]at C;have M:=G.len;constructor;refine NX λj d hd=>⟨hc r Wd d (QEK hd), ?_⟩
  have:∀{ds:List D} {vs:List Value} (n:Nat) {d:D},n5 g ds vs->ds[n]?=some d->∃v,vs[n]?=some v/\z4 g d v:=by
   intro ds
   induction ds with
   |nil=>simp
   |cons x xs ih=>
    intro vs n d h hd;cases vs with
    |nil=>trivial
    |cons v vs=>
     cases n with
     |zero=>simp at hd;subst hd;exact⟨v,by simp,h.1⟩
     |succ n=>simpa using ih n h.2 Wc
  grind
  have:=H6 (c:=c) (post:=post) (pre++vs.take r.length) rs (vs.drop r.length) C (λr hr=>hc r Wc) Wc
  grind
theorem He {B:Nat}:∀{off:Nat} {xs ys:List D},a6 g w B off xs->a6 g w B (off+xs.length) ys->a6 g w B off (xs++ys)
 |_,[],_,_,h=>h
 |off,x::xs,ys,h,h'=>by
  have C:=He h.tail (by rw[show off+1+xs.length=off+(x::xs).length by grind];exact h')
  obtain⟨cs,T,O,M,G⟩:=h;cases cs with
  |nil=>grind
  |cons c cs=>exact a6.cons (M x Wd) (G 0 c Wd) O.1 C
theorem J8 (hk:ka g.K w) (B:Nat):∀(off:Nat) (rows:List (List D)),j6 g.K B off rows->a6 g w B off rows.flatten
 |off,[],_=>a6.nil B off
 |off,r::rs,h=>by
  simp only[j6]at h;exact He (RP hk B off r h.1) (J8 hk B _ rs h.2)
theorem Ga {B:Nat} {c:Array Value} {e:TypeId} {f:Nat × Nat} (h:w.heap[B]?=some (.cells c e f)):∀(off:Nat) (rows:List (List D)),s5 g c off rows->a6 g w B off rows.flatten
 |off,[],_=>a6.nil B off
 |off,r::rs,hc=>by
  simp only[s5]at hc;exact He (RO h off r hc.1) (Ga h _ rs hc.2)
theorem SU {K:Kn} {b:Nat}:∀{off:Nat} {ds:List D},o5 K b off ds->∀d∈ds,d.y4=[]
 |_,[],_,d,hd=>by grind
 |off,x::xs,h,d,hd=>by
  simp only[o5]at h;cases hd with
  |head=>obtain⟨⟨_,y,_,C⟩,_⟩:=h;cases x<;>first |rfl |(trivial)
  |tail _ hm=>exact SU h.2 d hm
theorem Ko {K:Kn} {b:Nat}:∀{off:Nat} {rows:List (List D)},j6 K b off rows->∀r∈rows,∀d∈r,d.y4=[]
 |_,[],_,r,hr,_,_=>by grind
 |off,x::xs,h,r,hr,d,hd=>by
  simp only[j6]at h;cases hr with
  |head=>grind [SU]
  |tail _ hm=>exact Ko h.2 r hm d hd
def St.src (s:St) (l0:Nat) (d:D) (rows:List (List D)) (pr:Bool):Prop:=
 match d with
 | .sl rs=>rows=rs/\(∀r∈rs,r.length=l0)/\pr=true
 | .u7 rs=>rows=rs/\(∀r∈rs,r.length=l0)/\pr=true
 | .u4 k n=>∃b,lk s.H k=some b/\n=b.rows.length/\b.l0=l0/\rows=b.rows/\pr=b.pr
 |_=>False
theorem MI (r:Rel E g s a w) {v:Value} (T:a7 g d v) (h:s.src l0 d rows pr):
  ∃U cap,v=.slice U rows.length cap/\rows.length<=cap/\(rows=[]\/∃B off,U=some ⟨B,off,none⟩/\a6 g w B off rows.flatten)/\(∀r∈rows,r.length=l0)/\
   (∀r∈rows,∀d∈r,∀k∈d.y4,(lk s.H k).isSome=true)/\(pr=true->∀r∈rows,∀d∈r,d.y4=[])/\(∀r∈rows,∀d∈r,d.l5=true):=by
 have cellsOf:∀{B off:Nat},a6 g w B off rows.flatten->∀r∈rows,∀d∈r,d.l5=true:=λ⟨_,_,_,M,_⟩ r hr d hd=>M d (List.mem_flatten.2 ⟨r,hr,hd⟩);cases d<;>simp only[St.src]at h
 case sl rs=>
  obtain⟨rfl,O,rfl⟩:=h;simp only[a7,z4,s4]at T;obtain⟨U,cap,rfl,h2,M⟩:=T;rcases M with rfl |⟨b,off,e,rfl,h4,G⟩
  simp;have C:=J8 r.kr b off rows G;exact⟨_,cap,rfl,h2,.inr ⟨b,off,rfl,C⟩,O,(λr0 hr d hd k hk=>by grind [Ko]),λ_=>Ko G,cellsOf C⟩
 case u7 rs=>
  obtain⟨rfl,O,rfl⟩:=h;simp only[a7,z4,s4]at T;obtain⟨U,rfl,M⟩:=T;rcases M with rfl |⟨b,off,e,rfl,h4,G⟩
  simp;have C:=J8 r.kr b off rows G;exact⟨_,_,rfl,QEI _,.inr ⟨b,off,rfl,C⟩,O,(λr0 hr d hd k hk=>by grind [Ko]),λ_=>Ko G,cellsOf C⟩
 case u4 k n=>
  obtain⟨b,O,rfl,rfl,rfl,rfl⟩:=h;obtain⟨U,cap,rfl,h2,M⟩:=T;obtain⟨h4,G,Y⟩:=r.bx k b O;rcases M with⟨h0,_⟩ |⟨B,l0,hB,rfl,_⟩ |hg
  grind
  rotate_left
  rcases Y with⟨Y,_⟩ |⟨_,B',c,V,_⟩
  grind
  exact(hg.no V).elim;rcases Y with⟨Y,_⟩ |⟨_,B',c,V,h8,_,h9,_⟩
  grind
  rw[hB]at V;cases V;have C:=Ga h8 _ b.rows h9;exact⟨_,cap,rfl,h2,.inr ⟨B,_,rfl,C⟩,h4,r.wa k b O,G,cellsOf C⟩
theorem Kc {t:Nat} {post:List Value} {cap:Nat} (hw:w'.heap=w.heap) (r:Rel E g s a w) (M:dst=some t) (V:lk s.H t=none) (hlen:n=rows.length) (h:n5 g rows.flatten vs)
 (hl:∀r∈rows,r.length=l0) (hc:∀r∈rows,∀d∈r,d.l5=true) (T:∀r∈rows,∀d∈r,∀k∈d.y4,(lk s.H k).isSome=true) (O:pr=true->∀r∈rows,∀d∈r,d.y4=[])
 (G:n<=cap) (hcs:n≠0->cap*l0<=(vs++post).length) (h0:n=0->cap=0)
 (C:(execOp a.eval o).run P w=.ok (.value (.slice (some ⟨w.heap.size,0,none⟩) n cap)) (w'.alloc (.cells (vs++post).toArray et))) (U:m8 w w':=by exact⟨rfl,rfl,rfl⟩):
  Good P E s a w o dst (.u4 t n) (some ⟨rows,l0,et,pr⟩):=by
 subst M;subst hlen;have r0:=r.heap hw U;have hsz:w'.heap.size=w.heap.size:=by rw[hw]
 by_cases he:rows=[]
 subst he
 have r1:Rel E g s a (w'.alloc (.cells (vs++post).toArray et)):=r0.move (λ_ _=>rfl) (λ_ _=>⟨rfl,rfl⟩)
  (λi o x e=>by
   obtain⟨c',e',f,h1,Y⟩:=r0.kr i o x e
   grind [heap_alloc_old])
  (λb hb=>heap_alloc_old w' _ b hb) Wd
 obtain⟨g',h1,Y,r3⟩:=r1.fa (t:=t) (l0:=l0) (et:=et) pr V;refine⟨_,_,g',C,r3,⟨_,cap,rfl,G,.inl ⟨rfl,h0 rfl⟩⟩,λk hk=>?_⟩
 grind [D.ids,D.y4,St.j7,Qz]
 obtain⟨g',h1,Y,h3,h4,r'⟩:=r0.alloc (t:=t) (b:=⟨rows,l0,et,pr⟩) (c:=(vs++post).toArray) V hl O (.inl he)
  (H6 (post:=post) [] rows vs h hc Wd) T
 have hn0:rows.length≠0:=λh=>he (QEV h);refine⟨_,_,g',C,r',⟨_,cap,rfl,G,.inr (.inl ⟨w.heap.size,l0,by grind,by rw[h3],by grind⟩)⟩,λk hk=>?_⟩
 grind [D.ids,D.y4,St.j7,Qz]
theorem QkN (h:d.y4=[]):d.own=false:=by cases d<;>first |rfl |(trivial)
theorem TV {K':Kn} {B:Nat} {c:Array Value} (hle:g.K.le K') (C:∀o x,c[o]?=some x->K' B o=some x):∀{off:Nat} {ds:List D},j5 g c off ds->(∀d∈ds,d.y4=[])->o5 K' B off ds
 |_,[],_,_=>by trivial
 |off,d::ds,h,hs=>by
  simp only[j5]at h;simp only[o5];obtain⟨⟨T,x,O,M⟩,G⟩:=h;exact⟨⟨T,x,C _ _ O,s4.mono hle _ _ (M.oc (QkN (hs d Wd)))⟩,TV hle C G λy U=>hs y Wc⟩
theorem B8 {K':Kn} {B:Nat} {c:Array Value} (hle:g.K.le K') (C:∀o x,c[o]?=some x->K' B o=some x):∀{off:Nat} {rs:List (List D)},s5 g c off rs->(∀r∈rs,∀d∈r,d.y4=[])->j6 K' B off rs
 |_,[],_,_=>by trivial
 |off,r::rs,h,hs=>by
  simp only[s5]at h;simp only[j6];exact⟨TV hle C h.1 (hs r Wd),B8 hle C h.2 λy G=>hs y Wc⟩
theorem TD (hw:w'.heap=w.heap) (r:Rel E g s a w) (hlen:n=rows.length) (h:n5 g rows.flatten vs)
 (U:∀r∈rows,r.length=l0) (V:∀r∈rows,∀d∈r,d.l5=true) (M:∀r∈rows,∀d∈r,d.y4=[])
 (C:(execOp a.eval o).run P w=.ok (.value (.slice (some ⟨w.heap.size,0,none⟩) n n)) (w'.alloc (.cells (vs++[]).toArray et))) (O:m8 w w':=by exact⟨rfl,rfl,rfl⟩):
  Good P E s a w o dst (.u7 rows) none:=by
 subst hlen;have r0:=r.heap hw O;have T:w'.heap.size=w.heap.size:=by rw[hw]
 let K':Kn:=λb o=>if b=w.heap.size then(vs++[]).toArray[o]? else g.K b o
 have hle:g.K.le K':=λb o x hx=>by
  have:=r.kr.lt hx
  grind
 have r1:Rel E {g with K:=K'} s a (w'.alloc (.cells (vs++[]).toArray et)):=r0.move (λb hb=>by grind) (λ_ _=>⟨rfl,rfl⟩)
  (λi o x e=>by
   simp only[K']at e;split at e
   grind [heap_alloc_new]
   obtain⟨c',e',f,h1,Y⟩:=r0.kr i o x e
   grind [heap_alloc_old])
  (λb hb=>heap_alloc_old w' _ b hb) Wd
 have G:s4 K' (.u7 rows) (.slice (some ⟨w.heap.size,0,none⟩) rows.length rows.length):=by
  simp only[s4];refine⟨_,rfl,.inr ⟨w.heap.size,0,l0,rfl,U, ?_⟩⟩;exact B8 (g:=g) (c:=(vs++[]).toArray) hle (λo x hx=>(if_pos rfl).trans hx) (H6 (post:=[]) [] rows vs h V Wd) M
 refine⟨_,_,{g with K:=K'},C,by cases dst<;>exact r1,a7.of G,Has.of_nil rfl⟩
end
variable {e:Nat} {parts':List y5} {st:TypeId}
section
variable {P:Program} {E:Env} {g:Gh} {s:St} {a:Act} {w:World} {o:Oper} {dst:Option Nat}
def XB (s:St) (l0:Nat):List y5->Option (List (List D))
 |[]=>some []
 |x::r=>match s.ev x,XB s l0 r with
  |some d,some ds=>match d.cells with
   |some cs=>if cs.length=l0 then some (cs::ds)else none
   |none=>none
  |_,_=>none
def Xq:Nat->List (Nat × Operand)->Option (List y5)
 |_,[]=>some []
 |k,(i,x)::r=>if i=k then match QP x,Xq (k+1) r with
   |some x',some r'=>some (x'::r')
   |_,_=>none
  else none
theorem QaY (r:Rel E g s a w) (l0:Nat):∀(ps:List (Nat × Operand)) (k:Nat) (G:List y5) (rows:List (List D)) (cells:Array Value) (done rest:List Value),
  Xq k ps=some G->XB s l0 G=some rows->cells.toList=done++rest->done.length=k*l0->rest.length=ps.length*l0->
  ∃C vs,Instr.fill (λi=>some (i*l0,l0)) cells (ps.map λ(i,x)=>(i,a.eval x))=some C/\C.toList=done++vs/\n5 g rows.flatten vs/\
   (∀r∈rows,r.length=l0)/\(∀r∈rows,∀d∈r,d.l5=true)/\(∀r∈rows,∀d∈r,∀k∈d.y4,(lk s.H k).isSome=true)/\rows.length=ps.length
 |[],k,G,rows,cells,done,rest,T,M,h3,h4,h5=>by
  simp only[Xq,QEl]at T;subst T;simp only[XB,QEl]at M;subst M;have:rest=[]:=QEV Wc;subst this;exact⟨cells,[],rfl,h3,trivial,by simp,by simp,by simp,rfl⟩
 |(i,x)::ps,k,G,rows,cells,done,rest,T,M,h3,h4,h5=>by
  simp only[Xq]at T;split at T;rename_i hik;subst hik;split at T;rename_i x' r' e1 e2;cases T
  simp only[XB]at M;split at M;rename_i d ds f1 f2;split at M;rename_i cs U;split at M
  ·rename_i hlen;cases M
   obtain⟨g1,g2⟩:=Zy r e1 f1;obtain⟨vs,k1,k2,k3,_⟩:=NY U g1;have hvl:vs.length=l0:=by rw[k2.len];omega
   have hsid:∀y∈cs,∀k∈y.y4,(lk s.H k).isSome=true:=by
    intro y hy k hk;exact g2 k (NZ U y hy k hk)
   have hrl:rest.length=l0+ps.length*l0:=by grind
   have hsize:cells.size=i*l0+rest.length:=by
    have:=congrArg List.length h3;grind
   have O:((a.eval x).cells.zipIdx.foldl (λcs (p:Value × Nat)=>cs.setIfInBounds (i*l0+p.2) p.1) cells).toList=(done++vs)++rest.drop l0:=by
    rw[k1,<- Array.foldl_toList];have:=So (i*l0) vs 0 cells done (rest.take l0) (rest.drop l0) (by simp_all) Wa Wc
    grind
   obtain⟨C,V,m1,m2,m3,m4,m5,m6,m7⟩:=QaY r l0 ps (i+1) r' ds _ (done++vs) (rest.drop l0) e2 f2 O Wc Wc;refine⟨C,vs++V, ?_,by grind, ?_, ?_, ?_, ?_,by grind⟩;have Y:(a.eval x).cells.size=l0:=by grind
   have hb:¬(i*l0+l0>cells.size):=Wa;simp only[QEW,Instr.fill,Y,ne_eq,not_true,decide_false,QEX]
   grind
   rw[QEU];exact k2.append m3
   grind
   grind
   grind
  grind
  grind
  grind
  grind
  grind
theorem Sw {t:Nat} {parts:Array (Nat × Operand)} (r:Rel E g s a w) (ho:o.op=.buildSlice st n parts) (hu:P.underlying st=some (.slice e))
 (hs:XV P e=some l0) (U:(Fs P e).isSome=true) (hb:n*l0<=2 ^ 24) (hn0:n=parts.toList.length) (Y:Xq 0 parts.toList=some parts') (he:XB s l0 parts'=some rows) (O:dst=some t) (hn:lk s.H t=none):
  Good P E s a w o dst (.u4 t n) (some ⟨rows,l0,e,rows.all λr=>r.all λd=>d.y4.isEmpty⟩):=by
 obtain⟨zd,U⟩:=QEo.1 U;obtain⟨i,z,hi,T,_,_⟩:=XS U g.K;have hsz:i.size=l0:=by grind [XV]
 obtain⟨C,vs,m1,m2,m3,m4,m5,m6,m7⟩:=QaY r l0 parts.toList 0 parts' rows ((Array.range (n*l0)).map (z.cells[· % z.cells.size]!)) [] ((Array.range (n*l0)).map (z.cells[· % z.cells.size]!)).toList Y he Wd Wd Wc
 have M:Instr.fill (λi=>some (i*l0,l0)) ((Array.range (n*l0)).map (z.cells[· % z.cells.size]!)) (parts.map λ(i,x)=>(i,a.eval x)).toList=some C:=by
  (repeat clear hK K);simp_all
 have hc:C=(vs++[]).toArray:=by grind
 have hlv:vs.length=n*l0:=by
  rw[m3.len]
  have:∀(l:List (List D)),(∀r∈l,r.length=l0)->l.flatten.length=l.length*l0:=by
   intro l
   induction l with
   |nil=>simp
   |cons x xs ih=>grind
  grind
 refine Kc (w':=w) (vs:=vs) (post:=[]) (cap:=n) rfl r O hn Wa m3 m4 m5 m6 ?_ (QEI _) (λ_=>by grind) (λh=>h) ?_;simp;have hnb:¬(16777216<n*l0):=Wa
 by_cases h0:n*l0=0
 have V:Array.range (n*l0)=#[]:=by grind
 rw[V]at M;simp only[Array.map_empty]at M;simp[execOp,ho,Instr.buildSlice,underlying,hu,ZH hs,h0,newRow];simp only[Array.range_zero',Array.map_empty]
 (repeat clear hK K);simp_all
 have G:=M;rw[QET]at G;simp[execOp,ho,Instr.buildSlice,underlying,hu,ZH hs,h0,hnb,zeroValue,typeInfo,hi,T,newRow,G,hc]
theorem PT {parts:Array (Nat × Operand)} (r:Rel E g s a w) (ho:o.op=.buildSlice st n parts) (hu:P.underlying st=some (.slice e))
 (hs:XV P e=some l0) (T:(Fs P e).isSome=true) (hb:n*l0<=2 ^ 24) (hn0:n=parts.toList.length) (Y:Xq 0 parts.toList=some parts') (he:XB s l0 parts'=some rows) (V:(rows.all λr=>r.all λd=>d.y4.isEmpty)=true):
  Good P E s a w o dst (.u7 rows) none:=by
 obtain⟨zd,T⟩:=QEo.1 T;obtain⟨i,z,hi,O,_,_⟩:=XS T g.K;have hsz:i.size=l0:=by grind [XV]
 obtain⟨C,vs,m1,m2,m3,m4,m5,m6,m7⟩:=QaY r l0 parts.toList 0 parts' rows ((Array.range (n*l0)).map (z.cells[· % z.cells.size]!)) [] ((Array.range (n*l0)).map (z.cells[· % z.cells.size]!)).toList Y he Wd Wd Wc
 have M:Instr.fill (λi=>some (i*l0,l0)) ((Array.range (n*l0)).map (z.cells[· % z.cells.size]!)) (parts.map λ(i,x)=>(i,a.eval x)).toList=some C:=by
  (repeat clear hK K);simp_all
 have hc:C=(vs++[]).toArray:=by grind
 have hlv:vs.length=n*l0:=by
  rw[m3.len]
  have:∀(l:List (List D)),(∀r∈l,r.length=l0)->l.flatten.length=l.length*l0:=by
   intro l
   induction l with
   |nil=>simp
   |cons x xs ih=>grind
  grind
 refine TD (n:=n) (et:=e) (w':=w) (vs:=vs) rfl r Wa m3 m4 m5 (λr0 hr d hd=>by grind) ?_;have hnb:¬(16777216<n*l0):=Wa
 by_cases h0:n*l0=0
 have U:Array.range (n*l0)=#[]:=by grind
 rw[U]at M;simp only[Array.map_empty]at M;simp[execOp,ho,Instr.buildSlice,underlying,hu,ZH hs,h0,newRow];simp only[Array.range_zero',Array.map_empty]
 (repeat clear hK K);simp_all
 have G:=M;rw[QET]at G;simp[execOp,ho,Instr.buildSlice,underlying,hu,ZH hs,h0,hnb,zeroValue,typeInfo,hi,O,newRow,G,hc]
end
variable {bytes et t:Nat} {i:TypeInfo} {ky:IntKind} {zd:List D}
section
variable {P:Program} {E:Env} {g:Gh} {s:St} {a:Act} {w:World} {o:Oper} {dst:Option Nat}
theorem N4 {l0:Nat}:∀{l:List (List D)},(∀r∈l,r.length=l0)->l.flatten.length=l.length*l0
 |[],_=>by simp
 |x::xs,h=>by
  rw[QEU,QEY,h x Wd,N4 λr hr=>h r Wc,QEZ,Nat.succ_mul];omega
theorem KS {B off:Nat} {cells:List D} (h:a6 g w B off cells):∃cs:List Value,cs.length=cells.length/\n5 g cells cs/\∀j v,cs[j]?=some v->w.cell? ((⟨B,off,none⟩:Addr).add j)=some v:=by
 obtain⟨cs,M,G,_,C⟩:=h
 grind [add_lit]
theorem Sv {ty:TypeId} {rows ys:List (List D)} {pr:Bool} {d:D} (r:Rel E g s a w)
 (ho:o.op=.call {callee:=.builtin .append,args:=#[x,y],argTypes:=#[st,st]}) (hty:o.type=ty) (hx:QP x=some x') (hy:QP y=some y')
 (hu:P.underlying st=some (.slice et)) (hi:P.info? et=some i) (hsz:i.size=l0) (hby:i.bytes=bytes) (hz:Fs P et=some zd) (hzl:zd.length=l0)
 (he:s.ev x'=some (.u7 rows)) (hf:s.ev y'=some d) (V:s.src l0 d ys pr) (hne:rows=[]\/ys≠[]) (hl:∀r∈rows,r.length=l0) (hb:(rows.length+ys.length)*bytes<=140737488355328) (hm:rows.length+ys.length<=4611686018427387904)
 (C:dst=some t) (hn:lk s.H t=none):
  Good P E s a w o dst (.u4 t (rows.length+ys.length)) (some ⟨rows++ys,l0,et,pr⟩):=by
 have h1:=(Zy r hx he).1;simp only[a7,z4,s4]at h1;obtain⟨a1,U,hrep⟩:=h1;obtain⟨a0,cap,T,hcap,hat,hly,hidy,hpry,hcy⟩:=MI r (Zy r hy hf).1 V;obtain⟨i',z,hi',hzz,hzr,_⟩:=XS hz g.K;rw[hi]at hi';cases hi'
 have hzc:z.cells.size=l0:=by
  have:=(n5.cb (g:=g) hzr).1.len
  grind
 have run:∀v w',(Builtin.append_ #[st,st] ty #[a.eval x,a.eval y]).run P w=.ok v w'->(execOp a.eval o).run P w=.ok (.value v) w':=λv w' h=>by
  (repeat clear hK K);simp_all [execOp,resolve,invoke,builtin]
 subst hsz;subst hby
 by_cases hys:ys=[]
 subst hys;have hr:rows=[]:=hne.resolve_right Wd;subst hr
 -- nothing at all
 have Y:(execOp a.eval o).run P w=.ok (.value (.slice a1 0 0)) w:=by
  refine run _ _ ?_;rw[U,T]
  have hfc:(Builtin.firstCells i.size 0 (.slice a0 0 cap)).run P w=.ok #[] w:=by
   cases a0 with
   |none=>rfl
   |some b=>simp[Builtin.firstCells,loadCells,loadCellsFrom]
  cases a1 with
  |none=>simp[Builtin.append_,underlying,hu,sizeOf,typeInfo,hi,Builtin.lenOf,hfc]
  |some b=>simp[Builtin.append_,underlying,hu,sizeOf,typeInfo,hi,Builtin.lenOf,hfc,storeCells]
 subst C;obtain⟨g',h1,h2,r2⟩:=r.fa (t:=t) (l0:=i.size) (et:=et) pr hn;refine⟨_,w,g',Y, ?_,⟨a1,0,rfl,QEI _,.inl ⟨rfl,rfl⟩⟩,λk hk=>?_⟩;trivial
 grind [D.ids,D.y4,St.j7,Qz]
 -- a new block
 have hyl:0<ys.length:=QE0.2 hys;obtain⟨B,off,rfl,hat2⟩:=hat.resolve_left hys;obtain⟨ns,hn1,hn2,hn3⟩:=KS hat2;have hnl:ns.length=ys.length*i.size:=by grind [N4]
 have M:∃os:List Value,n5 g rows.flatten os/\os.length=rows.length*i.size/\(∀r∈rows,∀d∈r,d.l5=true)/\(∀r∈rows,∀d∈r,d.y4=[])/\
   (Builtin.append_ #[st,st] ty #[a.eval x,a.eval y]).run P w=.ok (.slice (some ⟨w.heap.size,0,none⟩) (rows.length+ys.length) (grownCap w (rows.length+ys.length) rows.length et))
    (w.drew.alloc (.cells (os.toArray++ns.toArray++Builtin.zeroCells z.cells (grownCap w (rows.length+ys.length) rows.length et - (rows.length+ys.length))) et)):=by
  rw[U,T];rcases hrep with rfl |⟨b,O,e,rfl,h4,h5⟩
  refine⟨[],trivial,by simp,by simp,by simp, ?_⟩;cases a1 with
  |none=>
   grind [run_append_nil]
  |some b=>
   grind [run_append_grow,growslice_fits]
  have G:=J8 r.kr b O rows h5;obtain⟨os,ho1,ho2,ho3⟩:=KS G;have hol:os.length=rows.length*i.size:=by grind [N4]
  refine⟨os,ho2,hol,λr0 hr d hd=>G.choose_spec.2.2.1 d (List.mem_flatten.2 ⟨r0,hr,hd⟩),Ko h5, ?_⟩
  grind [run_append_grow,growslice_fits]
 obtain⟨os,o1,o2,o3,o4,hr⟩:=M;have hge:=grownCap_ge w (rows.length+ys.length) rows.length et
 refine Kc (w':=w.drew) (vs:=os++ns) (post:=(Builtin.zeroCells z.cells (grownCap w (rows.length+ys.length) rows.length et - (rows.length+ys.length))).toList) (cap:=grownCap w (rows.length+ys.length) rows.length et) rfl r C hn Wd
  (by rw[List.flatten_append];exact o1.append hn2) ?_ ?_ ?_ ?_ hge ?_ (λh=>Wa) ?_
 grind
 grind
 grind
 grind
 intro _;simp only[QEY,o2,hnl,QE1,size_zeroCells,hzc];rw[<- QE2,<- QE2,Nat.add_sub_cancel' hge];omega;rw[run _ _ hr]
 congr 2
 simp
theorem Qg1 {z:Value} (G:n5 g zd z.cells.toList) (C:z.cells.size=l0):(∀n,n5 g (List.replicate n zd).flatten (List.replicate n z.cells.toList).flatten)/\(∀n,((List.replicate n z.cells.toList).flatten++([]:List Value)).length=n*l0)/\∀n,(madeCells z.cells (n*l0)).toList=(List.replicate n z.cells.toList).flatten:=by
 have U:∀n,n5 g (List.replicate n zd).flatten (List.replicate n z.cells.toList).flatten:=by
  intro n
  induction n with
  |zero=>trivial
  |succ n ih=>rw[QE3,QE3,QEU,QEU];exact G.append ih
 have O:∀n,((List.replicate n z.cells.toList).flatten++([]:List Value)).length=n*l0:=by
  (repeat clear hK K);simp_all
 have M:∀n,(madeCells z.cells (n*l0)).toList=(List.replicate n z.cells.toList).flatten:=by
  intro n
  have hlen:∀n,(List.replicate n z.cells.toList).flatten.length=n*l0:=by
   grind
  apply List.ext_getElem?;intro j
  by_cases hj:j<n*l0
  have hp:0<l0:=by
   grind
  simp only[madeCells,QET,QE4,Array.toList_range,QE5 hj,QE6,C];have T:j % l0<z.cells.size:=by simp_all [Nat.mod_lt]
  rw[getElem!_pos z.cells _ T]
  have:∀n j,j<n*l0->(List.replicate n z.cells.toList).flatten[j]?=some (z.cells[j % l0]'(by simp_all [Nat.mod_lt])):=by
   intro n
   induction n with
   |zero=>omega
   |succ n ih=>
    intro j h;rw[QE3,QEU]
    by_cases hlt:j<l0
    grind [Nat.mod_eq_of_lt]
    grind [Nat.mod_eq_sub_mod]
  grind
  grind [madeCells]
 grind
theorem TC {kx:IntKind} (r:Rel E g s a w)
 (ho:o.op=.makeSlice st x y) (hx:QP x=some x') (hy:QP y=some y')
 (hu:P.underlying st=some (.slice et)) (hi:P.info? et=some i) (hsz:i.size=l0) (hby:i.bytes=bytes) (hz:Fs P et=some zd) (hzl:zd.length=l0)
 (he:s.ev x'=some (.int kx n)) (hf:s.ev y'=some (.int ky n)) (hb:n*bytes<=281474976710656) (hm:n<=4611686018427387904) (T:dst=some t) (hn:lk s.H t=none):
  Good P E s a w o dst (.u4 t n) (some ⟨List.replicate n zd,l0,et,true⟩):=by
 obtain⟨i',z,hi',V,Y,hzid⟩:=XS hz g.K;rw[hi]at hi';cases hi';obtain⟨O,U⟩:=n5.cb (g:=g) Y;have hzc:z.cells.size=l0:=by have:=O.len;grind
 subst hsz;subst hby;have C:=run_make (P:=P) w st et i z hu hi V kx ky n n Wa (Int.le_refl _) Wc Wa
 have M:∀n,n5 g (List.replicate n zd).flatten (List.replicate n z.cells.toList).flatten:=by
  intro n
  induction n with
  |zero=>trivial
  |succ n ih=>rw[QE3,QE3,QEU,QEU];exact O.append ih
 have G:∀n,((List.replicate n z.cells.toList).flatten++([]:List Value)).length=n*i.size:=by
  (repeat clear hK K);simp_all
 have hmade:∀n,(madeCells z.cells (n*i.size)).toList=(List.replicate n z.cells.toList).flatten:=by
  intro n
  have hlen:∀n,(List.replicate n z.cells.toList).flatten.length=n*i.size:=by
   grind
  apply List.ext_getElem?;intro j
  by_cases hj:j<n*i.size
  have hp:0<i.size:=by
   grind
  simp only[madeCells,QET,QE4,Array.toList_range,QE5 hj,QE6,hzc];have hjm:j % i.size<z.cells.size:=by simp_all [Nat.mod_lt]
  rw[getElem!_pos z.cells _ hjm]
  have:∀n j,j<n*i.size->(List.replicate n z.cells.toList).flatten[j]?=some (z.cells[j % i.size]'(by simp_all [Nat.mod_lt])):=by
   intro n
   induction n with
   |zero=>omega
   |succ n ih=>
    intro j h;rw[QE3,QEU]
    by_cases hlt:j<i.size
    grind [Nat.mod_eq_of_lt]
    grind [Nat.mod_eq_sub_mod]
  grind
  grind [madeCells]
 refine Kc (w':=w) (vs:=(List.replicate n z.cells.toList).flatten) (post:=[]) (cap:=n) rfl r T hn Wd (M n) ?_ ?_ ?_ ?_ (QEI _) (λ_=>Nat.le_of_eq (G n).symm) (λh=>h) ?_
 grind
 grind
 grind
 grind
 have e:((List.replicate n z.cells.toList).flatten++[]).toArray=madeCells z.cells (n*i.size):=by
  grind
 rw[e];simp only[Int.toNat_natCast]at C;simp[execOp,ho,KF r hx he,KF r hy hf,C]
theorem Qgj {it ty:TypeId} {kt:IntKind} (r:Rel E g s a w)
 (ho:o.op=.call {callee:=.builtin .append,args:=#[x,y],argTypes:=#[st,it]}) (hty:o.type=ty) (hx:QP x=some x') (hy:QP y=some y')
 (hu:P.underlying st=some (.slice et)) (pg:P.underlying it=some (.int kt)) (hi:P.info? et=some i) (hsz:i.size=l0) (hby:i.bytes=bytes) (hz:Fs P et=some zd) (hzl:zd.length=l0)
 (he:s.ev x'=some (.u7 [])) (hf:s.ev y'=some (.int ky n)) (h0:0<n) (hb:n*bytes<=140737488355328) (hm:n<=4611686018427387904) (hdst:dst=some t) (hn:lk s.H t=none):
  Good P E s a w o dst (.u4 t n) (some ⟨List.replicate n zd,l0,et,true⟩):=by
 obtain⟨i',z,hi',V,hzr,hzid⟩:=XS hz g.K;rw[hi]at hi';cases hi';obtain⟨Y,hzcell⟩:=n5.cb (g:=g) hzr;have hzc:z.cells.size=l0:=by have:=Y.len;grind
 obtain⟨U,G,hmade⟩:=Qg1 Y hzc;subst hsz;subst hby;have T:=(Zy r hx he).1;simp only[a7,z4,s4]at T;obtain⟨a1,T,_⟩:=T;have hyv:=KF r hy hf;have hge:=grownCap_ge w n 0 et
 have hzc2:∀m,(Builtin.zeroCells z.cells m).toList=(List.replicate m z.cells.toList).flatten:=λm=>by
  grind [Builtin.zeroCells,madeCells]
 have C:IntKind.i64.wrap ((n:Nat):Int)=(n:Int):=by
  unfold IntKind.wrap;simp only[IntKind.bits,IntKind.signed,QE7]
  grind
 have hfc:(Builtin.firstCells i.size 0 (.slice a1 0 0)).run P w.drew=.ok #[] w.drew:=by
  cases a1 with
  |none=>rfl
  |some b=>simp[Builtin.firstCells,loadCells,loadCellsFrom]
 have M:¬(9223372036854775807<(n:Int)):=Wa;have hne:n≠0:=Wa;have h48:¬(281474976710656<n*i.bytes):=Wa;have O:¬(281474976710656<(n:Int)*(i.bytes:Int)):=Wa;have hns:Builtin.nextslicecap n 0=n:=nextslicecap_zero h0;have hng:¬((n:Int)<0):=Wa
 have hrun:(execOp a.eval o).run P w=.ok (.value (.slice (some ⟨w.heap.size,0,none⟩) n (grownCap w n 0 et))) (w.drew.alloc (.cells ((List.replicate n z.cells.toList).flatten++(List.replicate (grownCap w n 0 et - n) z.cells.toList).flatten).toArray et)):=by
  have e1:(Builtin.append_ #[st,it] ty #[.slice a1 0 0,.int ky n]).run P w=.ok (.slice (some ⟨w.heap.size,0,none⟩) n (grownCap w n 0 et)) (w.drew.alloc (.cells (Builtin.zeroCells z.cells n++Builtin.zeroCells z.cells (grownCap w n 0 et - n)) et)):=by
   by_cases hns0:n*i.size=0
   have e0:Builtin.zeroCells z.cells n=#[]:=by grind
   simp[Builtin.append_,run_underlying hu,run_underlying pg,sizeOf,typeInfo,zeroValue,hi,V,asInt,asIntOf,C,hng,hne,M,h48,O,hns,hfc,Question.forced,newRow,grownCap,e0,hns0];simp[Builtin.append_,run_underlying hu,run_underlying pg,sizeOf,typeInfo,zeroValue,hi,V,asInt,asIntOf,C,hng,hne,M,h48,O,hns,hfc,Question.forced,newRow,grownCap,hns0]
  have e2:(Builtin.zeroCells z.cells n++Builtin.zeroCells z.cells (grownCap w n 0 et - n))=((List.replicate n z.cells.toList).flatten++(List.replicate (grownCap w n 0 et - n) z.cells.toList).flatten).toArray:=by
   grind
  (repeat clear hK K);simp_all [execOp,resolve,invoke,builtin]
 refine Kc (w':=w.drew) (vs:=(List.replicate n z.cells.toList).flatten) (post:=(List.replicate (grownCap w n 0 et - n) z.cells.toList).flatten) (cap:=grownCap w n 0 et) rfl r hdst hn Wd (U n) ?_ ?_ ?_ ?_ hge ?_ (λh=>Wa) hrun
 grind
 grind
 grind
 grind
 intro _;have q1:=G n;have q2:=G (grownCap w n 0 et - n);simp only[QEN]at q1 q2;rw[QEY,q1,q2,<- QE2,Nat.add_sub_cancel' hge];omega
end
variable {h k l m:Nat} {et:TypeId} {hi lo mx:Option Operand} {hi' lo' mx':Option y5}
section
variable {P:Program} {E:Env} {g:Gh} {s:St} {a:Act} {w:World} {o:Oper} {dst:Option Nat}
def St.bd (s:St) (x:Option y5) (dflt n:Nat):Prop:=
 match x with
 |none=>n=dflt
 |some y=>∃k m,s.ev y=some (.int k m)/\0<=m/\n=m.toNat
def ZX:Option Operand->Option (Option y5)
 |none=>some none
 |some x=>(QP x).map some
theorem LQ (r:Rel E g s a w) {x:Option Operand} {x':Option y5} (hx:ZX x=some x') {C:Nat} (h:s.bd x' C n):
  (x=none/\n=C)\/∃y k m,x=some y/\a.eval y=.int k m/\0<=m/\n=m.toNat:=by
 cases x with
 |none=>simp only[ZX,QEl]at hx;subst hx;exact .inl ⟨rfl,h⟩
 |some y=>
  simp only[ZX,QEh]at hx;obtain⟨y',T,rfl⟩:=hx;obtain⟨k,m,O,M,G⟩:=h;exact .inr ⟨y,k,m,rfl,KF r T O,M,G⟩
theorem Jr (r:Rel E g s a w) (V:ZX lo=some lo') (Y:ZX hi=some hi') (C:ZX mx=some mx') {isS:Bool} {len cap:Nat}
 (bl:s.bd lo' 0 l) (bh:s.bd hi' len h) (bm:s.bd mx' cap m) (h1:l<=h) (h2:h<=m) (h3:m<=cap) (U:mx'.isSome=true->hi'.isSome=true):
  (Instr.sliceBounds isS len cap (lo.map a.eval) (hi.map a.eval) (mx.map a.eval)).run P w=.ok (l,h,m) w:=by
 have hmh':mx.isSome=true->hi.isSome=true:=by
  cases mx with
  |none=>simp
  |some y=>
   intro _;simp only[ZX,QEh]at C;obtain⟨y',_,rfl⟩:=C;have:=U rfl;cases hi with
   |none=>grind [ZX]
   |some=>rfl
 rcases LQ r V bl with⟨rfl,el⟩ |⟨y1,k1,m1,rfl,e1,p1,el⟩<;>rcases LQ r Y bh with⟨rfl,O⟩ |⟨y2,T,G,rfl,e2,p2,O⟩<;>rcases LQ r C bm with⟨rfl,em⟩ |⟨y3,k3,M,rfl,e3,p3,em⟩
 (repeat clear hK K);simp_all [Instr.sliceBounds]
 grind
 (repeat clear hK K);simp_all [run_sliceBound,Instr.sliceBounds]
 subst el;subst O;subst em;have b3:=λc=>run_sliceBound (P:=P) w k3 M cap c p3 Wa;have b2:=λc=>run_sliceBound (P:=P) w T G M.toNat c p2 Wa
 (repeat clear hK K);simp_all [Instr.sliceBounds]
 (repeat clear hK K);simp_all [run_sliceBound,Instr.sliceBounds]
 grind
 subst el;subst O;subst em;have b2:=λc=>run_sliceBound (P:=P) w T G m c p2 Wa;have b1:=λc=>run_sliceBound (P:=P) w k1 m1 G.toNat c p1 Wa
 (repeat clear hK K);simp_all [Instr.sliceBounds]
 subst el;subst O;subst em;have b3:=λc=>run_sliceBound (P:=P) w k3 M cap c p3 Wa;have b2:=λc=>run_sliceBound (P:=P) w T G M.toNat c p2 Wa;have b1:=λc=>run_sliceBound (P:=P) w k1 m1 G.toNat c p1 Wa
 (repeat clear hK K);simp_all [Instr.sliceBounds]
theorem Te {K:Kn} {b:Nat}:∀{off:Nat} {rows:List (List D)} (n:Nat),j6 K b off rows->j6 K b off (rows.take n)
 |_,_,0,_=>by trivial
 |_,[],_+1,_=>by grind
 |off,r::rs,n+1,h=>by
  simp only[j6,List.take_succ_cons]at h ⊢;exact⟨h.1,Te n h.2⟩
theorem Td {K:Kn} {b l0:Nat}:∀{off:Nat} {rows:List (List D)} (n:Nat),(∀r∈rows,r.length=l0)->n<=rows.length->j6 K b off rows->j6 K b (off+n*l0) (rows.drop n)
 |off,rows,0,_,_,h=>by grind
 |_,[],n+1,_,hn,_=>by grind
 |off,r::rs,n+1,hl,hn,h=>by
  simp only[j6]at h;have:=Td (l0:=l0) n (λr hr=>hl r Wc) Wc h.2
  grind
theorem T9 {d:D} (r:Rel E g s a w)
 (ho:o.op=.slice st x lo hi mx) (hx:QP x=some x') (O:ZX lo=some lo') (T:ZX hi=some hi') (M:ZX mx=some mx') (hu:P.underlying st=some (.slice et)) (hs:XV P et=some l0)
 (he:s.ev x'=some d) (hd:d=.sl rows\/d=.u7 rows) (bl:s.bd lo' 0 l) (bh:s.bd hi' rows.length h) (h1:l<=h) (h2:h<=rows.length) (hl:∀r∈rows,r.length=l0):
  (mx'=none->Good P E s a w o dst (.sl ((rows.take h).drop l)) none)/\
  (s.bd mx' 0 m->mx'.isSome=true->hi'.isSome=true->m=h->Good P E s a w o dst (.u7 ((rows.take h).drop l)) none):=by
 have hv:=(Zy r hx he).1
 have base:∃U cap,a.eval x=.slice U rows.length cap/\rows.length<=cap/\(rows=[]\/∃b off,U=some ⟨b,off,none⟩/\j6 g.K b off rows):=by
  rcases hd with rfl |rfl
  grind [a7,z4,s4]
  simp only[a7,z4,s4]at hv
  grind
 obtain⟨U,cap,hv,hcap,G⟩:=base
 have run:∀m,(Instr.sliceBounds true rows.length cap (lo.map a.eval) (hi.map a.eval) (mx.map a.eval)).run P w=.ok (l,h,m) w->
   (execOp a.eval o).run P w=.ok (.value (.slice (if m=l then U else U.map (·.add (l*l0))) (h - l) (m - l))) w:=λm hb=>by
  (repeat clear hK K);simp_all [execOp,Instr.sliceAt,Instr.slice,underlying,ZH]
 have hlen:((rows.take h).drop l).length=h - l:=by grind
 constructor;rintro rfl;refine Good.of r (run cap (Jr r O T M bl bh rfl h1 Wa (QEI _) Wd)) ?_ (Has.of_nil rfl);simp only[a7,z4,s4];refine⟨_,cap - l,by rw[hlen],Wa, ?_⟩
 by_cases hlh:l=h
 grind
 rcases G with rfl |⟨b',C,rfl,hr⟩;simp;refine .inr ⟨b',C+l*l0,l0,by rw[if_neg Wa];simp[add_lit],λr hr=>hl r (QEC (QEL hr)), ?_⟩
 grind [Td,Te]
 intro bm hms Y V;subst V
 have bm':s.bd mx' cap m:=by
  cases mx' with
  |none=>grind
  |some=>exact bm
 refine Good.of r (run m (Jr r O T M bl bh bm' h1 (QEI _) Wa (λ_=>Y))) ?_ (Has.of_nil rfl);simp only[a7,z4,s4];refine⟨_,by rw[hlen], ?_⟩
 by_cases hlh:l=m
 grind
 rcases G with rfl |⟨b',C,rfl,hr⟩;simp;refine .inr ⟨b',C+l*l0,l0,by rw[if_neg Wa];simp[add_lit],λr hr=>hl r (QEC (QEL hr)), ?_⟩
 grind [Td,Te]
theorem Qa6 (r:Rel E g s a w)
 (ho:o.op=.slice st x lo hi mx) (hx:QP x=some x') (M:ZX lo=some lo') (O:ZX hi=some hi') (G:ZX mx=some mx') (hu:P.underlying st=some (.slice et)) (hs:XV P et=some l0)
 (he:s.ev x'=some (.u7 rows)) (bl:s.bd lo' 0 0) (bh:s.bd hi' rows.length rows.length) (hm:mx'=none):Good P E s a w o dst (.u7 rows) none:=by
 have C:=(Zy r hx he).1;simp only[a7,z4,s4]at C;obtain⟨T,C,Y⟩:=C;subst hm;have hb:=Jr (P:=P) r (isS:=true) (cap:=rows.length) M O G bl bh rfl (QEu _) (QEI _) (QEI _) Wd
 have run:(execOp a.eval o).run P w=.ok (.value (.slice (if rows.length=0 then T else T.map (·.add (0*l0))) rows.length rows.length)) w:=by
  (repeat clear hK K);simp_all [execOp,Instr.sliceAt,Instr.slice,underlying,ZH]
 refine Good.of r run ?_ (Has.of_nil rfl);simp only[a7,z4,s4];refine⟨_,rfl,Y.imp id ?_⟩;rintro⟨b,off,e,rfl,V,U⟩;refine⟨b,off,e, ?_,V,U⟩
 grind [add_lit]
theorem Qa7 (r:Rel E g s a w)
 (ho:o.op=.slice st x lo hi mx) (hx:QP x=some x') (M:ZX lo=some lo') (T:ZX hi=some hi') (G:ZX mx=some mx') (hu:P.underlying st=some (.slice et)) (hs:XV P et=some l0)
 (he:s.ev x'=some (.u4 k n)) (bl:s.bd lo' 0 0) (bh:s.bd hi' n m) (C:m<=n) (hm:mx'=none):Good P E s a w o dst (.u4 k m) none:=by
 obtain⟨⟨Y,cap,hv,U,h4⟩,O⟩:=Zy r hx he;subst hm;have hb:=Jr (P:=P) r (isS:=true) (cap:=cap) M T G bl bh rfl (QEu _) (QEB C U) (QEI _) Wd
 have run:(execOp a.eval o).run P w=.ok (.value (.slice (if cap=0 then Y else Y.map (·.add (0*l0))) m cap)) w:=by
  (repeat clear hK K);simp_all [execOp,Instr.sliceAt,Instr.slice,underlying,ZH]
 refine Good.of r run ⟨_,cap,rfl,QEB C U, ?_⟩ (λj hj=>O j hj);rcases h4 with⟨h,h2⟩ |⟨B,V,h1,rfl,h3⟩ |hg
 omega
 grind [add_lit]
 grind
theorem Qa8 (r:Rel E g s a w)
 (ho:o.op=.slice st x lo hi mx) (hx:QP x=some x') (G:ZX lo=some lo') (T:ZX hi=some hi') (C:ZX mx=some mx') (hu:P.underlying st=some (.slice et)) (hs:XV P et=some l0)
 (he:s.ev x'=some (.u4 k n)) (bl:s.bd lo' 0 l) (bh:s.bd hi' n n) (M:l<=n) (hm:mx'=none):Good P E s a w o dst (.la k l (l*l0) (n - l)) none:=by
 obtain⟨⟨V,cap,Y,hc,h4⟩,O⟩:=Zy r hx he;subst hm;have hb:=Jr (P:=P) r (isS:=true) (cap:=cap) G T C bl bh rfl M hc (QEI _) Wd
 have run:(execOp a.eval o).run P w=.ok (.value (.slice (if cap - l=0 then V else V.map (·.add (l*l0))) (n - l) (cap - l))) w:=by
  simp[execOp,ho,Y,Instr.sliceAt,Instr.slice,underlying,hu,hb,ZH hs]
  grind
 refine Good.of r run ⟨_,cap - l,rfl,Wa, ?_⟩ (λj hj=>O j hj)
 by_cases hz:cap - l=0
 omega;rw[if_neg hz];rcases h4 with⟨h,h2⟩ |⟨B,U,h1,rfl,h3⟩ |hg
 omega
 grind [add_lit]
 grind
theorem Df {c:List UInt8} (r:Rel E g s a w)
 (ho:o.op=.slice st x lo hi none) (hx:QP x=some x') (G:ZX lo=some lo') (M:ZX hi=some hi') (hu:P.underlying st=some .string)
 (he:s.ev x'=some (.str c)) (bl:s.bd lo' 0 l) (U:s.bd hi' c.length h) (T:l<=h) (O:h<=c.length):Good P E s a w o dst (.str ((c.take h).drop l)) none:=by
 refine Good.str r ?_;have C:(ByteArray.mk c.toArray).size=c.length:=by rfl
 have hb:=Jr (P:=P) (isS:=false) (mx:=none) (mx':=none) (cap:=c.length) (m:=c.length) r G M rfl bl U rfl T O (QEI _) Wd
 have hex:(ByteArray.mk c.toArray).extract l h=ByteArray.mk ((c.take h).drop l).toArray:=by
  apply ByteArray.ext
  grind [ByteArray.data_extract]
 simp only[Option.map_none]at hb;simp[execOp,ho,D7 r hx he,Instr.sliceAt,Instr.slice,underlying,hu,C,hb,hex]
end
variable {b:x4} {c:Array Value} {i p:Nat} {l:List UInt8} {t:TypeId}
section
variable {P:Program} {E:Env} {g:Gh} {s:St} {a:Act} {w:World} {o:Oper} {dst:Option Nat}
theorem Rel.sf {B:Nat} {b':x4} {c':Array Value} {w':World} (r:Rel E g s a w) (hb:lk s.H k=some b) (hβ:g.β k=some (B,b.l0)) (_hB:w.heap[B]?=some (.cells c b.et (0,0)))
 (hcs:c'.size=c.size) (hσ:c.size=(g.σ k).1) (hK:∀o,g.K B o=none) (V:E.B0<=B\/E.fo B) (he:b'.l0=b.l0) (hB':w'.heap[B]?=some (.cells c' b'.et (0,0))) (G:∀i,i≠B->w'.heap[i]?=w.heap[i]?) (hsz:w'.heap.size=w.heap.size)
 (U:∀r∈b'.rows,r.length=b'.l0) (hpr:b'.pr=true->∀r∈b'.rows,∀d∈r,d.y4=[]) (hne:b'.rows≠[]\/b'.l0≠0) (hc:s5 g c' (g.σ k).2 b'.rows)
 (hid:∀r∈b'.rows,∀d∈r,∀j∈d.y4,(lk s.H j).isSome=true) (hfx:m8 w w':=by exact⟨rfl,rfl,rfl⟩):Rel E g {s with H:=(k,b')::s.H} a w':=by
 have C:∀j,(lk ((k,b')::s.H) j).isSome=(lk s.H j).isSome:=λj=>by
  grind [Qz]
 have hlt:∀j b1 B1 e1,lk s.H j=some b1->j≠k->g.β j=some (B1,e1)->B1≠B:=λj b1 B1 e1 O M T Y=>by
  subst Y;exact M (r.inj j k b1 b B1 _ _ O hb T hβ)
 refine⟨r.nt,r.df.of rfl (λD hD=>by
  grind [JN]),r.fr,λt d h j hj=>(C j).trans (r.da t d h j hj),λj b1 h i hi=>?_,λj b1 h=>?_,λj j' b1 b2 B1 e e' O M T Y=>?_, ?_,⟨by rw[hsz];exact r.ext.1,λi hi hf=>?_,r.ext.2.2.trans hfx⟩,r.kx,λk hk=>let⟨O,M,T,Y⟩:=r.kp k hk;⟨O,M,T,(C k).trans Y⟩⟩
 rw[Qz]at h;rw[C];split at h;cases h
 grind [x4.ids]
 exact r.x9 j b1 h i hi;rw[Qz]at h;split at h;rename_i e;cases h;subst e;exact⟨U,hpr,.inr ⟨hne,B,c',by grind,hB',hcs.trans hσ,hc,hK,V⟩⟩;rename_i e;obtain⟨O,M,T⟩:=r.bx j b1 h;refine⟨O,M,T.imp (λ⟨x,y⟩=>⟨x,y.imp id λ⟨i1,i2,i3,sv,p,B1,i4,i5,i6,i7,i8⟩=>⟨i1,i2,i3,sv,p,B1,i4,i5,(G B1 (hlt j b1 B1 _ h (Ne.symm e) i5)).trans i6,i7,i8⟩⟩) ?_⟩
 grind
 have key:∀j b1,lk ((k,b')::s.H) j=some b1->∃b2,lk s.H j=some b2:=λj b1 h=>by
  grind [Option.isSome_iff_exists]
 obtain⟨b3,h5⟩:=key j b1 O;obtain⟨b4,h6⟩:=key j' b2 M;exact r.inj j j' b3 b4 B1 e e' h5 h6 T Y;intro i q x hx;obtain⟨c1,e1,f1,O,M⟩:=r.kr i q x hx
 grind
 have:i≠B:=λe=>by
  grind
 exact(G i this).trans (r.ext.2.1 i hi hf)
theorem GZ {c:Array Value}:∀{off:Nat} {ds:List D},j5 g c off ds->∀j d,ds[j]?=some d->d.l5=true/\∃x,c[off+j]?=some x/\z4 g d x
 |_,[],_,j,d,h=>by grind
 |off,x::xs,h,j,d,hd=>by
  simp only[j5]at h;cases j with
  |zero=>grind
  |succ j=>
   have:=GZ h.2 j d Wc
   grind
theorem QhW:∀{off:Nat} {rows:List (List D)},(∀r∈rows,r.length=l0)->s5 g c off rows->rows≠[]->l0≠0->off+rows.length*l0<=c.size:=by
 intro off rows G h M h0;have O:rows.length - 1<rows.length:=by grind [List.length_pos_iff]
 have C:=QE8 O;have V:=KL (l0:=l0) (rows.length - 1) G h C;have h2:=G _ (QEK C);have U:(rows[rows.length - 1])[l0 - 1]?=some ((rows[rows.length - 1])[l0 - 1]'Wa):=QE8 Wa;obtain⟨_,x,T,_⟩:=GZ V _ _ U;have h5:=(QEG.1 T).1
 have Y:(rows.length - 1)*l0+l0=rows.length*l0:=by
  rw[<- Nat.succ_mul];grind
 omega
theorem Qs1 {i' j o:Nat} (G:i≠i') (O:j<l0) (M:o<l0):i*l0+j≠i'*l0+o:=by
 intro h;rcases Nat.lt_or_gt_of_ne G with C |C
 have:=Nat.mul_le_mul_right l0 (show i+1<=i' from C)
 grind
 have:=Nat.mul_le_mul_right l0 (show i'+1<=i from C)
 grind
def setRow (row:List D) (off:Nat) (cells:List D):List D:=row.take off++cells++row.drop (off+cells.length)
def NL (P:Program) (E:Env) (a:Act) (w:World) (o:Oper) (s':St) (d:D):Prop:=
 ∃n w' g',(execOp a.eval o).run P w=.ok n w'/\Rel E g' s' a w'/\Has s' d/\((n=.skip/\d=.undef)\/∃u,n=.value u/\a7 g' d u)
theorem Qeg {sz:Nat} {y:Operand} {y':y5} {off:Nat} {row cells:List D} {d:D} (r:Rel E g s a w) (ho:o.op=.store t x y) (hx:QP x=some x') (hy:QP y=some y')
 (hs:XV P t=some sz) (he:s.ev x'=some (.ref k i off)) (hb:lk s.H k=some b) (C:b.rows[i]?=some row) (hf:s.ev y'=some d) (hd:d.cells=some cells) (hl:cells.length=sz) (hfit:off+sz<=row.length) (h0:sz≠0):
  NL P E a w o {s with H:=(k,{b with rows:=b.rows.set i (setRow row off cells),pr:=b.pr&&cells.all λd=>d.y4.isEmpty})::s.H} .undef:=by
 obtain⟨B,l0,z,hβ,hxv⟩:=(Zy r hx he).1;obtain⟨hyv,T⟩:=Zy r hy hf;obtain⟨vs,v1,v2,v3,v4⟩:=NY hd hyv;obtain⟨M,hpr,hbx⟩:=r.bx k b hb;have U:b.rows≠[]:=by grind
 obtain⟨_,B',c,h3,h4,h5,h6,h7,h8⟩:=hbx.resolve_left λh=>U h.1;clear hbx;obtain⟨hβ,hz⟩:=hβ.resolve_right λhg=>hg.no h3;rw[hβ]at h3;cases h3;rw[<- hz]at h6;have Y:i<b.rows.length:=(QEQ.1 C).1;have hrowl:row.length=b.l0:=M row (QEK C);have hvl:vs.length=sz:=by rw[v2.len];omega
 have hcs:=QhW M h6 U Wa
 have hbound:(z+(i*b.l0+off))+vs.length<=c.size:=by
  have:=Nat.mul_le_mul_right b.l0 (show i+1<=b.rows.length from Y)
  grind
 have hst:=run_storeCells_at P B (z+(i*b.l0+off)) b.et vs 0 c w h4 Wa v4;simp only[QE9]at hst
 have hsid:∀y∈cells,∀j∈y.y4,(lk s.H j).isSome=true:=by
  intro y hy j V;exact T j (NZ hd y hy j V)
 have hlist:(c.toList.take (z+(i*b.l0+off))++vs++c.toList.drop ((z+(i*b.l0+off))+vs.length)).length=c.size:=by
  grind
 have hget:∀p,(c.toList.take (z+(i*b.l0+off))++vs++c.toList.drop ((z+(i*b.l0+off))+vs.length))[p]?=
   if p<(z+(i*b.l0+off))then c[p]? else if p<(z+(i*b.l0+off))+sz then vs[p - (z+(i*b.l0+off))]? else c[p]?:=by
  intro p;have ht:(c.toList.take (z+(i*b.l0+off))).length=(z+(i*b.l0+off)):=by grind
  by_cases h1:p<(z+(i*b.l0+off))
  grind
  rw[if_neg h1,QFa,QFb Wa,ht]
  by_cases h2:p<(z+(i*b.l0+off))+sz
  grind
  rw[if_neg h2,QFb Wa,List.getElem?_drop,QFc]
  grind
 have hrepl:∀{ds:List D} {vs:List Value} (n:Nat) {d:D},n5 g ds vs->ds[n]?=some d->∃v,vs[n]?=some v/\z4 g d v:=by
  intro ds
  induction ds with
  |nil=>simp
  |cons x xs ih=>
   intro vs n d h hd;cases vs with
   |nil=>trivial
   |cons v vs=>
    cases n with
    |zero=>simp at hd;subst hd;exact⟨v,by simp,h.1⟩
    |succ n=>simpa using ih n h.2 Wc
 have hset:(setRow row off cells).length=b.l0:=by grind [setRow]
 have G:∀r∈b.rows.set i (setRow row off cells),r.length=b.l0:=λr0 hr=>by
  grind
 have hnew:s5 g (c.toList.take (z+(i*b.l0+off))++vs++c.toList.drop ((z+(i*b.l0+off))+vs.length)).toArray z (b.rows.set i (setRow row off cells)):=by
  refine Qdr G λi' row' hi'=>NX λj d' hd'=>?_
  have hjl:j<b.l0:=by
   grind
  rw[List.getElem?_toArray,hget]
  by_cases hii:i'=i
  subst hii;rw[QFd Y]at hi';cases hi'
  have hold:=GZ (KL i' M h6 C);have htl:(row.take off).length=off:=by grind
  by_cases h1:j<off
  rw[if_pos Wa];refine hold j d' ?_
  grind [setRow]
  rw[if_neg Wa];rw[setRow,QFa,QFb Wa,htl]at hd'
  by_cases h2:j<off+sz
  grind
  grind
  rw[List.getElem?_set_ne (Ne.symm hii)]at hi';have hold:=GZ (KL i' M h6 hi') j d' hd'
  have hlt:¬(z+i'*b.l0+j>=(z+(i*b.l0+off))/\z+i'*b.l0+j<(z+(i*b.l0+off))+sz):=by
   rintro⟨q1,q2⟩;exact Qs1 (o:=i'*b.l0+j - i*b.l0) hii hjl Wa Wa
  grind
 refine⟨.skip,_,g, ?_,r.sf (b':={b with rows:=b.rows.set i (setRow row off cells),pr:=b.pr&&cells.all λd=>d.y4.isEmpty})
  (c':=(c.toList.take (z+(i*b.l0+off))++vs++c.toList.drop ((z+(i*b.l0+off))+vs.length)).toArray) hb hβ h4 Wa h5 h7 h8 rfl (setRow_heap w B c _ b.et (0,0) h4) (λi hi=>setRow_other w B i _ hi) Wd G ?_ ?_ Wc ?_,Has.of_nil rfl,.inl ⟨rfl,rfl⟩⟩
 (repeat clear hK K);simp_all [execOp,Instr.storeAt,Instr.sureAddr,storeVar,ZH]
 intro hp r0 hr d0 O;simp only[QEm,QEs]at hp
 grind [setRow]
 grind
 intro r0 hr d0 O j V;rcases List.mem_or_eq_of_mem_set hr with h |h
 exact r.wa k b hb r0 h d0 O j V;subst h;simp only[setRow,QEt]at O;rcases O with(h |h) |h
 exact r.wa k b hb row (QEK C) d0 (QEC h) j V
 grind
 exact r.wa k b hb row (QEK C) d0 (QEL h) j V
theorem Rel.ye {t:Nat} (r:Rel E g s a w) (hn:lk s.H t=none):
  ∃g',g'.K=g.K/\g'.β t=some (w.heap.size,0)/\(g'.σ t).2=0/\Rel E g' {s with H:=(t,⟨[],0,ZM l 0,false⟩)::s.H} a (w.alloc (.stringIter ⟨l.toArray⟩ 0)):=by
 refine⟨{K:=g.K,β:=λk=>if k=t then some (w.heap.size,0)else g.β k,σ:=λk=>if k=t then(0,0)else g.σ k},rfl,by simp,by simp, ?_⟩;have hnt:∀k,(lk s.H k).isSome=true->k≠t:=λk hk e=>by grind
 have hold:∀i,i<w.heap.size->(w.alloc (.stringIter ⟨l.toArray⟩ 0)).heap[i]?=w.heap[i]?:=λi hi=>by
  simp only[World.alloc,Array.getElem?_push];grind
 have Y:∀o,g.K w.heap.size o=none:=λo=>by
  cases h:g.K w.heap.size o with
  |none=>rfl
  |some x=>exact absurd (r.kr.lt h) (Nat.lt_irrefl _)
 have V:ka g.K (w.alloc (.stringIter ⟨l.toArray⟩ 0)):=λi o x e=>by
  obtain⟨c',e',f,U,G⟩:=r.kr i o x e
  grind
 have M:Rel E {K:=g.K,β:=λk=>if k=t then some (w.heap.size,0)else g.β k,σ:=λk=>if k=t then(0,0)else g.σ k} s a (w.alloc (.stringIter ⟨l.toArray⟩ 0)):=
  r.move (λ_ _=>rfl) (λk hk=>by grind) V hold Wd
 have C:∀(b:x4) k,(lk s.H k).isSome=true->(lk ((t,b)::s.H) k).isSome=true:=λb k hk=>by
  grind [Qz]
 refine⟨M.nt,M.df,M.fr,λu d h k hk=>C _ k (r.da u d h k hk),λk b' h j hj=>?_,λk b' h=>?_,λk k' b1 b2 B e e' U G T O=>?_,M.kr,M.ext,M.kx,λk hk=>let⟨U,G,T,O⟩:=M.kp k hk;⟨U,G,T,C _ k O⟩⟩
 rw[Qz]at h;split at h
 grind [x4.ids]
 exact C _ j (r.x9 k b' h j hj);rw[Qz]at h;split at h;rename_i e;cases h;subst e;exact⟨by simp,by simp,.inl ⟨rfl,.inr ⟨rfl,rfl,rfl,l,0,w.heap.size,rfl,by simp,heap_alloc_new w _,Y,.inl r.ext.1,by simp⟩⟩⟩;exact M.bx k b' h
 have hlt:∀k b e,lk s.H k=some b->g.β k=some (B,e)->B<w.heap.size:=λk b e h hb=>by
  obtain⟨_,_,G⟩:=r.bx k b h;rcases G with⟨_,⟨G,_⟩ |⟨_,_,_,_,_,B',_,T,O,_⟩⟩ |⟨_,B',c',T,O,_⟩
  grind
  grind
  grind
 rw[Qz]at U G;simp only at T O;split at U<;>split at G;omega
 grind
 grind
 rename_i e1 e2;rw[if_neg (Ne.symm e1)]at T;rw[if_neg (Ne.symm e2)]at O;exact r.inj k k' b1 b2 B e e' U G T O
theorem Rel.setIter {q:Nat} {B e:Nat} (r:Rel E g s a w) (hb:lk s.H k=some ⟨[],0,ZM l p,false⟩) (Y:g.β k=some (B,e)):
  w.heap[B]?=some (.stringIter ⟨l.toArray⟩ p)/\(g.σ k).2=0/\Rel E g {s with H:=(k,⟨[],0,ZM l q,false⟩)::s.H} a {w with heap:=w.heap.setIfInBounds B (.stringIter ⟨l.toArray⟩ q)}:=by
 obtain⟨_,_,G⟩:=r.bx k _ hb;rcases G with⟨_,⟨G,_⟩ |⟨_,_,_,l',p',B',i1,i2,i3,i4,i5⟩⟩ |⟨h,_⟩
 grind
 rotate_left
 grind
 obtain⟨rfl,rfl⟩:=PF i1;rw[Y]at i2;simp only[QEl,QFe]at i2;obtain⟨rfl,rfl⟩:=i2;refine⟨i3,i5.2, ?_⟩;have hlt:B<w.heap.size:=(QEG.1 i3).1;have M:∀i,i≠B->(w.heap.setIfInBounds B (.stringIter ⟨l.toArray⟩ q))[i]?=w.heap[i]?:=λi hi=>Array.getElem?_setIfInBounds_ne (Ne.symm hi);have U:(w.heap.setIfInBounds B (.stringIter ⟨l.toArray⟩ q))[B]?=some (.stringIter ⟨l.toArray⟩ q):=by grind
 have C:∀(b:x4) j,(lk ((k,b)::s.H) j).isSome=(lk s.H j).isSome:=λb j=>by
  grind [Qz]
 have hne:∀j b1 B1 e1,lk s.H j=some b1->j≠k->g.β j=some (B1,e1)->B1≠B:=λj b1 B1 e1 T O G V=>by
  subst V;exact O (r.inj j k b1 _ B1 _ _ T hb G Y)
 refine⟨r.nt,r.df.of rfl (λD hD=>by
  grind [JN]),r.fr,λt d h j hj=>(C _ j).trans (r.da t d h j hj),λj b1 h i hi=>?_,λj b1 h=>?_,λj j' b1 b2 B1 e e' T O G V=>?_, ?_,⟨by simpa using r.ext.1,λi hi hf=>?_,r.ext.2.2.trans ⟨rfl,rfl,rfl⟩⟩,r.kx,λk hk=>let⟨T,O,G,V⟩:=r.kp k hk;⟨T,O,G,(C _ k).trans V⟩⟩
 rw[Qz]at h;rw[C];split at h
 grind [x4.ids]
 exact r.x9 j b1 h i hi;rw[Qz]at h;split at h;rename_i e;cases h;subst e;exact⟨by simp,by simp,.inl ⟨rfl,.inr ⟨rfl,rfl,rfl,l,q,B,rfl,Y,U,i4,i5⟩⟩⟩;rename_i e;obtain⟨T,O,G⟩:=r.bx j b1 h;refine⟨T,O,G.imp (λ⟨x,y⟩=>⟨x,y.imp id λ⟨i1,i2,i3,sv,p,B1,i4,i5,i6,i7,i8⟩=>⟨i1,i2,i3,sv,p,B1,i4,i5,(M B1 (hne j b1 B1 _ h (Ne.symm e) i5)).trans i6,i7,i8⟩⟩) ?_⟩
 grind
 have key:∀j b1,lk ((k,(⟨[],0,ZM l q,false⟩:x4))::s.H) j=some b1->∃b2,lk s.H j=some b2:=λj b1 h=>by
  grind [Option.isSome_iff_exists]
 obtain⟨b3,h5⟩:=key j b1 T;obtain⟨b4,h6⟩:=key j' b2 O;exact r.inj j j' b3 b4 B1 e e' h5 h6 G V;intro i o x hx;obtain⟨c1,e1,f1,T,O⟩:=r.kr i o x hx
 grind
 exact(M i (λh=>by grind)).trans (r.ext.2.1 i hi hf)
theorem Qef {u:Nat} (r:Rel E g s a w) (ho:o.op=.range t x) (hx:QP x=some x') (hu:P.underlying t=some .string) (he:s.ev x'=some (.str l))
 (C:dst=some u) (M:lk s.H u=none):Good P E s a w o dst (.ref u 0 0) (some ⟨[],0,ZM l 0,false⟩):=by
 have O:=(Zy r hx he).1;simp only[a7,z4,s4]at O;subst C;obtain⟨g',e1,e2,T,G⟩:=r.ye (t:=u) (l:=l) M;refine⟨.pointer (some ⟨w.heap.size,0,none⟩),w.alloc (.stringIter ⟨l.toArray⟩ 0),g', ?_,G,⟨w.heap.size,0,0,.inl ⟨e2,T.symm⟩,by simp⟩,λk hk=>?_⟩
 (repeat clear hK K);simp_all [execOp,run_range_string,World.iter]
 grind [D.ids,D.y4,St.j7,Qz]
theorem Md (r:Rel E g s a w) (hb:lk s.H k=some ⟨[],0,ZM l p,false⟩):¬g.gone k:=λG=>by
 obtain⟨_,_,C⟩:=r.bx k _ hb;rcases C with⟨_,⟨_,C⟩ |⟨_,_,_,l',p',B',i1,i2,_⟩⟩ |⟨h,_⟩
 have:=congrArg x4.pr (C.1 G.2);trivial;exact G.no i2
 grind
theorem Qgo {c n:Nat} (r:Rel E g s a w) (ho:o.op=.next x true) (hx:QP x=some x') (he:s.ev x'=some (.ref k 0 0)) (hb:lk s.H k=some ⟨[],0,ZM l p,false⟩)
 (hp:p<l.length) (hd:Utf8.decode ⟨l.toArray⟩ p=(c,n)):
  NL P E a w o {s with H:=(k,⟨[],0,ZM l (p+n),false⟩)::s.H} (.g8 [.bool true,.int .i64 p,.int .i32 c]):=by
 obtain⟨B,l0,z,C,O⟩:=(Zy r hx he).1;obtain⟨C,G⟩:=C.resolve_right (Md r hb);obtain⟨hw,h0,M⟩:=r.setIter (q:=p+n) hb C;rw[h0]at G;subst G;refine⟨.value (.tuple #[.bool true,.int .i64 p,.int .i32 c]),_,g, ?_,M,Has.of_nil rfl,.inr ⟨_,rfl, ?_⟩⟩
 ·have T:p<(ByteArray.mk l.toArray).size:=by trivial
  (repeat clear hK K);simp_all [execOp,Instr.next,getObj,setObj,Sem.run,goInt]
 exact a7.of (by simp only[s4];exact⟨[.bool true,.int .i64 p,.int .i32 c],rfl,by trivial⟩)
theorem Bl (r:Rel E g s a w) (ho:o.op=.next x true) (hx:QP x=some x') (he:s.ev x'=some (.ref k 0 0)) (hb:lk s.H k=some ⟨[],0,ZM l p,false⟩)
 (hp:¬p<l.length):NL P E a w o s (.g8 [.bool false]):=by
 obtain⟨B,l0,z,C,M⟩:=(Zy r hx he).1;obtain⟨C,G⟩:=C.resolve_right (Md r hb);obtain⟨hw,h0,_⟩:=r.setIter (q:=0) hb C;rw[h0]at G;subst G;refine⟨.value (.tuple #[.bool false]),w,g, ?_,r,Has.of_nil rfl,.inr ⟨_,rfl, ?_⟩⟩
 ·have O:¬p<(ByteArray.mk l.toArray).size:=by trivial
  simp[execOp,ho,M,Instr.next,getObj,Sem.run_bind,Sem.run,hw,Result.andThen,O]
 exact a7.of (by simp only[s4];exact⟨[.bool false],rfl,by trivial⟩)
end
variable {j:Nat}
def D.n4 (k:Nat):D->D
 | .u4 j n=>if j=k then .top else .u4 j n
 | .la j lo c n=>if j=k then .top else .la j lo c n
 | .ref j i o=>if j=k then .top else .ref j i o
 | .w8 f j ps=>if j=k then .top else .w8 f j ps
 | .agg cs=>if k∈cs.flatMap D.y4 then .top else .agg cs
 | .k9 f cs=>if k∈cs.flatMap D.y4 then .top else .k9 f cs
 | .ia cs x=>if k∈cs.flatMap D.y4 then .top else .ia cs x
 |d=>d
def D.s7 (k:Nat):D->D
 | .u4 j n=>if j=k then .z7 else .u4 j n
 | .la j lo c n=>if j=k then .z7 else .la j lo c n
 | .ref j i o=>if j=k then .z7 else .ref j i o
 | .w8 f j ps=>if j=k then .z7 else .w8 f j ps
 |d=>d
def x4.n4 (k:Nat) (b:x4):x4:=if b.pr then b else{b with rows:=b.rows.map λr=>r.map (D.s7 k)}
theorem x4.zb (k:Nat) (b:x4):b.n4 k=Yn↔b=Yn:=by
 obtain⟨rows,l0,et,pr⟩:=b;unfold x4.n4;cases pr
 constructor;intro h;have:=congrArg x4.pr h;trivial;intro h;have:=congrArg x4.pr h;trivial;rfl
def St.n4 (k:Nat) (s:St):St:={fr:=s.fr.map λp=>(p.1,p.2.n4 k),H:=s.H.map λp=>(p.1,p.2.n4 k)}
def rem {α:Type} (k:Nat):List (Nat × α)->List (Nat × α)
 |[]=>[]
 |(j,v)::r=>if j=k then rem k r else(j,v)::rem k r
theorem Yq {α β:Type} (f:α->β):∀(l:List (Nat × α)) (t:Nat),lk (l.map λp=>(p.1,f p.2)) t=(lk l t).map f
 |[],_=>rfl
 |(k,v)::r,t=>by
  simp only[QEW,Qz];split;rfl;exact Yq f r t
theorem GA {α:Type} (k:Nat):∀(l:List (Nat × α)) (t:Nat),lk (rem k l) t=if t=k then none else lk l t
 |[],t=>by simp[rem,lk]
 |(j,v)::r,t=>by
  simp only[rem]
  by_cases h:j=k
  rw[if_pos h,GA k r t,Qz]
  grind
  rw[if_neg h,Qz,Qz,GA k r t]
  grind
theorem Qae (h:j∈(d.n4 k).ids):j∈d.ids/\j≠k:=by
 cases d<;>simp only[D.n4]at h<;>try trivial
 grind [D.ids,D.y4]
 grind [D.ids,D.y4]
 grind [D.ids,D.y4]
 case w8 f i ps=>grind [D.ids,D.y4]
 grind [D.ids,D.y4]
 case k9 f cs=>
  grind [D.ids,D.y4]
 grind [D.ids,D.y4]
theorem QeB (h:j∈(d.s7 k).y4):j∈d.y4/\j≠k:=by
 cases d<;>simp only[D.s7]at h<;>try trivial
 grind [D.y4]
 grind [D.y4]
 grind [D.y4]
 grind [D.y4]
section
variable {P:Program} {E:Env} {g:Gh} {s:St} {a:Act} {w:World} {o:Oper} {dst:Option Nat}
theorem a7.n4 {d:D} {v:Value} (h:a7 g d v) (k:Nat):a7 g (d.n4 k) v:=by
 have top:a7 g .top v:=by trivial
 cases d<;>simp only[D.n4]<;>try exact h
 all_goals (grind)
theorem z4.s7 {d:D} {v:Value} (h:z4 g d v) (k:Nat):z4 g (d.s7 k) v:=by
 cases d<;>simp only[D.s7]<;>try exact h
 case u4 j n=>
  split;obtain⟨_,_,rfl,_⟩:=h;rfl;omega
 case la j lo c n=>
  split;obtain⟨_,_,rfl,_⟩:=h;rfl;omega
 case ref j i o=>
  split;obtain⟨_,_,_,_,rfl⟩:=h;rfl;omega
 case w8 f j ps=>
  split;obtain⟨_,_,_,_,_,rfl,_⟩:=h;rfl;omega
theorem Qby (h:d.l5=true) (k:Nat):(d.s7 k).l5=true:=by
 cases d<;>simp only[D.s7]<;>try exact h
 all_goals (split<;>rfl)
theorem j5.n4 {c:Array Value} (k:Nat):∀{off:Nat} {ds:List D},j5 g c off ds->j5 g c off (ds.map (D.s7 k))
 |_,[],_=>by grind
 |off,d::ds,h=>by
  simp only[QEW,j5]at h ⊢;obtain⟨⟨O,x,M,G⟩,C⟩:=h;exact⟨⟨Qby O k,x,M,G.s7 k⟩,j5.n4 k C⟩
theorem s5.n4 {c:Array Value} (k:Nat):∀{off:Nat} {rs:List (List D)},s5 g c off rs->s5 g c off (rs.map λr=>r.map (D.s7 k))
 |_,[],_=>by grind
 |off,r::rs,h=>by
  simp only[QEW,s5,QFf]at h ⊢;exact⟨h.1.n4 k,s5.n4 k h.2⟩
theorem x4.yc (k:Nat) (b:x4):(b.n4 k).l0=b.l0/\(b.n4 k).et=b.et/\((b.n4 k).rows=[]↔b.rows=[])/\(b.n4 k).pr=b.pr:=by
 unfold x4.n4;split<;>simp
theorem NO {b:x4} (C:j∈(b.n4 k).ids):j∈b.ids/\j≠k:=by
 unfold x4.n4 at C;cases hp:b.pr with
 |true=>grind [x4.ids]
 |false=>
  simp only[hp,QEq,if_false,x4.ids]at C;simp only[x4.ids,hp,QEq,if_false];obtain⟨r0,hr,C⟩:=QEp.1 C;obtain⟨r1,G,rfl⟩:=QEw.1 hr;obtain⟨d,hd,C⟩:=QEp.1 C;obtain⟨d1,M,rfl⟩:=QEw.1 hd;obtain⟨T,O⟩:=QeB C
  grind
def St.r7 (k:Nat) (s:St):St:={fr:=(s.n4 k).fr,H:=rem k (s.n4 k).H}
theorem Km (k:Nat) (s:St) (j:Nat):lk (s.r7 k).H j=if j=k then none else(lk s.H j).map (x4.n4 k):=by
 grind [St.r7,GA,St.n4,Yq]
theorem Rel.r7 (r:Rel E g s a w) (k:Nat) (hk0:k<1000000):Rel E g (s.r7 k) a w:=by
 have C:∀j,j≠k->(lk (s.r7 k).H j).isSome=(lk s.H j).isSome:=λj U=>by
  rw[Km,if_neg U,QEA]
 have key:∀j b,lk (s.r7 k).H j=some b->j≠k/\∃b0,lk s.H j=some b0/\b=b0.n4 k:=λj b h=>by
  grind [Km,Option.map_eq_some_iff]
 refine⟨r.nt,r.df,λt d h=>?_,λt d h j U=>?_,λj b h i hi=>?_,λj b h=>?_,λj j' b b' B e e' G V=>?_,r.kr,r.ext,r.kx,λj U=>let⟨G,V,h3,h4⟩:=r.kp j U;⟨G,V,h3,(C j Wa).trans h4⟩⟩
 simp only[St.r7,St.n4,Yq]at h;obtain⟨d0,G,rfl⟩:=QEh.1 h;exact(r.fr t d0 G).n4 k;simp only[St.r7,St.n4,Yq]at h;obtain⟨d0,G,rfl⟩:=QEh.1 h;obtain⟨O,M⟩:=Qae U;rw[C j M];exact r.da t d0 G j O;obtain⟨_,b0,G,rfl⟩:=key j b h;obtain⟨O,M⟩:=NO hi;rw[C i M];exact r.x9 j b0 G i O;obtain⟨_,b0,G,rfl⟩:=key j b h;obtain⟨O,M,T⟩:=r.bx j b0 G;obtain⟨e1,e2,Y,e4⟩:=x4.yc k b0;refine⟨?_, ?_, ?_⟩;unfold x4.n4
 grind
 intro hp;rw[e4]at hp;unfold x4.n4
 grind
 rcases T with⟨T,q4⟩ |⟨T,B,c,q4,q5,q6,q7,q8⟩;exact .inl ⟨Y.2 T,q4.imp (λ⟨y,z⟩=>⟨y,z.trans (x4.zb k b0).symm⟩) λ⟨i1,i2,i3,sv,p,B,i4,i5⟩=>⟨Y.2 i1,Wa,by grind,sv,p,B,Wa,i5⟩⟩;refine .inr ⟨T.imp (λq h=>q (Y.1 h)) (λq=>Wa),B,c,by grind,by grind,q6, ?_,q8⟩;unfold x4.n4;split;omega;exact q7.n4 k;obtain⟨_,b0,O,_⟩:=key j b G
 obtain⟨_,b0',M,_⟩:=key j' b' V;exact r.inj j j' b0 b0' B e e' O M
end
variable {et t:Nat} {i:TypeInfo} {ys:List (List D)}
section
variable {P:Program} {E:Env} {g:Gh} {s:St} {a:Act} {w:World} {o:Oper} {dst:Option Nat}
theorem Rel.je {s':St} (r:Rel E g s a w) (G:s'.fr=s.fr) (M:∀k,lk s'.H k=lk s.H k):Rel E g s' a w:=
 ⟨r.nt,r.df,λt d h=>r.fr t d (G ▸ h),λt d h k hk=>by rw[M];exact r.da t d (G ▸ h) k hk,λk b h j C=>by rw[M];exact r.x9 k b Wc j C,
  λk b h=>r.bx k b Wc,λk k' b b' B e e' T O=>r.inj k k' b b' B e e' Wc Wc,r.kr,r.ext,r.kx,λj C=>let⟨T,O,h3,h4⟩:=r.kp j C;⟨T,O,h3,by grind⟩⟩
theorem PY (t ty e:TypeId) (i:TypeInfo) (V:P.underlying t=some (.slice e)) (hi:P.info? e=some i)
 (g z C G:Nat) (cur:Array Value) (hg:w.heap[g]?=some (.cells cur e (0,0)))
 (a:Addr) (m c:Nat) (news:List Value) (Y:news.length=m*i.size) (O:∀j u,news[j]?=some u->w.cell? (a.add j)=some u) (h1:∀u∈news,u.oneCell'=true)
 (M:C+m<=G) (U:z+C*i.size+news.length<=cur.size):
  (Builtin.append_ #[t,t] ty #[.slice (some ⟨g,z,none⟩) C G,.slice (some a) m c]).run P w=
   .ok (.slice (some ⟨g,z,none⟩) (C+m) G) (w.setRow g (cur.toList.take (z+C*i.size)++news++cur.toList.drop (z+C*i.size+news.length)).toArray):=by
 have hf:=run_firstCells_some (P:=P) w i.size m a m c news Y O;have T:=run_storeCells_at P g (z+C*i.size) e news 0 cur w hg Wa h1;simp[Builtin.append_,run_underlying V,sizeOf,typeInfo,hi,Builtin.lenOf,M,hf,Addr.add_lit,T]
theorem Su {ty:TypeId} (r:Rel E g s a w)
 (ho:o.op=.call {callee:=.builtin .append,args:=#[x,y],argTypes:=#[st,st]}) (hty:o.type=ty) (hx:QP x=some x') (hy:QP y=some y')
 (hu:P.underlying st=some (.slice et)) (hi:P.info? et=some i) (hsz:i.size=l0) (hby:i.bytes=bytes) (hz:Fs P et=some zd) (hzl:zd.length=l0) (hes:l0≠0)
 (he:s.ev x'=some (.u4 k n)) (hk0:k<1000000) (hb:lk s.H k=some b) (hn:n=b.rows.length) (hbe:b.l0=l0) (hbt:b.et=et) (hself:(b.pr&&pr)=true\/∀r0∈b.rows++ys,∀d∈r0,k∉d.y4)
 (hf:s.ev y'=some d) (hsrc:s.src l0 d ys pr) (C:(n+ys.length)*bytes<=140737488355328) (hm:n+ys.length<=4611686018427387904):
  NL P E a w o {fr:=(s.n4 k).fr,H:=(k,⟨b.rows++ys,l0,et,b.pr&&pr⟩)::(s.n4 k).H} (.u4 k (n+ys.length)):=by
 obtain⟨a1,cap,hxv,hncap,hh⟩:=(Zy r hx he).1;obtain⟨a0,T,hyv,hcap0,hat,hly,hidy,hpry,hcy⟩:=MI r (Zy r hy hf).1 hsrc;obtain⟨i',z0,hi',hzz,hzr,_⟩:=XS hz g.K;rw[hi]at hi';cases hi'
 have hzc:z0.cells.size=l0:=by
  have:=(n5.cb hzr).1.len;simp at this;rw[this,hzl]
 have run:∀v w',(Builtin.append_ #[st,st] ty #[a.eval x,a.eval y]).run P w=.ok v w'->(execOp a.eval o).run P w=.ok (.value v) w':=λv w' h=>by
  simp[execOp,ho,hty,resolve,invoke,builtin,h]
 obtain⟨hrl,hpr,hbx⟩:=r.bx k b hb;subst hn;rw[hbe]at hrl
 have hall:∀r0∈b.rows++ys,r0.length=l0:=λr0 hr=>by
  rcases QEt.1 hr with hr |hr;exact hrl r0 hr;exact hly r0 hr
 have hsid:(b.pr&&pr)=true->∀r0∈b.rows++ys,∀d∈r0,d.y4=[]:=λhp r0 hr d hd=>by
  rw[QEm]at hp;rcases QEt.1 hr with hr |hr
  exact hpr hp.1 r0 hr d hd;exact hpry hp.2 r0 hr d hd
 have hids:∀r0∈b.rows++ys,∀d∈r0,∀j∈d.y4,(lk s.H j).isSome=true/\j≠k:=λr0 hr d hd j U=>by
  refine⟨?_, ?_⟩;rcases QEt.1 hr with hr |hr
  exact r.wa k b hb r0 hr d hd j U;exact hidy r0 hr d hd j U;rintro rfl;rcases hself with h |h
  rw[hsid h r0 hr d hd]at U;cases U;exact h r0 hr d hd U
 have hidw:∀r0∈b.rows++ys,∀d∈r0,∀j∈d.y4,(lk (s.r7 k).H j).isSome=true:=λr0 hr d hd j U=>by
  obtain⟨q1,q2⟩:=hids r0 hr d hd j U;rw[Km,if_neg q2,QEA];exact q1
 have hlkEq:∀(b':x4) j,lk ((k,b')::(s.n4 k).H) j=lk ((k,b')::rem k (s.n4 k).H) j:=λb' j=>by
  rw[Qz,Qz]
  by_cases h:k=j
  rw[if_pos h,if_pos h];rw[if_neg h,if_neg h,GA,if_neg (Ne.symm h)]
 have hhas:∀b',Has {fr:=(s.n4 k).fr,H:=(k,b')::(s.n4 k).H} (.u4 k (b.rows.length+ys.length)):=λb' j U=>by
  simp[D.ids,D.y4]at U;subst U;simp[Qz]
 have hwn:lk (s.r7 k).H k=none:=by rw[Km,if_pos rfl]
 have rw0:=r.r7 k hk0
 -- the new block
 have grow:∀(os ns:List Value) (V:Nat),n5 g b.rows.flatten os->n5 g ys.flatten ns->(∀r0∈b.rows,∀d∈r0,d.l5=true)->os.length=b.rows.length*l0->ns.length=ys.length*l0->b.rows++ys≠[]->
   (Builtin.append_ #[st,st] ty #[a.eval x,a.eval y]).run P w=.ok (.slice (some ⟨w.heap.size,0,none⟩) (b.rows.length+ys.length) (grownCap w (b.rows.length+ys.length) V et))
     (w.drew.alloc (.cells (os.toArray++ns.toArray++Builtin.zeroCells z0.cells (grownCap w (b.rows.length+ys.length) V et - (b.rows.length+ys.length))) et))->
   NL P E a w o {fr:=(s.n4 k).fr,H:=(k,⟨b.rows++ys,l0,et,b.pr&&pr⟩)::(s.n4 k).H} (.u4 k (b.rows.length+ys.length)):=by
  intro os ns V O h2 h3 h4 h5 h6 hr;have hge:=grownCap_ge w (b.rows.length+ys.length) V et
  have hc:s5 g (os.toArray++ns.toArray++Builtin.zeroCells z0.cells (grownCap w (b.rows.length+ys.length) V et - (b.rows.length+ys.length))) 0 (b.rows++ys):=by
   have:=H6 (c:=os.toArray++ns.toArray++Builtin.zeroCells z0.cells (grownCap w (b.rows.length+ys.length) V et - (b.rows.length+ys.length)))
    (post:=(Builtin.zeroCells z0.cells (grownCap w (b.rows.length+ys.length) V et - (b.rows.length+ys.length))).toList) [] (b.rows++ys) (os++ns) (by rw[List.flatten_append];exact O.append h2)
    (λr0 hr=>(QEt.1 hr).elim (h3 r0) (hcy r0)) (by apply Array.ext';simp)
   simpa using this
  obtain⟨g',q1,q2,q3,q4,r'⟩:=(rw0.heap (w':=w.drew) rfl).alloc (t:=k) (b:=⟨b.rows++ys,l0,et,b.pr&&pr⟩) hwn hall hsid (.inl h6) hc hidw;refine⟨_,_,g',run _ _ hr,r'.je rfl (hlkEq _),hhas _,.inr ⟨_,rfl,⟨_,_,rfl,hge,.inr (.inl ⟨w.heap.size,l0,q2,by rw[q3], ?_⟩)⟩⟩⟩;rw[q3];simp only[Nat.zero_add,Array.size_append,List.size_toArray,h4,h5,size_zeroCells,hzc];rw[<- QE2,<- QE2,Nat.add_sub_cancel' hge];exact QEI _
 have M:ys≠[]->∃B off ns,a0=some ⟨B,off,none⟩/\ns.length=ys.length*l0/\n5 g ys.flatten ns/\∀j v,ns[j]?=some v->w.cell? ((⟨B,off,none⟩:Addr).add j)=some v:=λG=>by
  obtain⟨B,off,e1,hat2⟩:=hat.resolve_left G;obtain⟨ns,n1,n2,n3⟩:=KS hat2;exact⟨B,off,ns,e1,by rw[n1,N4 hly],n2,n3⟩
 subst hsz;subst hby
 replace hh:(b.rows.length=0/\cap=0)\/(∃B l0,g.β k=some (B,l0)/\a1=some ⟨B,(g.σ k).2,none⟩/\(g.σ k).2+cap*l0<=(g.σ k).1):=by
  rcases hh with hh |hh |hg;exact .inl hh;exact .inr hh;rcases hbx with⟨_,⟨_,h3⟩ |⟨_,_,_,l',p',B',i1,i2,_⟩⟩ |⟨_,_,_,h,_⟩;have:=congrArg x4.l0 (h3.1 hg.2)
  rw[hbe]at this;exact absurd this hes;exact(hg.no i2).elim;exact(hg.no h).elim
 rcases hh with⟨h0,rfl⟩ |⟨B,esz',hβ,rfl,hσ⟩
 -- nothing there yet
 have hbr:b.rows=[]:=QEV h0
 by_cases G:ys=[]
 subst G
 have hres:(execOp a.eval o).run P w=.ok (.value (.slice a1 0 0)) w:=by
  refine run _ _ ?_;rw[hxv,hyv,h0]
  have hfc:(Builtin.firstCells i.size 0 (.slice a0 0 T)).run P w=.ok #[] w:=by
   cases a0 with
   |none=>rfl
   |some b=>simp[Builtin.firstCells,loadCells,loadCellsFrom]
  cases a1 with
  |none=>simp[Builtin.append_,underlying,hu,sizeOf,typeInfo,hi,Builtin.lenOf,hfc]
  |some b=>simp[Builtin.append_,underlying,hu,sizeOf,typeInfo,hi,Builtin.lenOf,hfc,storeCells]
 obtain⟨g',q1,q2,r2⟩:=rw0.fa (t:=k) (l0:=i.size) (et:=et) (b.pr&&pr) hwn;refine⟨_,w,g',hres,r2.je rfl ?_,hhas _,.inr ⟨_,rfl,⟨a1,0,by simp[h0],by simp[h0],.inl ⟨by simp[h0],rfl⟩⟩⟩⟩;intro j;simp only[hbr,QEN];exact hlkEq _ j;obtain⟨B,off,ns,e1,n1,n2,n3⟩:=M G;subst e1;have hyl:0<ys.length:=QE0.2 G;refine grow [] ns 0 (by rw[hbr];trivial) n2 (by rw[hbr];simp) (by rw[h0];simp) n1 (by simp[G]) ?_
 rw[hxv,hyv,h0];cases a1 with
 |none=>
  have:=run_append_nil (P:=P) w st ty et i z0 hu hi hzz ⟨B,off,none⟩ ys.length T ns n1 n3 hyl Wa (by rw[h0]at C;simp at C;omega)
  simpa using this
 |some b1=>
  have:=run_append_grow (P:=P) w st ty et i z0 hu hi hzz b1 0 0 [] Wd Wd ⟨B,off,none⟩ ys.length T ns n1 n3 Wa Wa (growslice_fits Wa (by rw[h0]at C;simpa using C))
  simpa using this
 obtain⟨_,B',c,k1,k2,k3,k4,k5,k6⟩:=hbx.resolve_left (by
  rintro⟨_,⟨h,_⟩ |⟨_,h,_⟩⟩;rw[h]at hβ;cases hβ;rw[hbe]at h;exact hes h)
 rw[hβ]at k1;simp only[QEl,QFe]at k1;obtain⟨rfl,e2⟩:=k1;rw[hbe]at e2;subst e2;rw[hbt]at k2;obtain⟨z,hz⟩:∃z,z=(g.σ k).2:=⟨_,rfl⟩;rw[<- hz]at k4 hσ hxv;have hatx:=Ga k2 z b.rows k4;obtain⟨os,o1,o2,o3⟩:=KS hatx;have hol:os.length=b.rows.length*i.size:=by rw[o1,N4 hrl]
 have hcx:∀r0∈b.rows,∀d∈r0,d.l5=true:=λr0 hr d hd=>hatx.choose_spec.2.2.1 d (List.mem_flatten.2 ⟨r0,hr,hd⟩)
 by_cases hroom:b.rows.length+ys.length<=cap
 -- in place
 have hfit:z+(b.rows.length+ys.length)*i.size<=c.size:=by rw[k3];exact QEB (Nat.add_le_add_left (Nat.mul_le_mul_right _ hroom) z) hσ
 have inplace:∃ns:List Value,n5 g ys.flatten ns/\ns.length=ys.length*i.size/\(Builtin.append_ #[st,st] ty #[a.eval x,a.eval y]).run P w=.ok (.slice (some ⟨B,z,none⟩) (b.rows.length+ys.length) cap)
   (w.setRow B (c.toList.take (z+b.rows.length*i.size)++ns++c.toList.drop (z+b.rows.length*i.size+ns.length)).toArray):=by
  rw[hxv,hyv]
  by_cases G:ys=[]
  subst G;refine⟨[],trivial,by simp, ?_⟩
  have hfc:(Builtin.firstCells i.size 0 (.slice a0 0 T)).run P w=.ok #[] w:=by
   cases a0 with
   |none=>rfl
   |some b=>simp[Builtin.firstCells,loadCells,loadCellsFrom]
  have hself:=setRow_self w B c et (0,0) k2;have e3:(c.toList.take (z+b.rows.length*i.size)++[]++c.toList.drop (z+b.rows.length*i.size+([]:List Value).length)).toArray=c:=by simp
  rw[e3,hself];have hroom':b.rows.length<=cap:=by simpa using hroom
  simp[Builtin.append_,underlying,hu,sizeOf,typeInfo,hi,Builtin.lenOf,hfc,storeCells,hroom'];obtain⟨B2,off,ns,e1,n1,n2,n3⟩:=M G;subst e1
  have hone:∀u∈ns,u.oneCell'=true:=by
   have:∀{ds:List D} {vs:List Value},n5 g ds vs->(∀d∈ds,d.l5=true)->∀u∈vs,u.oneCell'=true:=by
    intro ds
    induction ds with
    |nil=>intro vs h _ u hu;cases vs with
     |nil=>cases hu
     |cons=>exact h.elim
    |cons d ds ih=>
     intro vs h hc u hu;cases vs with
     |nil=>exact h.elim
     |cons v vs=>
      cases hu with
      |head=>
       have hd:=hc d Wd;have O:=h.1;cases d<;>first |exact s4.cell O hd |(obtain⟨_,_,rfl,_⟩:=O;rfl) |(obtain⟨_,_,_,_,rfl⟩:=O;rfl) |(obtain⟨_,_,_,_,_,rfl,_⟩:=O;rfl)
      |tail _ hm=>exact ih h.2 (λy hy=>hc y (by simp[hy])) u hm
   exact this n2 (λd hd=>by obtain⟨r0,hr,hd⟩:=List.mem_flatten.1 hd;exact hcy r0 hr d hd)
  exact⟨ns,n2,n1,PY (P:=P) (w:=w) st ty et i hu hi B z b.rows.length cap c k2 ⟨B2,off,none⟩ ys.length T ns n1 n3 hone hroom (by rw[n1,Nat.add_assoc,<- QE2];exact hfit)⟩
 obtain⟨ns,m1,m2,hrun⟩:=inplace
 have hlen:(c.toList.take (z+b.rows.length*i.size)++ns++c.toList.drop (z+b.rows.length*i.size+ns.length)).length=c.size:=by
  rw[QE2]at hfit;simp only[QEY,QEO,List.length_drop,QE1];omega
 have hrows:s5 g (c.toList.take (z+b.rows.length*i.size)++ns++c.toList.drop (z+b.rows.length*i.size+ns.length)).toArray z (b.rows++ys):=by
  have hzl:(c.toList.take z).length=z:=by rw[QE2]at hfit;simp;omega
  have hos:c.toList.take (z+b.rows.length*i.size)=c.toList.take z++os:=by
   apply List.ext_getElem?;intro p
   by_cases hp:p<z+b.rows.length*i.size
   rw[List.getElem?_take_of_lt hp,QFc]
   by_cases hpz:p<z
   rw[QFg Wa,List.getElem?_take_of_lt hpz,QFc];rw[QFb Wa,hzl];have hpl:p - z<os.length:=Wa;have:=o3 (p - z) os[p - z] (QE8 hpl);rw[add_lit]at this;simp only[World.cell?,k2,Option.isSome_none,QEq,if_false]at this;rw[show z+(p - z)=p by omega]at this;rw[this,QE8 hpl];rw[List.getElem?_eq_none (by simp;omega),List.getElem?_eq_none (by rw[QEY];omega)]
  rw[hos]
  have:=H6 (g:=g) (c:=(c.toList.take z++os++ns++c.toList.drop (z+b.rows.length*i.size+ns.length)).toArray) (post:=c.toList.drop (z+b.rows.length*i.size+ns.length)) (c.toList.take z) (b.rows++ys) (os++ns)
   (by rw[List.flatten_append];exact o2.append m1) (λr0 hr=>(QEt.1 hr).elim (hcx r0) (hcy r0)) Wd
  rw[hzl]at this
  simpa using this
 -- the other boxes do not see it
 have r1:=r.sf (b':=⟨b.rows++ys,i.size,et,b.pr&&pr⟩) (c':=(c.toList.take (z+b.rows.length*i.size)++ns++c.toList.drop (z+b.rows.length*i.size+ns.length)).toArray) hb (by rw[hbe];exact hβ) (by rw[hbt];exact k2)
  (by simpa using hlen) k3 k5 k6 (by simp[hbe]) (setRow_heap w B c _ et (0,0) k2) (λi hi=>setRow_other w B i _ hi) Wd hall hsid (.inr hes) (by rw[<- hz];exact hrows) (λr0 hr d hd j U=>(hids r0 hr d hd j U).1)
 have r2:Rel E g {fr:=(s.n4 k).fr,H:=(k,⟨b.rows++ys,i.size,et,b.pr&&pr⟩)::(s.n4 k).H} a (w.setRow B (c.toList.take (z+b.rows.length*i.size)++ns++c.toList.drop (z+b.rows.length*i.size+ns.length)).toArray):=by
  have Y:∀j,(lk ((k,(⟨b.rows++ys,i.size,et,b.pr&&pr⟩:x4))::(s.n4 k).H) j).isSome=(lk ((k,(⟨b.rows++ys,i.size,et,b.pr&&pr⟩:x4))::s.H) j).isSome:=λj=>by
   rw[Qz,Qz];split;rfl;simp only[St.n4,Yq,QEA]
  have key:∀j b',lk ((k,(⟨b.rows++ys,i.size,et,b.pr&&pr⟩:x4))::(s.n4 k).H) j=some b'->∃b0,lk ((k,(⟨b.rows++ys,i.size,et,b.pr&&pr⟩:x4))::s.H) j=some b0/\(b'=b0\/b'=b0.n4 k):=λj b' h=>by
   rw[Qz]at h ⊢;split at h;rename_i e;rw[if_pos e];cases h;exact⟨_,rfl,.inl rfl⟩;rename_i e;rw[if_neg e];simp only[St.n4,Yq]at h;obtain⟨b0,O,h2⟩:=QEh.1 h;exact⟨b0,O,.inr h2.symm⟩
  refine⟨r1.nt,r1.df,λt d h=>?_,λt d h j U=>?_,λj b' h q hq=>?_,λj b' h=>?_,λj j' b1 b2 B1 e e' O h2=>?_,r1.kr,r1.ext,r1.kx,λj U=>let⟨O,h2,h3,h4⟩:=r1.kp j U;⟨O,h2,h3,(Y j).trans h4⟩⟩
  simp only[St.n4,Yq]at h;obtain⟨d0,O,rfl⟩:=QEh.1 h;exact(r1.fr t d0 O).n4 k;simp only[St.n4,Yq]at h;obtain⟨d0,O,rfl⟩:=QEh.1 h;obtain⟨q1,q2⟩:=Qae U;rw[Y];exact r1.da t d0 O j q1;obtain⟨b0,O,h2⟩:=key j b' h;rw[Y];rcases h2 with rfl |rfl
  exact r1.x9 j _ O q hq;exact r1.x9 j b0 O q (NO hq).1;obtain⟨b0,O,h2⟩:=key j b' h;rcases h2 with rfl |rfl
  exact r1.bx j _ O;obtain⟨q1,q2,q3⟩:=r1.bx j b0 O;obtain⟨e1,e2,e3,e4⟩:=x4.yc k b0;refine⟨?_, ?_, ?_⟩;unfold x4.n4;split;exact q1;intro r0 hr;obtain⟨r1,hr1,rfl⟩:=QEw.1 hr
  simpa using q1 r1 hr1
  intro hp;rw[e4]at hp;unfold x4.n4;rw[if_pos hp];exact q2 hp;rcases q3 with⟨q3,q4⟩ |⟨q3,B,c,q4,q5,q6,q7,q8⟩
  exact .inl ⟨e3.2 q3,q4.imp (λ⟨y,z⟩=>⟨y,z.trans (x4.zb k b0).symm⟩) λ⟨i1,i2,i3,sv,p,B,i4,i5⟩=>⟨e3.2 i1,by rw[e1];exact i2,by rw[e4];exact i3,sv,p,B,by rw[e2];exact i4,i5⟩⟩
  refine .inr ⟨q3.imp (λq h=>q (e3.1 h)) (λq=>by rw[e1];exact q),B,c,by rw[e1];exact q4,by rw[e2];exact q5,q6, ?_,q8⟩
  unfold x4.n4;split;exact q7;exact q7.n4 k;obtain⟨b3,h5,_⟩:=key j b1 O;obtain⟨b4,h6,_⟩:=key j' b2 h2;exact r1.inj j j' b3 b4 B1 e e' h5 h6
 exact⟨_,_,g,run _ _ hrun,r2,hhas _,.inr ⟨_,rfl,⟨_,cap,rfl,hroom,.inr (.inl ⟨B,i.size,hβ,by rw[<- hz],by rw[<- hz];exact hσ⟩)⟩⟩⟩
 -- it grows
 by_cases G:ys=[]
 subst G;simp at hroom;omega;obtain⟨B2,off,ns,e1,n1,n2,n3⟩:=M G;subst e1;refine grow os ns cap o2 n2 hcx hol n1 (by simp[G]) ?_;rw[hxv,hyv];exact run_append_grow (P:=P) w st ty et i z0 hu hi hzz ⟨B,z,none⟩ b.rows.length cap os hol o3 ⟨B2,off,none⟩ ys.length T ns n1 n3 Wa Wa (growslice_fits Wa C)
theorem z4.o9 {g1:Gh} {v:Value} (V:g1.K=g.K) (G:g1.gone k) (ho:∀j,j≠k->j≠t->g1.β j=g.β j/\g1.σ j=g.σ j) (U:t∉d.y4) (h:z4 g d v):z4 g1 d v:=by
 by_cases hk:k∈d.y4
 cases d<;>simp[D.y4]at hk
 subst hk;obtain⟨O,cap,M,C,_⟩:=h;exact⟨O,cap,M,C,.inr (.inr G)⟩;subst hk;obtain⟨O,cap,M,C,_⟩:=h;exact⟨O,cap,M,C,.inr (.inr G)⟩;subst hk;obtain⟨B,e,o,_,C⟩:=h;exact⟨B,e,o,.inr G,C⟩;subst hk;obtain⟨B,e,o,cs,_,C,Y⟩:=h;exact⟨B,e,o,cs,.inr G,C,by grind⟩;refine h.congr (by grind [Kn.le_refl]) λj T=>ho j (λe=>hk (e ▸ T)) (λe=>U (e ▸ T))
theorem n5.o9 {g1:Gh} {k t:Nat} (G:g1.K=g.K) (C:g1.gone k) (ho:∀j,j≠k->j≠t->g1.β j=g.β j/\g1.σ j=g.σ j):∀{ds:List D} {vs:List Value},t∉ds.flatMap D.y4->n5 g ds vs->n5 g1 ds vs
 |[],[],_,_=>trivial
 |d::ds,v::vs,ht,h=>by
  rw[QEM,QEt,not_or]at ht;exact⟨h.1.o9 G C ho ht.1,n5.o9 G C ho ht.2 h.2⟩
 |[],_::_,_,h=>h.elim
 |_::_,[],_,h=>h.elim
theorem a7.o9 {g1:Gh} {k t:Nat} {d:D} {v:Value} (C:g1.K=g.K) (M:g1.gone k) (ho:∀j,j≠k->j≠t->g1.β j=g.β j/\g1.σ j=g.σ j) (G:t∉d.ids) (h:a7 g d v):a7 g1 d v:=by
 cases d
 case agg cs=>
  obtain⟨vs,T,O,U⟩:=h;exact⟨vs,T,O.o9 C M ho G,U⟩
 case k9 f cs=>
  obtain⟨vs,T,O⟩:=h;exact⟨vs,T,O.o9 C M ho G⟩
 case ia cs x=>
  obtain⟨vs,u,T,O,U,V⟩:=h;exact⟨vs,u,T,O.o9 C M ho G,U,s4.mono (by rw[C];exact Kn.le_refl _) _ _ V⟩
 case u4 j n=>exact z4.o9 (d:=.u4 j n) C M ho G h
 case la j lo c n=>exact z4.o9 (d:=.la j lo c n) C M ho G h
 case ref j i q=>exact z4.o9 (d:=.ref j i q) C M ho G h
 case w8 f j ps=>exact z4.o9 (d:=.w8 f j ps) C M ho G h
 all_goals exact s4.mono (by rw[C];exact Kn.le_refl _) _ _ h
theorem j5.o9 {g1:Gh} {k t:Nat} {c:Array Value} (G:g1.K=g.K) (C:g1.gone k) (ho:∀j,j≠k->j≠t->g1.β j=g.β j/\g1.σ j=g.σ j):∀{off:Nat} {ds:List D},(∀d∈ds,t∉d.y4)->j5 g c off ds->j5 g1 c off ds
 |_,[],_,_=>by trivial
 |off,d::ds,ht,h=>by
  obtain⟨⟨U,x,T,O⟩,M⟩:=h;exact⟨⟨U,x,T,O.o9 G C ho (ht d Wd)⟩,j5.o9 G C ho (λd hd=>ht d Wc) M⟩
theorem s5.o9 {g1:Gh} {k t:Nat} {c:Array Value} (G:g1.K=g.K) (C:g1.gone k) (ho:∀j,j≠k->j≠t->g1.β j=g.β j/\g1.σ j=g.σ j):∀{off:Nat} {rs:List (List D)},(∀r∈rs,∀d∈r,t∉d.y4)->s5 g c off rs->s5 g1 c off rs
 |_,[],_,_=>by trivial
 |off,r::rs,ht,h=>by
  exact⟨j5.o9 G C ho (ht r Wd) h.1,s5.o9 G C ho (λr hr=>ht r Wc) h.2⟩
theorem u6.o9 {g1:Gh} {k t j G:Nat} {b:x4} (V:g1.K=g.K) (U:g1.gone k) (ho:∀j,j≠k->j≠t->g1.β j=g.β j/\g1.σ j=g.σ j) (T:∀r∈b.rows,∀d∈r,t∉d.y4) (C:g1.β G=g.β j/\g1.σ G=g.σ j) (h:u6 E g w j b):u6 E g1 w G b:=by
 obtain⟨h1,h2,h3⟩:=h;refine⟨h1,h2,h3.imp (λ⟨x,y⟩=>⟨x,y.imp (λy=>⟨C.1.trans y.1,by grind⟩) λ⟨i1,i2,i3,O,p,B,i4,i5,i6,i7,i8⟩=>⟨i1,i2,i3,O,p,B,i4,C.1.trans i5,i6,(by simp_all),i8.1,by grind⟩⟩) ?_⟩;rintro⟨h4,B,c,h5,h6,h7,Y,h9,M⟩;exact⟨h4,B,c,C.1.trans h5,h6,Wc,(by rw[C.2];exact Y.o9 V U ho T),(by simp_all),M⟩
theorem Rel.o9 {k t:Nat} {b:x4} (r:Rel E g s a w) (hb:lk s.H k=some b) (hk0:k<1000000) (ht:lk s.H t=none):∃g1,g1.K=g.K/\g1.gone k/\g1.β t=g.β k/\g1.σ t=g.σ k/\(∀j,j≠k->j≠t->g1.β j=g.β j/\g1.σ j=g.σ j)/\Rel E g1 {s with H:=(t,b)::(k,Yn)::s.H} a w:=by
 let g1:Gh:=⟨g.K,λj=>if j=k then none else if j=t then g.β k else g.β j,λj=>if j=k then(1,0)else if j=t then g.σ k else g.σ j⟩;have T:g1.gone k:=⟨if_pos rfl,if_pos rfl⟩;have hT:g1.β t=g.β k/\g1.σ t=g.σ k:=⟨by grind,by grind⟩;have ho:∀j,j≠k->j≠t->g1.β j=g.β j/\g1.σ j=g.σ j:=λj V U=>⟨by grind,by grind⟩;have nt:∀j,(lk s.H j).isSome=true->j≠t:=λj O e=>by grind
 have C:∀j,(lk s.H j).isSome=true->(lk ((t,b)::(k,Yn)::s.H) j).isSome=true:=λj O=>by
  grind [Qz]
 have key:∀j b',lk ((t,b)::(k,Yn)::s.H) j=some b'->(j=t/\b'=b)\/(j=k/\b'=Yn)\/(j≠t/\j≠k/\lk s.H j=some b'):=λj b' h=>by
  rw[Qz]at h;split at h
  grind
  rw[Qz]at h
  grind
 refine⟨g1,rfl,T,hT.1,hT.2,ho,r.nt,r.df,λu d h=>a7.o9 (g:=g) rfl T ho (λG=>nt t (r.da u d h t G) rfl) (r.fr u d h),λu d h j O=>C j (r.da u d h j O),λj b' h i hi=>?_,λj b' h=>?_,λj Y b1 b2 B e e' V U h3 h4=>?_,r.kr,r.ext,r.kx,λj O=>?_⟩;rcases key j b' h with⟨_,rfl⟩ |⟨_,rfl⟩ |⟨_,_,h⟩
 exact C i (r.x9 k b' hb i hi);trivial;exact C i (r.x9 j b' h i hi);rcases key j b' h with⟨rfl,rfl⟩ |⟨rfl,rfl⟩ |⟨V,U,h⟩
 exact u6.o9 (g:=g) rfl T ho (λrow hr d hd G=>nt _ (r.wa k b' hb row hr d hd _ G) rfl) hT (r.bx k b' hb);exact⟨by trivial,by trivial,.inl ⟨rfl,.inl ⟨T.1,by grind⟩⟩⟩;exact u6.o9 (g:=g) rfl T ho (λrow hr d hd G=>nt _ (r.wa j b' h row hr d hd _ G) rfl) (ho j U V) (r.bx j b' h)
 have G:∀j b',lk ((t,b)::(k,Yn)::s.H) j=some b'->∀B e,g1.β j=some (B,e)->(j=t/\g.β k=some (B,e))\/(j≠k/\j≠t/\g.β j=some (B,e)/\lk s.H j=some b'):=λj b' h B e hβ=>by
  grind
 rcases G j b1 V B e h3 with⟨p,q⟩ |⟨p,_,q,q2⟩<;>rcases G Y b2 U B e' h4 with⟨p',q'⟩ |⟨p',_,q',M⟩
 omega;exact absurd (r.inj k Y b b2 B e e' hb M q q').symm p';exact absurd (r.inj j k b1 b B e e' q2 hb q q') p;exact r.inj j Y b1 b2 B e e' q2 M q q';obtain⟨V,U,h3,h4⟩:=r.kp j O
 grind
theorem ib (h:k∉d.ids):d.n4 k=d:=by
 cases d<;>simp only[D.n4]<;>try rfl
 case u4 j n=>rw[if_neg (λe=>h (by simp[D.ids,D.y4,e]))]
 case la j lo c n=>rw[if_neg (λe=>h (by simp[D.ids,D.y4,e]))]
 case ref j i q=>rw[if_neg (λe=>h (by simp[D.ids,D.y4,e]))]
 case w8 f j ps=>rw[if_neg (λe=>h (by simp[D.ids,D.y4,e]))]
 case agg cs=>exact if_neg h
 case k9 f cs=>exact if_neg h
 case ia cs x=>exact if_neg h
theorem Qbz (h:k∉d.y4):d.s7 k=d:=by
 cases d<;>simp only[D.s7]<;>try rfl
 case u4 j n=>rw[if_neg (λe=>h (by simp[D.y4,e]))]
 case la j lo c n=>rw[if_neg (λe=>h (by simp[D.y4,e]))]
 case ref j i q=>rw[if_neg (λe=>h (by simp[D.y4,e]))]
 case w8 f j ps=>rw[if_neg (λe=>h (by simp[D.y4,e]))]
theorem x4.ib (h:∀r∈b.rows,∀d∈r,k∉d.y4):b.n4 k=b:=by
 unfold x4.n4;split;rfl
 have:b.rows.map (λr=>r.map (D.s7 k))=b.rows:=by
  have:∀rs:List (List D),(∀r∈rs,∀d∈r,k∉d.y4)->rs.map (λr=>r.map (D.s7 k))=rs:=by
   intro rs
   induction rs with
   |nil=>simp
   |cons r rs C=>
    intro h;rw[QEW,C λr hr=>h r Wc];have h0:=h r Wd
    induction r with
    |nil=>rfl
    |cons d ds C=>grind [Qbz]
  grind
 rw[this]
theorem Bg {ty:TypeId} (r:Rel E g s a w)
 (ho:o.op=.call {callee:=.builtin .append,args:=#[x,y],argTypes:=#[st,st]}) (hty:o.type=ty) (hx:QP x=some x') (hy:QP y=some y')
 (hu:P.underlying st=some (.slice et)) (hi:P.info? et=some i) (hsz:i.size=l0) (hby:i.bytes=bytes) (hz:Fs P et=some zd) (hzl:zd.length=l0) (hes:l0≠0)
 (he:s.ev x'=some (.u4 k n)) (hk0:k<1000000) (ht:lk s.H t=none) (ht0:t<1000000) (hb:lk s.H k=some b) (hn:n=b.rows.length) (hbe:b.l0=l0) (hbt:b.et=et)
 (hf:s.ev y'=some d) (hkd:k∉d.ids) (G:s.src l0 d ys pr) (U:(n+ys.length)*bytes<=140737488355328) (hm:n+ys.length<=4611686018427387904):
  NL P E a w o {s with H:=(t,⟨b.rows++ys,l0,et,b.pr&&pr⟩)::(k,Yn)::s.H} (.u4 t (n+ys.length)):=by
 obtain⟨hxr,hxh⟩:=Zy r hx he;have hrys:=MI r (Zy r hy hf).1 G;obtain⟨g1,q1,q2,q3,q4,q5,r1⟩:=r.o9 hb hk0 ht;have nt:∀j,(lk s.H j).isSome=true->j≠t:=λj M e=>by grind
 have htk:t≠k:=λe=>by grind
 -- the operand is a slot
 have hslot:∃u,x=.tmp u/\x'=.s u:=by
  cases x with
  |tmp u=>exact⟨u,rfl,(Gn hx).2⟩
  |const v=>
   obtain⟨d0,O,rfl⟩:=QEh.1 hx;simp only[St.ev,QEl]at he;subst he;have:=(Fx O g.K).2;trivial
  |func f=>
   rw[(Fk hx).2]at he
   grind [St.ev]
  |global i=>
   simp only[QP,QEl]at hx;subst hx;have hs:=r.fr _ _ he;have hsz:a.tmps.size<=900000+i:=by rw[r.nt.1];exact QEB r.nt.2 (Nat.le_add_right _ _)
   rw[QEJ,Array.getElem?_eq_none hsz,Option.getD_none,F6,if_neg Wa]at hs;obtain⟨_,_,O,_⟩:=hs
   grind
 obtain⟨u,rfl,rfl⟩:=hslot;have hval:a.tmps.getD u (F6 u)=a.eval (.tmp u):=by rw[F6,if_pos (Gn hx).1];rfl
 have hrt:a7 g1 (.u4 t n) (a.eval (.tmp u)):=by
  obtain⟨a0,cap,O,V,h3⟩:=hxr;refine⟨a0,cap,O,V, ?_⟩
  grind [Gh.gone]
 have r2:Rel E g1 {fr:=(u,.u4 t n)::s.fr,H:=(t,b)::(k,Yn)::s.H} a w:=by
  refine{r1 with fr:=λv x h=>?_,da:=λv x h j M=>?_};rw[Qz]at h;split at h
  grind
  exact r1.fr v x h;rw[Qz]at h;split at h
  grind [D.ids,D.y4,Qz]
  exact r1.da v x h j M
 have hyu:y'≠.s u:=λe=>by
  grind [D.ids,D.y4]
 have hf2:St.ev {fr:=(u,.u4 t n)::s.fr,H:=(t,b)::(k,Yn)::s.H} y'=some d:=by
  cases y' with
  |s v=>
   have:u≠v:=λe=>hyu (by rw[e])
   (repeat clear hK K);simp_all [St.ev,Qz]
  |c e=>exact hf
 have hsrc2:St.src {fr:=(u,.u4 t n)::s.fr,H:=(t,b)::(k,Yn)::s.H} l0 d ys pr:=by
  cases d<;>simp only[St.src]at G ⊢<;>try omega
  rename_i j m;obtain⟨b0,O,V⟩:=G;refine⟨b0, ?_,V⟩;rw[Qz,if_neg (nt j Wc).symm,Qz,if_neg (λe=>hkd (by simp[D.ids,D.y4,e]))];omega
 have hself:∀r0∈b.rows++ys,∀d∈r0,t∉d.y4:=λr0 hr x hx T=>by
  rcases QEt.1 hr with hr |hr;exact nt t (r.wa k b hb r0 hr x hx t T) rfl
  grind
 obtain⟨nx,w',g',e1,C,e3,e4⟩:=Su r2 ho hty hx hy hu hi hsz hby hz hzl hes (by simp[St.ev,Qz]) ht0 (by rw[Qz,if_pos rfl]) hn hbe hbt (.inr hself) hf2 hsrc2 U hm
 have hgone:g'.gone k:=by
  have T:lk ((t,⟨b.rows++ys,l0,et,b.pr&&pr⟩)::(St.n4 t {fr:=(u,.u4 t n)::s.fr,H:=(t,b)::(k,Yn)::s.H}).H) k=some Yn:=by
   rw[Qz,if_neg htk];simp only[St.n4,Yq,Qz,if_neg htk,if_pos];rfl
  obtain⟨_,_,h3⟩:=C.bx k Yn T;rcases h3 with⟨_,⟨h3,h4⟩ |⟨_,_,h,_⟩⟩ |⟨h,_⟩
  exact⟨h3,h4.2 rfl⟩;trivial;trivial
 have hfr:∀v x,lk s.fr v=some x->v≠u->lk ((St.n4 t {fr:=(u,.u4 t n)::s.fr,H:=(t,b)::(k,Yn)::s.H}).fr) v=some x:=λv x h Y=>by
  simp only[St.n4,Yq,Qz,if_neg (Ne.symm Y),h,QE6];rw[ib λT=>nt t (r.da v x h t T) rfl]
 have hH:∀j,lk ((t,⟨b.rows++ys,l0,et,b.pr&&pr⟩)::(St.n4 t {fr:=(u,.u4 t n)::s.fr,H:=(t,b)::(k,Yn)::s.H}).H) j=lk ((t,⟨b.rows++ys,l0,et,b.pr&&pr⟩)::(k,Yn)::s.H) j:=λj=>by
  rw[Qz,Qz];split;rfl;rename_i M;simp only[St.n4,Yq];rw[Qz,if_neg M];cases T:lk ((k,Yn)::s.H) j with
  |none=>rfl
  |some b0=>
   rw[QE6,x4.ib];rw[Qz]at T;split at T
   grind [Yn]
   exactλrow hr x hx ht'=>nt t (r.wa j b0 T row hr x hx t ht') rfl
 refine⟨nx,w',g',e1, ?_,λj M=>by grind [D.ids,D.y4,Qz],e4⟩;refine⟨C.nt,C.df,λv x h=>?_,λv x h j M=>?_,λj b' h i hi=>?_,λj b' h=>?_,λj j' b1 b2 B e e' O V=>?_,C.kr,C.ext,C.kx,λj M=>let⟨O,V,h3,h4⟩:=C.kp j M;⟨O,V,h3,by grind⟩⟩
 by_cases Y:v=u
 subst Y
 have:x=.u4 k n:=by
  have he':lk s.fr v=some (.u4 k n):=he
  grind
 subst this;rw[hval];obtain⟨a0,cap,O,V,_⟩:=hxr;exact⟨a0,cap,O,V,.inr (.inr hgone)⟩;exact C.fr v x (hfr v x h Y);rw[<- hH]
 by_cases Y:v=u
 subst Y
 have:x=.u4 k n:=by
  have he':lk s.fr v=some (.u4 k n):=he
  grind
 subst this;simp[D.ids,D.y4]at M;subst M;rw[hH,Qz,if_neg htk,Qz,if_pos rfl];rfl;exact C.da v x (hfr v x h Y) j M;rw[<- hH];exact C.x9 j b' Wc i hi;exact C.bx j b' Wc;exact C.inj j j' b1 b2 B e e' Wc Wc
end
theorem s5.ng {g:Gh} {c:Array Value} {l0:Nat}:∀(l:Nat) {off:Nat} {rs:List (List D)},(∀r∈rs,r.length=l0)->l<=rs.length->s5 g c off rs->s5 g c (off+l*l0) (rs.drop l)
 |0,off,rs,_,_,h=>by grind
 |l+1,off,[],_,hl,_=>by grind
 |l+1,off,r::rs,hr,hl,h=>by
  have:=s5.ng l (λx hx=>hr x Wc) Wc h.2
  grind
section
variable {P:Program} {E:Env} {g:Gh} {s:St} {a:Act} {w:World} {o:Oper}
theorem Qgl {et:TypeId} {l:Nat} {lo hi mx:Option Operand} {lo' hi' mx':Option y5} (r:Rel E g s a w)
 (ho:o.op=.slice st x lo hi mx) (hx:QP x=some x') (hlo:ZX lo=some lo') (hhi:ZX hi=some hi') (hmx:ZX mx=some mx') (hu:P.underlying st=some (.slice et)) (hs:XV P et=some l0)
 (he:s.ev x'=some (.u4 k n)) (hk0:k<1000000) (hb:lk s.H k=some b) (hn:n=b.rows.length) (hbe:b.l0=l0) (hes:l0≠0) (T:∀r0∈b.rows,∀d∈r0,k∉d.y4)
 (bl:s.bd lo' 0 l) (bh:s.bd hi' n n) (hln:l<=n) (hm:mx'=none):
  NL P E a w o {fr:=(s.n4 k).fr,H:=(k,⟨b.rows.drop l,l0,b.et,b.pr⟩)::(s.n4 k).H} (.u4 k (n - l)):=by
 obtain⟨⟨a0,cap,hv,hc,h4⟩,hid⟩:=Zy r hx he;subst hm hbe hn;have hbd:=Jr (P:=P) r (isS:=true) hlo hhi hmx bl bh rfl hln hc (QEI _) Wd
 have run:(execOp a.eval o).run P w=.ok (.value (.slice (if cap - l=0 then a0 else a0.map (·.add (l*b.l0))) (b.rows.length - l) (cap - l))) w:=by
  simp[execOp,ho,hv,Instr.sliceAt,Instr.slice,underlying,hu,hbd,ZH hs]
  grind
 obtain⟨g',gK,gB,gS⟩:∃g':Gh,g'.K=g.K/\g'.β=g.β/\∀j,g'.σ j=if j=k then((g.σ k).1,(g.σ k).2+l*b.l0)else g.σ j:=
  ⟨⟨g.K,g.β,λj=>if j=k then((g.σ k).1,(g.σ k).2+l*b.l0)else g.σ j⟩,rfl,rfl,λ_=>rfl⟩
 have M:g'.σ k=((g.σ k).1,(g.σ k).2+l*b.l0):=by grind
 have gN:∀j,j≠k->g'.β j=g.β j/\g'.σ j=g.σ j:=λj C=>by grind
 have nk:∀j,(lk (s.r7 k).H j).isSome=true->j≠k/\∃b0,lk s.H j=some b0:=λj C=>by
  rw[Km]at C
  grind [Option.isSome_iff_exists]
 have r1:=(r.r7 k hk0).move (λb _=>by rw[gK]) (λj C=>gN j (nk j C).1) (by rw[gK];exact r.kr) (λ_ _=>rfl) (QEI _)
 obtain⟨hrl,hpr,V⟩:=r.bx k b hb
 have hL:∀b',∀j,(lk ((k,b')::(s.r7 k).H) j).isSome=true↔j=k\/(lk (s.r7 k).H j).isSome=true:=λb' j=>by
  rw[Qz]
  grind
 have hidb:∀r0∈b.rows,∀d∈r0,∀j∈d.y4,j≠k/\(lk (s.r7 k).H j).isSome=true:=λr0 hr d hd j C=>by
  have O:j≠k:=λe=>T r0 hr d hd (e ▸ C);refine⟨O, ?_⟩;rw[Km,if_neg O,QEA];exact r.wa k b hb r0 hr d hd j C
 have h0:b.rows=[]->l=0:=λh=>by grind
 have hbk:u6 E g' w k ⟨b.rows.drop l,b.l0,b.et,b.pr⟩:=by
  refine⟨λr0 hr=>hrl r0 (QEL hr),λhp r0 hr=>hpr hp r0 (QEL hr), ?_⟩;rcases V with⟨hnil,⟨O,G⟩ |⟨_,O,_⟩⟩ |⟨O,B,c,G,h3,h4,h5,h6,h7⟩
  have hl:=h0 hnil;subst hl;refine .inl ⟨by grind,.inl ⟨by grind, ?_⟩⟩;rw[M,Nat.zero_mul,QE9,QFh];omega
  grind
  refine .inr ⟨.inr hes,B,c,by grind,h3,by grind, ?_,λo=>by simp_all,h7⟩;rw[M];exact(s5.ng l hrl hln h5).congr (by grind [Kn.le_refl]) λr0 hr d hd j C=>gN j (hidb r0 (QEL hr) d hd j C).1
 have r2:Rel E g' ⟨(s.r7 k).fr,(k,⟨b.rows.drop l,b.l0,b.et,b.pr⟩)::(s.r7 k).H⟩ a w:=by
  refine⟨r1.nt,r1.df,r1.fr,λt d h j C=>(hL _ j).2 (.inr (r1.da t d h j C)),λj b2 h i hi=>(hL _ i).2 (.inr ?_),λj b2 h=>?_,λj j' b1 b2 B e e' O G h3 h4=>?_,r1.kr,r1.ext,r1.kx,λj C=>?_⟩;rw[Qz]at h;split at h;cases h
  unfold x4.ids at hi
  grind
  exact r1.x9 j b2 h i hi;rw[Qz]at h;split at h
  grind
  exact r1.bx j b2 h;rw[gB]at h3 h4
  have Y:∀j b1,lk ((k,⟨b.rows.drop l,b.l0,b.et,b.pr⟩)::(s.r7 k).H) j=some b1->∃b0,lk s.H j=some b0:=λj b1 h=>by
   grind
  obtain⟨b3,q1⟩:=Y j b1 O;obtain⟨b4,q2⟩:=Y j' b2 G;exact r.inj j j' b3 b4 B e e' q1 q2 h3 h4;obtain⟨q1,q2,q3,q4⟩:=r1.kp j C
  grind
 have U:∀j,lk ((k,⟨b.rows.drop l,b.l0,b.et,b.pr⟩)::(s.n4 k).H) j=lk ((k,(⟨b.rows.drop l,b.l0,b.et,b.pr⟩:x4))::(s.r7 k).H) j:=λj=>by
  rw[Qz,Qz]
  by_cases h:k=j
  grind
  rw[if_neg h,if_neg h];show _=lk (rem k (s.n4 k).H) j;rw[GA,if_neg (Ne.symm h)]
 refine⟨_,w,g',run,r2.je rfl U,λj C=>?_,.inr ⟨_,rfl,⟨_,cap - l,rfl,Wa, ?_⟩⟩⟩
 grind [D.ids,D.y4]
 by_cases hz:cap - l=0
 omega;rw[if_neg hz];rcases h4 with⟨h,G⟩ |⟨B,esz',O,rfl,h3⟩ |hg
 omega
 have he':esz'=b.l0:=by
  rcases V with⟨_,⟨G,_⟩ |⟨_,G,_⟩⟩ |⟨_,B2,c,G,_⟩
  grind
  omega
  grind
 subst he';refine .inr (.inl ⟨B,b.l0,by grind,by grind [add_lit], ?_⟩);rw[M];simp only;rw[Nat.add_assoc,<- QE2,show l+(cap - l)=cap by omega];omega
 have hl:l=0:=h0 (by
  rcases V with⟨G,_⟩ |⟨_,B2,c,G,_⟩;omega;exact(hg.no G).elim)
 subst hl;refine .inr (.inr ⟨by rw[gB];exact hg.1, ?_⟩)
 rw[M,Nat.zero_mul,QE9];exact hg.2
end
variable {H:QEf} {S:Nat->Bool}
def D.x7 (H:QEf) (S:Nat->Bool):D->D
 | .u4 k n=>if S k=true then(match lk H k with |some b=>if b.pr=true/\n=b.rows.length then .sl b.rows else .z7 |none=>.z7)else .u4 k n
 | .la k lo c n=>if S k=true then .z7 else .la k lo c n
 | .ref k i off=>if S k=true then(match lk H k with |some b=>if b.pr=true then .ptr ((b.rows.getD i []).drop off)else .z7 |none=>.z7)else .ref k i off
 | .w8 f k ps=>if S k=true then .z7 else .w8 f k ps
 |d=>d
def D.fz (H:QEf) (S:Nat->Bool):D->D
 | .agg cs=>.agg (cs.map (D.x7 H S))
 | .k9 f cs=>.k9 f (cs.map (D.x7 H S))
 | .ia cs x=>.ia (cs.map (D.x7 H S)) x
 |d=>d.x7 H S
theorem L8 (h:d.l5=true):(d.x7 H S).l5=true:=by
 cases d<;>simp only[D.x7]<;>try exact h
 all_goals (repeat' split)<;>rfl
theorem G3 (h:j∈(d.x7 H S).y4):j∈d.y4/\S j=false:=by
 cases d<;>simp only[D.x7]at h<;>try trivial
 all_goals
  (repeat' split at h)<;>simp[D.y4]at h ⊢
  grind
theorem QsQ (h:j∈(d.fz H S).ids):j∈d.ids/\S j=false:=by
 cases d
 case agg cs=>
  simp only[D.fz,D.ids]at h ⊢;obtain⟨x,hx,C⟩:=QEp.1 h;obtain⟨y,O,rfl⟩:=QEw.1 hx;obtain⟨M,G⟩:=G3 C
  grind
 case k9 f cs=>
  simp only[D.fz,D.ids]at h ⊢;obtain⟨x,hx,C⟩:=QEp.1 h;obtain⟨y,O,rfl⟩:=QEw.1 hx;obtain⟨M,G⟩:=G3 C
  grind
 case ia cs z=>
  simp only[D.fz,D.ids]at h ⊢;obtain⟨x,hx,C⟩:=QEp.1 h;obtain⟨y,O,rfl⟩:=QEw.1 hx;obtain⟨M,G⟩:=G3 C
  grind
 case u4 k n=>
  grind [D.x7,D.fz,D.ids,G3]
 case la k lo c n=>
  grind [D.x7,D.fz,D.ids,G3]
 case w8 f k ps=>
  grind [D.x7,D.fz,D.ids,G3]
 case ref k i off=>
  grind [D.x7,D.fz,D.ids,G3]
 all_goals (trivial)
section
variable {P:Program} {E:Env} {g:Gh} {s:St} {a:Act} {w:World} {o:Oper} {dst:Option Nat}
theorem Pr {K:Kn} {B:Nat} {c:Array Value} (M:g.K.le K) (G:∀p x,c[p]?=some x->K B p=some x):∀{off:Nat} {ds:List D},j5 g c off ds->(∀d∈ds,d.y4=[])->o5 K B off ds
 |_,[],_,_=>by trivial
 |off,d::ds,h,hs=>by
  simp only[j5,o5]at h ⊢;obtain⟨⟨V,x,U,T⟩,O⟩:=h
  have C:d.own=false:=by
   have:=hs d Wd;cases d<;>first |rfl |(trivial)
  exact⟨⟨V,x,G off x U,(T.oc C).mono M⟩,Pr M G O λd hd=>hs d Wc⟩
theorem B5 {K:Kn} {B:Nat} {c:Array Value} (G:g.K.le K) (C:∀p x,c[p]?=some x->K B p=some x):∀{off:Nat} {rs:List (List D)},s5 g c off rs->(∀r∈rs,∀d∈r,d.y4=[])->j6 K B off rs
 |_,[],_,_=>by trivial
 |off,r::rs,h,hs=>by
  simp only[s5,j6]at h ⊢;exact⟨Pr G C h.1 (hs r Wd),B5 G C h.2 λr hr=>hs r Wc⟩
theorem P8 (r:Rel E g s a w) (S:Nat->Bool):∃K:Kn,g.K.le K/\ka K w/\(∀b,(∀k bx e,lk s.H k=some bx->S k=true->g.β k≠some (b,e))->K b=g.K b)/\
  (∀d v,z4 g d v->(∀k∈d.y4,(lk s.H k).isSome=true)->z4 {g with K:=K} (d.x7 s.H S) v):=by
 classical
 let K:Kn:=λb p=>if∃k bx e,lk s.H k=some bx/\S k=true/\bx.pr=true/\g.β k=some (b,e)then(match w.heap[b]? with |some (.cells c _ _)=>c[p]? |_=>none)else g.K b p
 have hle:g.K.le K:=by
  intro b p x hx;simp only[K];rw[if_neg];omega;rintro⟨k,bx,e,h1,_,_,h2⟩;obtain⟨_,_,C⟩:=r.bx k bx h1;rcases C with⟨_,⟨C,_⟩ |⟨_,_,_,_,_,B,_,V,_,U,_⟩⟩ |⟨_,B,c,V,_,_,_,U,_⟩
  grind
  grind
  grind
 have Y:∀k bx B e c,lk s.H k=some bx->S k=true->bx.pr=true->g.β k=some (B,e)->w.heap[B]?=some (.cells c bx.et (0,0))->∀p x,c[p]?=some x->K B p=some x:=by
  intro k bx B e c h1 h2 C V U p x hx;simp only[K];rw[if_pos ⟨k,bx,e,h1,h2,C,V⟩,U];omega
 refine⟨K,hle, ?_, ?_, ?_⟩;intro b p x hx;simp only[K]at hx;split at hx
 grind
 exact r.kr b p x hx
 grind
 ·intro d v hd hsome;have zf:∀d,z4 g d v->z4 {g with K:=K} d v:=λd h=>h.congr hle λ_ _=>⟨rfl,rfl⟩;cases d<;>simp only[D.x7]<;>try grind
  case u4 k n=>
   split;rename_i hS
   have T:z4 {g with K:=K} .z7 v:=by
    obtain⟨_,_,rfl,_⟩:=hd;rfl
   split;rename_i b hb;split
   ·rename_i hp;obtain⟨hp,hn⟩:=hp;obtain⟨a0,cap,rfl,h1,h2⟩:=hd;simp only[z4,s4];subst hn;refine⟨a0,cap,rfl,h1, ?_⟩;rcases h2 with⟨h2,_⟩ |⟨B,l0,C,rfl,_⟩ |hg
    grind
    rotate_left
    obtain⟨_,_,O⟩:=r.bx k b hb;rcases O with⟨O,_⟩ |⟨_,_,_,M,_⟩
    grind
    exact(hg.no M).elim;obtain⟨V,U,O⟩:=r.bx k b hb;rcases O with⟨O,_⟩ |⟨_,B',c,M,h8,_,h9,_⟩
    grind
    rw[C]at M;cases M;exact .inr ⟨B,_,b.l0,rfl,V,B5 hle (Y k b B b.l0 c hb hS hp C h8) h9 (U hp)⟩
   omega;omega
   grind
  case la k lo c n=>
   split;obtain⟨_,_,rfl,_⟩:=hd;rfl
   grind
  case w8 f k ps=>
   split;obtain⟨_,_,_,_,_,rfl,_⟩:=hd;rfl
   grind
  case ref k i off=>
   split;rename_i hS
   have T:z4 {g with K:=K} .z7 v:=by
    obtain⟨_,_,_,_,rfl⟩:=hd;rfl
   split;rename_i b hb;split;rename_i hp;obtain⟨B,l0,zo,C,rfl⟩:=hd;simp only[z4,s4];obtain⟨V,U,O⟩:=r.bx k b hb
   by_cases hi:i<b.rows.length
   have G:=QE8 hi;rcases O with⟨O,_⟩ |⟨_,B',c,M,h8,_,h9,_⟩
   grind
   obtain⟨h3',hzo⟩:=C.resolve_right λhg=>hg.no M;clear C;have C:=h3';rw[C]at M;cases M;subst hzo;refine⟨B,_,rfl, ?_⟩;have h10:=KL i V h9 G;have h11:=Pr hle (Y k b B b.l0 c hb hS hp C h8) h10 (U hp _ (QEK G));have e1:b.rows.getD i []=b.rows[i]:=by grind
   rw[e1]
   have:∀{off:Nat} {ds:List D} (n:Nat),o5 K B off ds->o5 K B (off+n) (ds.drop n):=by
    intro off ds n
    induction n generalizing off ds with
    |zero=>simp
    |succ n ih=>
     intro h;cases ds with
     |nil=>trivial
     |cons d ds=>
      grind [o5]
   grind
   refine⟨B,_,rfl, ?_⟩;have e1:b.rows.getD i []=[]:=by grind
   rw[e1];grind [o5];omega;omega
   grind
theorem n5.fz {K:Kn} {S:Nat->Bool} (h:∀d v,z4 g d v->(∀k∈d.y4,(lk s.H k).isSome=true)->z4 {g with K:=K} (d.x7 s.H S) v):∀{ds:List D} {vs:List Value},n5 g ds vs->(∀k∈ds.flatMap D.y4,(lk s.H k).isSome=true)->n5 {g with K:=K} (ds.map (D.x7 s.H S)) vs
 |[],[],_,_=>trivial
 |d::ds,v::vs,h1,h2=>⟨h d v h1.1 λk hk=>h2 k Wc,n5.fz h h1.2 λk hk=>h2 k Wc⟩
 |[],_::_,h1,_=>h1.elim
 |_::_,[],h1,_=>h1.elim
theorem a7.fz {K:Kn} {S:Nat->Bool} (h:∀d v,z4 g d v->(∀k∈d.y4,(lk s.H k).isSome=true)->z4 {g with K:=K} (d.x7 s.H S) v) {d:D} {v:Value} (hd:a7 g d v) (hi:Has s d):a7 {g with K:=K} (d.fz s.H S) v:=by
 cases d
 case agg cs=>
  obtain⟨vs,rfl,C,T⟩:=hd;refine⟨vs,rfl,n5.fz h C hi,λd hd=>?_⟩;obtain⟨y,G,rfl⟩:=QEw.1 hd
  grind [L8]
 case k9 f cs=>
  obtain⟨vs,rfl,C⟩:=hd;exact⟨vs,rfl,n5.fz h C hi⟩
 case ia cs x=>
  obtain⟨vs,u,rfl,C,T,O⟩:=hd;refine⟨vs,u,rfl,n5.fz h C hi,λd hd=>?_, ?_⟩;obtain⟨y,G,rfl⟩:=QEw.1 hd
  grind [L8]
  have hx:x.own=false:=by cases x<;>first |rfl |(trivial)
  have M:x.x7 s.H S=x:=by cases x<;>first |rfl |(trivial)
  have U:x.y4=[]:=by cases x<;>first |rfl |(trivial)
  have:=h x u (z4.of O) (λk hk=>by grind);rw[M]at this;exact this.oc hx
 case u4 k n=>
  have:=h _ _ (show z4 g (.u4 k n) v from hd) hi;simp only[D.fz];revert this;simp only[D.x7]
  (repeat' split)<;>exact id
 case la k lo c n=>
  have:=h _ _ (show z4 g (.la k lo c n) v from hd) hi;simp only[D.fz];revert this;simp only[D.x7]
  (repeat' split)<;>exact id
 case w8 f k ps=>
  have:=h _ _ (show z4 g (.w8 f k ps) v from hd) hi;simp only[D.fz];revert this;simp only[D.x7]
  (repeat' split)<;>exact id
 case ref k i off=>
  have:=h _ _ (show z4 g (.ref k i off) v from hd) hi;simp only[D.fz];revert this;simp only[D.x7]
  (repeat' split)<;>exact id
 case undef=>trivial
 case top=>trivial
 case z7=>trivial
 case int k n=>trivial
 case bool b=>trivial
 case val b=>trivial
 case pe f l=>exact h (.pe f l) v hd hi
 case str l=>trivial
 case sl l=>exact h (.sl l) v hd hi
 case u7 l=>exact h (.u7 l) v hd hi
 case ptr l=>exact h (.ptr l) v hd hi
 case g8 l=>exact h (.g8 l) v hd hi
def x4.fz (H:QEf) (S:Nat->Bool) (b:x4):x4:=if b.pr then b else{b with rows:=b.rows.map λr=>r.map (D.x7 H S)}
def St.freeze (k:Nat) (s:St):St:=
 {fr:=s.fr.map λp=>(p.1,p.2.fz s.H (·==k)),H:=rem k (s.H.map λp=>(p.1,p.2.fz s.H (·==k)))}
theorem Rel.freeze (r:Rel E g s a w) (k:Nat) (hk0:k<1000000):∃g',g'.β=g.β/\Rel E g' (s.freeze k) a w:=by
 obtain⟨K,hle,hkr,T,hrep⟩:=P8 r (·==k);refine⟨{g with K:=K},rfl, ?_⟩
 have hlk:∀j,lk (s.freeze k).H j=if j=k then none else(lk s.H j).map (x4.fz s.H (·==k)):=λj=>by
  grind [St.freeze,GA,Yq]
 have G:∀j,j≠k->(lk (s.freeze k).H j).isSome=(lk s.H j).isSome:=λj O=>by
  grind
 have key:∀j b,lk (s.freeze k).H j=some b->j≠k/\∃b0,lk s.H j=some b0/\b=b0.fz s.H (·==k):=λj b h=>by
  grind [Option.map_eq_some_iff]
 have Y:∀j b B e,j≠k->lk s.H j=some b->g.β j=some (B,e)->K B=g.K B:=λj b B e O hb hβ=>T B λk' bx e' C h2 h3=>by
  have:k'=k:=by grind
  subst this;exact O (r.inj j k' b bx B e e' hb C hβ h3)
 refine⟨r.nt,r.df,λt d h=>?_,λt d h j O=>?_,λj b h i hi=>?_,λj b h=>?_,λj j' b b' B e e' C h2=>?_,hkr,r.ext,λb hb hf=>?_,λj O=>let⟨C,h2,h3,h4⟩:=r.kp j O;⟨C,h2,h3,(G j Wa).trans h4⟩⟩
 simp only[St.freeze,Yq]at h;obtain⟨d0,C,rfl⟩:=QEh.1 h;exact(r.fr t d0 C).fz hrep (r.da t d0 C);simp only[St.freeze,Yq]at h;obtain⟨d0,C,rfl⟩:=QEh.1 h;obtain⟨V,q2⟩:=QsQ O;have:j≠k:=by grind
 rw[G j this];exact r.da t d0 C j V;obtain⟨_,b0,C,rfl⟩:=key j b h;unfold x4.fz at hi;cases hp:b0.pr with
 |true=>grind [x4.ids]
 |false=>
  simp only[hp,QEq,if_false,x4.ids]at hi;obtain⟨r0,hr,hi⟩:=QEp.1 hi;obtain⟨r1,hr1,rfl⟩:=QEw.1 hr;obtain⟨d,hd,hi⟩:=QEp.1 hi;obtain⟨d1,hd1,rfl⟩:=QEw.1 hd;obtain⟨V,q2⟩:=G3 hi;have:i≠k:=by grind
  rw[G i this];exact r.wa j b0 C r1 hr1 d1 hd1 i V
 obtain⟨O,b0,C,rfl⟩:=key j b h;obtain⟨V,q2,q3⟩:=r.bx j b0 C;unfold x4.fz;cases hp:b0.pr with
 |true=>
  simp only[if_true];refine⟨V,λ_=>q2 hp,q3.imp (λ⟨x,y⟩=>⟨x,y.imp id λi=>by have:=i.2.2.1;grind⟩) ?_⟩
  rintro⟨q4,B,c,U,q6,q7,q8,q9,M⟩;refine⟨q4,B,c,U,q6,q7,s5.congr (g:=g) hle q8 (λ_ _ _ _ _ _=>⟨rfl,rfl⟩),λo=>?_,M⟩;show K B o=none;rw[Y j b0 B _ O C U];grind
 |false=>
  simp only[QEq,if_false];refine⟨?_,by simp, ?_⟩
  grind
  rcases q3 with⟨q3,q4⟩ |⟨q4,B,c,U,q6,q7,q8,q9,M⟩;exact .inl ⟨by grind,q4.imp (λ⟨y,z⟩=>⟨y,⟨(λh=>by rw[z.1 h]at hp;cases hp),λh=>by have:=congrArg x4.pr h;trivial⟩⟩) λ⟨i1,i2,i3,sv,p,B,i4,i5,i6,i7,i8⟩=>⟨by grind,i2,rfl,sv,p,B,i4,i5,i6,(λo=>by show K B o=none;rw[Y j b0 B _ O C i5];grind),i8⟩⟩
  refine .inr ⟨by simp_all,B,c,U,q6,q7, ?_,λo=>?_,M⟩
  have cells:∀{off:Nat} {ds:List D},j5 g c off ds->(∀d∈ds,∀i∈d.y4,(lk s.H i).isSome=true)->j5 {g with K:=K} c off (ds.map (D.x7 s.H (·==k))):=by
   intro off ds
   induction ds generalizing off with
   |nil=>intro _ _;trivial
   |cons d ds ih=>
    grind [j5,L8]
  have rows:∀{off:Nat} {rs:List (List D)},s5 g c off rs->(∀r∈rs,∀d∈r,∀i∈d.y4,(lk s.H i).isSome=true)->s5 {g with K:=K} c off (rs.map λr=>r.map (D.x7 s.H (·==k))):=by
   intro off rs
   induction rs generalizing off with
   |nil=>intro _ _;trivial
   |cons r rs ih=>
    intro h hs
    grind [s5]
  exact rows q8 (r.wa j b0 C);show K B o=none;rw[Y j b0 B _ O C U];grind
 obtain⟨_,b0,V,_⟩:=key j b C;obtain⟨_,b0',q2,_⟩:=key j' b' h2;exact r.inj j j' b0 b0' B e e' V q2;show K b=E.K0 b;rw[T b λk' bx e C h2 h3=>?_];exact r.kx b hb hf
 ·obtain⟨_,_,q3⟩:=r.bx k' bx C;rcases q3 with⟨_,⟨q4,_⟩ |⟨_,_,_,_,_,B,_,U,_,_,M⟩⟩ |⟨_,B,c,U,_,_,_,_,M⟩
  grind
  all_goals
   grind
end
variable {b:Bool} {ks:List Nat} {t:TypeId}
def Fz:List Nat->List D->List D->Option Bool
 |[],[],[]=>some true
 |0::ks,.int k m::r,.int j n::q=>if k=j then(Fz ks r q).map (decide (m=n)&&·)else none
 |1::ks,.bool m::r,.bool n::q=>(Fz ks r q).map (decide (m=n)&&·)
 |2::ks,.str m::r,.str n::q=>(Fz ks r q).map (decide (m=n)&&·)
 |_,_,_=>none
def kindOf (P:Program) (t:TypeId):Option Nat:=
 match P.underlying t with
 |some (.int _)=>some 0
 |some .bool=>some 1
 |some .string=>some 2
 |_=>none
def Lb (P:Program) (kT:TypeId->Option (List Nat)):Nat->List Field->Option (List Nat)
 |_,[]=>some []
 |k,f::fs=>if f.offset=k/\f.name≠ "_" then match kT f.type,XV P f.type with
   |some ks,some sz=>if ks.length=sz then(Lb P kT (k+sz) fs).map (ks++·)else none
   |_,_=>none
  else none
def PG (P:Program):Nat->TypeId->Option (List Nat)
 |0,_=>none
 |n+1,t=>match P.underlying t with
  |some (.int _)=>some [0]
  |some .bool=>some [1]
  |some .string=>some [2]
  |some (.struct fields)=>if P.stoodInHeld t=false then Lb P (PG P n) 0 fields.toList else none
  |_=>none
def Be (P:Program):Nat->List Field->Option (List Nat):=Lb P (PG P 50)
theorem Gd:∀(C:List Nat) {M:List Nat} {ds es:List D} {b:Bool},Fz (C++M) ds es=some b->
  ∃b1 b2,Fz C (ds.take C.length) (es.take C.length)=some b1/\Fz M (ds.drop C.length) (es.drop C.length)=some b2/\b=(b1&&b2)
 |[],M,ds,es,b,h=>⟨true,b,by rfl,by grind,by simp⟩
 |c::C,M,ds,es,b,h=>by
  rw[QFi]at h
  match c,ds,es,h with
  |0,.int k m::r,.int j n::q,h=>
   simp only[Fz]at h;split at h;rename_i hk;obtain⟨b',G,rfl⟩:=QEh.1 h;obtain⟨b1,b2,T,O,rfl⟩:=Gd C G
   grind [Fz]
   grind
  |1,.bool m::r,.bool n::q,h=>
   simp only[Fz]at h;obtain⟨b',G,rfl⟩:=QEh.1 h;obtain⟨b1,b2,T,O,rfl⟩:=Gd C G
   grind [Fz]
  |2,.str m::r,.str n::q,h=>
   simp only[Fz]at h;obtain⟨b',G,rfl⟩:=QEh.1 h;obtain⟨b1,b2,T,O,rfl⟩:=Gd C G
   grind [Fz]
section
variable {P:Program} {E:Env} {g:Gh} {s:St} {a:Act} {w:World} {o:Oper} {dst:Option Nat}
theorem S8:∀{ds:List D} {vs:List Value} (n:Nat),n5 g ds vs->n5 g (ds.drop n) (vs.drop n)
 |[],[],n,h=>by grind
 |_::_,_::_,0,h=>h
 |_::_,_::_,n+1,h=>S8 n h.2
 |[],_::_,_,h=>h.elim
 |_::_,[],_,h=>h.elim
theorem B4:∀{ds:List D} {vs:List Value} (n:Nat),n5 g ds vs->n5 g (ds.take n) (vs.take n)
 |[],[],n,h=>by grind
 |_::_,_::_,0,_=>trivial
 |_::_,_::_,n+1,h=>⟨h.1,B4 n h.2⟩
 |[],_::_,_,h=>h.elim
 |_::_,[],_,h=>h.elim
def RV (P:Program) (g:Gh) (t:TypeId) (ds:List D) (v:Value):Prop:=
 (Qai P t=some true/\∃vs:List Value,v=.agg vs.toArray/\n5 g ds vs)\/(Qai P t=some false/\∃d,ds=[d]/\z4 g d v)
theorem Qh6 {f:TypeId} {sz off:Nat} {cs:List Value} {ds:List D} (hb:Qai P f=some b) (G:XV P f=some sz) (M:b=false->sz=1) (O:off+sz<=cs.length) (h:n5 g ds (cs.drop off)):
  ∃v,(part f cs.toArray off).run P w=.ok v w/\RV P g f (ds.take sz) v:=by
 cases b with
 |false=>
  have:=M rfl;subst this;have C:off<cs.length:=Wa;rw[QEz C]at h;cases ds with
  |nil=>trivial
  |cons d ds=>
   refine⟨cs[off], ?_,.inr ⟨hb,d,rfl,h.1⟩⟩
   (repeat clear hK K);simp_all [part,YB]
 |true=>
  refine⟨.agg ((cs.drop off).take sz).toArray, ?_,.inl ⟨hb,_,rfl,B4 sz h⟩⟩;simp[part,YB hb,ZH G]
theorem Qil {n:Nat} (h:PG P n t=some ks):∃b,Qai P t=some b/\(b=false->ks.length=1):=by
 cases n with
 |zero=>trivial
 |succ n=>
  simp only[PG]at h;unfold Qai;cases hu:P.underlying t with
  |none=>grind
  |some d=>cases d<;>simp[hu]at h<;>first |grind |simp
theorem P7:∀{ks:List Nat} {ds es:List D} {b:Bool},Fz ks ds es=some b->ds.length=ks.length/\es.length=ks.length
 |[],[],[],_,_=>⟨rfl,rfl⟩
 |c::ks,ds,es,b,h=>by
  match c,ds,es,h with
  |0,.int k m::r,.int j n::q,h=>
   simp only[Fz]at h;split at h;obtain⟨b',C,rfl⟩:=QEh.1 h;obtain⟨M,G⟩:=P7 C
   grind
   grind
  |1,.bool m::r,.bool n::q,h=>
   simp only[Fz]at h;obtain⟨b',C,rfl⟩:=QEh.1 h;obtain⟨M,G⟩:=P7 C
   grind
  |2,.str m::r,.str n::q,h=>
   simp only[Fz]at h;obtain⟨b',C,rfl⟩:=QEh.1 h;obtain⟨M,G⟩:=P7 C
   grind
 |[],_::_,_,_,h=>by trivial
 |[],[],_::_,_,h=>by trivial
theorem QfY (n d:Nat) (hT:∀(t:TypeId) (ks:List Nat) (ds es:List D) (O M:Value) (b:Bool),PG P n t=some ks->RV P g t ds O->RV P g t es M->Fz ks ds es=some b->(Op.equalIn d t O M).run P w=.ok b w):
  ∀(fs:List Field) (k:Nat) (ks:List Nat) (ds es:List D) (xs ys:List Value) (b:Bool),Lb P (PG P n) k fs=some ks->n5 g ds (xs.drop k)->n5 g es (ys.drop k)->Fz ks ds es=some b->
  (Op.eqFields d xs.toArray ys.toArray fs).run P w=.ok b w
 |[],k,ks,ds,es,xs,ys,b,hk,_,_,hb=>by
  simp only[Lb,QEl]at hk;subst hk;cases ds with
  |nil=>cases es with
   |nil=>simp_all [Fz,Op.eqFields]
   |cons=>trivial
  |cons=>trivial
 |f::fs,k,ks,ds,es,xs,ys,b,hk,hx,hy,hb=>by
  simp only[Lb]at hk;split at hk;rename_i hf;obtain⟨hfo,G⟩:=hf;split at hk;rename_i k1 sz e1 e2;split at hk;rename_i hlen;obtain⟨k2,h2,rfl⟩:=QEh.1 hk;obtain⟨b1,b2,c1,c2,rfl⟩:=Gd k1 hb;obtain⟨Y,t1,t2⟩:=Qil e1;obtain⟨l1,l2⟩:=P7 hb;have lx:=hx.len;have ly:=hy.len;simp only[List.length_drop,QEY]at lx ly l1 l2;rw[hlen]at c1 c2 l1 l2;have C:Y=false->sz=1:=λh=>by grind
  have hex:∃v,(part f.type xs.toArray f.offset).run P w=.ok v w/\RV P g f.type (ds.take sz) v:=by
   by_cases h0:sz=0/\xs.length<k
   obtain⟨h0,h1⟩:=h0;cases Y with
   |false=>grind
   |true=>
    subst h0;refine⟨.agg #[], ?_,.inl ⟨t1,[],rfl,by trivial⟩⟩
    (repeat clear hK K);simp_all [part,YB,ZH]
   exact Qh6 t1 e2 C Wa Wc
  have V:∃v,(part f.type ys.toArray f.offset).run P w=.ok v w/\RV P g f.type (es.take sz) v:=by
   by_cases h0:sz=0/\ys.length<k
   obtain⟨h0,h1⟩:=h0;cases Y with
   |false=>grind
   |true=>
    subst h0;refine⟨.agg #[], ?_,.inl ⟨t1,[],rfl,by trivial⟩⟩
    (repeat clear hK K);simp_all [part,YB,ZH]
   exact Qh6 t1 e2 C Wa Wc
  obtain⟨O,r1,rx⟩:=hex;obtain⟨M,r2,ry⟩:=V;have he:=hT f.type k1 _ _ O M b1 e1 rx ry c1;have U:n5 g (ds.drop sz) (xs.drop (k+sz)):=by rw[<- List.drop_drop];grind [S8]
  have T:n5 g (es.drop sz) (ys.drop (k+sz)):=by rw[<- List.drop_drop];grind [S8]
  have ih:=QfY n d hT fs (k+sz) k2 _ _ xs ys b2 h2 U T c2;simp only[Op.eqFields,ne_eq,G,not_false_eq_true,if_true];cases b1
  (repeat clear hK K);simp_all
  (repeat clear hK K);simp_all
  grind
  grind
  grind
theorem C5:∀(n:Nat) (d:Nat),n<=d->∀(t:TypeId) (ks:List Nat) (ds es:List D) (M G:Value) (b:Bool),PG P n t=some ks->RV P g t ds M->RV P g t es G->Fz ks ds es=some b->
  (Op.equalIn d t M G).run P w=.ok b w
 |0,_,_,_,_,_,_,_,_,_,h,_,_,_=>by trivial
 |n+1,0,hd,_,_,_,_,_,_,_,_,_,_,_=>Wa
 |n+1,d+1,hd,t,ks,ds,es,M,G,b,hk,hx,C,hb=>by
  simp only[PG]at hk
  have U:∀ty,P.underlying t=some ty->Qai P t=some (match ty with | .struct _=>true | .array _ _=>true |_=>false):=λty h=>by
   grind [Qai]
  cases hu:P.underlying t with
  |none=>grind
  |some ty=>
   have ha:=U ty hu;cases ty<;>simp only[hu,QEl,reduceCtorEq]at hk
   case int kk=>
    subst hk;rcases hx with⟨h,_⟩ |⟨_,x,rfl,rx⟩
    grind
    rcases C with⟨h,_⟩ |⟨_,y,rfl,ry⟩
    grind
    cases x<;>try trivial
    cases y<;>try trivial
    rename_i i m j n;simp only[Fz]at hb;split at hb;rename_i hk;subst hk;simp only[QE6,QEl,QFj]at hb
    grind [z4,s4,run_equalIn_int]
    grind
   case bool=>
    subst hk;rcases hx with⟨h,_⟩ |⟨_,x,rfl,rx⟩
    grind
    rcases C with⟨h,_⟩ |⟨_,y,rfl,ry⟩
    grind
    cases x<;>try trivial
    cases y<;>try trivial
    rename_i m n;simp only[Fz,QE6,QEl,QFj]at hb
    grind [z4,s4,run_equalIn_bool]
   case string=>
    subst hk;rcases hx with⟨h,_⟩ |⟨_,x,rfl,rx⟩
    grind
    rcases C with⟨h,_⟩ |⟨_,y,rfl,ry⟩
    grind
    cases x<;>try trivial
    cases y<;>try trivial
    rename_i m n;simp only[Fz,QE6,QEl,QFj]at hb;simp only[z4,s4]at rx ry;subst rx;subst ry;subst hb;rw[run_equalIn_string w d t _ _ hu];rw[ByteArray.toList_mk,ByteArray.toList_mk]
    grind
   case struct fields=>
    split at hk
    ·rename_i O;rcases hx with⟨_,xs,rfl,rx⟩ |⟨h,_⟩
     rotate_left
     grind
     rcases C with⟨_,ys,rfl,ry⟩ |⟨h,_⟩
     rotate_left
     grind
     have T:P.fieldsOf t=fields:=by grind [Program.fieldsOf]
     rw[run_equalIn_struct w d t _ _ Wc O,T];exact QfY n d (C5 n d Wa) fields.toList 0 ks ds es xs ys b hk rx ry hb
    grind
theorem QcB {op:BinOp} {u:TypeId} {x y:Operand} {x' y':y5} {xs ys:List D} {fields:Array Field} (r:Rel E g s a w) (ho:o.op=.binOp op t x y u) (hx:QP x=some x') (T:QP y=some y')
 (hu:P.underlying t=some (.struct fields)) (hk:Be P 0 fields.toList=some ks) (C:P.stoodInHeld t=false) (hm:P.eqGuardType P.depth t=false)
 (he:s.ev x'=some (.agg xs)) (U:s.ev y'=some (.agg ys)) (hb:Fz ks xs ys=some b):
  (op=.eql->Good P E s a w o dst (.bool b) none)/\(op=.neq->Good P E s a w o dst (.bool (!b)) none):=by
 obtain⟨O,e1,V,_⟩:=(Zy r hx he).1;obtain⟨M,e2,Y,_⟩:=(Zy r T U).1;have G:P.fieldsOf t=fields:=by grind [Program.fieldsOf]
 have heq:(Op.equalIn 10000 t (.agg O.toArray) (.agg M.toArray)).run P w=.ok b w:=by
  rw[run_equalIn_struct w 9999 t _ _ Wc C,G];exact QfY 50 9999 (C5 50 9999 Wa) _ 0 ks xs ys O M b hk (by simpa using V) Wc hb
 constructor;rintro rfl;exact Good.bool r (by simp_all [execOp,run_eqGuard_agg,run_eql_struct]);rintro rfl;exact Good.bool r (by simp_all [execOp,run_eqGuard_agg,run_neq_struct])
end
variable {e:TypeId}
section
variable {P:Program} {E:Env} {g:Gh} {s:St} {a:Act} {w:World} {o:Oper} {dst:Option Nat}
def QaI (c:UInt8):List D:=[.int .u8 c.toNat]
def HE:List (List D)->Option (List UInt8)
 |[]=>some []
 |[.int .u8 n]::r=>(HE r).map (UInt8.ofNat n.toNat::·)
 |_=>none
def Qrz (P:Program) (e:TypeId):Bool:=match P.underlying e with |some (.int .u8)=>true |_=>false
theorem QgL (h:Qrz P e=true):P.underlying e=some (.int .u8):=by
 grind [Qrz]
theorem Lu {K:Kn} {b:Nat}:∀(l:List UInt8) (off:Nat),(∀j (h:j<l.length),K b (off+j)=some (.int .u8 (l[j]).toNat))->j6 K b off (l.map QaI)
 |[],_,_=>by trivial
 |c::l,off,h=>by
  simp only[QEW,j6,QaI,o5];refine⟨⟨⟨rfl,.int .u8 c.toNat,h 0 Wd,by rfl⟩,trivial⟩, ?_⟩
  exact Lu l (off+1) λj C=>by
   have:=h (j+1) Wc
   grind
theorem Qa3 (r:Rel E g s a w) (ho:o.op=.convert t u x) (hx:QP x=some x')
 (M:P.underlying t=some .string) (hu:P.underlying u=some (.slice e)) (O:Qrz P e=true) (he:s.ev x'=some (.str l)):Good P E s a w o dst (.sl (l.map QaI)) none:=by
 obtain⟨T,h2⟩:=Zy r hx he;simp only[a7,z4,s4]at T;have G:=Go.Lib.run_convert_string_bytes (P:=P) w t u e ⟨l.toArray⟩ M hu (QgL O);have C:(⟨l.toArray⟩:ByteArray).size=l.length:=by rfl
 refine⟨.slice (some ⟨w.heap.size,0,none⟩) (⟨l.toArray⟩:ByteArray).size (grownCap w (⟨l.toArray⟩:ByteArray).size 0 e),Go.Lib.bytesWorld w e ⟨l.toArray⟩,{g with K:=λb o=>if b=w.heap.size then(if h:o<l.length then some (.int .u8 (l[o]).toNat)else none)else g.K b o}, ?_, ?_, ?_, ?_⟩
 (repeat clear hK K);simp_all [execOp]
 have hr:Rel E {g with K:=λb o=>if b=w.heap.size then(if h:o<l.length then some (.int .u8 (l[o]).toNat)else none)else g.K b o} s a (Go.Lib.bytesWorld w e ⟨l.toArray⟩):=by
  refine r.move (λb hb=>?_) (λ_ _=>⟨rfl,rfl⟩) (λb o x hk=>?_) (λb hb=>Go.Lib.bytesWorld_at_old w e _ b hb) (by grind [Go.Lib.bytesWorld_size]) ⟨rfl,rfl,rfl⟩
  grind
  dsimp only at hk;split at hk
  grind [Go.Lib.bytesWorld_at_new,Go.Lib.bytesCells]
  obtain⟨c,e',f,V,U⟩:=r.kr b o x hk
  grind [Go.Lib.bytesWorld_at_old]
 cases dst<;>exact hr
 rw[C];simp only[a7,z4,s4];refine⟨_,_,by rw[QFf],by grind [grownCap_ge],.inr ⟨_,0,1,rfl,λr hr=>by obtain⟨c,_,rfl⟩:=QEw.1 hr;rfl,Lu l 0 λj Y=>?_⟩⟩
 grind
 cases dst<;>exactλk hk=>by trivial
theorem TS:∀{ys:List (List D)} {l:List UInt8} {vs:List Value},HE ys=some l->n5 g ys.flatten vs->
  ∃ns:List Int,vs=ns.map (Value.int .u8)/\∀b:ByteArray,ns.foldl (λr n=>r.push (UInt8.ofNat n.toNat)) b=⟨(b.data.toList++l).toArray⟩
 |[],l,vs,h,hv=>by
  simp only[HE,QEl]at h;subst h;cases vs with
  |nil=>simp
  |cons v vs=>trivial
 |y::ys,l,vs,h,hv=>by
  unfold HE at h;split at h
  grind
  rename_i n r heq;cases heq
  obtain⟨l',M,rfl⟩:=QEh.1 h;simp only[QEU,List.singleton_append]at hv;cases vs with
  |nil=>trivial
  |cons v vs=>
   obtain⟨G,C⟩:=hv;simp only[z4,s4]at G;obtain⟨ns,rfl,O⟩:=TS M C;refine⟨n::ns,by grind,λb=>?_⟩
   (repeat clear hK K);simp_all
  grind
theorem Qa2 {q:D} {ys:List (List D)} {pr:Bool} (r:Rel E g s a w) (ho:o.op=.convert t u x) (hx:QP x=some x')
 (ht:P.underlying t=some (.slice e)) (hu:P.underlying u=some .string) (h8:Qrz P e=true) (he:s.ev x'=some q) (hs:s.src 1 q ys pr) (M:HE ys=some l):Good P E s a w o dst (.str l) none:=by
 obtain⟨h1,h2⟩:=Zy r hx he;obtain⟨Y,cap,hv,V,C,hlen,_⟩:=MI r h1 hs
 have U:(convert t u (a.eval x)).run P w=.ok (.string ⟨l.toArray⟩) w:=by
  rw[hv,run_convert_bytes_string w t u e Y _ _ ht (QgL h8) hu]
  have O:ys.flatten.length=ys.length:=by
   have:∀{G:List (List D)},(∀r∈G,r.length=1)->G.flatten.length=G.length:=by
    intro G
    induction G with
    |nil=>simp
    |cons z G ih=>grind
   grind
  rcases C with rfl |⟨B,off,rfl,C⟩;simp only[HE,QEl]at M;subst M;cases Y with
  |none=>rfl
  |some b=>
   rfl
  obtain⟨cs,q1,q2,q3,T⟩:=Qdv (P:=P) C;obtain⟨ns,rfl,h3⟩:=TS M q2;rw[O]at T;rw[run_bytesToString w _ _ _ ns T,h3];simp
 refine Good.of r (v:=.string ⟨l.toArray⟩) ?_ Wg λk hk=>by trivial
 (repeat clear hK K);simp_all [execOp]
end
variable {ao:s6} {b:Builtin} {c:Call} {captured:Array Operand} {ps:List D} {f:Nat} {xs:List y5}
def Qr6 (op:BinOp) (bt:Bool) (p q d:D):Prop:=
  match p,q with
  | .int k m,.int j n=>(Pe op=true\/k=j)/\QuA op k m n d
  | .bool m,.bool n=>bt=true/\((op=.eql/\d=.bool (decide (m=n)))\/(op=.neq/\d=.bool (!decide (m=n))))
  | .str m,.str n=>QuB op m n d
  | .k9 _ _,.val v=>v=.nilFunc/\op=.xor/\bt=true/\d=.bool false
  |_,_=>False
def unD (op:UnOp) (p d:D):Prop:=
  match p with
  | .bool b=>op=.not/\d=.bool (!b)
  | .int k n=>op=.neg/\d=.int k (k.wrap (0 - n))
  | .sl rows=>op=.plus/\rows≠[]/\d=.bool false
  |_=>False
def D.xd:D->Bool
  | .ptr _ | .ref _ _ _ | .k9 _ _ | .w8 _ _ _=>true
  |_=>false
def D.rows?:D->Option (List (List D))
  | .sl rows | .u7 rows=>some rows
  |_=>none
def QgQ (d:D):Option Int:=
  match d with
  | .sl rows | .u7 rows=>some rows.length
  | .u4 _ n=>some n
  |_=>none
def T5 (s:St) (off:Nat) (p d:D):Prop:=
  match p with
  | .ptr cells=>off<=cells.length/\d=.ptr (cells.drop off)
  | .ref k i j=>(lk s.H k).isSome=true/\d=.ref k i (j+off)
  |_=>False
def QgE (s:St) (l0:Nat) (n:Int) (p d:D):Prop:=
  match p with
  | .sl rows | .u7 rows=>∃row,rows[n.toNat]?=some row/\row.length=l0/\d=.ptr row
  | .u4 j m=>∃b,lk s.H j=some b/\m=b.rows.length/\n<m/\b.l0=l0/\d=.ref j n.toNat 0
  |_=>False
def QeT (et:Nat) (cells:List D):x4:=⟨[cells],cells.length,et,cells.all λd=>d.y4.isEmpty⟩
def Zh (s:St):List y5->Option (List D)
  |[]=>some []
  |x::r=>match s.ev x,Zh s r with
    |some d,some ds=>some (d::ds)
    |_,_=>none
def D.w9:D->Bool
  | .agg cs=>cs.all λd=>!d.own
  | .k9 _ cs=>cs.all λd=>!d.own
  | .ia _ _=>false
  |_=>true
def TK (op:s6) (dst:Option Nat) (s:St) (d:D) (bx:Option x4):Prop:=
  match op with
  | .wb x=>s.ev x=some d/\bx=none
  | .pick c x y=>∃t,s.ev c=some (.bool t)/\s.ev (if t=true then x else y)=some d/\bx=none
  | .alloc et cells=>∃t,dst=some t/\lk s.H t=none/\d=.ref t 0 0/\bx=some (QeT et cells)
  | .box et x=>∃t v cells,dst=some t/\s.ev x=some v/\v.cells=some cells/\lk s.H t=none/\d=.ref t 0 0/\bx=some (QeT et cells)
  | .build zero parts=>∃qs ds,X1 s parts=some qs/\Sj zero qs=some ds/\d=.agg ds/\bx=none
  | .buildSlice l0 et parts=>(∃t rows,dst=some t/\XB s l0 parts=some rows/\lk s.H t=none/\d=.u4 t parts.length/\bx=some ⟨rows,l0,et,rows.all λr=>r.all λd=>d.y4.isEmpty⟩)\/
      ∃rows,XB s l0 parts=some rows/\(rows.all λr=>r.all λd=>d.y4.isEmpty)=true/\d=.u7 rows/\bx=none
  | .load agg sz x=>∃p cells,s.ev x=some p/\s.at p cells/\(if agg=true then sz<=cells.length/\d=.agg (cells.take sz)else cells.head?=some d)/\bx=none
  | .nilCheck x=>∃p,s.ev x=some p/\p.xd=true/\d=p/\bx=none
  | .bin op bt x y=>∃p q,s.ev x=some p/\s.ev y=some q/\Qr6 op bt p q d/\bx=none
  | .eqs neg ks x y=>∃xs ys b,s.ev x=some (.agg xs)/\s.ev y=some (.agg ys)/\Fz ks xs ys=some b/\d=.bool (if neg=true then !b else b)/\bx=none
  | .un op x=>∃p,s.ev x=some p/\unD op p d/\bx=none
  | .conv k x=>∃j n,s.ev x=some (.int j n)/\d=.int k (k.wrap n)/\bx=none
  | .ba sb x=>∃q,s.ev x=some q/\bx=none/\(if sb=true then∃l,q=.str l/\d=.sl (l.map QaI)else∃ys pr l,s.src 1 q ys pr/\HE ys=some l/\d=.str l)
  | .slice l0 x lo hi mx=>(∃p rows l h,s.ev x=some p/\p.rows?=some rows/\s.bd lo 0 l/\s.bd hi rows.length h/\l<=h/\h<=rows.length/\(∀r∈rows,r.length=l0)/\
      (match mx with
       |none=>d=.sl ((rows.take h).drop l)
       |some _=>s.bd mx 0 h/\hi.isSome=true/\d=.u7 ((rows.take h).drop l))/\bx=none)\/
      (mx=none/\bx=none/\s.bd lo 0 0/\((∃rows,s.ev x=some (.u7 rows)/\s.bd hi rows.length rows.length/\d=.u7 rows)\/∃k n m,s.ev x=some (.u4 k n)/\s.bd hi n m/\m<=n/\d=.u4 k m))\/
      (mx=none/\bx=none/\∃k n l,s.ev x=some (.u4 k n)/\s.bd lo 0 l/\s.bd hi n n/\l<=n/\d=.la k l (l*l0) (n - l))
  | .o8 x lo hi=>∃c l h,s.ev x=some (.str c)/\s.bd lo 0 l/\s.bd hi c.length h/\l<=h/\h<=c.length/\d=.str ((c.take h).drop l)/\bx=none
  | .fieldAddr off x=>∃p,s.ev x=some p/\T5 s off p d/\bx=none
  | .field agg off sz x=>∃cells,s.ev x=some (.agg cells)/\(if agg=true then off+sz<=cells.length/\d=.agg ((cells.drop off).take sz)else cells[off]?=some d)/\bx=none
  | .indexAddr l0 x i=>∃k n p,s.ev i=some (.int k n)/\s.ev x=some p/\0<=n/\QgE s l0 n p d/\bx=none
  | .y8 x i=>∃k n l c,s.ev i=some (.int k n)/\s.ev x=some (.str l)/\0<=n/\l[n.toNat]?=some c/\d=.int .u8 c.toNat/\bx=none
  | .extract i x=>∃p ds,s.ev x=some p/\Quh p=some ds/\ds[i]?=some d/\bx=none
  | .len x=>∃p n,s.ev x=some p/\QgQ p=some n/\d=.int .i64 n/\bx=none
  | .z9 x=>∃l,s.ev x=some (.str l)/\d=.int .i64 l.length/\bx=none
  | .min x y=>∃k j m n,s.ev x=some (.int k m)/\s.ev y=some (.int j n)/\d=.int k (min m n)/\bx=none
  | .max x y=>∃k j m n,s.ev x=some (.int k m)/\s.ev y=some (.int j n)/\d=.int k (max m n)/\bx=none
  | .append l0 et bytes x y=>∃t rows q ys pr,dst=some t/\s.ev x=some (.u7 rows)/\s.ev y=some q/\s.src l0 q ys pr/\lk s.H t=none/\(rows=[]\/ys≠[])/\(∀r∈rows,r.length=l0)/\
      (rows.length+ys.length)*bytes<=140737488355328/\rows.length+ys.length<=4611686018427387904/\d=.u4 t (rows.length+ys.length)/\bx=some ⟨rows++ys,l0,et,pr⟩
  | .makeSlice l0 et bytes zero x y=>∃t k j n,dst=some t/\s.ev x=some (.int k n)/\s.ev y=some (.int j n)/\lk s.H t=none/\0<=n/\n.toNat*bytes<=281474976710656/\n.toNat<=4611686018427387904/\
      d=.u4 t n.toNat/\bx=some ⟨List.replicate n.toNat zero,l0,et,true⟩
  | .sc x=>∃rows,s.ev x=some (.u7 rows)/\d=.int .i64 rows.length/\bx=none
  | .de l0 et bytes zero x y=>∃t k n,dst=some t/\s.ev x=some (.u7 [])/\s.ev y=some (.int k n)/\lk s.H t=none/\0<n/\n.toNat*bytes<=140737488355328/\n.toNat<=4611686018427387904/\
      d=.u4 t n.toNat/\bx=some ⟨List.replicate n.toNat zero,l0,et,true⟩
  | .store .. =>False
  | .call .. =>False
  | .ja .. =>False
  | .stop=>False
  | .vd f xs=>∃ds,Zh s xs=some ds/\ds.all D.w9=true/\(d=.k9 f ds\/∃k ps,Gz f=[]/\ds=.ref k 0 0::ps/\(ps.all λd=>!d.own)=true/\d=.w8 f k ps)/\bx=none
  | .oe f xs=>∃ds,Zh s xs=some ds/\ds.all D.pure=true/\d=.pe f ds/\bx=none
  | .next .. =>False
  | .range x=>∃t l,dst=some t/\s.ev x=some (.str l)/\lk s.H t=none/\d=.ref t 0 0/\bx=some ⟨[],0,ZM l 0,false⟩
  | .r8 len l0 x i=>∃k n p,s.ev i=some (.int k n)/\s.ev x=some p/\0<=n/\n<len/\T5 s (n.toNat*l0) p d/\bx=none
  | .x8 agg len l0 x i=>∃k n cells,s.ev i=some (.int k n)/\s.ev x=some (.agg cells)/\0<=n/\n<len/\(if agg=true then n.toNat*l0+l0<=cells.length/\d=.agg ((cells.drop (n.toNat*l0)).take l0)else cells[n.toNat*l0]?=some d)/\bx=none
def Qal (op:s6) (s:St) (s':St) (d:D):Prop:=
  match op with
  | .store sz x v=>∃k i off b row q cells,s.ev x=some (.ref k i off)/\lk s.H k=some b/\b.rows[i]?=some row/\s.ev v=some q/\q.cells=some cells/\cells.length=sz/\off+sz<=row.length/\
      d=.undef/\s'={s with H:=(k,{b with rows:=b.rows.set i (setRow row off cells),pr:=b.pr&&cells.all λd=>d.y4.isEmpty})::s.H}
  | .append l0 et bytes x y=>∃k n b q ys pr,s.ev x=some (.u4 k n)/\k<1000000/\lk s.H k=some b/\n=b.rows.length/\b.l0=l0/\b.et=et/\((b.pr&&pr)=true\/∀r0∈b.rows++ys,∀d∈r0,k∉d.y4)/\s.ev y=some q/\s.src l0 q ys pr/\
      (n+ys.length)*bytes<=140737488355328/\n+ys.length<=4611686018427387904/\d=.u4 k (n+ys.length)/\s'={fr:=(s.n4 k).fr,H:=(k,⟨b.rows++ys,l0,et,b.pr&&pr⟩)::(s.n4 k).H}
  | .slice l0 x lo hi mx=>∃k n l b,mx=none/\s.ev x=some (.u4 k n)/\k<1000000/\lk s.H k=some b/\n=b.rows.length/\b.l0=l0/\l0≠0/\(∀r0∈b.rows,∀d∈r0,k∉d.y4)/\s.bd lo 0 l/\s.bd hi n n/\l<=n/\
      d=.u4 k (n - l)/\s'={fr:=(s.n4 k).fr,H:=(k,⟨b.rows.drop l,l0,b.et,b.pr⟩)::(s.n4 k).H}
  | .next x=>∃k l p,s.ev x=some (.ref k 0 0)/\lk s.H k=some ⟨[],0,ZM l p,false⟩/\
      ((p<l.length/\d=.g8 [.bool true,.int .i64 p,.int .i32 (Utf8.decode ⟨l.toArray⟩ p).1]/\s'={s with H:=(k,⟨[],0,ZM l (p+(Utf8.decode ⟨l.toArray⟩ p).2),false⟩)::s.H})\/(¬p<l.length/\d=.g8 [.bool false]/\s'=s))
  |_=>False
def Qba (P:Program) (t:TypeId):Bool:=match P.underlying t with |some .bool=>true |_=>false
def Z5:List Operand->Option (List y5)
  |[]=>some []
  |x::r=>match QP x,Z5 r with
    |some x',some r'=>some (x'::r')
    |_,_=>none
def QgI:y5->Bool
  | .c (.val .nilFunc)=>true
  |_=>false
theorem QgJ {y:y5} (h:QgI y=true) (he:s.ev y=some d):d=.val .nilFunc:=by
  unfold QgI at h
  grind [St.ev]
theorem Qgp {y':y5} {C:List D} {ta tb tc} (r:Rel E g s a w) (ho:o.op=.binOp .eql t x y u) (hx:QP x=some x') (G:QP y=some y')
 (he:s.ev x'=some (.k9 f C)) (M:s.ev y'=some (.val .nilFunc)) (hu:P.underlying t=some (.func ta tb tc)):Good P E s a w o dst (.bool false) none:=by
  have T:=(Zy r hx he).1;have O:=(Zy r G M).1;obtain⟨cs,U,_⟩:=T;simp[a7,z4,s4]at O;refine Good.bool r ?_;have e0:∀n,(Op.equalIn (n+1) t (.func (.func f) #[] cs.toArray) .nilFunc).run P w=.ok false w:=λn=>by simp[Op.equalIn,run_underlying hu]
  have e:(Op.equal t (.func (.func f) #[] cs.toArray) .nilFunc).run P w=.ok false w:=e0 9999
  have e2:(binOp .eql t (.func (.func f) #[] cs.toArray) .nilFunc).run P w=.ok (.bool false) w:=by
    (repeat clear hK K);simp_all [binOp]
  have V:(eqGuard .eql t x y (.func (.func f) #[] cs.toArray) .nilFunc).run P w=.ok () w:=rfl
  (repeat clear hK K);simp_all [execOp]
def QgK:Operand->Bool
  | .const (.slice none 0 0)=>true
  |_=>false
theorem Qgq {e0:TypeId} {rows:List (List D)} (r:Rel E g s a w) (ho:o.op=.binOp .eql t x y u) (hx:QP x=some x') (G:QgK y=true)
 (he:s.ev x'=some (.sl rows)) (C:rows≠[]) (hu:P.underlying t=some (.slice e0)):Good P E s a w o dst (.bool false) none:=by
  have T:=(Zy r hx he).1;obtain⟨a0,cap,hv,_,O⟩:=T;obtain⟨b,off,l0,rfl,_⟩:=O.resolve_left C;unfold QgK at G;split at G;have M:∀n,(Op.equalIn (n+1) t (.slice (some ⟨b,off,none⟩) rows.length cap) (.slice none 0 0)).run P w=.ok false w:=λn=>by simp[Op.equalIn,run_underlying hu]
  have q:(Op.equal t (.slice (some ⟨b,off,none⟩) rows.length cap) (.slice none 0 0)).run P w=.ok false w:=M 9999
  have Y:(binOp .eql t (.slice (some ⟨b,off,none⟩) rows.length cap) (.slice none 0 0)).run P w=.ok (.bool false) w:=by
    (repeat clear hK K);simp_all [binOp]
  have V:∀y,(eqGuard .eql t x y (.slice (some ⟨b,off,none⟩) rows.length cap) (.slice none 0 0)).run P w=.ok () w:=λ_=>rfl;refine Good.bool r ?_;have U:a.eval (.const (.slice none 0 0))=.slice none 0 0:=rfl
  (repeat clear hK K);simp_all [execOp]
  grind
def JP (P:Program) (op:BinOp) (t:TypeId) (x y:Operand):Option s6:=
  match QP x,QP y with
  |some x',some y'=>
    match P.underlying t with
    |some (.struct fields)=>
      if P.stoodInHeld t=false/\P.eqGuardType P.depth t=false then
        match Be P 0 fields.toList,op with
        |some ks,.eql=>some (.eqs false ks x' y')
        |some ks,.neq=>some (.eqs true ks x' y')
        |_,_=>none
      else none
    |some (.func ..)=>if op=.eql/\QgI y'=true then some (.bin .xor true x' y')else none
    |some (.slice _)=>if op=.eql/\QgK y=true then some (.un .plus x')else none
    |_=>if op=.xor/\Qba P t=true then none else some (.bin op (Qba P t) x' y')
  |_,_=>none
def YX (P:Program) (t:TypeId) (x:Operand) (lo hi mx:Option Operand):Option s6:=
  match QP x,ZX lo,ZX hi,ZX mx with
  |some x',some lo',some hi',some mx'=>
    match P.underlying t,mx with
    |some (.slice e),_=>(XV P e).map λl0=>.slice l0 x' lo' hi' mx'
    |some .string,none=>some (.o8 x' lo' hi')
    |_,_=>none
  |_,_,_,_=>none
def ZV (P:Program) (t:TypeId) (x:Operand) (n:Nat):Option s6:=
  match QP x,P.underlying t with
  |some x',some (.struct fields)=>
    match fields[n]? with
    |some f=>match XV P f.type with
      |some sz=>if sz≠0 then some (.fieldAddr f.offset x')else none
      |none=>none
    |none=>none
  |_,_=>none
def YW (P:Program) (t:TypeId) (x:Operand) (n:Nat):Option s6:=
  match QP x,P.underlying t with
  |some x',some (.struct fields)=>
    match fields[n]? with
    |some f=>match XV P f.type,Qai P f.type with
      |some sz,some b=>some (.field b f.offset sz x')
      |_,_=>none
    |none=>none
  |_,_=>none
def ZO (P:Program) (t:TypeId) (n:Nat) (parts:List (Nat × Operand)):Option s6:=
  match P.underlying t with
  |some (.slice e)=>
    match XV P e,Fs P e,Xq 0 parts with
    |some l0,some _,some ps=>if n=parts.length/\n*l0<=2 ^ 24 then some (.buildSlice l0 e ps)else none
    |_,_,_=>none
  |_=>none
def XI (P:Program) (t:TypeId) (x y:Operand):Option s6:=
  match QP x,QP y,P.underlying t with
  |some x',some y',some (.slice e)=>
    match P.info? e,Fs P e with
    |some i,some z=>if z.length=i.size then some (.makeSlice i.size e i.bytes z x' y')else none
    |_,_=>none
  |_,_,_=>none
def XG (P:Program) (t u:TypeId) (x' y':y5):Option s6:=
  match P.underlying t,P.underlying u with
  |some (.slice e),some (.int _)=>
    match P.info? e,Fs P e with
    |some i,some z=>if z.length=i.size then some (.de i.size e i.bytes z x' y')else none
    |_,_=>none
  |_,_=>none
def Yw (P:Program) (ts:List TypeId) (x y:Operand):Option s6:=
  match QP x,QP y,ts with
  |some x',some y',[t,u]=>
    if t=u then
      match P.underlying t with
      |some (.slice e)=>
        match P.info? e,Fs P e with
        |some i,some z=>if z.length=i.size/\i.size≠0 then some (.append i.size e i.bytes x' y')else none
        |_,_=>none
      |_=>none
    else XG P t u x' y'
  |_,_,_=>none
def JS (P:Program) (ts:List TypeId) (x:Operand):Option s6:=
  match QP x,ts with
  |some x',t::_=>
    match P.underlying t with
    |some (.slice _)=>some (.len x')
    |some .string=>some (.z9 x')
    |_=>none
  |_,_=>none
def JQ (P:Program) (ts:List TypeId) (x:Operand):Option s6:=
  match QP x,ts with
  |some x',t::_=>
    match P.underlying t with
    |some (.slice _)=>some (.sc x')
    |_=>none
  |_,_=>none
def XH (P:Program) (c:Call):Option s6:=
  match c.callee,c.args.toList with
  | .builtin .len,[x]=>JS P c.argTypes.toList x
  | .builtin .min,[x,y]=>match QP x,QP y with
    |some x',some y'=>some (.min x' y')
    |_,_=>none
  | .builtin .max,[x,y]=>match QP x,QP y with
    |some x',some y'=>some (.max x' y')
    |_,_=>none
  | .builtin .append,[x,y]=>Yw P c.argTypes.toList x y
  | .builtin .cap,[x]=>JQ P c.argTypes.toList x
  | .value (.func f),args=>(Z5 (args++(Gz f).map .global)).map (.call f)
  | .value (.tmp t),args=>if t<900000 then(Z5 args).map (.ja (.s t))else none
  |_,_=>none
def Xp (x:Operand) (b:Bool):Option s6:=
  match b with
  |true=>(QP x).map .next
  |false=>none
def Z3 (P:Program) (n:Nat) (e:TypeId) (x' i':y5):Option s6:=
  match XV P e,Qai P e with
  |some sz,some b=>some (.x8 b n sz x' i')
  |_,_=>none
def GD (fn:Fn) (first captured:List Operand):Option s6:=
  match fn,first with
  | .func f,[]=>(Z5 (captured++(Gz f).map .global)).map (.vd f)
  | .func f,[x]=>match captured with
    |[]=>(Z5 (x::(Gz f).map .global)).map (.oe f)
    |_=>none
  |_,_=>none
def Yr (P:Program) (op:Op):Option s6:=
  match op with
  | .makeFunc fn first captured=>GD fn first.toList captured.toList
  | .panic _=>some .stop
  | .makeInterface _ _=>some .stop
  | .move x=>(QP x).map .wb
  | .assign x=>(QP x).map .wb
  | .pick c x y=>match QP c,QP x,QP y with
    |some c',some x',some y'=>some (.pick c' x' y')
    |_,_,_=>none
  | .alloc e=>(Fs P e).map (.alloc e)
  | .box e x=>(QP x).map (.box e)
  | .build t parts=>match Fs P t,DJ P t with
    |some z,some pl=>(X6 pl parts.toList).map (.build z)
    |_,_=>none
  | .buildSlice t n parts=>ZO P t n parts.toList
  | .load t x=>match Qai P t,XV P t,QP x with
    |some b,some sz,some x'=>some (.load b sz x')
    |_,_,_=>none
  | .store t x y=>match XV P t,QP x,QP y with
    |some sz,some x',some y'=>if sz≠0 then some (.store sz x' y')else none
    |_,_,_=>none
  | .nilCheck x=>(QP x).map .nilCheck
  | .binOp op t x y _=>JP P op t x y
  | .unOp op _ x=>if op=.plus then none else(QP x).map (.un op)
  | .convert t u x=>match P.underlying t,P.underlying u,QP x with
    |some _,some (.int k),some x'=>some (.conv k x')
    |some .string,some (.slice e),some x'=>if Qrz P e=true then some (.ba true x')else none
    |some (.slice e),some .string,some x'=>if Qrz P e=true then some (.ba false x')else none
    |_,_,_=>none
  | .slice t x lo hi mx=>YX P t x lo hi mx
  | .fieldAddr t x n=>ZV P t x n
  | .field t x n=>YW P t x n
  | .indexAddr t x i=>match QP x,QP i,P.underlying t with
    |some x',some i',some (.slice e)=>(XV P e).map λl0=>.indexAddr l0 x' i'
    |some x',some i',some (.array n e)=>(XV P e).map λl0=>.r8 n l0 x' i'
    |_,_,_=>none
  | .index t x i=>match QP x,QP i,P.underlying t with
    |some x',some i',some .string=>some (.y8 x' i')
    |some x',some i',some (.array n e)=>Z3 P n e x' i'
    |_,_,_=>none
  | .range t x=>match QP x,P.underlying t with
    |some x',some .string=>some (.range x')
    |_,_=>none
  | .next x b=>Xp x b
  | .extract x n=>(QP x).map (.extract n)
  | .makeSlice t x y=>XI P t x y
  | .call c=>XH P c
  |_=>none
section
variable {P:Program} {E:Env} {g:Gh} {s:St} {a:Act} {w:World} {o:Oper} {dst:Option Nat}
theorem QfF (G:c.callee=.builtin b) (hx:c.args.toList=[x]):c={callee:=.builtin b,args:=#[x],argTypes:=c.argTypes}:=by
  obtain⟨O,C,M⟩:=c;have:C=#[x]:=by grind
  grind
theorem Fw (G:c.callee=.builtin b) (hx:c.args.toList=[x,y]):c={callee:=.builtin b,args:=#[x,y],argTypes:=c.argTypes}:=by
  obtain⟨O,C,M⟩:=c;have:C=#[x,y]:=by grind
  grind
theorem _root_.Wf {p:Prop} (h:p:=by trivial):p:=h
theorem a7.gf {K:Kn} (h:a7 g d v) (C:d.w9=true):z4 g d v:=by
  cases d<;>try exact h
  case agg cs=>exact z4.of (h.oc Wf)
  case k9 f cs=>exact z4.of (h.oc Wf)
  trivial
theorem QfJ (C:d.w9=true):∀k∈d.ids,k∈d.y4:=by
  have one:∀cs:List D,(cs.all λd=>!d.own)=true->∀k,k∉cs.flatMap D.y4:=λcs h k hk=>by
    obtain⟨x,hx,hk⟩:=QEp.1 hk;have:=QEs.1 h x hx;cases x<;>simp[D.own]at this<;>cases hk
  intro k hk;cases d<;>try exact hk
  case agg cs=>exact absurd hk (one cs C k)
  case k9 f cs=>exact absurd hk (one cs C k)
  trivial
theorem z4.qg (h:z4 g d v):a7 g d v:=by
  cases d<;>try exact h
  case agg cs=>exact a7.of (z4.oc h rfl)
  case k9 f cs=>exact a7.of (z4.oc h rfl)
  case ia cs x=>exact a7.of (z4.oc h rfl)
theorem Qsn (O:Gz f=[]) (hp:(ps.all λd=>!d.own)=true) (h:a7 g (.k9 f (.ref k 0 0::ps)) v):a7 g (.w8 f k ps) v:=by
  obtain⟨cs,rfl,C⟩:=h;have G:gVs f=[]:=by grind [gVs]
  rw[G,QEN]at C;cases cs with
  |nil=>trivial
  |cons c cs=>
    obtain⟨⟨B,l0,o,M,rfl⟩,C⟩:=C;refine⟨B,l0,o,cs,M,by simp, ?_⟩;rw[G,QEN];exact C.te hp
theorem Qtt (h:a7 g (.w8 f k ps) v):a7 g (.k9 f (.ref k 0 0::ps)) v:=by
  obtain⟨B,l0,o,cs,G,rfl,C⟩:=h;exact⟨_,rfl,⟨B,l0,o,G,by simp⟩,n5.mf C⟩
theorem Bk {first:Array Operand} (r:Rel E g s a w) (ho:o.op=.makeFunc (.func f) first captured) (Y:first.toList=[]) (hp:Z5 (captured.toList++(Gz f).map .global)=some xs) (he:Zh s xs=some ds) (T:ds.all D.w9=true):
    Good P E s a w o dst (.k9 f ds) none:=by
  have key:∀{cs:List Operand} {xs:List y5} {ds:List D},Z5 cs=some xs->Zh s xs=some ds->ds.all D.w9=true->n5 g ds (cs.map a.eval)/\∀k∈ds.flatMap D.y4,(lk s.H k).isSome=true:=by
    intro cs
    induction cs with
    |nil=>
      intro xs ds C G _;simp[Z5]at C;subst C;simp[Zh]at G;subst G;exact⟨trivial,by simp⟩
    |cons c cs ih=>
      intro xs ds C G M;simp[Z5]at C;split at C;rename_i x' U e1 e2;cases C
      simp[Zh]at G;split at G;rename_i d ds' f1 f2;cases G
      simp only[QFk,QEm]at M;obtain⟨O,V⟩:=ih e2 f2 M.2;obtain⟨g1,g2⟩:=Zy r e1 f1;refine⟨⟨g1.gf (K:=g.K) M.1,O⟩,λk hk=>?_⟩;rw[QEM]at hk;rcases QEt.1 hk with hk |hk
      refine g2 k ?_;cases d<;>simp only[D.y4]at hk<;>first |grind |exact hk
      grind
      grind
      grind
  obtain⟨C,G⟩:=key hp he T;have C:n5 g ds (captured.toList.map a.eval++gVs f):=by simp_all [gVs,Function.comp_def,Act.eval]
  refine Good.of r ?_ ⟨_,rfl,C⟩ G;have e1:(captured.map a.eval)=(captured.toList.map a.eval).toArray:=by grind
  (repeat clear hK K);simp_all [execOp,Instr.makeFunc]
theorem Qee {first:Array Operand} (r:Rel E g s a w) (ho:o.op=.makeFunc (.func f) first captured) (M:first.toList=[]) (hp:Z5 (captured.toList++(Gz f).map .global)=some xs) (he:Zh s xs=some (.ref k 0 0::ps)) (O:(D.ref k 0 0::ps).all D.w9=true) (G:Gz f=[]) (C:(ps.all λd=>!d.own)=true):
    Good P E s a w o dst (.w8 f k ps) none:=by
  obtain⟨v,w',g',Y,V,U,T⟩:=Bk r ho M hp he O;exact⟨v,w',g',Y,V,Qsn G C U,λj hj=>T j (by grind [D.ids,D.y4])⟩
theorem Qgn {first:Array Operand} (r:Rel E g s a w) (ho:o.op=.makeFunc (.func f) first captured) (hf:first.toList=[x]) (T:captured.toList=[]) (hp:Z5 (x::(Gz f).map .global)=some xs) (he:Zh s xs=some ds) (U:ds.all D.pure=true):
    Good P E s a w o dst (.pe f ds) none:=by
  have O:first=#[x]:=by grind
  have key:∀{cs:List Operand} {xs:List y5} {ds:List D},Z5 cs=some xs->Zh s xs=some ds->ds.all D.pure=true->x5 g.K ds (cs.map a.eval):=by
    intro cs
    induction cs with
    |nil=>
      grind [Z5,Zh,x5]
    |cons c cs ih=>
      intro xs ds C M G;simp[Z5]at C;split at C;rename_i x' Y e1 e2;cases C
      simp[Zh]at M;split at M;rename_i d ds' f1 f2;cases M
      simp only[QFk,QEm]at G;exact⟨(Zy r e1 f1).1.oc G.1,ih e2 f2 G.2⟩
      grind
      grind
  have C:=key hp he U;have C:x5 g.K ds ([a.eval x]++gVs f):=by simp_all [gVs,Function.comp_def,Act.eval]
  have V:a7 g (.pe f ds) (.func (.func f) #[a.eval x] #[]):=by
    simp[a7,z4,s4]
    grind
  refine Good.of r ?_ V (λk hk=>by cases hk)
  (repeat clear hK K);simp_all [execOp,Instr.makeFunc]
theorem Qd9 (r:Rel E g s a w) (hp:Yr P o.op=some ao) {bx:Option x4} (hx:TK ao dst s d bx):Good P E s a w o dst d bx:=by
  cases ho:o.op<;>rw[ho]at hp<;>simp only[Yr,reduceCtorEq]at hp
  case move x=>
    obtain⟨x',G,rfl⟩:=QEh.1 hp;obtain⟨C,rfl⟩:=hx
    grind [QcD]
  case assign x=>
    obtain⟨x',G,rfl⟩:=QEh.1 hp;obtain⟨C,rfl⟩:=hx;exact QcD r (.inr ho) G C
  case pick c x y=>
    split at hp;rename_i c' x' y' e1 e2 e3;cases hp
    obtain⟨t,G,C,rfl⟩:=hx
    grind [Qgr]
    grind
  case alloc e=>
    obtain⟨z,G,rfl⟩:=QEh.1 hp;obtain⟨t,C,M,rfl,rfl⟩:=hx;exact Qeb r ho G C M
  case box e x=>
    obtain⟨x',G,rfl⟩:=QEh.1 hp;obtain⟨t,v,cells,C,M,T,U,rfl,rfl⟩:=hx;exact Qkd r ho G M T C U
  case build t parts=>
    split at hp;rename_i z pl e1 e2;obtain⟨ps,G,rfl⟩:=QEh.1 hp;obtain⟨qs,ds,C,M,rfl,rfl⟩:=hx
    grind [Qec]
    grind
  case buildSlice t n parts=>
    unfold ZO at hp;split at hp;rename_i e hu;split at hp;rename_i l0 z ps e1 e2 e3;split at hp
    ·rename_i hn;cases hp
     rcases hx with hx |⟨rows,C,M,rfl,rfl⟩
     case inr=>grind [PT]
     obtain⟨t,rows,G,C,M,rfl,rfl⟩:=hx
     have hlen:∀(k:Nat) (l:List (Nat × Operand)) (l':List y5),Xq k l=some l'->l'.length=l.length:=by
       intro k l
       induction l generalizing k with
       |nil=>grind [Xq]
       |cons p l ih=>
         grind [Xq]
     grind [Sw]
    grind
    grind
    grind
  case load t x=>
    split at hp;rename_i b sz x' e1 e2 e3;cases hp
    obtain⟨p,cells,G,C,M,rfl⟩:=hx;cases b with
    |true=>
      simp only[if_true]at M;obtain⟨M,rfl⟩:=M
      grind [Bj]
    |false=>
      simp only[QEq,if_false]at M
      grind [Qgm]
    grind
  case store t x y=>
    split at hp;split at hp;cases hp;trivial
    grind
    grind
  case nilCheck x=>
    obtain⟨x',G,rfl⟩:=QEh.1 hp;obtain⟨p,C,M,rfl,rfl⟩:=hx;refine De r ho G C ?_;cases d<;>simp[D.xd]at M;simp;simp;simp;simp
  case binOp op t x y u=>
    unfold JP at hp;split at hp;rename_i x' y' e1 e2;split at hp;rename_i fields hu;split at hp;rename_i hst;split at hp;rename_i ks hk;cases hp
    obtain⟨xs,ys,b,G,C,M,rfl,rfl⟩:=hx;exact(QcB r ho e1 e2 hu hk hst.1 hst.2 G C M).1 rfl;rename_i ks hk;cases hp
    obtain⟨xs,ys,b,G,C,M,rfl,rfl⟩:=hx;exact(QcB r ho e1 e2 hu hk hst.1 hst.2 G C M).2 rfl
    grind
    grind
    rename_i hu;split at hp;rename_i V;cases hp
    obtain⟨rfl,V⟩:=V;obtain⟨p,q,G,C,M,rfl⟩:=hx;obtain rfl:=QgJ V C;cases p<;>simp only[Qr6]at M;obtain⟨_,_,_,rfl⟩:=M
    grind [Qgp]
    grind
    rename_i hu;split at hp;rename_i V;cases hp
    obtain⟨rfl,V⟩:=V;obtain⟨p,G,M,rfl⟩:=hx;cases p<;>simp only[unD,reduceCtorEq,false_and]at M;obtain⟨_,T,rfl⟩:=M
    grind [Qgq]
    grind
    split at hp
    grind
    rename_i hxor;cases hp
    obtain⟨p,q,G,C,M,rfl⟩:=hx;cases p<;>cases q<;>simp only[Qr6]at M
    grind [Qkf]
    obtain⟨hb,M⟩:=M
    have hu:P.underlying t=some .bool:=by
      grind [Qba]
    rcases M with⟨rfl,rfl⟩ |⟨rfl,rfl⟩;exact(Bh r ho e1 e2 G C hu).1 rfl;exact(Bh r ho e1 e2 G C hu).2 rfl
    grind [Qgs]
    grind
    grind
  case unOp op t x=>
    split at hp
    grind
    rename_i hpl;obtain⟨x',G,rfl⟩:=QEh.1 hp;obtain⟨p,C,M,rfl⟩:=hx;cases p<;>simp only[unD]at M;obtain⟨rfl,rfl⟩:=M;exact(Qgt r ho G).2 _ _ rfl C;obtain⟨rfl,rfl⟩:=M;exact(Qgt r ho G).1 _ rfl C
    grind
  case convert t u x=>
    split at hp;rename_i b k x' e1 e2 e3;cases hp
    obtain⟨j,n,G,rfl,rfl⟩:=hx
    grind [Qgk]
    ·rename_i e x' e1 e2 e3;split at hp
     case isFalse=>grind
     rename_i h8;cases hp
     obtain⟨q,G,rfl,C⟩:=hx;simp only[if_true]at C;obtain⟨l,rfl,rfl⟩:=C
     grind [Qa3]
    ·rename_i e x' e1 e2 e3;split at hp
     case isFalse=>grind
     rename_i h8;cases hp
     obtain⟨q,G,rfl,C⟩:=hx;simp only[QEq,if_false]at C;obtain⟨ys,pr,l,M,T,rfl⟩:=C
     grind [Qa2]
    grind
  case slice t x lo hi mx=>
    unfold YX at hp;split at hp;rename_i x' lo' hi' mx' e1 e2 e3 e4;split at hp
    ·rename_i e hu;obtain⟨l0,G,rfl⟩:=QEh.1 hp;rcases hx with⟨p,rows,l,h,C,M,T,U,h6,h7,h8,h9,rfl⟩ |⟨hm,rfl,hlo,⟨rows,C,hbh,rfl⟩ |⟨k,n,m,C,hbh,hmn,rfl⟩⟩ |⟨hm,rfl,k,n,l,C,hbl,hbh,hln,rfl⟩
     rotate_left
     grind [Qa6]
     grind [Qa7]
     grind [Qa8]
     have hd:p=.sl rows\/p=.u7 rows:=by
       cases p<;>simp[D.rows?]at M
       grind
       grind
     cases mx' with
     |none=>
       simp only at h9;subst h9;exact(T9 (m:=0) r ho e1 e2 e3 e4 hu G C hd T U h6 h7 h8).1 rfl
     |some m'=>
       simp only at h9;obtain⟨h9,h10,rfl⟩:=h9;exact(T9 r ho e1 e2 e3 e4 hu G C hd T U h6 h7 h8).2 h9 rfl h10 rfl
    rename_i hu;cases hp
    obtain⟨c,l,h,G,C,M,T,U,rfl,rfl⟩:=hx
    grind [Df]
    grind
    grind
  case fieldAddr t x n=>
    unfold ZV at hp;split at hp;rename_i x' fields e1 hu;split at hp;rename_i f hf;split at hp;rename_i sz hs;split at hp;rename_i h0;cases hp
    obtain⟨p,G,C,rfl⟩:=hx;cases p<;>simp only[T5]at C;obtain⟨_,rfl⟩:=C;exact(Nh r ho e1 hu hf hs h0 rfl G).2 _ _ _ rfl;obtain⟨C,rfl⟩:=C;exact(Nh r ho e1 hu hf hs h0 rfl G).1 _ rfl C
    grind
    grind
    grind
    grind
  case field t x n=>
    unfold YW at hp;split at hp;rename_i x' fields e1 hu;split at hp;rename_i f hf;split at hp;rename_i sz b hs hb;cases hp
    obtain⟨cells,G,C,rfl⟩:=hx;exact Qed r ho e1 hu hf hs hb rfl G C
    grind
    grind
    grind
  case indexAddr t x i=>
    split at hp;rename_i x' i' e e1 e2 hu;obtain⟨l0,G,rfl⟩:=QEh.1 hp;obtain⟨k,n,p,C,M,T,U,rfl⟩:=hx;have:=TB (dst:=dst) r ho e1 e2 hu G M C T;cases p<;>simp only[QgE]at U
    grind
    grind
    grind
    rename_i x' i' len e e1 e2 hu;obtain⟨l0,G,rfl⟩:=QEh.1 hp;obtain⟨k,n,p,C,M,T,h4',U,rfl⟩:=hx;have:=Dc (dst:=dst) r ho e1 e2 hu G M C T h4';cases p<;>simp only[T5]at U
    grind
    grind
    grind
  case index t x i=>
    split at hp;rename_i x' i' e1 e2 hu;cases hp
    obtain⟨k,n,l,c,G,C,M,T,rfl,rfl⟩:=hx
    grind [Dd]
    rename_i x' i' len e e1 e2 hu;unfold Z3 at hp;split at hp;rename_i sz b e3 e4;cases hp
    obtain⟨k,n,cells,G,C,M,T,U,rfl⟩:=hx
    grind [Db]
    grind
    grind
  case range t x=>
    split at hp;rename_i x' e1 hu;cases hp
    obtain⟨t',l,G,C,M,rfl,rfl⟩:=hx
    grind [Qef]
    grind
  case next x b=>
    cases b<;>simp only[Xp,reduceCtorEq]at hp
    obtain⟨x',G,rfl⟩:=QEh.1 hp;trivial
  case extract x n=>
    obtain⟨x',G,rfl⟩:=QEh.1 hp;obtain⟨p,ds,C,T,M,rfl⟩:=hx
    grind [Da]
  case makeSlice t x y=>
    unfold XI at hp;split at hp;rename_i x' y' e e1 e2 hu;split at hp;rename_i i z hi hz;split at hp;rename_i Y;cases hp
    obtain⟨t,k,j,n,G,C,M,T,U,h6,h7,rfl,rfl⟩:=hx;have hn:(n.toNat:Int)=n:=Int.toNat_of_nonneg U;rw[<- hn]at C M;exact TC r ho e1 e2 hu hi rfl rfl hz Y C M h6 h7 G T
    grind
    grind
    grind
  case call c=>
    unfold XH at hp;split at hp;rename_i x V O;unfold JS at hp;split at hp;rename_i x' t ts e1 e2;have ho':o.op=.call {callee:=.builtin .len,args:=#[x],argTypes:=c.argTypes}:=by grind [QfF]
    have ht:c.argTypes[0]?=some t:=by
      rw[<- QFc,e2];rfl
    split at hp;rename_i e hu;cases hp
    obtain⟨p,n,G,C,rfl,rfl⟩:=hx;have:=QcC (P:=P) (dst:=dst) r ho' e1 ht G;cases p<;>simp only[QgQ,QEl,reduceCtorEq]at C<;>subst C
    grind
    grind
    grind
    rename_i hu;cases hp
    obtain⟨l,G,rfl,rfl⟩:=hx;exact(QcC r ho' e1 ht G).2.2 l hu rfl
    grind
    grind
    rename_i x y V O;split at hp;rename_i x' y' e1 e2;cases hp
    obtain⟨k,j,m,n,G,C,rfl,rfl⟩:=hx;exact Qkh r (by rw[ho,<- Fw V O]) e1 e2 G C
    grind
    rename_i x y V O;split at hp;rename_i x' y' e1 e2;cases hp
    obtain⟨k,j,m,n,G,C,rfl,rfl⟩:=hx;exact Qkg r (by rw[ho,<- Fw V O]) e1 e2 G C
    grind
    rename_i x y V O;unfold Yw at hp;split at hp;rename_i x' y' t u e1 e2 e3;split at hp;rename_i htu;subst htu;split at hp;rename_i e hu;split at hp;rename_i i z hi hz;split at hp;rename_i Y;cases hp
    obtain⟨t',rows,q,ys,pr,G,C,M,T,U,h6,h7,h8,h9,rfl,rfl⟩:=hx;have hat:c.argTypes=#[t,t]:=by grind
    exact Sv r (by grind [Fw]) rfl e1 e2 hu hi rfl rfl hz Y.1 C M T h6 h7 h8 h9 G U
    grind
    grind
    grind
    unfold XG at hp;split at hp;rename_i e kt hu hut;split at hp;rename_i i z hi hz;split at hp;rename_i Y;cases hp
    obtain⟨t',k,n,G,C,M,T,U,h6,h7,rfl,rfl⟩:=hx;have hat:c.argTypes=#[t,u]:=by grind
    have hn:(n.toNat:Int)=n:=Int.toNat_of_nonneg Wa;rw[<- hn]at M;exact Qgj r (by grind [Fw]) rfl e1 e2 hu hut hi rfl rfl hz Y C M Wa h6 h7 G T
    grind
    grind
    grind
    grind
    rename_i x V O;unfold JQ at hp;split at hp;rename_i x' t ts e1 e2;have ho':o.op=.call {callee:=.builtin .cap,args:=#[x],argTypes:=c.argTypes}:=by grind [QfF]
    have ht:c.argTypes[0]?=some t:=by
      rw[<- QFc,e2];rfl
    split at hp;rename_i e hu;cases hp
    obtain⟨rows,G,rfl,rfl⟩:=hx
    grind [Qke]
    grind
    grind
    obtain⟨args',G,rfl⟩:=QEh.1 hp;trivial
    ·split at hp
     case isFalse=>grind
     obtain⟨args',G,rfl⟩:=QEh.1 hp;trivial
    grind
  case makeFunc fn first captured=>
    unfold GD at hp;split at hp;rename_i f hf;obtain⟨xs,G,rfl⟩:=QEh.1 hp;obtain⟨ds,C,M,hd,rfl⟩:=hx;rcases hd with rfl |⟨k,ps,hg,rfl,hps,rfl⟩
    grind [Bk]
    grind [Qee]
    split at hp;obtain⟨xs,G,rfl⟩:=QEh.1 hp;obtain⟨ds,C,M,rfl,rfl⟩:=hx
    grind [Qgn]
    grind
    grind
  case panic x=>cases hp;trivial
  case makeInterface t x=>cases hp;trivial
theorem Si (r:Rel E g s a w) (hp:Yr P o.op=some ao) {s':St} (hx:Qal ao s s' d):NL P E a w o s' d:=by
  cases ao<;>simp only[Qal]at hx
  case store sz x' y'=>
    obtain⟨k,i,off,b,row,q,cells,M,G,C,h4,h5,h6,h7,rfl,rfl⟩:=hx;cases ho:o.op<;>rw[ho]at hp<;>simp only[Yr,reduceCtorEq]at hp
    case store t x y=>
      split at hp;rename_i sz' O y'' e1 e2 e3;split at hp;rename_i h0;cases hp
      exact Qeg r ho e2 e3 e1 M G C h4 h5 h6 h7 h0;cases hp
      cases hp
    all_goals
      first
        |(obtain⟨_,_,h⟩:=QEh.1 hp;cases h;done)
        |(
          simp only[JP,YX,ZV,YW,ZO,XI,XH,JS,Yw,XG,JQ,Z3,Xp,GD]at hp
          (repeat' split at hp)<;>first |(cases hp;done) |(obtain⟨_,_,h⟩:=QEh.1 hp;cases h;done))
        |((repeat' split at hp)<;>first |(cases hp;done) |(obtain⟨_,_,h⟩:=QEh.1 hp;cases h;done))
  case slice l0 x' lo' hi' mx'=>
    obtain⟨k,n,l,b,h0,M,G,C,h4,h5,h6,h7,h8,h9,U,rfl,rfl⟩:=hx;cases ho:o.op<;>rw[ho]at hp<;>simp only[Yr,reduceCtorEq]at hp
    case slice t x lo hi mx=>
      unfold YX at hp;split at hp;rename_i O lo'' hi'' mx'' e1 e2 e3 e4;split at hp;rename_i e hu;obtain⟨esz',hs,h⟩:=QEh.1 hp;cases h
      exact Qgl r ho e1 e2 e3 e4 hu hs M G C h4 h5 h6 h7 h8 h9 U h0;cases hp
      cases hp
      cases hp
    all_goals
      first
        |(obtain⟨_,_,h⟩:=QEh.1 hp;cases h;done)
        |(
          simp only[JP,ZV,YW,ZO,XI,XH,JS,Yw,XG,JQ,Z3,Xp,GD]at hp
          (repeat' split at hp)<;>first |(cases hp;done) |(obtain⟨_,_,h⟩:=QEh.1 hp;cases h;done))
        |((repeat' split at hp)<;>first |(cases hp;done) |(obtain⟨_,_,h⟩:=QEh.1 hp;cases h;done))
  case append l0 et bytes x' y'=>
    obtain⟨k,n,b,q,ys,pr,M,h1',G,C,h4,h5,h6,h7,h8,h9,U,rfl,rfl⟩:=hx;cases ho:o.op<;>rw[ho]at hp<;>simp only[Yr,reduceCtorEq]at hp
    case call c=>
      unfold XH at hp;split at hp
      ·unfold JS at hp;(repeat' split at hp)<;>cases hp
      ·(repeat' split at hp)<;>cases hp
      ·(repeat' split at hp)<;>cases hp
      rename_i x y hc T;unfold Yw at hp;split at hp;rename_i O y'' t u e1 e2 e3;split at hp;rename_i htu;subst htu;split at hp;rename_i e hu;split at hp;rename_i i z hi hz;split at hp;rename_i Y;cases hp
      have hat:c.argTypes=#[t,t]:=by apply Array.ext';simpa using e3
      exact Su r (by rw[ho,<- hat,<- Fw hc T]) rfl e1 e2 hu hi rfl rfl hz Y.1 Y.2 M h1' G C h4 h5 h6 h7 h8 h9 U;cases hp
      cases hp
      cases hp
      ·unfold XG at hp;(repeat' split at hp)<;>cases hp
      cases hp
      ·unfold JQ at hp;(repeat' split at hp)<;>cases hp
      obtain⟨V,_,h⟩:=QEh.1 hp;cases h;split at hp;obtain⟨V,_,h⟩:=QEh.1 hp;cases h;cases hp
      cases hp
    all_goals
      first
        |(obtain⟨_,_,h⟩:=QEh.1 hp;cases h;done)
        |(
          simp only[JP,YX,ZV,YW,ZO,XI,Z3,Xp,GD]at hp
          (repeat' split at hp)<;>first |(cases hp;done) |(obtain⟨_,_,h⟩:=QEh.1 hp;cases h;done))
        |((repeat' split at hp)<;>first |(cases hp;done) |(obtain⟨_,_,h⟩:=QEh.1 hp;cases h;done))
  case next x'=>
    obtain⟨k,l,p,M,G,C⟩:=hx;cases ho:o.op<;>rw[ho]at hp<;>simp only[Yr,reduceCtorEq]at hp
    case next x b=>
      cases b<;>simp only[Xp,reduceCtorEq]at hp
      obtain⟨O,e1,e2⟩:=QEh.1 hp;cases e2
      rcases C with⟨C,rfl,rfl⟩ |⟨C,rfl,rfl⟩;exact Qgo r ho e1 M G C rfl;exact Bl r ho e1 M G C
    all_goals
      first
        |(obtain⟨_,_,h⟩:=QEh.1 hp;cases h;done)
        |(
          simp only[JP,YX,ZV,YW,ZO,XI,XH,JS,Yw,XG,JQ,Z3,Xp,GD]at hp
          (repeat' split at hp)<;>first |(cases hp;done) |(obtain⟨_,_,h⟩:=QEh.1 hp;cases h;done))
        |((repeat' split at hp)<;>first |(cases hp;done) |(obtain⟨_,_,h⟩:=QEh.1 hp;cases h;done))
end
variable {b:x4} {e:Nat} {α:Type}
def D.y6 (ρ:Nat->Nat):D->D
 | .u4 k n=>.u4 (ρ k) n
 | .la k lo c n=>.la (ρ k) lo c n
 | .ref k i o=>.ref (ρ k) i o
 | .w8 f k ps=>.w8 f (ρ k) ps
 |d=>d
def D.u5 (ρ:Nat->Nat):D->D
 | .agg cs=>.agg (cs.map (D.y6 ρ))
 | .k9 f cs=>.k9 f (cs.map (D.y6 ρ))
 | .ia cs x=>.ia (cs.map (D.y6 ρ)) x
 |d=>d.y6 ρ
def x4.u5 (ρ:Nat->Nat) (b:x4):x4:={b with rows:=b.rows.map λr=>r.map (D.y6 ρ)}
def Gh.pull (g:Gh) (ρ:Nat->Nat):Gh:=⟨g.K,λk=>g.β (ρ k),λk=>g.σ (ρ k)⟩
section
variable {g:Gh} {ρ:Nat->Nat}
theorem z4.u5 {v:Value}:z4 g (d.y6 ρ) v↔z4 (g.pull ρ) d v:=by cases d<;>exact Iff.rfl
theorem Fo:(d.y6 ρ).l5=d.l5:=by cases d<;>rfl
theorem DM:(d.y6 ρ).y4=d.y4.map ρ:=by cases d<;>rfl
theorem n5.u5:∀{ds:List D} {vs:List Value},n5 g (ds.map (D.y6 ρ)) vs↔n5 (g.pull ρ) ds vs
 |[],[]=>Iff.rfl
 |d::ds,v::vs=>by simp only[QEW,n5];rw[z4.u5,n5.u5]
 |[],_::_=>Iff.rfl
 |_::_,[]=>Iff.rfl
theorem a7.u5 {d:D} {v:Value}:a7 g (d.u5 ρ) v↔a7 (g.pull ρ) d v:=by
 cases d
 case agg cs=>
  simp only[D.u5,a7];constructor
  grind [n5.u5,List.mem_map_of_mem,Fo]
  rintro⟨vs,G,C,O⟩;refine⟨vs,G,n5.u5.2 C,λd hd=>?_⟩;obtain⟨y,T,rfl⟩:=QEw.1 hd
  grind [Fo]
 case ia cs x=>
  simp only[D.u5,a7];constructor;rintro⟨vs,u,G,C,O,M⟩;exact⟨vs,u,G,n5.u5.1 C,λd hd=>by grind [List.mem_map_of_mem,Fo],M⟩;rintro⟨vs,u,G,C,O,M⟩;refine⟨vs,u,G,n5.u5.2 C,λd hd=>?_,M⟩;obtain⟨y,T,rfl⟩:=QEw.1 hd
  grind [Fo]
 case k9 f cs=>
  grind [D.u5,a7,n5.u5]
 all_goals rfl
theorem KC:∀{cs:List D},(cs.map (D.y6 ρ)).flatMap D.y4=(cs.flatMap D.y4).map ρ
 |[]=>rfl
 |c::cs=>by rw[QEW,QEM,QEM,QFm,DM,KC]
theorem a8:(d.u5 ρ).ids=d.ids.map ρ:=by
 cases d
 case agg cs=>exact KC
 case k9 f cs=>exact KC
 case ia cs x=>exact KC
 all_goals rfl
theorem j5.u5 {c:Array Value}:∀{off:Nat} {ds:List D},j5 g c off (ds.map (D.y6 ρ))↔j5 (g.pull ρ) c off ds
 |_,[]=>by rfl
 |off,d::ds=>by
  simp only[QEW,j5];rw[j5.u5,Fo]
  grind [z4.u5]
theorem s5.u5 {c:Array Value}:∀{off:Nat} {rs:List (List D)},s5 g c off (rs.map λr=>r.map (D.y6 ρ))↔s5 (g.pull ρ) c off rs
 |_,[]=>by rfl
 |off,r::rs=>by
  simp only[QEW,s5,QFf];rw[j5.u5,s5.u5]
theorem x4.a8:(b.u5 ρ).ids=b.ids.map ρ:=by
 unfold x4.ids x4.u5;simp only;split;rfl
 induction b.rows with
 |nil=>rfl
 |cons r rs ih=>grind [KC]
theorem x4.uf:b.u5 ρ=Yn↔b=Yn:=by
 obtain⟨rows,l0,et,pr⟩:=b;simp[x4.u5,Yn]
theorem u6.u5 {E:Env} {w:World} {k:Nat} {b:x4}:u6 E g w (ρ k) (b.u5 ρ)↔u6 E (g.pull ρ) w k b:=by
 have C:(b.u5 ρ).rows=[]↔b.rows=[]:=by simp[x4.u5]
 have pg:LC E g w (ρ k) (b.u5 ρ)↔LC E (g.pull ρ) w k b:=by
  unfold LC;rw[C];rfl
 have hlen:(∀r∈(b.u5 ρ).rows,r.length=(b.u5 ρ).l0)↔∀r∈b.rows,r.length=b.l0:=by
  simp[x4.u5]
 have G:((b.u5 ρ).pr=true->∀r∈(b.u5 ρ).rows,∀d∈r,d.y4=[])↔(b.pr=true->∀r∈b.rows,∀d∈r,d.y4=[]):=by
  constructor;intro h hp r hr d hd;have:=h hp (r.map (D.y6 ρ)) (QFl hr) (d.y6 ρ) (QFl hd)
  (repeat clear hK K);simp_all [DM]
  intro h hp r hr d hd;obtain⟨r',M,rfl⟩:=QEw.1 hr;obtain⟨d',O,rfl⟩:=QEw.1 hd;rw[DM,h hp r' M d' O];rfl
 unfold u6;rw[hlen,G,C,pg,x4.uf];refine and_congr_right λ_=>and_congr_right λ_=>or_congr Iff.rfl (and_congr (or_congr (not_congr C) Iff.rfl) ?_);constructor;rintro⟨B,c,h1,Y,V,U,T⟩;exact⟨B,c,h1,Y,V,s5.u5.1 U,T⟩;rintro⟨B,c,h1,Y,V,U,T⟩;exact⟨B,c,h1,Y,V,s5.u5.2 U,T⟩
end
theorem u6.move {E':Env} {g':Gh} {w':World} (h:u6 E g w k b) (C:g'.β k=g.β k/\g'.σ k=g.σ k) (hs:∀r∈b.rows,∀d∈r,∀j∈d.y4,g'.β j=g.β j/\g'.σ j=g.σ j) (hK:g.K.le g'.K)
 (U:∀B e,g.β k=some (B,e)->w'.heap[B]?=w.heap[B]?/\(∀o,g.K B o=none->g'.K B o=none)/\(E.B0<=B\/E.fo B->E'.B0<=B\/E'.fo B)):u6 E' g' w' k b:=by
 obtain⟨h1,Y,V⟩:=h
 refine⟨h1,Y,V.imp (λ⟨x,y⟩=>⟨x,y.imp (λy=>⟨C.1.trans y.1,by grind⟩) λ⟨i1,i2,i3,G,p,B,i4,i5,i6,i7,i8⟩=>by
  obtain⟨T,O,M⟩:=U B 0 i5;exact⟨i1,i2,i3,G,p,B,i4,C.1.trans i5,T.trans i6,λo=>O o (i7 o),M i8.1,by grind⟩⟩) ?_⟩
 grind [s5.congr]
theorem u6.nb {B:Nat} (h:u6 E g w k b) (M:g.β k=some (B,e)):B<w.heap.size/\(∀o,g.K B o=none)/\(E.B0<=B\/E.fo B):=by
 obtain⟨_,_,C⟩:=h;rcases C with⟨_,⟨C,_⟩ |⟨_,_,_,_,_,B',_,i5,i6,i7,i8⟩⟩ |⟨_,B',c,U,T,_,_,O,G⟩
 all_goals grind
theorem u6.ve {B:Nat} (h:u6 E g w k b) (G:g.β k=some (B,e)):¬JN w B:=λhd=>by
 obtain⟨_,_,C⟩:=h;unfold JN at hd;rcases C with⟨_,⟨C,_⟩ |⟨_,_,_,_,_,B',_,i5,i6,i7,i8⟩⟩ |⟨_,B',c,O,M,_⟩
 all_goals grind
def E0 (w:World):Env:=⟨0,0,w,λ_ _=>none,λ_=>False,λ_=>False,λ_=>none,λ_=>(0,0),none,none⟩
structure xa (g:Gh) (H:QEf) (w:World):Prop where
 x9:∀k b,lk H k=some b->∀j∈b.ids,(lk H j).isSome=true
 bx:∀k b,lk H k=some b->u6 (E0 w) g w k b
 inj:∀k k' b b' B e e',lk H k=some b->lk H k'=some b'->g.β k=some (B,e)->g.β k'=some (B,e')->k=k'
 kr:ka g.K w
def g9 (g:Gh):List D->List Value->Prop
 |[],[]=>True
 |d::ds,v::vs=>a7 g d v/\g9 g ds vs
 |_,_=>False
def MR (g:Gh) (H:QEf) (b:Nat):Prop:=∃k e,(lk H k).isSome=true/\g.β k=some (b,e)
def QeX (P:Program) (f:Nat):Prop:=∃fn,P.funcs[f]?=some fn/\(fn.name== "runtime.NumGoroutine")=false/\fn.body.isNone=false
def o7 (P:Program) (f:Nat) (ds:List D) (H:QEf) (d:D) (H':QEf):Prop:=
 QeX P f/\∀(g:Gh) (w:World) (vs:List Value),xa g H w->g9 g ds (vs++gVs f)->(∀x∈ds,∀k∈x.ids,(lk H k).isSome=true)->Calls P f vs.toArray w λe w'=>
  ∃v g',e=.returned v/\a7 g' d v/\xa g' H' w'/\w.heap.size<=w'.heap.size/\(∀b,b<w.heap.size->¬MR g H b->w'.heap[b]?=w.heap[b]?/\g'.K b=g.K b)/\m8 w w'/\
   (∀k,1000000<=k->(lk H k).isSome=true->(lk H' k).isSome=true/\g'.β k=g.β k/\g'.σ k=g.σ k)/\
   ∀k B e,k<1000000->(lk H' k).isSome=true->g'.β k=some (B,e)->w.heap.size<=B\/∃k2 e2,k2<1000000/\(lk H k2).isSome=true/\g.β k2=some (B,e2)
def upN (k:Nat):Nat:=k+1000000
def upH (H:QEf):QEf:=H.map λp=>(upN p.1,p.2.u5 upN)
theorem Mh:∀(H:QEf) (k:Nat),lk (upH H) (upN k)=(lk H k).map (x4.u5 upN)
 |[],_=>rfl
 |(j,b)::H,k=>by
  simp only[upH,QEW,Qz];have:=Mh H k;simp only[upH]at this;rw[this]
  by_cases h:j=k
  (repeat clear hK K);simp_all
  (repeat clear hK K);simp_all [upN]
theorem Mi:∀(H:QEf) {k:Nat},k<1000000->lk (upH H) k=none
 |[],_,_=>rfl
 |(j,b)::H,k,hk=>by
  simp only[upH,QEW,Qz];rw[if_neg (by grind [upN])];exact Mi H hk
theorem Jo {H:QEf} (h:lk (upH H) k=some b):∃j b0,k=upN j/\lk H j=some b0/\b=b0.u5 upN:=by
 by_cases hk:k<1000000
 grind [Mi]
 have e:k=upN (k - 1000000):=by grind [upN]
 grind [Mh,Option.map_eq_some_iff]
theorem Xh {α:Type}:∀(A B:List (Nat × α)) (k:Nat),lk (A++B) k=match lk A k with |some v=>some v |none=>lk B k
 |[],_,_=>rfl
 |(j,v)::A,B,k=>by
  simp only[QFi,Qz];split;rfl;exact Xh A B k
theorem X3 {A B:List (Nat × α)} (h:lk A k=none):lk (A++B) k=lk B k:=by rw[Xh,h]
theorem YJ {A B:List (Nat × α)} {v:α} (h:lk A k=some v):lk (A++B) k=some v:=by rw[Xh,h]
theorem Qq6 {a b:Nat} (h:upN a=upN b):a=b:=by grind [upN]
variable {K:Kn} {nt:Nat} {o':u3} {ops:Array Oper}
def Ok (P:Program) (f:Nat) (ds:List D) (d:D):Prop:=
 QeX P f/\∀(K:Kn) (w:World) (vs:List Value),ka K w->x5 K ds (vs++gVs f)->Calls P f vs.toArray w λe w'=>
  ∃v K',e=.returned v/\s4 K' d v/\ka K' w'/\w.heap.size<=w'.heap.size/\(∀b,b<w.heap.size->w'.heap[b]?=w.heap[b]?)/\(∀b,b<w.heap.size->K' b=K b)/\m8 w w'
def D.x6:D->D
 | .u7 rows=>.sl rows
 |d=>d
def D.can:D->D
 | .agg cs=>.agg (cs.map D.x6)
 |d=>d.x6
def D.v9:D->Bool
 | .int _ _ | .bool _ | .str _=>true
 |_=>false
def D.flat:D->Bool
 | .g8 ds=>ds.all D.v9
 |d=>d.v9
def Jt:Nat->Bool:=λ_=>true
def XX (s:St) (d:D):D:=(d.fz s.H Jt).can
def Qi5 (d:D):D:=(d.u5 upN).can
def OkU (P:Program) (f:Nat) (ds:List D) (H:QEf) (d:D) (H':QEf):Prop:=o7 P f (ds.map Qi5) H d H'\/o7 P f (ds.map (D.u5 upN)) H d H'
def Kx (P:Program) (f:Nat) (args:List y5) (s:St) (HF Hn Hu:QEf) (d:D):Prop:=
 ∃ds,Zh s args=some ds/\(∀k b,lk HF k=some b->lk s.H k=some b)/\(∀k b,lk HF k=some b->∀j∈b.ids,(lk HF j).isSome=true)/\(∀x∈ds,∀j∈x.ids,(lk HF j).isSome=true)/\
  (∀k b,lk Hu k=some b->(lk HF k).isSome=true/\∀j∈b.ids,(lk HF j).isSome=true)/\
  (∀k b,lk Hn k=some b->k<1000000/\lk s.H k=none/\∀j∈b.ids,(lk Hn j).isSome=true)/\(∀k∈d.ids,(lk Hn k).isSome=true)/\
  OkU P f ds (upH HF) d (Hn++upH (Hu++HF))
def Qwt (k:Nat) (d:D):D:=(d.u5 λj=>if j=k then 500000 else upN j).can
def QdZ (P:Program) (f:Nat) (args:List y5) (s:St) (HF:QEf) (k t:Nat) (b b':x4) (n':Nat):Prop:=
 ∃ds,Zh s args=some ds/\lk s.H k=some b/\b.pr=true/\k<1000000/\lk s.H t=none/\t<1000000/\(∀j x,lk HF j=some x->j≠k/\lk s.H j=some x)/\(∀j x,lk HF j=some x->∀i∈x.ids,(lk HF i).isSome=true)/\
  (∀x∈ds,∀j∈x.ids,j=k\/(lk HF j).isSome=true)/\(∃x∈ds,k∈x.ids)/\b'.pr=true/\o7 P f (ds.map (Qwt k)) ((500000,b)::upH HF) (.u4 500000 n') ((500000,b')::upH HF)
def St.s8 (s:St) (dst:Option Nat) (d:D) (ef:QEf):St:=
 ⟨match dst with |some t=>(t,d)::s.fr |none=>s.fr,ef++s.H⟩
def EF (P:Program) (B:Nat->Prop) (op:s6) (dst:Option Nat) (s:St) (p q:List Nat) (d:D) (ef:QEf):Prop:=
 match op with
 | .call f args=>(∃HF k b,Kx P f args s HF [] [(k,b)] d/\(∀j∈HF.map Prod.fst,B j)/\p=HF.map Prod.fst/\q=[k]/\ef=[(k,b)])\/
   (∃HF k t b b' n',dst=some t/\QdZ P f args s HF k t b b' n'/\(∀j∈HF.map Prod.fst,B j)/\p=k::HF.map Prod.fst/\q=[k]/\d=.u4 t n'/\ef=[(t,b'),(k,Yn)])\/
   ∃HF t b n,dst=some t/\Kx P f args s HF [(t,b)] [] (.u4 t n)/\lk s.H t=none/\(∀j∈HF.map Prod.fst,B j)/\p=HF.map Prod.fst/\q=[]/\d=.u4 t n/\ef=[(t,b)]
 | .append l0 et bytes x y=>∃t k n b e ys pr,dst=some t/\s.ev x=some (.u4 k n)/\k<1000000/\lk s.H t=none/\t<1000000/\lk s.H k=some b/\n=b.rows.length/\b.l0=l0/\b.et=et/\s.ev y=some e/\k∉e.ids/\s.src l0 e ys pr/\
   (n+ys.length)*bytes<=140737488355328/\n+ys.length<=4611686018427387904/\p=k::e.ids/\q=[k]/\d=.u4 t (n+ys.length)/\ef=[(t,⟨b.rows++ys,l0,et,b.pr&&pr⟩),(k,Yn)]
 |_=>False
def Kp (s:St) (op:s6) (f:Nat) (args:List y5):Prop:=
 op=.call f args\/(∃x az caps,op=.ja x az/\(s.ev x=some (.k9 f caps)\/∃k ps,s.ev x=some (.w8 f k ps)/\caps=.ref k 0 0::ps)/\caps.all D.w9=true/\args=az++caps.map .c)\/
  ∃x rs,op=.ja x []/\s.ev x=some (.pe f rs)/\rs.all D.pure=true/\args=rs.map .c
def QjG (P:Program) (f:Nat) (args:List y5) (s:St) (d:D):Prop:=
 ∃ds,Zh s args=some ds/\Ok P f (ds.map (XX s)) d/\(ds.all D.pure=true\/d.flat=true)
def St.apply (s:St) (dst:Option Nat) (d:D) (bx:Option x4):St:=
 match dst with
 |some t=>(s.j7 dst bx).put t d
 |none=>s
def gw (s:St):Option (Nat × Bool)->Option Bool
 |none=>some true
 |some (t,b)=>match lk s.fr t with
  |some (.bool c)=>some (c==b)
  |some .undef=>some false
  |_=>none
def St.m9:List Nat->St->St
 |[],s=>s
 |k::ks,s=>St.m9 ks (s.freeze k)
def Jy (P:Program) (o:u3) (s:St) (d:D) (bx:Option x4):Prop:=
 match o.op with
 | .call f args=>bx=none/\QjG P f args s d
 | .ja x az=>bx=none/\((∃f caps,s.ev x=some (.k9 f caps)/\caps.all D.w9=true/\QjG P f (az++caps.map .c) s d)\/(az=[]/\∃f rs,s.ev x=some (.pe f rs)/\rs.all D.pure=true/\QjG P f (rs.map .c) s d))
 |op=>TK op o.dst s d bx
def St.le (s s':St):Prop:=∀E g a w,Rel E g s a w->∃g',Rel E g' s' a w
def Qfh (P:Program) (o:u3) (K:St->Prop) (s:St):Prop:=
 match gw s o.guard with
 |none=>False
 |some false=>K (s.apply o.dst .undef none)
 |some true=>(∃d bx,Jy P o s d bx/\K (s.apply o.dst d bx))\/(∃s' d,Qal o.op s s' d/\K (s'.apply o.dst d none))\/(∃p q d ef,EF P (λ_=>True) o.op o.dst s p q d ef/\K (s.s8 o.dst d ef))\/
   (∃f args HF Hn Hu d,Kp s o.op f args/\Kx P f args s HF Hn Hu d/\K (St.apply {s with H:=Hn++(Hu++s.H)} o.dst d none))\/
   ∃s' d bx,s.le s'/\Jy P o s' d bx/\K (s'.apply o.dst d bx)
def GF (P:Program):List u3->(St->Prop)->St->Prop
 |[],K,s=>K s
 |o::r,K,s=>Qfh P o (GF P r K) s
def Yi (ops:Array Oper):Option (Nat × Bool)->Option (Option (Nat × Bool))
 |none=>some none
 |some (j,b)=>match(ops[j]?).bind (·.dst)with
  |some t=>some (some (t,b))
  |none=>none
def ZP (P:Program) (nt:Nat) (ops:Array Oper) (o:Oper):Option u3:=
 match Yr P o.op,Yi ops o.guard,o.dst with
 |some ao,some gd,none=>some ⟨none,ao,gd⟩
 |some ao,some gd,some t=>if t<nt/\t<900000 then some ⟨some t,ao,gd⟩else none
 |_,_,_=>none
def QV (P:Program) (nt:Nat) (ops:Array Oper):List Oper->Option (List u3)
 |[]=>some []
 |o::r=>match ZP P nt ops o,QV P nt ops r with
  |some o',some r'=>some (o'::r')
  |_,_=>none
section
variable {P:Program} {E:Env} {g:Gh} {s:St} {a:Act} {w:World}
theorem Q6 (h:ZP P nt ops o=some o'):
  Yr P o.op=some o'.op/\Yi ops o.guard=some o'.guard/\o'.dst=o.dst/\∀t,o.dst=some t->t<nt:=by
 grind [ZP]
theorem Mt (h:ZP P nt ops o=some o') {t:Nat} (C:o.dst=some t):t<900000:=by
 grind [ZP]
theorem Rel.apply {dst:Option Nat} {d:D} {bx:Option x4} {v:Value} (r:Rel E g (s.j7 dst bx) a w) (C:a7 g d v) (hd:Has (s.j7 dst bx) d) (G:∀t,dst=some t->t<E.nt):
  Rel E g (s.apply dst d bx) (a.put dst v) w:=by
 cases dst with
 |none=>exact r
 |some t=>exact r.put (G t rfl) C hd
theorem T2 {s:St}:∀{xs ys:List y5} {ds:List D},Zh s (xs++ys)=some ds->∃d1 d2,ds=d1++d2/\Zh s xs=some d1/\Zh s ys=some d2
 |[],ys,ds,h=>⟨[],ds,rfl,rfl,h⟩
 |x::xs,ys,ds,h=>by
  simp only[QFi,Zh]at h;split at h;rename_i d ds' e1 e2;cases h
  obtain⟨d1,d2,rfl,G,C⟩:=T2 e2;exact⟨d::d1,d2,rfl,by grind [Zh],C⟩
  grind
theorem Gf {s:St}:∀(ds:List D),Zh s (ds.map .c)=some ds
 |[]=>rfl
 |d::ds=>by simp only[QEW,Zh,St.ev,Gf ds]
theorem g9.app {g:Gh}:∀{d1:List D} {v1:List Value} {d2:List D} {v2:List Value},g9 g d1 v1->g9 g d2 v2->g9 g (d1++d2) (v1++v2)
 |[],[],_,_,_,h=>h
 |_::_,_::_,_,_,h,h'=>⟨h.1,g9.app h.2 h'⟩
 |[],_::_,_,_,h,_=>h.elim
 |_::_,[],_,_,h,_=>h.elim
theorem n5.xh {g:Gh}:∀{ds:List D} {vs:List Value},n5 g ds vs->g9 g ds vs
 |[],[],_=>trivial
 |_::_,_::_,h=>⟨h.1.qg,n5.xh h.2⟩
 |[],_::_,h=>h.elim
 |_::_,[],h=>h.elim
theorem Qni (r:Rel E g s a w):∀{xs:List Operand} {C:List y5} {ds:List D},Z5 xs=some C->Zh s C=some ds->g9 g ds (xs.map a.eval)/\∀d∈ds,Has s d
 |[],C,ds,M,G=>by
  simp only[Z5,QEl]at M;subst M;simp only[Zh,QEl]at G;subst G;exact⟨trivial,by simp⟩
 |x::xs,C,ds,M,G=>by
  simp only[Z5]at M;split at M;rename_i x' V e1 e2;cases M
  simp only[Zh]at G;split at G;rename_i d ds' f1 f2;cases G
  obtain⟨T,O⟩:=Qni r e2 f2;obtain⟨g1,g2⟩:=Zy r e1 f1;refine⟨⟨g1,T⟩,λy U=>?_⟩;cases U with
  |head=>exact g2
  |tail _ hm=>exact O y hm
  cases G
  cases M
theorem Qcb (h:s4 K d v):s4 K d.x6 v:=by
 cases d<;>simp only[D.x6]<;>try exact h
 simp only[s4]at h ⊢;obtain⟨M,G,C⟩:=h;exact⟨M,_,G,QEI _,C⟩
theorem QaM (h:s4 K d v):s4 K d.can v:=by
 cases d<;>simp only[D.can]<;>try exact Qcb h
 case agg cs=>
  simp only[s4]at h ⊢;obtain⟨vs,G,C⟩:=h;refine⟨vs,G, ?_⟩
  have:∀{cs:List D} {vs:List Value},l6 K cs vs->l6 K (cs.map D.x6) vs:=by
   intro cs
   induction cs with
   |nil=>intro vs h;exact h
   |cons c cs ih=>
    intro vs h;cases vs with
    |nil=>simp only[l6]at h
    |cons v vs=>
     simp only[QEW,l6]at h ⊢;refine⟨⟨?_,Qcb h.1.2⟩,ih h.2⟩;have:=h.1.1;cases c<;>first |exact this |rfl
  exact this C
theorem Qdi {K:Kn} (C:∀d v,z4 g d v->(∀k∈d.y4,(lk s.H k).isSome=true)->z4 {g with K:=K} (d.x7 s.H Jt) v):∀{ds:List D} {vs:List Value},
  g9 g ds vs->(∀d∈ds,Has s d)->(∀d∈ds,(d.fz s.H Jt).pure=true)->x5 K (ds.map (XX s)) vs
 |[],[],_,_,_=>by trivial
 |d::ds,v::vs,h,h2,h3=>by
  have hp:=(a7.fz C h.1 (h2 d Wd)).oc (h3 d Wd);simp only[QEW,x5];exact⟨QaM hp,Qdi C h.2 (λx hx=>h2 x Wc) λx hx=>h3 x Wc⟩
 |[],_::_,h,_,_=>h.elim
 |_::_,[],h,_,_=>h.elim
theorem KD:(d.x7 H Jt).own=false:=by
 cases d<;>simp only[D.x7,Jt,if_true]<;>try rfl
 all_goals (repeat' split)<;>rfl
theorem Ss:(d.fz H Jt).pure=true:=by
 cases d
 case agg cs=>simp only[D.fz,D.pure,QEs];intro x hx;obtain⟨y,_,rfl⟩:=QEw.1 hx;simp[KD]
 case k9 f cs=>simp only[D.fz,D.pure,QEs];intro x hx;obtain⟨y,_,rfl⟩:=QEw.1 hx;simp[KD]
 case ia cs z=>simp only[D.fz,D.pure,QEs];intro x hx;obtain⟨y,_,rfl⟩:=QEw.1 hx;simp[KD]
 case u4 k n=>
  have:=KD (H:=H) (d:=.u4 k n);simp only[D.fz];revert this;simp only[D.x7,Jt,if_true]
  (repeat' split)<;>intro _<;>rfl
 case w8 f k ps=>rfl
 case ref k i j=>
  have:=KD (H:=H) (d:=.ref k i j);simp only[D.fz];revert this;simp only[D.x7,Jt,if_true]
  (repeat' split)<;>intro _<;>rfl
 all_goals rfl
theorem YL {f:D->D}:∀{cs:List D},(∀x∈cs,f x=x)->cs.map f=cs
 |[],_=>rfl
 |c::cs,h=>by rw[QEW,h c Wd,YL λx hx=>h x Wc]
theorem T8 {S:Nat->Bool} (h:d.pure=true):d.fz H S=d:=by
 have one:∀{d:D},d.own=false->d.x7 H S=d:=by
  intro d h;cases d<;>first |rfl |(trivial)
 cases d
 case agg cs=>
  grind [D.pure,D.fz,YL]
 case k9 f cs=>
  grind [D.pure,D.fz,YL]
 case ia cs z=>
  grind [D.pure,D.fz,YL]
 all_goals first |rfl |(simp[D.pure,D.own]at h)
end
variable {HF:QEf} {K':Act->World->Prop} {Q:Exit->Act->World->Prop} {args:List y5}
section
variable {P:Program} {E:Env} {g:Gh} {s:St} {a:Act} {w:World}
theorem g9.yh {g:Gh}:∀{ds:List D} {vs:List Value},x5 g.K ds vs->g9 g ds vs
 |[],[],_=>trivial
 |d::ds,v::vs,h=>by simp only[x5]at h;exact⟨a7.of h.1,g9.yh h.2⟩
 |[],_::_,h=>by trivial
 |_::_,[],h=>by trivial
theorem x5.ids {K:Kn}:∀{ds:List D} {vs:List Value},x5 K ds vs->∀d∈ds,d.ids=[]
 |[],[],_,d,hd=>by grind
 |d::ds,v::vs,h,x,hx=>by
  simp only[x5]at h;rcases QEk.1 hx with rfl |hx
  grind [Jq]
  exact x5.ids h.2 x hx
 |[],_::_,h,_,_=>by grind
 |_::_,[],h,_,_=>by trivial
theorem HJ {ds:List D} (r:Rel E g s a w) (hp:Yr P o.op=some ao) (hc:Kp s ao f args) (hds:Zh s args=some ds) (he:QeX P f):
  ∃vs:List Value,g9 g ds (vs++gVs f)/\(∀d∈ds,Has s d)/\(execOp a.eval o).run P w=.ok (.enter f vs.toArray) w:=by
 obtain⟨fn,hfn,hnm,hbd⟩:=he;have hnm':¬fn.name= "runtime.NumGoroutine":=by grind
 have hbd':¬fn.body=none:=λh=>by grind
 have hao:(∃az,ao=.call f az)\/∃x az,ao=.ja x az:=by
  rcases hc with h |⟨x,az,_,h,_⟩ |⟨x,_,h,_⟩
  grind
  grind
  grind
 cases ho:o.op<;>rw[ho]at hp<;>simp only[Yr,reduceCtorEq]at hp
 case call c=>
  have e1:(c.args.map a.eval)=(c.args.toList.map a.eval).toArray:=by grind
  unfold XH at hp;split at hp;unfold JS at hp
  grind
  grind
  grind
  unfold Yw XG at hp
  grind
  unfold JQ at hp
  grind
  rename_i f' xs hcal;obtain⟨args'',h1,h2⟩:=QEh.1 hp;subst h2;rcases hc with h |⟨x,az,caps,h,_⟩ |⟨x,_,h,_⟩
  cases h
  obtain⟨q1,q2⟩:=Qni r h1 hds;refine⟨c.args.toList.map a.eval,by simp_all [gVs,Function.comp_def,Act.eval],q2, ?_⟩;have hev:a.eval (.func f)=.func (.func f) #[] #[]:=rfl
  (repeat clear hK K);simp_all [execOp,resolve,Deferred.ofValue,invoke,callFunc]
  grind
  grind
  ·rename_i xs t hcal;split at hp
   case isFalse=>grind
   rename_i ht9;obtain⟨args'',h1,h2⟩:=QEh.1 hp;subst h2;rcases hc with h |⟨x,az,caps,h,hx,hcap,rfl⟩ |⟨x,rs,h,hx,hcap,rfl⟩
   grind
   cases h
   obtain⟨d1,d2,rfl,h3,h4⟩:=T2 hds;rw[Gf]at h4;cases h4;obtain⟨q1,q2⟩:=Qni r h1 h3
   obtain⟨⟨cs,hv,hl⟩,hid⟩:a7 g (.k9 f caps) (a.eval (.tmp t))/\Has s (.k9 f caps):=by
    rcases hx with hx |⟨k,ps,hx,rfl⟩;exact Zy (x:=.tmp t) r (if_pos ht9) hx;obtain⟨q1,q2⟩:=Zy (x:=.tmp t) r (if_pos ht9) hx
    refine⟨Qtt q1,λj hj=>?_⟩;simp only[D.ids,QEM,QEt]at hj;rcases hj with hj |hj
    exact q2 j hj;obtain⟨B,l0,o,cs,_,_,h2⟩:=q1
    grind [Rp]
   refine⟨c.args.toList.map a.eval++cs,by rw[QFa];exact q1.app hl.xh,λd hd=>?_, ?_⟩
   rcases QEt.1 hd with hd |hd
   grind
   intro k hk;exact hid k (QEp.2 ⟨d,hd,QfJ (QEs.1 hcap d hd) k hk⟩)
   (repeat clear hK K);simp_all [execOp,resolve,Deferred.ofValue,invoke,callFunc]
   cases h
   rw[Gf]at hds;cases hds
   have hxs:c.args=#[]:=by
    cases hl:c.args.toList with
    |nil=>grind
    |cons y ys=>
     grind [Z5]
   obtain⟨hR,hid⟩:=Zy (x:=.tmp t) r (if_pos ht9) hx;simp only[a7,z4,s4]at hR;obtain⟨cs,hv,hl⟩:=hR;refine⟨cs,g9.yh hl,λd hd k hk=>?_, ?_⟩
   grind [x5.ids]
   (repeat clear hK K);simp_all [execOp,resolve,Deferred.ofValue,invoke,callFunc]
  grind
 all_goals
  first
   |(cases hp;rcases hao with⟨_,h⟩ |⟨_,_,h⟩<;>cases h;done)
   |(obtain⟨_,_,h⟩:=QEh.1 hp;subst h;rcases hao with⟨_,h⟩ |⟨_,_,h⟩<;>cases h;done)
   |(
    simp only[JP,YX,ZV,YW,ZO,XI,Z3,Xp,GD]at hp
    (repeat' split at hp)<;>first |(cases hp;done) |(cases hp;rcases hao with⟨_,h⟩ |⟨_,_,h⟩<;>cases h;done) |(obtain⟨_,_,h⟩:=QEh.1 hp;subst h;rcases hao with⟨_,h⟩ |⟨_,_,h⟩<;>cases h;done))
   |((repeat' split at hp)<;>first |(cases hp;done) |(cases hp;rcases hao with⟨_,h⟩ |⟨_,_,h⟩<;>cases h;done) |(obtain⟨_,_,h⟩:=QEh.1 hp;subst h;rcases hao with⟨_,h⟩ |⟨_,_,h⟩<;>cases h;done))
theorem a7.xg {v:Value} (h:a7 g d v):a7 g d.can v:=by
 have x6:∀{d:D} {v:Value},z4 g d v->z4 g d.x6 v:=by
  intro d v h;cases d<;>simp only[D.x6]<;>try exact h
  simp only[z4,s4]at h ⊢;obtain⟨T,C,G⟩:=h;exact⟨T,_,C,QEI _,G⟩
 cases d
 case agg cs=>
  obtain⟨vs,C,G,M⟩:=h;refine⟨vs,C, ?_,λd hd=>?_⟩
  have:∀{cs:List D} {vs:List Value},n5 g cs vs->n5 g (cs.map D.x6) vs:=by
   intro cs
   induction cs with
   |nil=>simp
   |cons c cs ih=>
    intro vs h;cases vs with
    |nil=>trivial
    |cons v vs=>exact⟨x6 h.1,ih h.2⟩
  grind
  obtain⟨y,O,rfl⟩:=QEw.1 hd;have:=M y O;cases y<;>first |trivial |rfl
 case u7 rows=>exact x6 (d:=.u7 rows) h
 all_goals exact h
theorem L0:d.can.ids=d.ids:=by
 have one:∀d:D,d.x6.y4=d.y4:=λd=>by cases d<;>rfl
 cases d
 case agg cs=>
  simp only[D.can,D.ids]
  induction cs with
  |nil=>rfl
  |cons c cs ih=>grind
 all_goals rfl
theorem HI {G:Gh} {ρ:Nat->Nat} (C:G.pull ρ=g):∀{ds:List D} {vs:List Value},g9 g ds vs->g9 G (ds.map λd=>(d.u5 ρ).can) vs
 |[],[],_=>trivial
 |d::ds,v::vs,h=>⟨(a7.u5.2 (by rw[C];exact h.1)).xg,HI C h.2⟩
 |[],_::_,h=>h.elim
 |_::_,[],h=>h.elim
theorem R1 {G:Gh} {ρ:Nat->Nat} (C:G.pull ρ=g):∀{ds:List D} {vs:List Value},g9 g ds vs->g9 G (ds.map λd=>d.u5 ρ) vs
 |[],[],_=>trivial
 |d::ds,v::vs,h=>⟨a7.u5.2 (by rw[C];exact h.1),R1 C h.2⟩
 |[],_::_,h=>h.elim
 |_::_,[],h=>h.elim
theorem Nw {Hn Hu:QEf} (r:Rel E g s a w) (hp:Yr P o.op=some ao) (hcal:Kp s ao f args) (hc:Kx P f args s HF Hn Hu d)
 (ht:∀t,o.dst=some t->t<E.nt) (hK:∀g' a' w',Rel E g' (St.apply {s with H:=Hn++(Hu++s.H)} o.dst d none) a' w'->K' a' w'):o.wp P a w K' Q:=by
 obtain⟨ds,hds,c1,c2,c3,c4,c5,c6,hokU⟩:=hc;obtain⟨vs,hxs,_,hrun⟩:=HJ r hp hcal hds (hokU.elim And.left And.left);unfold Oper.wp;rw[hrun,Oper.upon_enter];let O:Gh:=⟨g.K,λk=>g.β (k - 1000000),λk=>g.σ (k - 1000000)⟩
 have V:O.pull upN=g:=by
  have h1:∀k,upN k - 1000000=k:=λk=>by simp_all [upN]
  show(⟨g.K,λk=>g.β (upN k - 1000000),λk=>g.σ (upN k - 1000000)⟩:Gh)=g
  (repeat clear hK K);simp_all
 have guβ:∀k,O.β (upN k)=g.β k:=λk=>congrFun (congrArg Gh.β V) k;have guσ:∀k,O.σ (upN k)=g.σ k:=λk=>congrFun (congrArg Gh.σ V) k
 have inH:∀k,(lk HF k).isSome=true->(lk s.H k).isSome=true:=λk hk=>by
  grind [Option.isSome_iff_exists]
 have hrel:xa O (upH HF) w:=by
  refine⟨λk b hk j hj=>?_,λk b hk=>?_,λk k' b b' B e e' h1 h2 h3 h4=>?_,r.kr⟩;obtain⟨i,b0,rfl,h1,rfl⟩:=Jo hk;rw[x4.a8]at hj;obtain⟨j0,hj0,rfl⟩:=QEw.1 hj
  grind [Mh]
  obtain⟨i,b0,rfl,h1,rfl⟩:=Jo hk;refine u6.u5.2 ?_;rw[V];exact(r.bx i b0 (c1 i b0 h1)).move ⟨rfl,rfl⟩ (λ_ _ _ _ _ _=>⟨rfl,rfl⟩) (Kn.le_refl _) λB e _=>⟨rfl,λ_ h=>h,λ_=>.inl (QEu _)⟩;obtain⟨i,b0,rfl,q1,rfl⟩:=Jo h1;obtain⟨i',b0',rfl,q2,rfl⟩:=Jo h2;rw[guβ]at h3 h4;rw[r.inj i i' b0 b0' B e e' (c1 _ _ q1) (c1 _ _ q2) h3 h4]
 have hcall:Calls P f vs.toArray w λe w'=>∃v g',e=.returned v/\a7 g' d v/\xa g' (Hn++upH (Hu++HF)) w'/\w.heap.size<=w'.heap.size/\(∀b,b<w.heap.size->¬MR O (upH HF) b->w'.heap[b]?=w.heap[b]?/\g'.K b=O.K b)/\m8 w w'/\
   (∀k,1000000<=k->(lk (upH HF) k).isSome=true->(lk (Hn++upH (Hu++HF)) k).isSome=true/\g'.β k=O.β k/\g'.σ k=O.σ k)/\
   ∀k B e,k<1000000->(lk (Hn++upH (Hu++HF)) k).isSome=true->g'.β k=some (B,e)->w.heap.size<=B\/∃k2 e2,k2<1000000/\(lk (upH HF) k2).isSome=true/\O.β k2=some (B,e2):=by
  rcases hokU with⟨_,hok⟩ |⟨_,hok⟩;refine hok O w vs hrel (HI V hxs) ?_;intro x hx k hk;obtain⟨x0,hx0,rfl⟩:=QEw.1 hx
  unfold Qi5 at hk;rw[L0,a8]at hk;obtain⟨k0,hk0,rfl⟩:=QEw.1 hk
  grind [Mh]
  refine hok O w vs hrel (R1 V hxs) ?_;intro x hx k hk;obtain⟨x0,hx0,rfl⟩:=QEw.1 hx;rw[a8]at hk;obtain⟨k0,hk0,rfl⟩:=QEw.1 hk
  grind [Mh]
 refine hcall.mono λe w' ⟨v,g',he,hv,hr',hsz,hfr,hfx,hkeep,hnew⟩=>?_;subst he
 -- what is the callee's own is the caller's own
 have C:∀b,MR O (upH HF) b->∃k b0 e,lk HF k=some b0/\lk s.H k=some b0/\g.β k=some (b,e):=λb ⟨k,e,h1,h2⟩=>by
  obtain⟨b1,hb1⟩:=QEo.1 h1;obtain⟨i,b0,rfl,q1,_⟩:=Jo hb1
  grind
 have hKle:g.K.le g'.K:=λb q x hx=>by
  have hb:=r.kr.lt hx
  have U:¬MR O (upH HF) b:=λh=>by
   obtain⟨k,b0,e,_,h2,h3⟩:=C b h;have:=((r.bx k b0 h2).nb h3).2.1 q
   grind
  grind
 have kU:∀k,(lk HF k).isSome=true->g'.β (upN k)=g.β k/\g'.σ (upN k)=g.σ k:=λk hk=>by
  grind [upN,Mh]
 let g2:Gh:=⟨g'.K,λk=>if(lk Hn k).isSome=true then g'.β k else g.β k,λk=>if(lk Hn k).isSome=true then g'.σ k else g.σ k⟩;have Y:∀k,(lk Hn k).isSome=true->g2.β k=g'.β k/\g2.σ k=g'.σ k:=λk hk=>⟨if_pos hk,if_pos hk⟩
 have freshN:∀k,(lk Hn k).isSome=true->k<1000000/\lk s.H k=none:=λk hk=>by
  obtain⟨b,hb⟩:=QEo.1 hk
  grind
 have notN:∀k,(lk s.H k).isSome=true->lk Hn k=none:=λk hk=>by
  cases h:lk Hn k with
  |none=>rfl
  |some b=>grind
 have G:∀k,(lk s.H k).isSome=true->g2.β k=g.β k/\g2.σ k=g.σ k:=λk hk=>by
  grind
 have lkr:∀k,lk Hn k=none->lk (Hn++(Hu++s.H)) k=lk (Hu++s.H) k:=λk hk=>X3 hk;have uIn:∀k b,lk Hu k=some b->(lk s.H k).isSome=true:=λk b h=>inH k (c4 k b h).1
 have sIn:∀k,(lk s.H k).isSome=true->(lk (Hn++(Hu++s.H)) k).isSome=true:=λk hk=>by
  rw[lkr k (notN k hk)];cases h:lk Hu k with
  |some b=>grind [YJ]
  |none=>grind [X3]
 have nIn:∀k,(lk Hn k).isSome=true->(lk (Hn++(Hu++s.H)) k).isSome=true:=λk hk=>by
  obtain⟨b,hb⟩:=QEo.1 hk
  grind [YJ]
 have T:∀k b,lk (Hn++(Hu++s.H)) k=some b->lk Hn k=some b\/(lk Hn k=none/\(lk s.H k).isSome=true/\((lk HF k).isSome=true/\lk (Hu++HF) k=some b\/lk HF k=none/\lk s.H k=some b)):=λk b h=>by
  cases hn:lk Hn k with
  |some b'=>grind [YJ]
  |none=>
   rw[lkr k hn]at h;refine .inr ⟨rfl, ?_⟩;cases hu:lk Hu k with
   |some b'=>
    grind [YJ]
   |none=>
    rw[X3 hu]at h;refine⟨by grind, ?_⟩;cases hf:lk HF k with
    |some b'=>
     have:=c1 k b' hf
     have e:b=b':=by
      grind
     subst e;exact .inl ⟨rfl,by grind [X3]⟩
    |none=>grind
 have lkR:∀k b,lk (Hu++HF) k=some b->lk (Hn++upH (Hu++HF)) (upN k)=some (b.u5 upN):=λk b h=>by
  have hn:lk Hn (upN k)=none:=by
   cases hh:lk Hn (upN k)with
   |none=>rfl
   |some b'=>grind [upN]
  grind [X3,Mh]
 have lkN:∀k b,lk Hn k=some b->lk (Hn++upH (Hu++HF)) k=some b:=λk b h=>YJ h
 have blkN:∀k B e,(lk Hn k).isSome=true->g'.β k=some (B,e)->w.heap.size<=B:=λk B e hk hβ=>by
  obtain⟨b,hb⟩:=QEo.1 hk;refine(hnew k B e (freshN k hk).1 Wc hβ).resolve_right ?_
  grind [Mi]
 have blkO:∀k B e,(lk s.H k).isSome=true->g.β k=some (B,e)->B<w.heap.size/\(∀o,g.K B o=none)/\(E.B0<=B\/E.fo B):=λk B e hk hβ=>by
  obtain⟨b,hb⟩:=QEo.1 hk;exact(r.bx k b hb).nb hβ
 have r2:Rel E g2 {s with H:=Hn++(Hu++s.H)} a w':=by
  refine⟨r.nt,r.df.of rfl (λD hD=>((hfr D (QEG.1 hD).1 (λho=>by
   obtain⟨k,b0,e,_,h2,h3⟩:=C D ho;exact(r.bx k b0 h2).ve h3 hD)).1).trans hD),λt x h=>(r.fr t x h).congr hKle λk hk=>G k (r.da t x h k hk),λt x h k hk=>sIn k (r.da t x h k hk),λk b h j hj=>?_,λk b h=>?_,λk k' b b' B e e' h1 h2 h3 h4=>?_,hr'.kr,
   ⟨QEB r.ext.1 hsz,λb hb hf=>?_,r.ext.2.2.trans hfx⟩,λb hb hf=>?_,λk hk=>?_⟩
  rcases T k b h with h |⟨_,_,⟨_,h⟩ |⟨_,h⟩⟩
  grind
  cases hu:lk Hu k with
  |some b'=>
   grind [YJ]
  |none=>
   grind [X3]
  exact sIn j (r.x9 k b h j hj);rcases T k b h with h |⟨hn,hs,⟨hf,h⟩ |⟨hf,h⟩⟩
  have hk:(lk Hn k).isSome=true:=by grind
  have hb:=hr'.bx k b (lkN k b h);refine hb.move (Y k hk) (λrow M x hx j hj=>?_) (Kn.le_refl _) λB e hβ=>⟨rfl,λ_ h=>h,λ_=>.inl (QEB r.ext.1 (blkN k B e hk hβ))⟩;cases hp:b.pr with
  |true=>rw[hb.2.1 hp row M x hx]at hj;grind
  |false=>exact Y j ((c5 k b h).2.2 j (by simp only[x4.ids,hp];grind))
  have hb:=u6.u5.1 (hr'.bx (upN k) _ (lkR k b h));refine hb.move ⟨(G k hs).1.trans (kU k hf).1.symm,(G k hs).2.trans (kU k hf).2.symm⟩ (λrow M x hx j hj=>?_) (Kn.le_refl _) λB e hβ=>⟨rfl,λ_ h=>h,λ_=>?_⟩
  have hj':(lk HF j).isSome=true:=by
   cases hp:b.pr with
   |true=>rw[hb.2.1 hp row M x hx]at hj;grind
   |false=>
    have hin:j∈b.ids:=by simp only[x4.ids,hp];grind
    cases hu:lk Hu k with
    |some b'=>grind [YJ]
    |none=>grind [X3]
  exact⟨(G j (inH j hj')).1.trans (kU j hj').1.symm,(G j (inH j hj')).2.trans (kU j hj').2.symm⟩;exact(blkO k B e hs ((kU k hf).1 ▸ hβ)).2.2;refine(r.bx k b h).move (G k hs) (λrow M x hx j hj=>G j (r.wa k b h row M x hx j hj)) hKle λB e hβ=>?_;obtain⟨q1,q2,q3⟩:=(r.bx k b h).nb hβ
  have U:¬MR O (upH HF) B:=λho=>by
   obtain⟨k',b0,e',p1,p2,p3⟩:=C B ho;have:=r.inj k k' b b0 B e e' h p2 hβ p3
   grind
  grind
  have hh:∀k b,lk (Hn++(Hu++s.H)) k=some b->(lk Hn k).isSome=true\/(lk Hn k=none/\(lk s.H k).isSome=true):=λk b h=>by
   grind
  rcases hh k b h1 with p |⟨p,q⟩<;>rcases hh k' b' h2 with p' |⟨p',q'⟩
  obtain⟨x,hx⟩:=QEo.1 p;obtain⟨x',hx'⟩:=QEo.1 p';exact hr'.inj k k' x x' B e e' (lkN k x hx) (lkN k' x' hx') ((Y k p).1 ▸ h3) ((Y k' p').1 ▸ h4)
  grind
  grind
  obtain⟨x,hx⟩:=QEo.1 q;obtain⟨x',hx'⟩:=QEo.1 q';exact r.inj k k' x x' B e e' hx hx' ((G k q).1 ▸ h3) ((G k' q').1 ▸ h4)
  have U:¬MR O (upH HF) b:=λho=>by
   grind
  exact(hfr b (QEH hb r.ext.1) U).1.trans (r.ext.2.1 b hb hf)
  have U:¬MR O (upH HF) b:=λho=>by
   grind
  exact(hfr b (QEH hb r.ext.1) U).2.trans (r.kx b hb hf);obtain⟨h1,h2,h3,h4⟩:=r.kp k hk
  grind
 have r3:Rel E g2 (St.j7 {s with H:=Hn++(Hu++s.H)} o.dst none) a w':=by cases o.dst<;>exact r2
 refine hK g2 _ w' (r3.apply (hv.congr (Kn.le_refl _) λk hk=>Y k (c6 k hk)) ?_ ht);intro k hk
 grind [St.j7]
theorem x4.ya {ρ:Nat->Nat} (h:∀r∈b.rows,∀d∈r,d.y4=[]):b.u5 ρ=b:=by
 have one:∀d:D,d.y4=[]->d.y6 ρ=d:=λd hd=>by cases d<;>first |rfl |(trivial)
 have:b.rows.map (λr=>r.map (D.y6 ρ))=b.rows:=by
  have:∀rs:List (List D),(∀r∈rs,∀d∈r,d.y4=[])->rs.map (λr=>r.map (D.y6 ρ))=rs:=by
   intro rs
   induction rs with
   |nil=>simp
   |cons r rs C=>
    intro h;rw[QEW,C λr hr=>h r Wc]
    congr 1
    have h0:=h r Wd;clear h C
    induction r with
    |nil=>rfl
    |cons d ds C=>grind
  grind
 (repeat clear hK K);simp_all [x4.u5]
theorem u6.jg {E E':Env} {g':Gh} {w:World} {k':Nat} (hp:b.pr=true) (h:u6 E g w k b) (C:g'.β k'=g.β k/\g'.σ k'=g.σ k) (hK:g'.K=g.K) (G:∀B e,g.β k=some (B,e)->E'.B0<=B\/E'.fo B):u6 E' g' w k' b:=by
 obtain⟨h1,Y,V⟩:=h;refine⟨h1,Y,V.imp (λ⟨x,y⟩=>⟨x,y.imp (λy=>⟨C.1.trans y.1,by grind⟩) λ⟨i1,i2,i3,O,p,B,i4,i5,i6,i7,i8⟩=>⟨i1,i2,i3,O,p,B,i4,C.1.trans i5,i6,Wc,G B 0 i5,by grind⟩⟩) ?_⟩;rintro⟨U,B,c,M,T,h7,h8,h9,h10⟩;exact⟨U,B,c,C.1.trans M,T,Wc,(by grind [s5.congr,Kn.le_refl]),(by simp_all),G B _ M⟩
theorem QaL {t n':Nat} {b':x4} (r:Rel E g s a w) (hp:Yr P o.op=some ao) (hcal:Kp s ao f args) (hc:QdZ P f args s HF k t b b' n')
 (ht:∀t,o.dst=some t->t<E.nt) (hK:∀g' a' w',Rel E g' (St.apply {s with H:=(t,b')::(k,Yn)::s.H} o.dst (.u4 t n') none) a' w'->K' a' w'):o.wp P a w K' Q:=by
 obtain⟨ds,hds,m1,m2,m3,m4,m5,c1,c2,c3,_,m6,hen,hok⟩:=hc;obtain⟨vs,hxs,_,hrun⟩:=HJ r hp hcal hds hen;unfold Oper.wp;rw[hrun,Oper.upon_enter]
 obtain⟨G,guK,hB0,hS0⟩:∃G:Gh,G.K=g.K/\(∀j,G.β j=if j=500000 then g.β k else g.β (j - 1000000))/\∀j,G.σ j=if j=500000 then g.σ k else g.σ (j - 1000000):=
  ⟨⟨g.K,λj=>if j=500000 then g.β k else g.β (j - 1000000),λj=>if j=500000 then g.σ k else g.σ (j - 1000000)⟩,rfl,λ_=>rfl,λ_=>rfl⟩
 have hup:∀j,G.β (upN j)=g.β j/\G.σ (upN j)=g.σ j:=λj=>by
  have T:upN j≠500000:=by grind [upN]
  have M:upN j - 1000000=j:=by simp_all [upN]
  (repeat clear hK K);simp_all
 have guβ:∀j,G.β (upN j)=g.β j:=λj=>(hup j).1;have guk:G.β 500000=g.β k/\G.σ 500000=g.σ k:=by grind
 have pullEq:∀ρ:Nat->Nat,(∀j,G.β (ρ j)=g.β j/\G.σ (ρ j)=g.σ j)->G.pull ρ=g:=λρ h=>by
  have T:(λj=>G.β (ρ j))=g.β:=funext λj=>(h j).1;have M:(λj=>G.σ (ρ j))=g.σ:=funext λj=>(h j).2
  (repeat clear hK K);simp_all [Gh.pull]
 have hguU:G.pull upN=g:=pullEq upN hup
 have hguR:G.pull (λj=>if j=k then 500000 else upN j)=g:=pullEq _ λj=>by
  grind
 have hC:∀j x,lk ((500000,b)::upH HF) j=some x->(j=500000/\x=b)\/∃i b0,j=upN i/\lk HF i=some b0/\x=b0.u5 upN:=λj x h=>by
  rw[Qz]at h;split at h
  grind
  grind [Jo]
 have upC:∀(x:x4) i,lk ((500000,x)::upH HF) (upN i)=(lk HF i).map (x4.u5 upN):=λx i=>by
  rw[Qz,if_neg (by grind [upN]),Mh]
 have hrel:xa G ((500000,b)::upH HF) w:=by
  refine⟨λj x C i hi=>?_,λj x C=>?_,λj j' x x' B e e' T M O h4=>?_,by rw[guK];exact r.kr⟩
  rcases hC j x C with⟨rfl,rfl⟩ |⟨i0,b0,rfl,T,rfl⟩
  grind [x4.ids]
  rw[x4.a8]at hi
  grind
  rcases hC j x C with⟨rfl,rfl⟩ |⟨i0,b0,rfl,T,rfl⟩;exact(r.bx k x m1).jg m2 guk guK λB e _=>.inl (QEu _)
  refine u6.u5.2 ?_;rw[hguU];exact(r.bx i0 b0 (c1 i0 b0 T).2).move ⟨rfl,rfl⟩ (λ_ _ _ _ _ _=>⟨rfl,rfl⟩) (Kn.le_refl _) λB e _=>⟨rfl,λ_ h=>h,λ_=>.inl (QEu _)⟩;rcases hC j x T with⟨rfl,rfl⟩ |⟨i0,b0,rfl,q1,rfl⟩<;>rcases hC j' x' M with⟨rfl,rfl⟩ |⟨i1,b1,rfl,q2,rfl⟩
  rfl;rw[guk.1]at O;rw[guβ]at h4;exact absurd (r.inj k i1 _ b1 B e e' m1 (c1 i1 b1 q2).2 O h4).symm (c1 i1 b1 q2).1;rw[guβ]at O;rw[guk.1]at h4;exact absurd (r.inj i0 k b0 _ B e e' (c1 i0 b0 q1).2 m1 O h4) (c1 i0 b0 q1).1;rw[guβ]at O h4;rw[r.inj i0 i1 b0 b1 B e e' (c1 _ _ q1).2 (c1 _ _ q2).2 O h4]
 refine(hok G w vs hrel (HI hguR hxs) ?_).mono λe w' ⟨v,g',he,hv,hr',hsz,hfr,hfx,hkeep,hnew⟩=>?_;intro x hx j C;obtain⟨x0,hx0,rfl⟩:=QEw.1 hx;unfold Qwt at C;rw[L0,a8]at C;obtain⟨j0,hj0,rfl⟩:=QEw.1 C;rcases c3 x0 hx0 j0 hj0 with rfl |h
 simp[Qz]
 have:j0≠k:=λe=>by
  subst e;obtain⟨b0,hb0⟩:=QEo.1 h
  grind
 grind
 subst he;rw[guK]at hfr
 have inH:∀j,(lk HF j).isSome=true->(lk s.H j).isSome=true/\j≠k:=λj C=>by
  grind [Option.isSome_iff_exists]
 obtain⟨g1,q1,q2,q3,q4,q5,r1⟩:=r.o9 m1 m3 m4;have nt:∀j,(lk s.H j).isSome=true->j≠t:=λj C e=>by grind
 have htk:t≠k:=λe=>by grind
 -- what is the callee's own is the caller's own
 have U:∀B,MR G ((500000,b)::upH HF) B->(∃e,g.β k=some (B,e))\/∃j b0 e,lk HF j=some b0/\lk s.H j=some b0/\g.β j=some (B,e):=λB ⟨j,e,T,M⟩=>by
  obtain⟨b1,hb1⟩:=QEo.1 T
  grind
 have own_blk:∀B,MR G ((500000,b)::upH HF) B->(∀o,g.K B o=none)/\(E.B0<=B\/E.fo B):=λB hB=>by
  rcases U B hB with⟨e,h⟩ |⟨j,b0,e,_,T,M⟩;exact((r.bx k b m1).nb h).2;exact((r.bx j b0 T).nb M).2
 have hKle:g.K.le g'.K:=λB q x hx=>by
  have hb:=r.kr.lt hx
  grind
 have kU:∀j,(lk HF j).isSome=true->g'.β (upN j)=g.β j/\g'.σ (upN j)=g.σ j:=λj C=>by
  grind [upN]
 let g2:Gh:=⟨g'.K,λj=>if j=t then g'.β 500000 else g1.β j,λj=>if j=t then g'.σ 500000 else g1.σ j⟩;have g2t:g2.β t=g'.β 500000/\g2.σ t=g'.σ 500000:=⟨if_pos rfl,if_pos rfl⟩;have Y:∀j,j≠t->g2.β j=g1.β j/\g2.σ j=g1.σ j:=λj C=>⟨if_neg C,if_neg C⟩;have V:g2.gone k:=⟨(Y k (Ne.symm htk)).1.trans q2.1,(Y k (Ne.symm htk)).2.trans q2.2⟩;have g2s:∀j,(lk s.H j).isSome=true->j≠k->g2.β j=g.β j/\g2.σ j=g.σ j:=λj C hk=>⟨(Y j (nt j C)).1.trans (q5 j hk (nt j C)).1,(Y j (nt j C)).2.trans (q5 j hk (nt j C)).2⟩
 have hsome:∀j,(lk s.H j).isSome=true->(lk ((t,b')::(k,Yn)::s.H) j).isSome=true:=λj C=>by
  grind [Qz]
 have key:∀j x,lk ((t,b')::(k,Yn)::s.H) j=some x->(j=t/\x=b')\/(j=k/\x=Yn)\/(j≠t/\j≠k/\lk s.H j=some x):=λj x h=>by
  rw[Qz]at h;split at h
  grind
  rename_i e;rw[Qz]at h
  grind
 have blkT:∀B e,g'.β 500000=some (B,e)->w.heap.size<=B\/∃e2,g.β k=some (B,e2):=λB e hβ=>by
  rcases hnew 500000 B e Wa Wg hβ with h |⟨k2,e2,T,M,O⟩;omega;obtain⟨b2,hb2⟩:=QEo.1 M
  rcases hC k2 b2 hb2 with⟨rfl,_⟩ |⟨i,_,rfl,_⟩
  grind
  grind [upN]
 have r2:Rel E g2 {s with H:=(t,b')::(k,Yn)::s.H} a w':=by
  refine⟨r.nt,r.df.of rfl (λD hD=>((hfr D (QEG.1 hD).1 (λho=>by
   rcases U D ho with⟨e,h⟩ |⟨j,b0,e,_,M,O⟩;exact(r.bx k b m1).ve h hD;exact(r.bx j b0 M).ve O hD)).1).trans hD),λu x h=>?_,λu x h j C=>hsome j (r.da u x h j C),λj x h i hi=>?_,λj x h=>?_,λj j' x x' B e e' T M O h4=>?_,hr'.kr,
   ⟨QEB r.ext.1 hsz,λB hb hf=>?_,r.ext.2.2.trans hfx⟩,λB hb hf=>?_,λj C=>?_⟩
  refine(r1.fr u x h).congr Wc λj C=>Y j ?_;exact nt j (r.da u x h j C);rcases key j x h with⟨_,rfl⟩ |⟨_,rfl⟩ |⟨_,_,h⟩
  grind [x4.ids]
  trivial;exact hsome i (r.x9 j x h i hi);rcases key j x h with⟨rfl,rfl⟩ |⟨rfl,rfl⟩ |⟨T,M,h⟩
  refine(hr'.bx 500000 x Wg).jg m6 g2t rfl λB e hβ=>?_;rcases blkT B e hβ with h |⟨e2,h⟩
  exact .inl (QEB r.ext.1 h);exact((r.bx k b m1).nb h).2.2;exact⟨by trivial,by trivial,.inl ⟨rfl,.inl ⟨V.1,by simp[V.2]⟩⟩⟩;have hs:(lk s.H j).isSome=true:=by grind
  cases hf:lk HF j with
  |some x'=>
   have e:x=x':=by
    grind
   subst e;have hjF:(lk HF j).isSome=true:=by grind
   have hb:=u6.u5.1 (hr'.bx (upN j) (x.u5 upN) Wc);refine hb.move ⟨(g2s j hs M).1.trans (kU j hjF).1.symm,(g2s j hs M).2.trans (kU j hjF).2.symm⟩ (λrow hrow y hy i hi=>?_) (Kn.le_refl _) λB e hβ=>⟨rfl,λ_ h=>h,λ_=>?_⟩
   have hi':(lk HF i).isSome=true:=by
    cases hp:x.pr with
    |true=>rw[hb.2.1 hp row hrow y hy]at hi;grind
    |false=>exact c2 j x hf i (by simp only[x4.ids,hp];grind)
   obtain⟨p1,p2⟩:=inH i hi';exact⟨(g2s i p1 p2).1.trans (kU i hi').1.symm,(g2s i p1 p2).2.trans (kU i hi').2.symm⟩;have:g.β j=some (B,e):=(kU j hjF).1 ▸ hβ;exact((r.bx j x h).nb this).2.2
  |none=>
   have hb1:=r1.bx j x (by rw[Qz,if_neg (Ne.symm T),Qz,if_neg (Ne.symm M)];exact h)
   refine hb1.move (Y j T) (λrow hrow y hy i hi=>Y i (nt i (r.wa j x h row hrow y hy i hi))) Wc λB e hβ=>?_;have hβ':g.β j=some (B,e):=(q5 j M T).1 ▸ hβ;obtain⟨p1,p2,p3⟩:=(r.bx j x h).nb hβ'
   have hno:¬MR G ((500000,b)::upH HF) B:=λho=>by
    rcases U B ho with⟨e2,O⟩ |⟨j',b0,e2,O,h4,h5⟩;exact M (r.inj j k x b B e e2 h m1 hβ' O);have:=r.inj j j' x b0 B e e2 h h4 hβ' h5
    grind
   grind
  have hh:∀j x B e,lk ((t,b')::(k,Yn)::s.H) j=some x->g2.β j=some (B,e)->(j=t/\g'.β 500000=some (B,e))\/(j≠t/\j≠k/\lk s.H j=some x/\g.β j=some (B,e)):=λj x B e h hβ=>by
   rcases key j x h with⟨rfl,_⟩ |⟨rfl,_⟩ |⟨p1,p2,h⟩
   grind
   exact(V.no hβ).elim
   grind
  have cross:∀j x B e e',j≠k->lk s.H j=some x->g.β j=some (B,e)->g'.β 500000=some (B,e')->False:=λj x B e e' p2 h hβ hβ'=>by
   rcases blkT B e' hβ' with O |⟨e2,O⟩;exact absurd ((r.bx j x h).nb hβ).1 (Nat.not_lt.2 O);exact p2 (r.inj j k x b B e e2 h m1 hβ O)
  rcases hh j x B e T O with⟨p,q⟩ |⟨_,p,q,p2⟩<;>rcases hh j' x' B e' M h4 with⟨p',q'⟩ |⟨_,p',q',p2'⟩
  omega
  grind
  grind
  exact r.inj j j' x x' B e e' q q' p2 p2'
  have hno:¬MR G ((500000,b)::upH HF) B:=λho=>by
   grind
  exact(hfr B (QEH hb r.ext.1) hno).1.trans (r.ext.2.1 B hb hf)
  have hno:¬MR G ((500000,b)::upH HF) B:=λho=>by
   grind
  exact(hfr B (QEH hb r.ext.1) hno).2.trans (r.kx B hb hf);obtain⟨T,M,O,h4⟩:=r.kp j C
  grind
 have r3:Rel E g2 (St.j7 {s with H:=(t,b')::(k,Yn)::s.H} o.dst none) a w':=by cases o.dst<;>exact r2
 refine hK g2 _ w' (r3.apply ?_ ?_ ht);obtain⟨a0,cap,T,M,O⟩:=hv;refine⟨a0,cap,T,M, ?_⟩
 (repeat clear hK K);simp_all [Gh.gone]
 intro j C;have:(St.j7 {s with H:=(t,b')::(k,Yn)::s.H} o.dst none).H=(t,b')::(k,Yn)::s.H:=by cases o.dst<;>rfl
 rw[this];simp[D.ids,D.y4]at C;subst C;simp[Qz]
end
section
variable {P:Program} {E:Env} {g:Gh} {s:St} {a:Act} {w:World}
theorem Qj8 {K K':Kn} {v:Value} (h:d.flat=true) (hr:s4 K d v):s4 K' d v:=by
 have one:∀{d:D} {v:Value},d.v9=true->s4 K d v->s4 K' d v:=by
  intro d v h hr;cases d<;>simp only[D.v9,QEq]at h<;>simp only[s4]at hr ⊢<;>exact hr
 cases d<;>try trivial
 case g8 ds=>
  simp only[s4]at hr ⊢;obtain⟨vs,C,G⟩:=hr;refine⟨vs,C, ?_⟩;simp only[D.flat,QEs]at h;clear C
  induction ds generalizing vs with
  |nil=>grind [x5]
  |cons d ds ih=>
   cases vs with
   |nil=>trivial
   |cons v vs=>
    grind [x5]
theorem M4 {ao:s6} {f:Nat} {args:List y5} (r:Rel E g s a w) (hp:Yr P o.op=some ao) (hcal:Kp s ao f args) (hc:QjG P f args s d) (ht:∀t,o.dst=some t->t<E.nt)
 (hK:∀g' a' w',Rel E g' (s.apply o.dst d none) a' w'->K' a' w'):o.wp P a w K' Q:=by
 obtain⟨ds,hds,⟨⟨fn,hfn,hnm,hbd⟩,Y⟩,T⟩:=hc;obtain⟨vs,hvs,hhas,U⟩:=HJ r hp hcal hds ⟨fn,hfn,hnm,hbd⟩;unfold Oper.wp;rw[U,Oper.upon_enter]
 by_cases hpure:ds.all D.pure=true
 -- the arguments hold nothing of one's own
 have C:x5 g.K (ds.map (XX s)) (vs++gVs f):=by
  have:∀{ds:List D} {vs:List Value},g9 g ds vs->(∀d∈ds,d.pure=true)->x5 g.K (ds.map (XX s)) vs:=by
   intro ds
   induction ds with
   |nil=>intro vs h _;cases vs with
    |nil=>trivial
    |cons=>trivial
   |cons d ds ih=>intro vs h h3;cases vs with
    |nil=>trivial
    |cons v vs=>
     simp only[QEW,x5];refine⟨?_,ih h.2 λx hx=>h3 x Wc⟩;unfold XX;rw[T8 (h3 d Wd)];exact QaM (h.1.oc (h3 d Wd))
  grind
 refine(Y g.K w vs r.kr C).mono λe w' ⟨v,K2,he,hv,hkr,M,hh,hk,O⟩=>?_;subst he;have r':Rel E {g with K:=K2} s a w':=r.move hk (λ_ _=>⟨rfl,rfl⟩) hkr hh M O;have G:Rel E {g with K:=K2} (s.j7 o.dst none) a w':=by cases o.dst<;>exact r'
 refine hK {g with K:=K2} _ w' (G.apply (a7.of hv) ?_ ht);intro k hk;grind [Jq];have hfl:=T.resolve_left hpure;obtain⟨K2,hle,hkr2,hoth,V⟩:=P8 r Jt;have C:=Qdi V hvs hhas (λd _=>Ss);refine(Y K2 w vs hkr2 C).mono λe w' ⟨v,K3,he,hv,hkr,M,hh,hk,O⟩=>?_;subst he
 have r':Rel E g s a w':=r.move (λ_ _=>rfl) (λ_ _=>⟨rfl,rfl⟩) (λb q x hx=>by
  obtain⟨c,e,f,h1,h2⟩:=r.kr b q x hx
  grind) hh M O
 have G:Rel E g (s.j7 o.dst none) a w':=by cases o.dst<;>exact r'
 refine hK g _ w' (G.apply (a7.of (Qj8 hfl hv)) ?_ ht);intro k hk;grind [Jq]
theorem Xm {gd:Option (Nat × Bool)} (r:Rel E g s a w) (hp:Yi ops o.guard=some gd) (T:∀(j:Nat) (o':Oper),ops[j]?=some o'->∀t,o'.dst=some t->t<E.nt):
  ∀b,gw s gd=some b->Region.wanted o (yielded ops a.tmps)=b:=by
 intro b hb;unfold Region.wanted;cases O:o.guard with
 |none=>
  rw[O]at hp;grind [Yi,gw]
 |some jb=>
  obtain⟨j,G⟩:=jb;rw[O]at hp;simp only[Yi]at hp;split at hp;rename_i t M;cases hp
  simp only[gw]at hb
  have U:t<a.tmps.size:=by
   obtain⟨o',h1,h2⟩:=QEP.1 M;rw[r.nt.1];grind
  have V:∀v,a.tmps.getD t (F6 t)=v->yielded ops a.tmps j=match(some v:Option Value)with |some (.bool b)=>some b |_=>none:=by
   intro v Y;unfold yielded;rw[M];simp only[Option.bind_some]
   have:a.tmps[t]?=some v:=by
    (repeat clear hK K);simp_all
   grind
  split at hb;rename_i c C;have:=r.fr t _ C
  (repeat clear hK K);simp_all [a7,z4,s4]
  rename_i C;have:=r.fr t _ C
  grind [a7,z4,s4,Go.undef]
  grind
  grind
theorem Rel.skip {dst:Option Nat} (r:Rel E g s a w) (C:∀t,dst=some t->t<E.nt):Rel E g (s.apply dst .undef none) (a.put dst Go.undef) w:=by
 cases dst with
 |none=>exact r
 |some t=>exact r.put (C t rfl) Wg (Has.of_nil rfl)
theorem NK {o':u3} {bx:Option x4} (r:Rel E g s a w) (hp:Yr P o.op=some o'.op) (hd:o'.dst=o.dst) (M:Jy P o' s d bx) (U:∀t,o.dst=some t->t<E.nt)
 (V:∀g' a' w',Rel E g' (s.apply o.dst d bx) a' w'->K' a' w'):o.wp P a w K' Q:=by
 unfold Jy at M;split at M;rename_i f args G;obtain⟨rfl,O⟩:=M;rw[G]at hp;exact M4 r hp (.inl rfl) O U V;rename_i x az G;rw[G]at hp;rcases M with⟨rfl,⟨f,T,hx,C,O⟩ |⟨rfl,f,rs,hx,C,O⟩⟩
 exact M4 r hp (.inr (.inl ⟨x,az,T,rfl,.inl hx,C,rfl⟩)) O U V;exact M4 r hp (.inr (.inr ⟨x,rs,rfl,hx,C,rfl⟩)) O U V;rw[hd]at M;obtain⟨v,w',g',h1,h2,h3,Y⟩:=Qd9 r hp M;unfold Oper.wp;rw[h1,Oper.upon_value];exact V g' _ w' (h2.apply h3 Y U)
theorem Qco {op:s6} {B:Nat->Prop} {p q:List Nat} {ef:QEf} (r:Rel E g s a w) (hp:Yr P o.op=some op) (h:EF P B op o.dst s p q d ef) (U:∀t,o.dst=some t->t<E.nt)
 (V:∀g' a' w',Rel E g' (s.s8 o.dst d ef) a' w'->K' a' w'):o.wp P a w K' Q:=by
 cases op<;>simp only[EF]at h
 case call f args=>
  rcases h with⟨HF,k,b,C,_,_,_,rfl⟩ |⟨HF,k,t,b,b',n',hd,C,_,_,_,rfl,rfl⟩ |⟨HF,t,b,n,hd,C,_,_,_,_,rfl,rfl⟩;refine Nw r hp (.inl rfl) C U λg' a' w' O=>V g' a' w' ?_
  have e:St.apply {s with H:=[]++([(k,b)]++s.H)} o.dst d none=s.s8 o.dst d [(k,b)]:=by cases o.dst<;>rfl
  rw[<- e];exact O;refine QaL r hp (.inl rfl) C U λg' a' w' O=>V g' a' w' ?_;have e:St.apply {s with H:=(t,b')::(k,Yn)::s.H} o.dst (.u4 t n') none=s.s8 o.dst (.u4 t n') [(t,b'),(k,Yn)]:=by cases o.dst<;>rfl
  rw[<- e];exact O;refine Nw r hp (.inl rfl) C U λg' a' w' O=>V g' a' w' ?_;have e:St.apply {s with H:=[(t,b)]++([]++s.H)} o.dst (.u4 t n) none=s.s8 o.dst (.u4 t n) [(t,b)]:=by cases o.dst<;>rfl
  rw[<- e];exact O
 case append l0 et bytes x' y'=>
  obtain⟨t,k,n,b,e,ys,pr,h0,h1,h2,h3,h4,h5,h6,h7,h8,h9,h10,h11,h12,h13,_,_,rfl,rfl⟩:=h
  have hg:NL P E a w o {s with H:=(t,⟨b.rows++ys,l0,et,b.pr&&pr⟩)::(k,Yn)::s.H} (.u4 t (n+ys.length)):=by
   cases ho:o.op<;>rw[ho]at hp<;>simp only[Yr,reduceCtorEq]at hp
   case call c=>
    unfold XH at hp;split at hp
    ·unfold JS at hp;(repeat' split at hp)<;>cases hp
    ·(repeat' split at hp)<;>cases hp
    ·(repeat' split at hp)<;>cases hp
    rename_i x y C G;unfold Yw at hp;split at hp;rename_i x'' y'' t u e1 e2 e3;split at hp;rename_i htu;subst htu;split at hp;rename_i e hu;split at hp;rename_i i z hi hz;split at hp;rename_i T;cases hp
    have hat:c.argTypes=#[t,t]:=by apply Array.ext';simpa using e3
    exact Bg r (by rw[ho,<- hat,<- Fw C G]) rfl e1 e2 hu hi rfl rfl hz T.1 T.2 h1 h2 h3 h4 h5 h6 h7 h8 h9 h10 h11 h12 h13;cases hp
    cases hp
    cases hp
    ·unfold XG at hp;(repeat' split at hp)<;>cases hp
    cases hp
    ·unfold JQ at hp;(repeat' split at hp)<;>cases hp
    obtain⟨M,_,h⟩:=QEh.1 hp;cases h;split at hp;obtain⟨M,_,h⟩:=QEh.1 hp;cases h;cases hp
    cases hp
   all_goals
    first
     |(obtain⟨_,_,h⟩:=QEh.1 hp;cases h;done)
     |(
      simp only[JP,YX,ZV,YW,ZO,XI,Z3,Xp,GD]at hp
      (repeat' split at hp)<;>first |(cases hp;done) |(obtain⟨_,_,h⟩:=QEh.1 hp;cases h;done))
     |((repeat' split at hp)<;>first |(cases hp;done) |(obtain⟨_,_,h⟩:=QEh.1 hp;cases h;done))
  obtain⟨nx,w',g',q1,q2,q3,q4⟩:=hg;unfold Oper.wp;rw[q1];have q2':Rel E g' (St.j7 {s with H:=(t,⟨b.rows++ys,l0,et,b.pr&&pr⟩)::(k,Yn)::s.H} o.dst none) a w':=by cases o.dst<;>exact q2
  have Y:Has (St.j7 {s with H:=(t,⟨b.rows++ys,l0,et,b.pr&&pr⟩)::(k,Yn)::s.H} o.dst none) (.u4 t (n+ys.length)):=by cases o.dst<;>exact q3
  have e:∀d,St.apply {s with H:=(t,⟨b.rows++ys,l0,et,b.pr&&pr⟩)::(k,Yn)::s.H} o.dst d none=s.s8 o.dst d [(t,⟨b.rows++ys,l0,et,b.pr&&pr⟩),(k,Yn)]:=λd=>by cases o.dst<;>rfl
  rcases q4 with⟨_,h⟩ |⟨u,rfl,q5⟩;cases h
  rw[Oper.upon_value];exact V g' _ w' (e _ ▸ q2'.apply q5 Y U)
theorem Rel.m9:∀(ks:List Nat) {s:St} {g:Gh},Rel E g s a w->(∀k∈ks,k<1000000)->∃g',Rel E g' (s.m9 ks) a w
 |[],_,g,r,_=>⟨g,r⟩
 |k::ks,_,g,r,h=>by
  obtain⟨g',_,C⟩:=r.freeze k (h k Wd);exact Rel.m9 ks C λj G=>h j Wc
theorem Mq {nt:Nat} {o':u3} {K:St->Prop} (hnt:E.nt=nt) (r:Rel E g s a w) (hp:ZP P nt ops o=some o') (C:∀(j:Nat) (o':Oper),ops[j]?=some o'->∀t,o'.dst=some t->t<E.nt)
 (h:Qfh P o' K s) (U:∀s' g' a' w',Rel E g' s' a' w'->K s'->K' a' w'):
  if Region.wanted o (yielded ops a.tmps)=true then o.wp P a w K' Q else K' (a.put o.dst Go.undef) w:=by
 obtain⟨h1,h2,Y,h4⟩:=Q6 hp;have G:∀t,o.dst=some t->t<E.nt:=λt G=>by grind
 unfold Qfh at h;split at h
 grind
 rename_i T;rw[Xm r h2 C false T];simp only[QEq,if_false];rw[Y]at h;exact U _ g _ w (r.skip G) h;rename_i T;rw[Xm r h2 C true T];simp only[if_true];rcases h with⟨d,bx,hy,hk⟩ |⟨s',d,hx,hk⟩ |⟨p,q,d,ef,he,hk⟩ |⟨f,args,HF,Hn,Hu,d,hop,hc,hk⟩ |⟨s',d,bx,hle,hy,hk⟩
 grind [NK]
 obtain⟨n,w',g',q1,V,q3,q4⟩:=Si r h1 hx;unfold Oper.wp;rw[q1];rw[Y]at hk;have O:Rel E g' (s'.j7 o.dst none) a w':=by cases o.dst<;>exact V
 have M:Has (s'.j7 o.dst none) d:=by cases o.dst<;>exact q3
 rcases q4 with⟨rfl,rfl⟩ |⟨u,rfl,q5⟩;rw[Oper.upon_skip];exact U _ g' _ w' (V.skip G) hk;rw[Oper.upon_value];exact U _ g' _ w' (O.apply q5 M G) hk
 grind [Qco]
 grind [Nw]
 obtain⟨g1,r1⟩:=hle E g a w r
 grind [NK]
theorem S0 {nt:Nat} {ops:Array Oper} {K:St->Prop} {Q:Exit->Act->World->Prop} (G:E.nt=nt) (C:∀(j:Nat) (o':Oper),ops[j]?=some o'->∀t,o'.dst=some t->t<E.nt):∀(l:List Oper) (k:Nat) (l':List u3) (s:St) (g:Gh) (a:Act) (w:World),(∀j,l[j]?=ops[k+j]?)->
  QV P nt ops l=some l'->Rel E g s a w->GF P l' K s->(∀s' g' a' w',Rel E g' s' a' w'->K s'->Q .normal a' w')->wpOps P ops Q (List.range' k l.length) a w
 |[],k,l',s,g,a,w,_,hp,r,h,hK=>by
  simp only[QV,QEl]at hp;subst hp;exact hK s g a w r h
 |o::l,k,l',s,g,a,w,hl,hp,r,h,hK=>by
  simp only[QV]at hp;split at hp;rename_i o' M e1 e2;cases hp
  have h0:ops[k]?=some o:=by simpa using(hl 0).symm
  rw[QEZ,QFn,wpOps_cons];unfold wpOp;rw[h0];simp only
  have:=Mq (Q:=Q) G r e1 C h (K':=wpOps P ops Q (List.range' (k+1) l.length)) λs' g' a' w' r2 O=>
   S0 G C l (k+1) M s' g' a' w' (λj=>by have:=hl (j+1);grind) e2 r2 O hK
  grind
  grind
end
variable {oi oj op:s6} {p q:List Nat}
def s6.l7:s6->List y5
 | .wb x=>[x]
 | .pick c a b=>[c,a,b]
 | .alloc _ _=>[]
 | .box _ x=>[x]
 | .build _ ps=>ps.map λp=>p.2.2
 | .buildSlice _ _ ps=>ps
 | .load _ _ x=>[x]
 | .store _ x v=>[x,v]
 | .nilCheck x=>[x]
 | .bin _ _ x y=>[x,y]
 | .eqs _ _ x y=>[x,y]
 | .un _ x=>[x]
 | .conv _ x=>[x]
 | .ba _ x=>[x]
 | .slice _ x lo hi mx=>[x]++lo.toList++hi.toList++mx.toList
 | .o8 x lo hi=>[x]++lo.toList++hi.toList
 | .fieldAddr _ x=>[x]
 | .field _ _ _ x=>[x]
 | .indexAddr _ x i=>[x,i]
 | .y8 x i=>[x,i]
 | .extract _ x=>[x]
 | .len x=>[x]
 | .z9 x=>[x]
 | .min x y=>[x,y]
 | .max x y=>[x,y]
 | .append _ _ _ x y=>[x,y]
 | .makeSlice _ _ _ _ x y=>[x,y]
 | .sc x=>[x]
 | .de _ _ _ _ x y=>[x,y]
 | .call _ args=>args
 | .vd _ xs=>xs
 | .oe _ xs=>xs
 | .ja x args=>x::args
 | .stop=>[]
 | .range x=>[x]
 | .next x=>[x]
 | .r8 _ _ x i=>[x,i]
 | .x8 _ _ _ x i=>[x,i]
def s6.za:s6->Bool
 | .store .. =>true
 |_=>false
def s6.pd:s6->Bool
 | .indexAddr .. =>true
 |_=>false
def GK (op:s6) (p:List Nat):List Nat:=if op.pd=true then p.map λk=>2*k+1 else p.map λk=>2*k
def Hy (op:s6) (q:List Nat):List Nat:=if op.za=true then q.map λk=>2*k else(q.map λk=>2*k)++q.map λk=>2*k+1
theorem Rw:GK op []=[]:=by grind [GK]
theorem Rx:Hy op []=[]:=by grind [Hy]
theorem QiE (h:∀t∈GK oj p,t∉Hy oi q):(oj.pd=true/\oi.za=true)\/∀k∈p,k∉q:=by
 unfold GK Hy at h;cases M:oj.pd<;>cases G:oi.za<;>simp only[M,G,QEq,if_false,if_true]at h;exact .inr λk hk C=>h (2*k) (QEw.2 ⟨k,hk,rfl⟩) (QFo _ (QEw.2 ⟨k,C,rfl⟩));exact .inr λk hk C=>h (2*k) (QEw.2 ⟨k,hk,rfl⟩) (QEw.2 ⟨k,C,rfl⟩);exact .inr λk hk C=>h (2*k+1) (QEw.2 ⟨k,hk,rfl⟩) (QEx _ (QEw.2 ⟨k,C,rfl⟩));simp
theorem QeK (h:∀t∈Hy oj p,t∉Hy oi q):∀k∈p,k∉q:=λk hk C=>by
 refine h (2*k) ?_ ?_<;>unfold Hy<;>split<;>first
  |grind
  |exact QEw.2 ⟨k,C,rfl⟩
  |grind
  |grind
theorem Fj:∀{xs:List Operand} {C:List y5},Z5 xs=some C->∀x∈C,∃y∈xs,QP y=some x
 |[],C,h,x,hx=>by grind [Z5]
 |y::ys,C,h,x,hx=>by
  simp only[Z5]at h;split at h;rename_i x' G e1 e2;cases h
  cases hx with
  |head=>grind
  |tail _ hm=>obtain⟨z,O,M⟩:=Fj e2 x hm;grind
  grind
theorem Mu {pl:Nat->Option (Nat × Nat)}:∀{xs:List (Nat × Operand)} {C:List (Nat × Nat × y5)},X6 pl xs=some C->∀x∈C.map (λp=>p.2.2),∃y∈xs.map (·.2),QP y=some x
 |[],C,h,x,hx=>by grind [X6]
 |(i,y)::ys,C,h,x,hx=>by
  simp only[X6]at h;split at h;rename_i off size x' M e1 e2 G;cases h
  simp only[QEW]at hx;cases hx with
  |head=>grind
  |tail _ hm=>obtain⟨z,T,O⟩:=Mu G x hm;grind
  grind
theorem PO:∀{k:Nat} {xs:List (Nat × Operand)} {C:List y5},Xq k xs=some C->∀x∈C,∃y∈xs.map (·.2),QP y=some x
 |k,[],C,h,x,hx=>by grind [Xq]
 |k,(i,y)::ys,C,h,x,hx=>by
  simp only[Xq]at h;split at h;split at h;rename_i x' G e1 e2;cases h
  cases hx with
  |head=>grind
  |tail _ hm=>obtain⟨z,O,M⟩:=PO e2 x hm;grind
  grind
  grind
theorem ND {x:Option Operand} {x':Option y5} (h:ZX x=some x'):∀z∈x'.toList,∃y∈x.toArray,QP y=some z:=by
 intro z C;cases x with
 |none=>grind [ZX]
 |some y=>
  simp only[ZX,QEh]at h
  grind
theorem Pn {P:Program} {op:Op} {ao:s6} (hp:Yr P op=some ao):∀x∈ao.l7,(∃y∈op.operands,QP y=some x)\/∃i,x=.s (900000+i):=by
 intro z G
 have gl:∀{l:List Operand} {f:Nat} {xs:List y5},Z5 (l++(Gz f).map .global)=some xs->z∈xs->(∃y∈l,QP y=some z)\/∃i,z=.s (900000+i):=λM G=>by
  obtain⟨y,T,U⟩:=Fj M z G;rcases QEt.1 T with T |T
  grind
  obtain⟨i,_,rfl⟩:=QEw.1 T
  grind [QP]
 cases op<;>simp only[Yr,reduceCtorEq]at hp
 case move x=>obtain⟨x',M,rfl⟩:=QEh.1 hp;grind [s6.l7,Op.operands]
 case assign x=>obtain⟨x',M,rfl⟩:=QEh.1 hp;grind [s6.l7,Op.operands]
 case pick c x y=>
  split at hp;rename_i c' x' y' e1 e2 O;cases hp
  simp[s6.l7]at G;rcases G with rfl |rfl |rfl
  grind [Op.operands]
  grind [Op.operands]
  grind [Op.operands]
  grind
 case alloc e=>obtain⟨x',M,rfl⟩:=QEh.1 hp;trivial
 case box e x=>obtain⟨x',M,rfl⟩:=QEh.1 hp;grind [s6.l7,Op.operands]
 case build t parts=>
  split at hp;obtain⟨ps,M,rfl⟩:=QEh.1 hp;obtain⟨y,T,U⟩:=Mu M z G
  grind [Op.operands]
  grind
 case buildSlice t n parts=>
  unfold ZO at hp;split at hp;split at hp;rename_i l0 z' ps e1 e2 O;split at hp;cases hp
  obtain⟨y,T,U⟩:=PO O z G
  grind [Op.operands]
  grind
  grind
  grind
 case load t x=>
  grind [s6.l7,Op.operands]
 case store t x y=>
  split at hp;rename_i sz x' y' e1 e2 O;split at hp;cases hp
  simp[s6.l7]at G;rcases G with rfl |rfl
  grind [Op.operands]
  grind [Op.operands]
  grind
  grind
 case nilCheck x=>obtain⟨x',M,rfl⟩:=QEh.1 hp;grind [s6.l7,Op.operands]
 case binOp op t x y u=>
  unfold JP at hp;split at hp;rename_i x' y' e1 e2
  have fin:z=x'\/z=y'->(∃y_1∈(Op.binOp op t x y u).operands,QP y_1=some z)\/∃i,z=.s (900000+i):=by
   rintro(rfl |rfl)
   grind [Op.operands]
   grind [Op.operands]
  grind [s6.l7]
  grind
 case unOp op t x=>
  split at hp
  grind
  obtain⟨x',M,rfl⟩:=QEh.1 hp;grind [s6.l7,Op.operands]
 grind [s6.l7,Op.operands]
 case slice t x lo hi mx=>
  unfold YX at hp;split at hp;rename_i x' lo' hi' mx' e1 e2 O e4
  have fin:z∈[x']++lo'.toList++hi'.toList++mx'.toList->(∃y∈(Op.slice t x lo hi mx).operands,QP y=some z)\/∃i,z=.s (900000+i):=by
   intro G;simp only[QEt,QEr]at G;rcases G with((rfl |G) |G) |G
   grind [Op.operands]
   grind [ND,Op.operands]
   grind [ND,Op.operands]
   grind [ND,Op.operands]
  split at hp;obtain⟨l0,_,rfl⟩:=QEh.1 hp;exact fin G;cases hp
  exact fin (QFo _ G)
  grind
  grind
 case fieldAddr t x n=>
  unfold ZV at hp;split at hp
  grind [s6.l7,Op.operands]
  grind
 case field t x n=>
  unfold YW at hp;split at hp
  grind [s6.l7,Op.operands]
  grind
 case indexAddr t x i=>
  split at hp;rename_i x' i' e e1 e2 O;obtain⟨l0,_,rfl⟩:=QEh.1 hp;simp[s6.l7]at G;rcases G with rfl |rfl
  grind [Op.operands]
  grind [Op.operands]
  rename_i x' i' len e e1 e2 O;obtain⟨l0,_,rfl⟩:=QEh.1 hp;simp[s6.l7]at G;rcases G with rfl |rfl
  grind [Op.operands]
  grind [Op.operands]
  grind
 case index t x i=>
  split at hp;rename_i x' i' e1 e2 O;cases hp
  simp[s6.l7]at G;rcases G with rfl |rfl
  grind [Op.operands]
  grind [Op.operands]
  rename_i x' i' len e e1 e2 O;unfold Z3 at hp;split at hp;cases hp
  simp[s6.l7]at G;rcases G with rfl |rfl
  grind [Op.operands]
  grind [Op.operands]
  grind
  grind
 case range t x=>
  grind [s6.l7,Op.operands]
 case next x b=>
  cases b<;>simp only[Xp,reduceCtorEq]at hp
  obtain⟨x',M,rfl⟩:=QEh.1 hp
  grind [s6.l7,Op.operands]
 case extract x n=>obtain⟨x',M,rfl⟩:=QEh.1 hp;grind [s6.l7,Op.operands]
 case makeSlice t x y=>
  unfold XI at hp;split at hp;rename_i x' y' e e1 e2 O;split at hp;split at hp;cases hp
  simp[s6.l7]at G;rcases G with rfl |rfl
  grind [Op.operands]
  grind [Op.operands]
  grind
  grind
  grind
 case call c=>
  have ops:∀y,y∈c.args->y∈(Op.call c).operands:=λy hy=>by grind [Op.operands,Call.operands]
  unfold XH at hp;split at hp;rename_i x Y C;have hx:x∈c.args:=by rw[<- QFp,C];simp
  unfold JS at hp
  grind [s6.l7]
  rename_i x y Y C;have hx:x∈c.args:=by rw[<- QFp,C];simp
  have hy:y∈c.args:=by rw[<- QFp,C];simp
  split at hp;rename_i x' y' e1 e2;cases hp
  simp[s6.l7]at G
  grind
  grind
  rename_i x y Y C;have hx:x∈c.args:=by rw[<- QFp,C];simp
  have hy:y∈c.args:=by rw[<- QFp,C];simp
  split at hp;rename_i x' y' e1 e2;cases hp
  simp[s6.l7]at G
  grind
  grind
  rename_i x y Y C;have hx:x∈c.args:=by rw[<- QFp,C];simp
  have hy:y∈c.args:=by rw[<- QFp,C];simp
  unfold Yw at hp;split at hp
  ·rename_i x' y' t u e1 e2 O
   (repeat' split at hp)<;>first
    |(
     cases hp
     simp[s6.l7]at G
     grind)
    |grind
    |(
     unfold XG at hp
     (repeat' split at hp)<;>first
      |(
       cases hp
       simp[s6.l7]at G
       grind)
      |grind)
  grind
  rename_i x Y C;have hx:x∈c.args:=by rw[<- QFp,C];simp
  unfold JQ at hp
  grind [s6.l7]
  obtain⟨V,M,rfl⟩:=QEh.1 hp;exact(gl M G).imp (λ⟨y,T,U⟩=>⟨y,ops y Wc,U⟩) id
  ·rename_i xs t hcal;split at hp
   case isFalse=>grind
   rename_i ht9;obtain⟨V,M,rfl⟩:=QEh.1 hp;simp only[s6.l7,QEk]at G;rcases G with rfl |G
   exact .inl ⟨.tmp t,by grind [Op.operands,Call.operands],if_pos ht9⟩
   grind [Fj]
  grind
 case makeFunc fn first captured=>
  unfold GD at hp;split at hp;obtain⟨xs,M,rfl⟩:=QEh.1 hp;exact(gl M G).imp (λ⟨y,T,U⟩=>⟨y,by simp only[Op.operands,Array.mem_append];grind,U⟩) id
  rename_i f x hf;split at hp;obtain⟨xs,M,rfl⟩:=QEh.1 hp;exact(gl (l:=[x]) M G).imp (λ⟨y,T,U⟩=>⟨y,by simp only[Op.operands,Array.mem_append];grind,U⟩) id
  grind
  grind
 case panic x=>cases hp;cases G
 case makeInterface t x=>cases hp;cases G
theorem Ms {y:Operand} {x:y5} (h:QP y=some x):(∃t,y=.tmp t/\x=.s t)\/(∃d,x=.c d/\d.ids=[])\/∃i,x=.s (900000+i):=by
 cases y with
 |tmp t=>exact .inl ⟨t,rfl,(Gn h).2⟩
 |const v=>
  simp only[QP,QEh]at h;obtain⟨d,G,C⟩:=h;exact .inr (.inl ⟨d,C.symm,(Fx G (λ_ _=>none)).2⟩)
 |func f=>exact .inr (.inl ⟨_,(Fk h).2,rfl⟩)
 |global i=>grind [QP]
variable {ef:QEf} {b':x4} {bx:Option x4} {t:Nat} {o:u3} {s':St} {w:Bool}
def s6.ca:s6->List y5
 | .load _ _ x=>[x]
 | .ba _ x=>[x]
 | .store _ x _=>[x]
 | .indexAddr _ x _=>[x]
 | .append _ _ _ x y=>[x,y]
 | .call _ args=>args
 | .ja x args=>x::args
 |_=>[]
def QeV:Option D->List Nat
 |some d=>d.ids
 |none=>[]
def pk (op:s6) (s:St):List Nat:=op.ca.flatMap λx=>QeV (s.ev x)
theorem PM {x:y5} (hx:x∈op.ca) (he:s.ev x=some d) (hk:k∈d.ids):k∈pk op s:=
 QEp.2 ⟨x,hx,by rw[he];exact hk⟩
structure Cz (ao:s6) (dst:Option Nat) (p:List Nat) (s s':St):Prop where
 ev:∀x∈ao.l7,s'.ev x=s.ev x
 H:ao.pd=false->∀k∈p,lk s'.H k=lk s.H k
 sh:ao.pd=true->∀k∈p,∀b,lk s.H k=some b->∃b',lk s'.H k=some b'/\b'.rows.length=b.rows.length/\b'.l0=b.l0
 so:∀x∈ao.l7,∀d,s.ev x=some d->∀k∈d.ids,(lk s.H k).isSome=true->(lk s'.H k).isSome=true
 al:∀t,dst=some t->lk s.H t=none->lk s'.H t=none
section
variable {s s':St}
theorem Qju {cells:List D} (hk:∀k∈d.ids,lk s'.H k=lk s.H k) (h:s.at d cells):s'.at d cells:=by
 cases d<;>simp only[St.at]at h ⊢
 grind [D.ids,D.y4]
 omega
theorem Tj {l0:Nat} {rows:List (List D)} {pr:Bool} (hk:∀k∈d.ids,lk s'.H k=lk s.H k) (h:s.src l0 d rows pr):s'.src l0 d rows pr:=by
 cases d<;>simp only[St.src]at h ⊢
 omega;omega
 grind [D.ids,D.y4]
theorem QcA {S:Nat->Bool} (hk:∀k∈d.ids,lk s'.H k=lk s.H k):d.fz s'.H S=d.fz s.H S:=by
 have one:∀{d:D},(∀k∈d.y4,lk s'.H k=lk s.H k)->d.x7 s'.H S=d.x7 s.H S:=by
  intro d hk;cases d<;>simp only[D.x7]<;>rw[hk _ (by simp[D.y4])]
 cases d
 case agg cs=>simp only[D.fz];congr 1;exact QFq λx hx=>one λk C=>hk k (QEp.2 ⟨x,hx,C⟩)
 case k9 f cs=>simp only[D.fz];congr 1;exact QFq λx hx=>one λk C=>hk k (QEp.2 ⟨x,hx,C⟩)
 case ia cs z=>simp only[D.fz];congr 1;exact QFq λx hx=>one λk C=>hk k (QEp.2 ⟨x,hx,C⟩)
 case u4 k n=>exact one (d:=.u4 k n) hk
 case la k lo c n=>rfl
 case ref k i o=>exact one (d:=.ref k i o) hk
 case w8 f k ps=>rfl
 all_goals rfl
theorem KT {x:Option y5} {n m:Nat} (he:∀y∈x.toList,s'.ev y=s.ev y) (h:s.bd x n m):s'.bd x n m:=by
 cases x with
 |none=>exact h
 |some y=>grind [St.bd]
theorem Xg:∀{xs:List y5},(∀x∈xs,s'.ev x=s.ev x)->Zh s' xs=Zh s xs
 |[],_=>rfl
 |x::xs,h=>by simp only[Zh];rw[h x Wd,Xg λy C=>h y Wc]
theorem PC {l0:Nat}:∀{xs:List y5},(∀x∈xs,s'.ev x=s.ev x)->XB s' l0 xs=XB s l0 xs
 |[],_=>rfl
 |x::xs,h=>by simp only[XB];rw[h x Wd,PC λy C=>h y Wc]
theorem N2:∀{xs:List (Nat × Nat × y5)},(∀x∈xs.map (λp=>p.2.2),s'.ev x=s.ev x)->X1 s' xs=X1 s xs
 |[],_=>rfl
 |(i,j,x)::xs,h=>by simp only[X1];rw[h x Wd,N2 λy C=>h y Wc]
theorem FA:∀{xs:List y5} {ds:List D},Zh s xs=some ds->∀d∈ds,∃x∈xs,s.ev x=some d
 |[],ds,h,d,hd=>by grind [Zh]
 |x::xs,ds,h,d,hd=>by
  simp only[Zh]at h;split at h;rename_i d0 ds0 e1 e2;cases h
  cases hd with
  |head=>grind
  |tail _ hm=>obtain⟨y,G,C⟩:=FA e2 d hm;grind
  grind
theorem _root_.Wm {p:Prop} (h:p:=by simp[s6.ca]):p:=h
theorem QbK {ao:s6} (ag:Cz ao dst (pk ao s) s s') (h:TK ao dst s d bx):TK ao dst s' d bx:=by
 obtain⟨ev,H,sh,so,al⟩:=ag;cases ao<;>simp only[TK]at h ⊢<;>simp only[s6.l7]at ev so
 grind
 grind
 grind
 grind
 grind [N2]
 grind [PC]
 case load b sz x=>
  obtain⟨p,cells,O,G,C⟩:=h;exact⟨p,cells,by grind,Qju (λk hk=>H rfl k (PM (x:=x) Wm O hk)) G,C⟩
 grind
 grind
 grind
 grind
 grind
 case ba sb x=>
  obtain⟨q,O,G,C⟩:=h;refine⟨q,by grind,G, ?_⟩;cases sb
  simp only[QEq,if_false]at C ⊢;obtain⟨ys,pr,l,M,T⟩:=C;exact⟨ys,pr,l,Tj (λk hk=>H rfl k (PM (x:=x) Wm O hk)) M,T⟩
  grind
 case slice l0 x lo hi mx=>
  have e1:∀y∈lo.toList,s'.ev y=s.ev y:=λy hy=>ev y Wc;have e2:∀y∈hi.toList,s'.ev y=s.ev y:=λy hy=>ev y Wc;have e3:∀y∈mx.toList,s'.ev y=s.ev y:=λy hy=>ev y Wc;rcases h with⟨p,rows,l,h0,O,G,C,M,T,Y,h7,h8,h9⟩ |⟨O,G,C,M⟩ |⟨O,G,k,n,l,C,M,T,Y,h7⟩
  rotate_left
  exact .inr (.inl ⟨O,G,KT e1 C,M.imp (λ⟨rows,q1,V,U⟩=>⟨rows,by grind,KT e2 V,U⟩) λ⟨k,n,m,q1,V,U,q4⟩=>⟨k,n,m,by grind,KT e2 V,U,q4⟩⟩)
  grind [KT]
  refine .inl ⟨p,rows,l,h0,by grind,G,KT e1 C,KT e2 M,T,Y,h7, ?_,h9⟩
  grind [KT]
 grind [KT]
 case fieldAddr off x=>
  obtain⟨p,O,G,C⟩:=h;refine⟨p,by grind, ?_,C⟩;cases p<;>simp only[T5]at G ⊢
  (repeat clear hK K);simp_all [D.ids,D.y4]
  omega
 grind
 case indexAddr l0 x i=>
  obtain⟨k,n,p,O,G,C,M,T⟩:=h;refine⟨k,n,p,by grind,by grind,C, ?_,T⟩;cases p<;>simp only[QgE]at M ⊢;omega;omega;obtain⟨b,q1,V,U,q4,q5⟩:=M;obtain⟨b',r1,r2,r3⟩:=sh rfl _ (PM (x:=x) Wm G (by simp[D.ids,D.y4])) b q1
  grind
 grind
 grind
 grind
 grind
 grind
 grind
 case append l0 et bytes x y=>
  obtain⟨t,rows,q,ys,pr,O,G,C,M,T,Y⟩:=h;exact⟨t,rows,q,ys,pr,O,by grind,by grind,Tj (λk hk=>H rfl k (PM (x:=y) Wm C hk)) M,al t O T,Y⟩
 case range x=>
  grind
 case r8 len l0 x i=>
  obtain⟨k,n,p,O,G,C,h3',M,T⟩:=h;refine⟨k,n,p,by grind,by grind,C,h3', ?_,T⟩;cases p<;>simp only[T5]at M ⊢
  (repeat clear hK K);simp_all [D.ids,D.y4]
  omega
 case x8 b len l0 x i=>grind
 case vd f xs=>grind [Xg]
 case oe f xs=>grind [Xg]
 case sc x=>grind
 case de l0 et bytes z x y=>
  grind
 grind
theorem _root_.Wj {p:Prop} (h:p:=by simp[s6.l7]):p:=h
theorem CF {P:Program} (G:Cz o.op o.dst (pk o.op s) s s') (h:Jy P o s d bx):Jy P o s' d bx:=by
 unfold Jy at h ⊢;split at h;rename_i f args T;rw[T]at G;obtain⟨h1,ds,U,h3,Y⟩:=h;have e1:=Xg (s:=s) (s':=s') (xs:=args) G.ev;refine⟨h1,ds,by grind, ?_,Y⟩
 have:ds.map (XX s')=ds.map (XX s):=QFq λd hd=>by
  obtain⟨x,hx,he⟩:=FA U d hd;unfold XX;rw[QcA λk hk=>G.H rfl k (PM (x:=x) hx he hk)]
 grind
 ·rename_i x az T;rw[T]at G;obtain⟨h1,h⟩:=h;refine⟨h1,h.imp ?_ ?_⟩
  rotate_left
  rintro⟨has,f,rs,hx,hpu,ds,U,h3,Y⟩;have e0:s'.ev x=s.ev x:=G.ev x Wj;rw[Gf]at U;cases U;refine⟨has,f,rs,by grind,hpu,rs,Gf _, ?_,Y⟩
  grind [XX,List.map_congr_left,T8]
  rintro⟨f,O,hx,M,ds,U,h3,Y⟩;have e0:s'.ev x=s.ev x:=G.ev x Wj
  have e1:=Xg (s:=s) (s':=s') (xs:=az++O.map .c) λy C=>by
   rcases QEt.1 C with C |C;exact G.ev y (by grind [s6.l7]);obtain⟨d,_,rfl⟩:=QEw.1 C;rfl
  refine⟨f,O,by grind,M,ds,by grind, ?_,Y⟩
  have:ds.map (XX s')=ds.map (XX s):=QFq λd hd=>by
   obtain⟨y,C,he⟩:=FA U d hd;unfold XX;rw[QcA λk hk=>?_];rcases QEt.1 C with C |C
   exact G.H rfl k (PM (x:=y) (by grind [s6.ca]) he hk);obtain⟨d0,V,rfl⟩:=QEw.1 C;simp only[St.ev,QEl]at he;subst he;exact G.H rfl k (PM (x:=x) Wm hx (QEp.2 ⟨d0,V,QfJ (QEs.1 M d0 V) k hk⟩))
  grind
 grind [QbK]
end
def stD (op:s6) (s:St) (k:Nat) (b':x4):Prop:=
 match op with
 | .store sz x v=>∃i off b row q cells,s.ev x=some (.ref k i off)/\lk s.H k=some b/\b.rows[i]?=some row/\s.ev v=some q/\q.cells=some cells/\cells.length=sz/\off+sz<=row.length/\
   b'={b with rows:=b.rows.set i (setRow row off cells),pr:=b.pr&&cells.all λd=>d.y4.isEmpty}
 |_=>False
theorem D4 (h:stD op s k b'):Qal op s {s with H:=(k,b')::s.H} .undef:=by
 cases op<;>simp only[stD]at h
 obtain⟨i,off,b,row,q,cells,V,U,T,O,M,G,C,rfl⟩:=h;exact⟨k,i,off,b,row,q,cells,V,U,T,O,M,G,C,rfl,rfl⟩
theorem Qic (C:Cz op dst (pk op s) s s') (h:stD op s k b'):stD op s' k b':=by
 cases op<;>simp only[stD]at h ⊢
 obtain⟨i,off,b,row,q,cells,V,h2,U,Y,T,O,M,G⟩:=h;exact⟨i,off,b,row,q,cells,by rw[C.ev _ Wj];omega,by rw[C.H rfl k (PM Wm V (by simp[D.ids,D.y4]))];omega,U,by rw[C.ev _ Wj];omega,T,O,M,G⟩
def wk (op:s6) (s:St):List Nat:=
 match op with
 | .store _ x _=>QeV (s.ev x)
 |_=>[]
theorem Qt8 (h:stD op s k b'):k∈wk op s/\(lk s.H k).isSome=true:=by
 cases op<;>simp only[stD]at h
 grind [wk,QeV,D.ids,D.y4]
def alL (dst:Option Nat) (bx:Option x4):QEf:=
 match dst,bx with
 |some t,some b=>[(t,b)]
 |_,_=>[]
theorem GO (s:St) (dst:Option Nat) (d:D) (bx:Option x4):s.apply dst d bx=s.s8 dst d (alL dst bx):=by
 cases dst<;>cases bx<;>rfl
def YD (P:Program) (B:Nat->Prop) (o:u3) (s:St) (p q:List Nat) (d:D) (ef:QEf):Prop:=
 (gw s o.guard=some true/\((((∃bx,Jy P o s d bx/\ef=alL o.dst bx)\/∃k b,stD o.op s k b/\d=.undef/\ef=[(k,b)])/\p=pk o.op s/\q=wk o.op s)\/EF P B o.op o.dst s p q d ef))\/
 (gw s o.guard=some false/\d=.undef/\ef=[]/\p=[]/\q=[])
def cf (anc:Nat->Prop) (p q:List Nat) (R W:List (Nat × Nat)):Prop:=
 (∀k∈p,∀i,(k,i)∈W->anc i)/\∀k∈q,(∀i,(k,i)∈R->anc i)/\∀i,(k,i)∈W->anc i
def tag (i:Nat) (l:List Nat):List (Nat × Nat):=l.map λk=>(k,i)
theorem NA {i j:Nat} {l:List Nat}:(k,j)∈tag i l↔k∈l/\j=i:=by
 simp only[tag,QEw,QFe]
 grind
def QnH (k c:Nat):Nat:=2*(k*4096+2048+c)
def R5 (k off sz:Nat):List Nat:=(List.range sz).map λj=>QnH k (off+j)
def cR (op:s6) (s:St) (p:List Nat):List Nat:=
 match op,p with
 | .load agg sz x,k0::p0=>(match s.ev x with
  |some (.ref k _ off)=>if Nat.ble 1000000 k=true then(2*k+1)::R5 k off (if agg=true then sz else 1)else GK (.load agg sz x) (k0::p0)
  |_=>GK (.load agg sz x) (k0::p0))
 |op,p=>GK op p
def cW (op:s6) (s:St) (q:List Nat):List Nat:=
 match op,q with
 | .store sz x v,k0::q0=>(match s.ev x with
  |some (.ref k _ off)=>if Nat.ble 1000000 k=true then Hy (.store sz x v) (k0::q0)++R5 k off sz else Hy (.store sz x v) (k0::q0)
  |_=>Hy (.store sz x v) (k0::q0))
 |op,q=>Hy op q
def tkR (w:Bool) (op:s6) (s:St) (p:List Nat):List Nat:=
 match w with
 |false=>GK op p
 |true=>cR op s p
def tkW (w:Bool) (op:s6) (s:St) (q:List Nat):List Nat:=
 match w with
 |false=>Hy op q
 |true=>cW op s q
theorem Ce:tkR w op s []=[]:=by
 cases w
 exact Rw
 grind [tkR,cR,Rw]
theorem Cg:tkW w op s []=[]:=by
 cases w
 exact Rx
 grind [tkW,cW,Rx]
theorem Ch (h:t∈Hy op q):t∈tkW w op s q:=by
 cases w
 trivial;show t∈cW op s q;unfold cW
 grind
theorem QiB (h:∀x∈op.l7,s'.ev x=s.ev x):tkR w op s' p=tkR w op s p:=by
 cases w
 rfl;show cR op s' p=cR op s p;unfold cR
 grind [s6.l7]
theorem QiC (h:∀x∈op.l7,s'.ev x=s.ev x):tkW w op s' p=tkW w op s p:=by
 cases w
 rfl;show cW op s' p=cW op s p;unfold cW
 grind [s6.l7]
def Gy (w:Bool) (P:Program) (B:Nat->Prop) (anc:Nat->Nat->Prop):List u3->Nat->List (Nat × Nat)->List (Nat × Nat)->(St->Prop)->St->Prop
 |[],_,_,_,K,s=>K s
 |o::r,j,R,W,K,s=>∃p q d ef,YD P B o s p q d ef/\cf (anc j) (tkR w o.op s p) (tkW w o.op s q) R W/\Gy w P B anc r (j+1) (tag j (tkR w o.op s p)++R) (tag j (tkW w o.op s q)++W) K (s.s8 o.dst d ef)
abbrev Qb1:=Gy false
def St.same (s s':St):Prop:=(∀t,lk s.fr t=lk s'.fr t)/\∀k,lk s.H k=lk s'.H k
section
variable {P:Program} {E:Env} {g:Gh} {s s':St} {a:Act} {w:World}
theorem Rel.same (r:Rel E g s a w) (h:s.same s'):Rel E g s' a w:=
 ⟨r.nt,r.df,λt d e=>r.fr t d (by rw[h.1];exact e),λt d e k hk=>by rw[<- h.2];exact r.da t d (by rw[h.1];exact e) k hk,λk b e j C=>by rw[<- h.2];exact r.x9 k b (by rw[h.2];exact e) j C,
  λk b e=>r.bx k b (by rw[h.2];exact e),λk k' b b' B e e' M G=>r.inj k k' b b' B e e' (by rw[h.2];omega) (by rw[h.2];omega),r.kr,r.ext,r.kx,λj C=>let⟨M,G,h3,h4⟩:=r.kp j C;⟨M,G,h3,by rw[<- h.2];omega⟩⟩
theorem Qh7 (h:s.same s') (x:y5):s'.ev x=s.ev x:=by
 cases x with
 |s t=>exact(h.1 t).symm
 |c d=>rfl
theorem QeA (h:s.same s') (ao:s6) (dst:Option Nat) (p:List Nat):Cz ao dst p s s':=
 ⟨λx _=>Qh7 h x,λ_ k _=>(h.2 k).symm,λ_ k _ b hb=>⟨b,by rw[<- h.2];omega,rfl,rfl⟩,λ_ _ _ _ k _ hk=>by rw[<- h.2];omega,λt _ C=>by rw[<- h.2];omega⟩
theorem Qpr (h:s.same s') (gd:Option (Nat × Bool)):gw s' gd=gw s gd:=by
 cases gd with
 |none=>rfl
 |some p=>obtain⟨t,b⟩:=p;simp only[gw];rw[h.1 t]
theorem Qo4 (h:∀x∈op.l7,s'.ev x=s.ev x):pk op s'=pk op s/\wk op s'=wk op s:=by
 have C:∀x∈op.ca,x∈op.l7:=by
  intro x hx;cases op<;>simp only[s6.ca,s6.l7]at hx ⊢<;>first |exact hx |grind |(grind)
 constructor;unfold pk
 have:∀l:List y5,(∀x∈l,s'.ev x=s.ev x)->(l.flatMap λx=>QeV (s'.ev x))=l.flatMap λx=>QeV (s.ev x):=by
  intro l
  induction l with
  |nil=>simp
  |cons x l ih=>grind
 grind
 cases op<;>simp only[wk]
 grind [s6.l7]
theorem R0 {Hn Hu:QEf} (M:∀x∈args,s'.ev x=s.ev x) (Y:∀k∈HF.map Prod.fst,lk s'.H k=lk s.H k) (h:Kx P f args s HF Hn Hu d) (G:∀k b,lk Hn k=some b->lk s.H k=none->lk s'.H k=none):Kx P f args s' HF Hn Hu d:=by
 obtain⟨ds,h1,h2,V,U,T,C,O⟩:=h;refine⟨ds,by grind [Xg],λk b hk=>?_,V,U,T,(λk b hk=>⟨(C k b hk).1,G k b hk (C k b hk).2.1,(C k b hk).2.2⟩),O⟩
 have hm:∀(l:QEf),lk l k=some b->k∈l.map Prod.fst:=by
  intro l
  induction l with
  |nil=>intro h;cases h
  |cons p l ih=>
   grind [Qz]
 grind
theorem QkA {l:QEf} (h:lk l k=some b):k∈l.map Prod.fst:=by
 induction l with
 |nil=>cases h
 |cons p l ih=>
  grind [Qz]
theorem QaK {M:Nat} (T:∀x∈args,s'.ev x=s.ev x) (hH:∀j∈k::HF.map Prod.fst,lk s'.H j=lk s.H j) (O:lk s.H t=none->lk s'.H t=none) (h:QdZ P f args s HF k t b b' M):QdZ P f args s' HF k t b b' M:=by
 obtain⟨ds,h1,h2,h3,h4,h5,Y,h7,V,U,C,G⟩:=h;refine⟨ds,by grind [Xg],by grind,h3,h4,O h5,Y,λj x hj=>?_,V,U,C,G⟩
 grind [QkA]
theorem QjX {B:Nat->Prop} (C:Cz op dst p s s') (h:EF P B op dst s p q d ef):EF P B op dst s' p q d ef:=by
 cases op<;>simp only[EF]at h ⊢
 case call f args=>
  rcases h with⟨HF,k,b,G,O,rfl,M⟩ |⟨HF,k,t,b,b',n',G,O,M,rfl,T⟩ |⟨HF,t,b,n,G,O,M,T,rfl,h5⟩;exact .inl ⟨HF,k,b,R0 (λx hx=>C.ev x hx) (C.H rfl) G (λ_ _ h=>by cases h),O,rfl,M⟩;exact .inr (.inl ⟨HF,k,t,b,b',n',G,QaK (λx hx=>C.ev x hx) (C.H rfl) (C.al t G) O,M,rfl,T⟩);refine .inr (.inr ⟨HF,t,b,n,G,R0 (λx hx=>C.ev x hx) (C.H rfl) O (λk b' hk hn=>?_),C.al t G M,T,rfl,h5⟩);rw[Qz]at hk;split at hk;rename_i e;subst e;exact C.al _ G hn;trivial
 case append l0 et bytes x y=>
  obtain⟨t,k,n,b,e,ys,pr,h0,G,O,M,T,h5,h6,h7,h8,h9,h10,h11,Y,V,rfl,U⟩:=h
  exact⟨t,k,n,b,e,ys,pr,h0,by rw[C.ev x Wj];omega,O,C.al t h0 M,T,by rw[C.H rfl k Wd];omega,h6,h7,h8,by rw[C.ev y Wj];omega,h10,
   Tj (λj hj=>C.H rfl j (QFr _ hj)) h11,Y,V,rfl,U⟩
theorem MN {B:Nat->Prop} (G:gw s o.guard=some true->Cz o.op o.dst p s s') (T:gw s' o.guard=gw s o.guard) (M:YD P B o s p q d ef):YD P B o s' p q d ef:=by
 unfold YD at M ⊢;rw[T];refine M.imp (λ⟨O,C⟩=>⟨O, ?_⟩) id;have G:=G O;rcases C with⟨C,rfl,rfl⟩ |C
 obtain⟨e1,e2⟩:=Qo4 (op:=o.op) G.ev
 grind [CF,Qic]
 grind [QjX]
theorem Qrf (h:s.same s') {B:Nat->Prop} (C:YD P B o s p q d ef):YD P B o s' p q d ef:=MN (λ_=>QeA h _ _ _) (Qpr h _) C
theorem HQ (s:St) (dst:Option Nat) (d:D) (ef:QEf) (t:Nat):lk (s.s8 dst d ef).fr t=if dst=some t then some d else lk s.fr t:=by
 cases dst with
 |none=>rfl
 |some u=>grind [St.s8,Qz]
theorem QcQ (s:St) (dst:Option Nat) (d:D) (ef:QEf) (k:Nat):lk (s.s8 dst d ef).H k=match lk ef k with
  |some b=>some b
  |none=>lk s.H k:=(Xh ef s.H k).trans Wc
theorem Kf (h:lk ef k=none):lk (s.s8 dst d ef).H k=lk s.H k:=X3 h
theorem Gi (h:lk ef k=some b):lk (s.s8 dst d ef).H k=some b:=YJ h
theorem QjZ (h:s.same s') (dst:Option Nat) (d:D) (ef:QEf):(s.s8 dst d ef).same (s'.s8 dst d ef):=
 ⟨λt=>by rw[HQ,HQ,h.1],λk=>by rw[QcQ,QcQ,h.2]⟩
theorem QjY (s:St) {x y:Option Nat} (C:∀t,x=some t->y≠some t) (d e:D) (ef eg:QEf) (hk:∀k b,lk ef k=some b->lk eg k=none):((s.s8 x d ef).s8 y e eg).same ((s.s8 y e eg).s8 x d ef):=by
 constructor;intro t;simp only[HQ]
 grind
 intro k;cases G:lk ef k with
 |some b=>
  grind [Kf,Gi]
 |none=>
  rw[Kf (s:=s.s8 y e eg) G];cases M:lk eg k with
  |some b=>grind [Gi]
  |none=>grind [Kf]
end
end Go.Abs
