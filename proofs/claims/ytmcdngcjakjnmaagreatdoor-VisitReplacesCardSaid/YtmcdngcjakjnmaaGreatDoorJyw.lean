/- counts: what it answers. -/
import Derived.Test.YtmcdngcjakjnmaaGreatDoorJyv
namespace Go.Eng
def ckL(K:List (List UInt8×Int)):Nat->List ((List UInt8×Int)×Bool)
 |0=>[]
 |k+1=>setA (ckL K k) (atK K k) true
def clnM(K:List ((List UInt8×Int)×Bool))(m:MG):Bool:=(getA K (mk2 m)).getD false
def mnL(K:List ((List UInt8×Int)×Bool))(M:List MG)(k:Nat):List MG:=(lst (atM M) k).filter λm=> !clnM K m
theorem mnL_sn(K:List ((List UInt8×Int)×Bool))(M:List MG)(k:Nat):mnL K M (k+1)=bif clnM K (atM M k) then mnL K M k else mnL K M k++[atM M k]:=by
 unfold mnL;rw[wgj,List.filter_append]
 cases h:clnM K (atM M k) with
 |true=>simp[h]
 |false=>simp[h]
theorem mnL_len(K:List ((List UInt8×Int)×Bool))(M:List MG)(k:Nat):(mnL K M k).length<=k:=by
 have:=List.length_filter_le (λm=> !clnM K m) (lst (atM M) k);unfold mnL;simp[lst] at this ⊢;exact this
theorem wrl(K:List (List UInt8×Int)):∀k,((ckL K k).map Prod.fst).Nodup
 |0=>.nil
 |k+1=>wht (wrl K k) _ _
theorem wwb(K:List (List UInt8×Int))(p:List UInt8×Int):∀k,(getA (ckL K k) p).getD false=decide (∃i,i<k/\atK K i=p)
 |0=>by simp[ckL,getA]
 |k+1=>by
  have ih:=wwb K p k;rw[ckL,wgn]
  by_cases h:atK K k=p
  ·rw[decide_eq_true h,cond_true,decide_eq_true ⟨k,by omega,h⟩];rfl
  ·rw[decide_eq_false h,cond_false,ih];congr 1;refine propext ⟨λ⟨i,hi,e⟩=>⟨i,by omega,e⟩,λ⟨i,hi,e⟩=>⟨i,?_,e⟩⟩
   rcases Nat.lt_or_ge i k with q | q
   ·exact q
   ·have:i=k:=by omega
    subst this;exact absurd e h
theorem wk8{M:List MG}{x:List UInt8×Int}:∀ {k},x∈clnP M k->1<numC (atM M) x M.length
 |0,h=>by simp[clnP] at h
 |k+1,h=>by
  rw[clnP] at h
  by_cases q:1<numC (atM M) (mk2 (atM M k)) M.length
  ·cases q2:decide (1<numC (atM M) (mk2 (atM M k)) M.length) && (decide ((clnP M k).length=0) || !smK (atK (clnP M k) ((clnP M k).length - 1)) (mk2 (atM M k))) with
   |true=>
    rw[q2,cond_true] at h
    rcases List.mem_append.1 h with h | h
    ·exact wk8 h
    ·rw[List.mem_singleton.1 h];exact q
   |false=>rw[q2,cond_false] at h;exact wk8 h
  ·rw[decide_eq_false q,Bool.false_and,cond_false] at h;exact wk8 h
theorem wv6{M:List MG}{x:List UInt8×Int}{k:Nat}(h:x∈clnP M k):∀d,x∈clnP M (k+d)
 |0=>h
 |d+1=>by
  have ih:=wv6 h d;rw[show k+(d+1)=k+d+1 from rfl,clnP]
  cases decide (1<numC (atM M) (mk2 (atM M (k+d))) M.length) && (decide ((clnP M (k+d)).length=0) || !smK (atK (clnP M (k+d)) ((clnP M (k+d)).length - 1)) (mk2 (atM M (k+d)))) with
  |true=>exact List.mem_append_left _ ih
  |false=>exact ih
theorem wv7{M:List MG}{x:List UInt8×Int}:x∈clnP M M.length↔1<numC (atM M) x M.length:=by
 refine⟨wk8,λh=>?_⟩;obtain⟨i,j,hij,hj,e1,e2⟩:=(wh1 _ _ _).1 h;have h':=h;rw[← e2] at h';obtain⟨h1,h2⟩:=w5k (k:=j) h';have hm:x∈clnP M (j+1):=by
  rw[← e2, ← h2];exact wwl (by omega)
 have:=wv6 hm (M.length - (j+1))
 rwa [show j+1+(M.length - (j+1))=M.length by omega] at this
theorem w24(g:Nat->MG)(n:Nat):mnL (ckL (wb8 g n) (wb8 g n).length) (mrgL g n noM 0) (mrgL g n noM 0).length=wad g n:=by
 unfold mnL wad;rw[wdj];refine List.filter_congr λm _=>?_;unfold clnM;rw[wwb];congr 2;refine propext ⟨λ⟨i,hi,e⟩=>?_,λh=>?_⟩
 ·have:=wwl hi;rw[e] at this;exact wv7.1 this
 ·have:=wv7.2 h;obtain⟨i,hi,e⟩:=List.getElem_of_mem this;refine⟨i,hi,?_⟩;unfold atK;rw[List.getD_eq_getElem?_getD];have hi':i<(wb8 g n).length:=hi;rw[List.getElem?_eq_getElem hi'];exact e
theorem wy9{B:List (SL×List MG)}{s:SL}{m:MG}(h:s ∉ B.map Prod.fst):putB B s m=B++[(s,[m])]:=by
 induction B with
 |nil=>rfl
 |cons x B ih=>
  rw[List.map_cons,List.mem_cons,not_or] at h;rw[putB,decide_eq_false (λq=>h.1 q.symm),cond_false,ih h.2];rfl
theorem putB_at{B:List (SL×List MG)}(hn:(B.map Prod.fst).Nodup){j:Nat}(hj:j<B.length){s:SL}{m:MG}(h:(B[j]).1=s):putB B s m=B.set j (s,(B[j]).2++[m]):=by
 induction B generalizing j with
 |nil=>exact absurd hj (nZ7 j)
 |cons x B ih=>
  rw[List.map_cons,List.nodup_cons] at hn
  cases j with
  |zero=>
   have h:x.1=s:=h;rw[putB,decide_eq_true h,cond_true, ← h];rfl
  |succ j=>
   have hj':j<B.length:=by simpa using hj
   have h':(B[j]).1=s:=h;have hne:¬ x.1=s:=λq=>hn.1 (by rw[q, ← h'];exact List.mem_map_of_mem (List.getElem_mem hj'));rw[putB,decide_eq_false hne,cond_false,ih hn.2 hj' h'];rfl
theorem wwf{l:List MG}{x:SL×List MG}(h:x∈wai l):0<x.2.length/\x.2.length<=l.length:=by
 have e:=wwh h;have hk:x.1∈(wai l).map Prod.fst:=List.mem_map_of_mem h;obtain⟨m,hm,hs⟩:=(wqq x.1 l).1 hk;rw[e];refine⟨List.length_pos_of_mem (List.mem_filter.2 ⟨hm,decide_eq_true hs⟩),List.length_filter_le _ _⟩
def entG{κ α:Type}(kv:κ->AV)(vv:α->AV)(L:List (κ×α)):List (AV×AV):=L.map λx=>(kv x.1,vv x.2)
def keyD(p:List UInt8×Int):AV:=.agg [.str p.1,.q p.2]
def keyS(s:SL):AV:=.agg [.str s.o,.str s.p,.q s.per]
def vwM(l:List MG):AV:=.view 15 l.length (waa (atM l))
def esB(B:List (SL×List MG))(vs:List Value):List (AV×Value):=(B.zip vs).map λp=>(keyS p.1.1,p.2)
def fmB(B:List (SL×List MG))(vs:List Value):List FE:=(B.zip vs).map λp=>(p.2,p.1.2.length,waa (atM p.1.2))
def S_oa(g:Nat->MG)(n:Nat)(K:List (List UInt8×Int))(k:Nat):St:=⟨[(0,.view 15 n (waa g)),(3,.ptr 0 0),(4,.map 1),(15,.view 2 K.length (wce (atK K))),(16,.q K.length),(17,.q k),(2,.ptr 2 0)],
 [(0,.cells [.map 3,.nil] 72),(1,.amap (entG keyD .bool (ckL K k))),(2,.cells [.nilmap,.nil] 72),(3,.amap [])],4,[]⟩
def L_oa(g:Nat->MG)(n:Nat)(K:List (List UInt8×Int)):wan:=λst Q=>canonIs te 0 [0,3,4,15,16,17,2] st (S_oa g n K 0)/\K.length<=100000/\
 Q (.exit 0) ⟨[(0,.view 15 n (waa g)),(3,.ptr 0 0),(4,.map 1),(2,.ptr 2 0)],[(0,.cells [.map 3,.nil] 72),(1,.amap (entG keyD .bool (ckL K K.length))),(2,.cells [.nilmap,.nil] 72),(3,.amap [])],4,[]⟩
def S_ob(es:List (AV×Value))(j:Nat)(K:List ((List UInt8×Int)×Bool))(M:List MG)(k:Nat):St:=⟨[(3,.ptr 0 0),(4,.map 1),(25,.own 2 M.length),(26,.int .i64 M.length),(27,.int .i64 k),(2,.ptr 3 0)],
 [(0,.cells [.map 4,.nil] 72),(1,.amap (entG keyD .bool K)),(2,.row 47 15 M.length (waa (atM M)) false),(3,.cells [.nilmap,.nil] 72),(4,.rmap es j none)],5,[]⟩
def S_oc(es:List (AV×Value))(j:Nat)(L:List MG)(K:List ((List UInt8×Int)×Bool))(M:List MG)(k:Nat):St:=⟨[(3,.ptr 0 0),(4,.map 1),(25,.own 2 M.length),(26,.int .i64 M.length),(27,.int .i64 k),(2,.ptr 3 0)],
 [(0,.cells [.map 4,.nil] 72),(1,.amap (entG keyD .bool K)),(2,.row 47 15 M.length (waa (atM M)) false),(3,.cells [.nilmap,.nil] 72),(4,.rmap es j (some (.own 5 L.length))),(5,.row 47 15 L.length (waa (atM L)) false)],6,[]⟩
structure OC where
 es:List (AV×Value)
 j:Nat
 L:List MG
 k:Nat
def S_oi(K:List ((List UInt8×Int)×Bool))(M:List MG)(i:OC):St:=S_oc i.es i.j i.L K M i.k
def Q_ob(es:List (AV×Value))(j:Nat)(e:Exit)(s:St):Prop:=e= .exit 2/\s=⟨[(3,.ptr 0 0),(2,.ptr 1 0)],[(0,.cells [.map 2,.nil] 72),(1,.cells [.nilmap,.nil] 72),(2,.rmap es j none)],3,[]⟩
def L_ob(K:List ((List UInt8×Int)×Bool))(M:List MG):wan:=λst Q=>canonIs te 0 [3,4,25,26,27,2] st ⟨[(3,.ptr 0 0),(4,.map 1),(25,.own 2 M.length),(26,.q M.length),(27,.q 0),(2,.ptr 3 0)],
  [(0,.cells [.map 4,.nil] 72),(1,.amap (entG keyD .bool K)),(2,.row 47 15 M.length (waa (atM M)) false),(3,.cells [.nilmap,.nil] 72),(4,.amap [])],5,[]⟩/\M.length<=100000/\(K.map Prod.fst).Nodup/\
 Q (.exit 2) ⟨[(3,.ptr 0 0),(2,.ptr 1 0)],[(2,.amap (entG keyS vwM (wai (mnL K M M.length)))),(0,.cells [.map 2,.nil] 72),(1,.cells [.nilmap,.nil] 72)],3,[]⟩
structure OI where
 c:Nat
 h:Nat->SL
 c0:Nat
 left:List Nat
def S_od(B:List (SL×List MG))(i:OI):St:=⟨[(3,.ptr 0 0),(54,.ptr 1 0),(2,.ptr 2 0)],
 [(0,.cells [.map 3,.own 4 i.c] 72),(1,.miter 3 B.length (69::i.c0::i.left)),(2,.cells [.nilmap,.nil] 72),(3,.amap (entG keyS vwM B)),(4,.row 78 3 i.c (wam i.h) false)],5,[]⟩
def L_od(B:List (SL×List MG)):wan:=λst Q=>canonIs te 0 [3,54,2] (ownNilP 3 1 78 3 st) (S_od B ⟨0,λ_=>default,B.length,List.range B.length⟩)/\B.length<=100000/\(∀x∈B,x.2.length<=100000)/\
 ∀(E:List (SL×List MG)) (h:Nat->SL) (c:Nat),E.Perm B->lst h c=(E.filter λx=>hasV x.2).map Prod.fst->Q (.exit 4) ⟨[(3,.ptr 0 0),(2,.ptr 1 0)],[(0,.cells [.map 2,.own 3 c] 72),(1,.cells [.nilmap,.nil] 72),(2,.amap (entG keyS vwM B)),(3,.row 78 3 c (wam h) false)],4,[]⟩
end Go.Eng
namespace Go.Eng
open Go.Proofs Go.RowKit Go.Sort
def entF(es:List (AV×AV))(i:Nat):List AV:=[(es.getD i (.any,.any)).1,(es.getD i (.any,.any)).2]
theorem entsV_F(es:List (AV×AV)):wfx es.length (entF es)=es:=by
 apply List.ext_getElem?;intro i;unfold wfx;rw[List.getElem?_map]
 rcases Nat.lt_or_ge i es.length with h | h
 ·rw[List.getElem?_range h,Option.map_some,List.getElem?_eq_getElem h];simp[entF,h]
 ·rw[List.getElem?_eq_none (by simpa using h),List.getElem?_eq_none h];rfl
end Go.Eng
namespace Go.Eng
def frzM(r:Nat)(es:List (AV×AV)):AV->AV
 |.map r'=>match Nat.beq r' r with
  |true=>.vmap es.length (entF es)
  |false=>.map r'
 |u=>u
def frzMA(r:Nat)(es:List (AV×AV)):AV->AV
 |.agg cs=>.agg (cs.map (frzM r es))
 |u=>frzM r es u
section
variable {C:Ctx} {E:Ent} {O O':Nat->Option AObj} {bs:Nat->Option Hd} {w:World} {r:Nat} {es:List (AV×AV)}
theorem V.frzM(hW:WRep C E O bs w)(hr0:O r=some (.amap es))(hes:∀p∈es,nref p.1=true/\nref p.2=true)(hO:∀k o,O' k=some o->k≠r/\O k=some o)(hS:Step w (MB E O bs) bs w (MB E O' bs) bs){v:Value}{u:AV}(h:V w (MB E O bs) bs v u):
  V w (MB E O' bs) bs v (Eng.frzM r es u):=by
 cases u with
 |map r'=>
  show V w (MB E O' bs) bs v (match Nat.beq r' r with | true=>AV.vmap es.length (entF es) | false=>AV.map r')
  split
  ·rename_i hb;have e:=Nat.eq_of_beq_eq_true hb;subst e
   cases h with | map hbr=>
   rename_i b' c';obtain⟨b,c,ents,clock,h1,h2,h3,h4⟩:=hW.obj r' _ hr0;rw[h1] at hbr;injection hbr with hbr;injection hbr with e1 e2;subst e1;have hmb:mutB O bs b:=⟨r',_,c,hr0,rfl,h1⟩;refine .vmap (λhM=>?_) (hW.lt r' b c h1) h2 h3.1 (λi e u he hu=>?_) (λi e u he hu=>?_)
   ·rcases hM with hM | ⟨k,o,c2,g1,g2,g3⟩
    ·exact hW.out b hmb hM
    ·obtain⟨q1,q2⟩:=hO k o g1;exact q1 (hW.sep k r' o _ b c2 c q2 hr0 g2 rfl g3 h1)
   ·have hi:i<es.length:=by rw[← h3.1];exact(Array.getElem?_eq_some_iff.1 he).1
    have hp:es[i]?=some es[i]:=List.getElem?_eq_getElem hi;obtain⟨a1,_⟩:=h3.2 i e _ he hp;have:u=(es[i]).1:=by
     simp[entF,hi] at hu;exact hu.symm
    rw[this];exact a1.free hS.far hS.heap hS.size nob (hes _ (List.getElem_mem hi)).1
   ·have hi:i<es.length:=by rw[← h3.1];exact(Array.getElem?_eq_some_iff.1 he).1
    have hp:es[i]?=some es[i]:=List.getElem?_eq_getElem hi;obtain⟨_,a2⟩:=h3.2 i e _ he hp;have:u=(es[i]).2:=by
     simp[entF,hi] at hu;exact hu.symm
    rw[this];exact a2.free hS.far hS.heap hS.size nob (hes _ (List.getElem_mem hi)).2
  ·exact h.step hS
 |_=>exact h.step hS
theorem V.frzMA(hW:WRep C E O bs w)(hr0:O r=some (.amap es))(hes:∀p∈es,nref p.1=true/\nref p.2=true)(hO:∀k o,O' k=some o->k≠r/\O k=some o)(hS:Step w (MB E O bs) bs w (MB E O' bs) bs){v:Value}{u:AV}(h:V w (MB E O bs) bs v u):
  V w (MB E O' bs) bs v (Eng.frzMA r es u):=by
 cases u with
 |agg cs=>
  cases h with | agg hl h1 hv=>
  refine .agg (by simp[hl]) h1 λj v u hj hu=>?_;rw[List.getElem?_map] at hu;obtain⟨u0,h0,rfl⟩:=Option.map_eq_some_iff.1 hu;exact V.frzM hW hr0 hes hO hS (hv j v u0 hj h0)
 |_=>exact V.frzM hW hr0 hes hO hS h
end
def frzMO(r:Nat)(R:AV->List (Nat×AObj)->Prop)(u:AV)(O:List (Nat×AObj)):Prop:=match lk O r with
 |some (.amap es)=>(∀p∈es,nref p.1=true/\nref p.2=true)/\R (frzMA r es u) (rm r O)
 |_=>R u O
theorem wat.frzMO{C:Ctx}{f:FuncId}{args:List AV}{objs:List AObj}{R:AV->List (Nat×AObj)->Prop}(r:Nat)(h:wat C f args objs (Eng.frzMO r R)):wat C f args objs R:=by
 refine⟨h.1,λE bs w cargs h1 h2 h3 h4 h5 h6 h7=>?_⟩;refine(h.2 E bs w cargs h1 h2 h3 h4 h5 h6 h7).mono ?_;rintro e w' ⟨v,u,O',bs',r1,hR0,r3,r4,r5⟩;unfold Eng.frzMO at hR0;split at hR0
 ·rename_i es hO;obtain⟨hg,hR⟩:=hR0;have hk:∀k o,lk (rm r O') k=some o->k≠r/\lk O' k=some o:=λk o ho=>by
   obtain⟨q1,q2⟩:=wda r O' k o ho;exact⟨λe=>q1 e.symm,q2⟩
  obtain⟨hS2,hW2⟩:=r3.less (O':=lk (rm r O')) λk o ho=>(hk k o ho).2;refine⟨v,_,rm r O',bs',r1,hR,hW2,V.frzMA r3 hO hg hk hS2 r4,λk hk=>⟨?_,(r5 k hk).2⟩⟩
  cases hx:lk (rm r O') k with
  |none=>rfl
  |some o=>
   have:=(wda r O' k o hx).2;rw[(r5 k hk).1] at this;cases this
 ·exact⟨v,u,O',bs',r1,hR0,r3,r4,r5⟩
def wg9:Spec
 |[.view 15 n f],[]=>some (.agg [.vmap (wai (wad (mgOf f) n)).length (entF (entG keyS vwM (wai (wad (mgOf f) n)))),.view 3 (visL (wad (mgOf f) n)).length (wam (atS (visL (wad (mgOf f) n))))],[],n<=100000/\f=waa (mgOf f)/\∀i,i<n->(mgOf f i).Sm)
 |_,_=>none
structure BkOK (R:List MG):Prop where
 right:RightL R
 len:R.length<=100000
 sm:∀m∈R,m.Sm
def wg7(R:List MG):Spec
 |[.agg [.vmap nb fb,.view 3 _ _],.agg [.str o,.str p,.int .i64 per]],[]=>
   some (.tuple [.agg [.str (resB R ⟨o,p,per⟩).1.o,.str (resB R ⟨o,p,per⟩).1.p,.q (resB R ⟨o,p,per⟩).1.per,.q (resB R ⟨o,p,per⟩).1.day,.q (resB R ⟨o,p,per⟩).1.st,.q (resB R ⟨o,p,per⟩).1.pr,.str (resB R ⟨o,p,per⟩).1.rep],.q (resB R ⟨o,p,per⟩).2],[],
    nb=(wai R).length/\fb=entF (entG keyS vwM (wai R))/\BkOK R/\(⟨o,p,per⟩:SL)∈visL R)
 |_,_=>none
def wlp(R:List MG)(o p:List UInt8)(k:Nat):St:=⟨[(1,.str o),(2,.str p),(3,.ptr 0 0),(7,.own 1 (serK R o p (visL R) k).length),(13,.view 3 (visL R).length (wam (atS (visL R)))),(14,.q (visL R).length),(15,.q k)],
 [(0,.cells [.vmap (wai R).length (entF (entG keyS vwM (wai R))),.view 3 (visL R).length (wam (atS (visL R)))] 72),(1,.row 43 7 (serK R o p (visL R) k).length (waw (atX (serK R o p (visL R) k))) false)],2,[]⟩
def wn9(R:List MG)(o p:List UInt8):wan:=λst Q=>canonIs te 0 [1,2,3,7,13,14,15] (ownNil 7 43 7 st) (wlp R o p 0)/\BkOK R/\
 Q (.exit 0) ⟨[(7,.own 0 (serL R o p).length)],[(0,.row 43 7 (serL R o p).length (waw (atX (serL R o p))) false)],1,[]⟩
def wl1(R:List MG):Spec
 |[.agg [.vmap nb fb,.view 3 nv fv],.str o,.str p],[]=>some (.view 7 (serL R o p).length (waw (atX (serL R o p))),[],
       nb=(wai R).length/\fb=entF (entG keyS vwM (wai R))/\nv=(visL R).length/\fv=wam (atS (visL R))/\BkOK R)
 |_,_=>none
def S_Ser:Spec
 |[.view 15 n f,.str o,.str p],[]=>some (.view 7 (serL (wad (mgOf f) n) o p).length (waw (atX (serL (wad (mgOf f) n) o p))),[],n<=100000/\f=waa (mgOf f)/\∀i,i<n->(mgOf f i).Sm)
 |_,_=>none
def uRow(g:Nat->Int)(i:Nat):List AV:=[.int .u32 (g i)]
def uOf(f:Nat->List AV)(i:Nat):Int:=match f i with
 |[.int .u32 n]=>n
 |_=>0
def lowI(g:Nat->Int):Nat->Nat
 |0=>0
 |k+1=>bif decide (g k=0) then lowI g k else k+1
def wms:Spec
 |[.own 0 n],[.row t 1 m f fr]=>some (.own 0 (lowI (uOf f) n),[(0,.row 124 1 n f false)],t=124/\fr=false/\n=m/\n<=1000/\∀i,i<n->f i=uRow (uOf f) i)
 |_,_=>none
def whc(g:Nat->Int)(n k:Nat):St:=⟨[(0,.own 0 k)],[(0,.row 124 1 n (uRow g) false)],1,[]⟩
def wou(g:Nat->Int)(n:Nat):wan:=λst Q=>canonIs te 1 [0] st (whc g n n)/\n<=1000/\Q (.exit 0) (whc g n (lowI g n))
def lmF(v:Int)(i:Nat):Int:=if i=0 then v % 4294967296 else if i=1 then v / 4294967296 else 0
def lmN(v:Int):Nat:=lowI (lmF v) 2
def we7:Spec
 |[.own 0 n],[.row t 1 m f fr]=>some (.view 1 (lowI (uOf f) n) (uRow (uOf f)),[(0,.row 124 1 n f false)],t=124/\fr=false/\n=m/\n<=1000/\∀i,i<n->f i=uRow (uOf f) i)
 |_,_=>none
def wfb:Spec
 |[.int .u64 v],[]=>some (.view 1 (lmN v) (uRow (lmF v)),[],0<=v/\v<18446744073709551616)
 |_,_=>none
def we4:Spec
 |[.int .i64 v],[]=>some (.view 1 (lmN v) (uRow (lmF v)),[],0<=v/\v<9223372036854775808)
 |_,_=>none
def wfc:Spec
 |[.int .i64 v],[]=>some (.agg [.bool false,.view 1 (lmN v) (uRow (lmF v)),.nil],[],0<=v/\v<9223372036854775808)
 |_,_=>none
def bsF(g:Nat->SL)(s:SL)(n:Nat):Nat:=fstB (λi=> !decide (ordS (g i) s<0)) n
def S_bs:Spec
 |[.view 3 n f,.agg [.str o,.str p,.int .i64 per],.func 42 []],[]=>some (.tuple [.q (bsF (slOf f) ⟨o,p,per⟩ n),.bool (decide (bsF (slOf f) ⟨o,p,per⟩ n<n) && decide (ordS (slOf f (bsF (slOf f) ⟨o,p,per⟩ n)) ⟨o,p,per⟩=0))],[],
   n<=1000000/\f=wam (slOf f)/\∀i j,i<j->j<n->ordS (slOf f i) (slOf f j)<0)
 |_,_=>none
structure BI where
 a:Nat
 b:Nat
def wns(g:Nat->SL)(s:SL)(n:Nat)(i:BI):St:=⟨[(0,.view 3 n (wam g)),(2,.func 42 []),(4,.ptr 0 0),(8,.q n),(9,.q i.a),(10,.q i.b)],[(0,.cells [.str s.o,.str s.p,.q s.per] 78)],1,[]⟩
def L_bs(g:Nat->SL)(s:SL)(n:Nat):wan:=λst Q=>canonIs te 0 [0,2,4,8,9,10] st (wns g s n ⟨0,n⟩)/\n<=1000000/\(∀i j,i<j->j<n->ordS (g i) (g j)<0)/\
 Q (.exit 0) ⟨[(0,.view 3 n (wam g)),(2,.func 42 []),(4,.ptr 0 0),(8,.q n),(9,.q (bsF g s n))],[(0,.cells [.str s.o,.str s.p,.q s.per] 78)],1,[]⟩
def keyE(p:List UInt8×List UInt8):AV:=.agg [.str p.1,.str p.2]
def vI(c:Int):AV:=.q c
def entE(L:List ((List UInt8×List UInt8)×Int)):List (AV×AV):=entG keyE vI L
def waz(L:List (SL×Int)):List (AV×AV):=entG keyS vI L
def entW(L:List (SL×Bool)):List (AV×AV):=entG keyS .bool L
def S_u1(R:List MG)(k:Nat):St:=⟨[(3,.ptr 0 0),(4,.map 1),(5,.map 2),(6,.map 3),(7,.own 4 (ob1 R (visL R) k).r.length),(35,.view 3 (visL R).length (wam (atS (visL R)))),(36,.q (visL R).length),(37,.q k)],
 [(0,.cells [.vmap (wai R).length (entF (entG keyS vwM (wai R))),.view 3 (visL R).length (wam (atS (visL R)))] 72),(1,.amap (entE (ob1 R (visL R) k).e)),(2,.amap (waz (ob1 R (visL R) k).p)),(3,.amap []),(4,.row 43 7 (ob1 R (visL R) k).r.length (waw (atX (ob1 R (visL R) k).r)) false)],5,[]⟩
def L_u1(R:List MG):wan:=λst Q=>canonIs te 0 [3,4,5,6,7,35,36,37] (ownNil 7 43 7 st) (S_u1 R 0)/\BkOK R/\
 Q (.exit 0) ⟨[(3,.ptr 0 0),(4,.map 1),(5,.map 2),(6,.map 3),(7,.own 4 (repL R).length)],
  [(0,.cells [.vmap (wai R).length (entF (entG keyS vwM (wai R))),.view 3 (visL R).length (wam (atS (visL R)))] 72),(1,.amap (entE (obE R))),(2,.amap (waz (obW R 0).p)),(3,.amap []),(4,.row 43 7 (repL R).length (waw (atX (repL R))) false)],5,[]⟩
def S_u2(R:List MG)(k:Nat):St:=⟨[(3,.ptr 0 0),(4,.map 1),(5,.map 2),(6,.map 3),(91,.own 4 (repL R).length),(92,.q (repL R).length),(93,.q k)],
 [(0,.cells [.vmap (wai R).length (entF (entG keyS vwM (wai R))),.view 3 (visL R).length (wam (atS (visL R)))] 72),(1,.amap (entE (obE R))),(2,.amap (waz (obW R k).p)),(3,.amap (entW (obW R k).w)),(4,.row 43 7 (repL R).length (waw (atX (repL R))) false)],5,[]⟩
def L_u2(R:List MG):wan:=λst Q=>canonIs te 0 [3,4,5,6,91,92,93] st (S_u2 R 0)/\BkOK R/\
 Q (.exit 3) ⟨[(5,.map 0),(6,.map 1)],[(0,.amap (waz (obN R).p)),(1,.amap (entW (obN R).w))],2,[]⟩
def S_u3(P:List (SL×Int))(W:List (SL×Bool))(i:OI):St:=⟨[(5,.map 0),(6,.map 1),(24,.own 2 i.c),(152,.ptr 3 0)],
 [(0,.amap (waz P)),(1,.amap (entW W)),(2,.row 78 3 i.c (wam i.h) false),(3,.miter 0 P.length (75::i.c0::i.left))],4,[]⟩
def L_u3(P:List (SL×Int))(W:List (SL×Bool)):wan:=λst Q=>canonIs te 0 [5,6,24,152] (ownNil 24 78 3 st) (S_u3 P W ⟨0,λ_=>default,P.length,List.range P.length⟩)/\(P.map Prod.fst).Nodup/\(W.map Prod.fst).Nodup/\P.length<=200000/\
 ∀(E:List (SL×Int)) (h:Nat->SL) (c:Nat),E.Perm P->lst h c=(E.map Prod.fst).filter (λt=> !wrgB W t)->Q (.exit 5) ⟨[(5,.map 0),(24,.own 1 c)],[(0,.amap (waz P)),(1,.row 78 3 c (wam h) false)],2,[]⟩
def web(L:List SL)(pr:SL->Int)(i:Nat):List AV:=[.str (atS L i).o,.str (atS L i).p,.q (atS L i).per,.bool false,.view 1 (lmN (pr (atS L i))) (uRow (lmF (pr (atS L i)))),.nil]
def S_u4(P:List (SL×Int))(L:List SL)(pr:SL->Int)(k:Nat):St:=⟨[(5,.map 0),(26,.own 1 k),(167,.own 2 L.length),(168,.q L.length),(169,.q k)],
 [(0,.amap (waz P)),(1,.row 41 6 k (web L pr) false),(2,.row 78 3 L.length (wam (atS L)) false)],3,[]⟩
def L_u4(P:List (SL×Int))(L:List SL)(pr:SL->Int):wan:=λst Q=>canonIs te 0 [5,26,167,168,169] (ownNil 26 41 6 st) (S_u4 P L pr 0)/\(P.map Prod.fst).Nodup/\L.length<=200000/\(∀s∈L,getA P s=some (pr s)/\0<=pr s/\pr s<9223372036854775808)/\
 Q (.exit 7) ⟨[(26,.own 0 L.length)],[(0,.row 41 6 L.length (web L pr) false)],1,[]⟩
def S_obs:Spec
 |[.view 15 n f],[]=>some (.view 6 (obL (wad (mgOf f) n)).length (web (obL (wad (mgOf f) n)) (obP (wad (mgOf f) n))),[],n<=100000/\f=waa (mgOf f)/\∀i,i<n->(mgOf f i).Sm)
 |_,_=>none
def vStr(f:Nat->List AV)(i:Nat):List UInt8:=wcc ((f i).headD .any)
def wau(v:Nat->List UInt8)(i:Nat):List AV:=[.str (v i)]
def wnd:Spec
 |[.own 0 n,.str x],[.row t 1 m f fr]=>some (.q (ixB (λi=>decide (x=vStr f i)) n),[(0,.row 9 1 n (wau (vStr f)) false)],t=9/\fr=false/\n=m/\n<=1000000/\f=wau (vStr f))
 |_,_=>none
def wnc(v:Nat->List UInt8)(x:List UInt8)(n k:Nat):St:=⟨[(0,.own 0 n),(1,.str x),(7,.q n),(8,.q k)],[(0,.row 9 1 n (wau v) false)],1,[]⟩
def wo3(v:Nat->List UInt8)(x:List UInt8)(n:Nat):wan:=λst Q=>canonIs te 1 [0,1,7,8] st (wnc v x n 0)/\n<=1000000/\
 wab (decide (fstB (λi=>decide (x=v i)) n<n)) (Q .ret ⟨[(4,.q (fstB (λi=>decide (x=v i)) n))],[(0,.row 9 1 n (wau v) false)],1,[]⟩) (Q (.exit 0) ⟨[],[(0,.row 9 1 n (wau v) false)],1,[]⟩)
def wnj:Spec
 |[.own 0 n,.str x],[.row t 1 m f fr]=>some (.bool (decide (0<=ixB (λi=>decide (x=vStr f i)) n)),[(0,.row 9 1 n (wau (vStr f)) false)],t=9/\fr=false/\n=m/\n<=1000000/\f=wau (vStr f))
 |_,_=>none
def atG(l:List (List UInt8))(i:Nat):List UInt8:=l.getD i []
def wl7(R:List MG)(o p:List UInt8)(k:Nat):St:=⟨[(1,.str o),(7,.ptr 0 0),(8,.own 1 (rpK R o p k).length)],
 [(0,.cells [.vmap (wai R).length (entF (entG keyS vwM (wai R))),.view 3 (visL R).length (wam (atS (visL R)))] 72),(1,.row 9 1 (rpK R o p k).length (wau (atG (rpK R o p k))) false)],2,[]⟩
def wol(R:List MG)(o p:List UInt8):wan:=λst Q=>canonIs te 0 [1,7,8] st (wl7 R o p 0)/\BkOK R/\
 Q .ret ⟨[(6,.own 0 (rplL R o p).length)],[(0,.row 9 1 (rplL R o p).length (wau (atG (rplL R o p))) false)],1,[]⟩
def wc5:Spec
 |[.view 15 n f,.str o,.str p],[]=>some (.view 1 (rplL (wad (mgOf f) n) o p).length (wau (atG (rplL (wad (mgOf f) n) o p))),[],n<=100000/\f=waa (mgOf f)/\∀i,i<n->(mgOf f i).Sm)
 |_,_=>none
def wl8(g:Nat->Int)(n k:Nat):St:=⟨[(0,.own 0 n),(3,.q k)],[(0,.row 124 1 n (uRow g) false)],1,[]⟩
def wl9:Spec
 |[.own 0 n],[.row t 1 m f fr]=>some (.q (lowI (uOf f) n),[(0,.row 124 1 n f false)],t=124/\fr=false/\n=m/\n<=1000/\∀i,i<n->f i=uRow (uOf f) i)
 |_,_=>none
def won(g:Nat->Int)(n:Nat):wan:=λst Q=>canonIs te 1 [0,3] st (wl8 g n n)/\n<=1000/\Q (.exit 0) ⟨[(3,.q (lowI g n))],[(0,.row 124 1 n (uRow g) false)],1,[]⟩
def wje(n:Nat)(u:Nat->Int)(m:Nat)(w:Nat->Int):Bool:=decide (n=m) && decide (fstB (λi=> !decide (u i=w i)) n=n)
def wl3:Spec
 |[.view 1 n f,.view 1 m g],[]=>some (.bool (wje n (uOf f) m (uOf g)),[],n<=1000/\m<=1000/\f=uRow (uOf f)/\g=uRow (uOf g))
 |[.nil,.nil],[]=>some (.bool true,[],True)
 |_,_=>none
def wly(n:Nat)(u w:Nat->Int)(k:Nat):St:=⟨[(0,.view 1 n (uRow u)),(1,.view 1 n (uRow w)),(12,.q n),(13,.q k)],[],0,[]⟩
def wlx(k:Nat):St:=⟨[(0,.nil),(1,.nil),(12,.q 0),(13,.q k)],[],0,[]⟩
def woe:wan:=λst Q=>canonIs te 0 [0,1,12,13] st (wlx 0)/\Q (.exit 0) ⟨[],[],0,[]⟩
def wof(n:Nat)(u w:Nat->Int):wan:=λst Q=>canonIs te 0 [0,1,12,13] st (wly n u w 0)/\n<=1000/\
 wab (decide (fstB (λi=> !decide (u i=w i)) n=n)) (Q (.exit 0) ⟨[],[],0,[]⟩) (Q .ret ⟨[(4,.bool false)],[],0,[]⟩)
def wl2:Spec
 |[.agg [.bool a,.view 1 n f,.nil],.agg [.bool b,.view 1 m g,.nil]],[]=>some (.bool (decide (a=b) && wje n (uOf f) m (uOf g)),[],n<=1000/\m<=1000/\f=uRow (uOf f)/\g=uRow (uOf g))
 |_,_=>none
def wnt:Spec
 |[.agg [.str o,.str p,.int .i64 per,.int .i64 _,.int .i64 _,.int .i64 _,.str _],.agg [.str o',.str p',.int .i64 per',.int .i64 _,.int .i64 _,.int .i64 _,.str _]],[]=>some (.bool (decide (ordS ⟨o,p,per⟩ ⟨o',p',per'⟩<0)),[],True)
 |_,_=>none
def wnh:Spec
 |[.agg [.str _,.str _,.int .i64 _,.int .i64 _,.int .i64 st,.int .i64 _,.str _]],[]=>some (.bool (decide (st=4) || decide (st=5)),[],True)
 |_,_=>none
def lasX(g:Nat->VT)(n:Nat):VT:=bif decide (fstB (λi=>finB (g i)) n<n) then g (fstB (λi=>finB (g i)) n) else ⟨[],[],0,0,0,0,[]⟩
def wmu:Spec
 |[.view 7 n f],[]=>some (.tuple [.agg (vtC (lasX (vtOf f) n)),.bool (decide (fstB (λi=>finB (vtOf f i)) n<n))],[],n<=1000000/\f=waw (vtOf f))
 |_,_=>none
def wmv(g:Nat->VT)(n k:Nat):St:=⟨[(2,.ptr 0 0),(6,.view 7 n (waw g)),(7,.q n),(8,.q k)],[(0,.cells [.str [],.str [],.q 0,.q 0,.q 0,.q 0,.str []] 43)],1,[]⟩
def L_la(g:Nat->VT)(n:Nat):wan:=λst Q=>canonIs te 0 [2,6,7,8] st (wmv g n 0)/\n<=1000000/\
 wab (decide (fstB (λi=>finB (g i)) n<n)) (Q .ret ⟨[(2,.ptr 0 0),(3,.bool true)],[(0,.cells (vtC (g (fstB (λi=>finB (g i)) n))) 43)],1,[]⟩) (Q (.exit 0) ⟨[(2,.ptr 0 0)],[(0,.cells [.str [],.str [],.q 0,.q 0,.q 0,.q 0,.str []] 43)],1,[]⟩)
def nilS(d sz:Nat)(g:Nat->List AV)(s:St):St:=match lk s.T d with
 |some .nil=>⟨(d,.view sz 0 g)::rm d s.T,s.O,s.nx,[]⟩
 |_=>s
theorem RepS.nilS{C:Ctx}{E:Ent}{N:Nat}{s:St}{bs:Nat->Option Hd}{a:Act}{w:World}(d sz:Nat)(g:Nat->List AV)(h:RepS C E N s bs a w):RepS C E N (nilS d sz g s) bs a w:=by
 unfold Eng.nilS;split
 ·rename_i hd;obtain⟨T,O,nx,dec⟩:=s;obtain⟨⟨hF,hW⟩,hnx,hm⟩:=h;refine⟨⟨⟨hF.1,hF.2.1,λi u hu=>?_⟩,hW⟩,hnx,hm⟩;have hu':lk ((d,AV.view sz 0 g)::rm d T) i=some u:=hu;rw[wfo,way] at hu';split at hu'
  ·rename_i e;have e':d=i:=e;subst e';simp only[sI7] at hu';subst hu';obtain⟨v,hv,hV⟩:=hF.2.2 d _ hd;exact⟨v,hv,V.nilv (sz:=sz) (f:=g) hV⟩
  ·exact hF.2.2 i u hu'
 ·exact h
theorem AWP.nilS{C:Ctx}{m N:Nat}{c:Code}{Q:Exit->St->Prop}{s:St}(d sz:Nat)(g:Nat->List AV)(h:AWP C m N c Q (Eng.nilS d sz g s)):AWP C m N c Q s:=by
 intro E hE bs a w hr;exact h E hE bs a w (hr.nilS d sz g)
def wa5(V:List SL)(i:Nat):List AV:=[.str (atS V i).o,.str (atS V i).p,.q (atS V i).per,.q 0,.q 0,.q 0,.str []]
def slL(f:Nat->List AV)(n:Nat):List SL:=lst (λi=>vsl (vtOf f i)) n
def wmd:Spec
 |[.view 7 n f,.str o,.str p,.int .i64 per],[]=>some (.view 7 (insS (slL f n) ⟨o,p,per⟩).length (wa5 (insS (slL f n) ⟨o,p,per⟩)),[],n<=200000/\f=wa5 (slL f n)/\n=(slL f n).length/\Asc ordS (slL f n))
 |_,_=>none
def posS(V:List SL)(s:SL):Nat->Nat
 |0=>0
 |i+1=>bif decide (ordS s (atS V i)<0) then posS V s i else i+1
def wg8(V:List SL)(s:SL)(i:Nat):St:=⟨[(0,.view 7 V.length (wa5 V)),(9,.ptr 0 0),(10,.q i)],[(0,.cells [.str s.o,.str s.p,.q s.per,.q 0,.q 0,.q 0,.str []] 43)],1,[]⟩
def L_pt(V:List SL)(s:SL):wan:=λst Q=>canonIs te 0 [0,9,10] st (wg8 V s V.length)/\V.length<=200000/\Q (.exit 0) (wg8 V s (posS V s V.length))
def slK(R:List MG)(k:Nat):List SL:=(((lst (atM R) k).filter isV).map λm=>vsl m.v).foldl insS []
def wlz:Spec
 |[.view 15 n f],[]=>some (.view 7 (visL (wad (mgOf f) n)).length (wa5 (visL (wad (mgOf f) n))),[],n<=100000/\f=waa (mgOf f)/\∀i,i<n->(mgOf f i).Sm)
 |_,_=>none
def wl0(R:List MG)(k:Nat):St:=⟨[(3,.view 7 (slK R k).length (wa5 (slK R k))),(7,.view 15 R.length (waa (atM R))),(8,.q R.length),(9,.q k)],[],0,[]⟩
def wog(R:List MG):wan:=λst Q=>canonIs te 0 [3,7,8,9] (nilS 3 7 (wa5 []) st) (wl0 R 0)/\R.length<=100000/\Q (.exit 0) ⟨[(3,.view 7 (visL R).length (wa5 (visL R)))],[],0,[]⟩
def wf7(g:Nat->MG)(n:Nat)(o p:List UInt8)(k:Nat):St:=⟨[(0,.view 15 n (waa g)),(1,.str o),(2,.str p),(7,.own 0 (serK (wad g n) o p (visL (wad g n)) k).length),(13,.view 7 (visL (wad g n)).length (wa5 (visL (wad g n)))),(14,.q (visL (wad g n)).length),(15,.q k)],
 [(0,.row 43 7 (serK (wad g n) o p (visL (wad g n)) k).length (waw (atX (serK (wad g n) o p (visL (wad g n)) k))) false)],1,[]⟩
def woi(g:Nat->MG)(n:Nat)(o p:List UInt8):wan:=λst Q=>canonIs te 0 [0,1,2,7,13,14,15] (ownNil 7 43 7 st) (wf7 g n o p 0)/\n<=100000/\(∀i,i<n->(g i).Sm)/\
 Q (.exit 0) ⟨[(7,.own 0 (serL (wad g n) o p).length)],[(0,.row 43 7 (serL (wad g n) o p).length (waw (atX (serL (wad g n) o p))) false)],1,[]⟩
def wl6(g:Nat->MG)(n:Nat)(o:List UInt8)(out:List (List UInt8)):St:=⟨[(0,.view 15 n (waa g)),(1,.str o),(7,.own 0 out.length)],
 [(0,.row 9 1 out.length (wau (atG out)) false)],1,[]⟩
def wok(g:Nat->MG)(n:Nat)(o p:List UInt8):wan:=λst Q=>canonIs te 0 [0,1,7] st (wl6 g n o [p])/\n<=100000/\(∀i,i<n->(g i).Sm)/\
 Q .ret ⟨[(6,.own 0 (rplL (wad g n) o p).length)],[(0,.row 9 1 (rplL (wad g n) o p).length (wau (atG (rplL (wad g n) o p))) false)],1,[]⟩
def wl5(g:Nat->MG)(n:Nat)(o:List UInt8)(out:List (List UInt8))(v:VT)(k:Nat):St:=⟨[(0,.view 15 n (waa g)),(1,.str o),(7,.own 0 out.length),(8,.ptr 1 0),(35,.own 0 out.length),(36,.q out.length),(37,.q k)],
 [(0,.row 9 1 out.length (wau (atG out)) false),(1,.cells [.str v.o,.str v.p,.q v.per,.q v.day,.q v.st,.q v.pr,.str v.rep] 43)],2,[]⟩
def woj(g:Nat->MG)(n:Nat)(o:List UInt8)(out:List (List UInt8))(v:VT):wan:=λst Q=>canonIs te 0 [0,1,7,8,35,36,37] st (wl5 g n o out v 0)/\out.length<=200000/\
 wab (decide (v.rep∈out)) (Q .ret ⟨[(6,.own 0 out.length)],[(0,.row 9 1 out.length (wau (atG out)) false)],1,[]⟩)
  (Q (.exit 2) ⟨[(0,.view 15 n (waa g)),(1,.str o),(7,.own 0 out.length),(8,.ptr 1 0)],[(0,.row 9 1 out.length (wau (atG out)) false),(1,.cells [.str v.o,.str v.p,.q v.per,.q v.day,.q v.st,.q v.pr,.str v.rep] 43)],2,[]⟩)
def wnw(R:List MG):Spec
 |[.view 15 n f,.str o,.str p],[]=>some (.view 7 (serL R o p).length (waw (atX (serL R o p))),[],R=wad (mgOf f) n/\n<=100000/\f=waa (mgOf f)/\∀i,i<n->(mgOf f i).Sm)
 |_,_=>none
def cutV(g:Nat->MG)(i:Nat):MG:=⟨(g i).dev.take 30,(g i).seq,(g i).kind,⟨(g i).v.o.take 30,(g i).v.p.take 30,(g i).v.per,(g i).v.day,(g i).v.st,(g i).v.pr,(g i).v.rep.take 30⟩,(g i).d⟩
def wl4(g:Nat->MG)(n k:Nat):St:=⟨[(3,.own 0 k),(10,.view 15 n (waa g)),(11,.q n),(12,.q k)],[(0,.row 47 15 k (waa (cutV g)) false)],1,[]⟩
def woh(g:Nat->MG)(n:Nat):wan:=λst Q=>canonIs te 0 [3,10,11,12] (ownNil 3 47 15 st) (wl4 g n 0)/\n<=12/\Q (.exit 0) ⟨[(3,.own 0 n)],[(0,.row 47 15 n (waa (cutV g)) false)],1,[]⟩
def wma:Spec
 |[.view 15 n f],[]=>some (.view 15 (min n 12) (waa (cutV (mgOf f))),[],f=waa (mgOf f))
 |_,_=>none
structure StM (m:MG):Prop where
 dev:m.dev.length<=1
 kind:m.kind=1
 o:m.v.o=[111,49]
 p:∃i:Nat,i<3/\m.v.p=idF i
 per:∃j:Nat,j<4/\m.v.per=1440+j
 rep:m.v.st=5->∃i:Nat,i<4/\m.v.rep=idF i
 d:m.d=⟨[],[],0,[],0⟩
structure ZI where
 c:Nat
 g:Nat->MG
 a:Int
 q:Int
 j:Nat
def wln(n:Nat)(v:Nat->Int)(k:Nat)(i:ZI):St:=⟨[(0,.ptr 0 0),(3,.own 1 i.c),(4,.q i.q),(5,.q k),(9,.q k),(12,.q i.j)],
 [(0,.cells [.view 1 n (wak v),.q i.a] 26),(1,.row 47 15 i.c (waa i.g) false)],2,[]⟩
def wn8(n:Nat)(v:Nat->Int)(k:Nat)(z:ZI):wan:=λst Q=>canonIs te 1 [0,3,4,5,9,12] (ownNil 3 47 15 st) (wln n v k ⟨z.c,z.g,z.a,z.q,0⟩)/\k<3/\z.c<=30/\(0<=z.q/\z.q<=30)/\(0<=z.a/\z.a<=4611686018427370000)/\(∀j,j<z.c->StM (z.g j))/\
 ∀i:ZI,i.c<=z.c+8->(z.q<=i.q/\i.q<=z.q+4)->(z.a<=i.a/\i.a<=z.a+40)->(∀j,j<i.c->StM (i.g j))->Q (.exit 2) ⟨[(0,.ptr 0 0),(3,.own 1 i.c),(4,.q i.q),(9,.q k)],[(0,.cells [.view 1 n (wak v),.q i.a] 26),(1,.row 47 15 i.c (waa i.g) false)],2,[]⟩
def wlm(n:Nat)(v:Nat->Int)(i:ZI):St:=⟨[(0,.ptr 0 0),(3,.own 1 i.c),(4,.q i.q),(9,.q i.j)],
 [(0,.cells [.view 1 n (wak v),.q i.a] 26),(1,.row 47 15 i.c (waa i.g) false)],2,[]⟩
def wn7(n:Nat)(v:Nat->Int)(a:Int):wan:=λst Q=>canonIs te 1 [0,3,4,9] (ownNil 3 47 15 st) (wlm n v ⟨0,λ_=>default,a,0,0⟩)/\(0<=a/\a<=4611686018427360000)/\
 ∀i:ZI,i.c<=24->(a<=i.a/\i.a<=a+120)->(∀j,j<i.c->StM (i.g j))->Q (.exit 0) ⟨[(3,.own 1 i.c)],[(0,.cells [.view 1 n (wak v),.q i.a] 26),(1,.row 47 15 i.c (waa i.g) false)],2,[]⟩
def wwx:wde
 |[.ptr 0 0],[.cells [.view sz n f,.int .i64 a] t],R=>t=26/\sz=1/\f=wak (vInt f)/\(0<=a/\a<=4611686018427360000)/\
   ∀(c:Nat) (g:Nat->MG) (a':Int),c<=24->(a<=a'/\a'<=a+120)->(∀j,j<c->StM (g j))->
   R (.own 1 c) [(0,.cells [.view 1 n f,.q a'] 26),(1,.row 47 15 c (waa g) false)]
 |_,_,_=>False
def wn0:wde
 |[.ptr 0 0],[.cells [.view sz n f,.int .i64 a] t],R=>t=26/\sz=1/\f=wak (vInt f)/\(0<=a/\a<=4611686018427360000)/\
   ∀(c:Nat) (g:Nat->MG) (a':Int),c<=24->(a<=a'/\a'<=a+120)->(∀j,j<c->StM (g j))->
   R (.view 15 c (waa g)) [(0,.cells [.view 1 n f,.q a'] 26)]
 |_,_,_=>False
def wnu:Spec
 |[],[]=>some (.bool true,[],True)
 |_,_=>none
def wmh:Spec
 |[.own 0 n],[.row _ 15 m f _]=>some (.view 6 (obL (wad (mgOf f) n)).length (web (obL (wad (mgOf f) n)) (obP (wad (mgOf f) n))),[],n=m/\n<=100000/\RM f n)
 |_,_=>none
def wg3:Spec
 |[.view 1 n f,.view 1 m g],[]=>some (.bool true,[],n=m/\f=g/\n<=1000000/\f=wau (vStr f))
 |_,_=>none
def wlv(v:Nat->List UInt8)(n k:Nat):St:=⟨[(0,.view 1 n (wau v)),(1,.view 1 n (wau v)),(12,.q n),(13,.q k)],[],0,[]⟩
def wod(v:Nat->List UInt8)(n:Nat):wan:=λst Q=>canonIs te 0 [0,1,12,13] st (wlv v n 0)/\n<=1000000/\Q (.exit 0) ⟨[],[],0,[]⟩
def wmr(g:Nat->MG)(n:Nat)(h:Nat->MG)(m:Nat)(o p:List UInt8)(k:Nat):St:=⟨[(0,.view 15 n (waa g)),(1,.str o),(2,.str p),(9,.view 15 m (waa h)),(28,.q k)],[],0,[]⟩
def wot:wan:=λst Q=>∃(g:Nat->MG) (n:Nat) (h:Nat->MG) (m:Nat) (o p:List UInt8),canonIs te 0 [0,1,2,9,28] st (wmr g n h m o p 0)/\m<=1000/\(∀j,j<m->StM (h j))/\Q (.exit 0) ⟨[(0,.view 15 n (waa g)),(1,.str o),(2,.str p)],[],0,[]⟩
theorem wyt{g:Nat->MG}{n:Nat}{m:MG}(h:m∈wad g n):∃i,i<n/\g i=m:=by
 have h1:=(wj1.1 (List.mem_filter.1 h).1).1
 rcases List.mem_append.1 h1 with h | h
 ·obtain⟨i,hi,rfl⟩:=List.mem_map.1 h;exact⟨i,List.mem_range.1 hi,rfl⟩
 ·simp[lst] at h
theorem wyu{g:Nat->MG}{n:Nat}(hs:∀j,j<n->StM (g j)){m:MG}(h:m∈wad g n):StM m:=by
 obtain⟨i,hi,rfl⟩:=wyt h;exact hs i hi
theorem ids4{i:Nat}(h:i<4):idF (i:Nat)∈[idF 0,idF 1,idF 2,idF 3]:=by
 match i,h with
 |0,_=>exact .head _
 |1,_=>exact .tail _ (.head _)
 |2,_=>exact .tail _ (.tail _ (.head _))
 |3,_=>exact .tail _ (.tail _ (.tail _ (.head _)))
theorem wyk{g:Nat->MG}{n:Nat}(hs:∀j,j<n->StM (g j)){k:Nat}(hk:k<4)(o:List UInt8):(rplL (wad g n) o (idF k)).length<=4/\0<(rplL (wad g n) o (idF k)).length/\(rplL (wad g n) o (idF k)).getD 0 []=idF k:=by
 obtain⟨tl,e⟩:=rplL_hd (wad g n) o (idF k);refine⟨rplL_le (A:=[idF 0,idF 1,idF 2,idF 3]) (ids4 hk) λm hm _ h5=>?_,by rw[e];exact Nat.succ_pos _,by rw[e];rfl⟩;obtain⟨i,hi,e⟩:=(wyu hs hm).rep h5;rw[e];exact ids4 hi
end Go.Eng
namespace Go.Eng
open Go.Proofs Go.RowKit
variable {C:Ctx} [C.Loose]
set_option maxRecDepth 20000
theorem nf_mark(m:MG)(R:oR7):wpFn te [] [] 0 Tryz.f64 [.agg [.str m.dev,.q m.seq,.q m.kind,.str m.v.o,.str m.v.p,.q m.v.per,.q m.v.day,.q m.v.st,.q m.v.pr,.str m.v.rep,.str m.d.o,.str m.d.p,.q m.d.per,.str m.d.dev,.q m.d.num]] [] R=((True/\True)/\R (.agg [.str m.dev,.q m.seq]) []):=by kernel_rfl
theorem w17(g:Nat->MG)(n:Nat)(R:oR7):wpFn te [] [(3,L_ct g n)] 0 Tryz.f90 [.own 0 n] [.row 47 15 n (waa g) false] R=(letI z0:=ren 1 [(1,1)];(TEq [(3,.map 1),(7,.own 0 n),(8,.q (n:Int)),(9,.q 0)] [(3,.map 1),(7,.own 0 n),(8,.q (n:Int)),(9,.q (↑0:Int))]/\wac [(0,.row 47 15 n (waa g) false),(1,.amap (List.map (λ(p:AV×AV)=>(AV.rn z0 p.1,AV.rn z0 p.2)) []))] [(0,.row 47 15 n (waa g) false),(1,.amap (entM (cntL g 0)))])/\n<=1000000/\(∀(i:Nat),i<n->true=true)/\∃(O':oL7),wac [(0,.row 47 15 n (waa g) false),(1,.amap (List.map (λ(p:AV×AV)=>(AV.rn z0 p.1,AV.rn z0 p.2)) (entM (cntL g n))))] O'/\R (.map 1) O'):=by kernel_rfl
theorem w15(g:Nat->MG)(n k:Nat)(P:Nat->Prop)(R:eR7):waq ⟨te,[],[(1005,L_c5 (cntL g k) (g k) g n k)],1,22,0⟩ (wav Tryz.f90 3) [3,7,8,9] [3] [] (S_ct g n) P R (S_ct g n k)=(letI z2:=ren 1 [(1,1)];letI z1:=([(3,.map 1),(5,.ptr 2 0),(7,.own 0 n),(8,.q (n:Int)),(9,.q (k:Int))]:tL7);letI z0:=(g (k:Int).toNat);wab (decide ((k:Int)<(n:Int))) (((0:Int)<=(k:Int)/\(k:Int)<(n:Int))/\((k:Int).toNat<n/\15=15)/\(TEq z1 z1/\wac [(0,.row 47 15 n (waa g) false),(1,.amap (List.map (λ(p:AV×AV)=>(AV.rn (ren 1 [(1,1),(2,2)]) p.1,AV.rn (ren 1 [(1,1),(2,2)]) p.2)) (entM (cntL g k)))),(2,.cells [.str z0.dev,.q z0.seq,.q z0.kind,.str z0.v.o,.str z0.v.p,.q z0.v.per,.q z0.v.day,.q z0.v.st,.q z0.v.pr,.str z0.v.rep,.str z0.d.o,.str z0.d.p,.q z0.d.per,.str z0.d.dev,.q z0.d.num] 47)] [(0,.row 47 15 n (waa g) false),(1,.amap (entM (cntL g k))),(2,.cells [.str (g k).dev,.q (g k).seq,.q (g k).kind,.str (g k).v.o,.str (g k).v.p,.q (g k).v.per,.q (g k).v.day,.q (g k).v.st,.q (g k).v.pr,.str (g k).v.rep,.str (g k).d.o,.str (g k).d.p,.q (g k).d.per,.str (g k).d.dev,.q (g k).d.num] 47)])/\List.Nodup (List.map Prod.fst (cntL g k))/\inR .i64 (getC (cntL g k) (mk2 (g k))+1)/\inR .i64 ((k:Int)+1)/\∃(i':Nat),(TEq [(3,.map 1),(7,.own 0 n),(8,.q (n:Int)),(9,.q ((k:Int)+1))] [(3,.map 1),(7,.own 0 n),(8,.q (n:Int)),(9,.q (i':Int))]/\wac [(0,.row 47 15 n (waa g) false),(1,.amap (List.map (λ(p:AV×AV)=>(AV.rn z2 p.1,AV.rn z2 p.2)) (entM (addC (cntL g k) (mk2 (g k))))))] [(0,.row 47 15 n (waa g) false),(1,.amap (entM (cntL g i')))])/\P i') ((∀(i:Nat),i<n->true=true)/\∃(O':oL7),wac [(0,.row 47 15 n (waa g) false),(1,.amap (List.map (λ(p:AV×AV)=>(AV.rn z2 p.1,AV.rn z2 p.2)) (entM (cntL g k))))] O'/\R (.exit 0) (St.mk [(3,.map 1)] O' 2 []))):=by kernel_rfl
theorem nf_c5(L:List ((List UInt8×Int)×Int))(x:MG)(g:Nat->MG)(n k:Nat)(Q:eR7):regE ⟨te,[(64,.det wd1)],[],1,22,0⟩ (regC Tryz.f90 5) [3,5,7,8,9] Q (S_c5 L x g n k)=(letI z19:=ren 1 [(1,1),(2,2)];letI z18:=zvA (.q 0);letI z13:=(∀(i:Nat),i<n->true=true:Prop);letI z10:=([.str x.dev,.q x.seq,.q x.kind,.str x.v.o,.str x.v.p,.q x.v.per,.q x.v.day,.q x.v.st,.q x.v.pr,.str x.v.rep,.str x.d.o,.str x.d.p,.q x.d.per,.str x.d.dev,.q x.d.num]:List AV);letI z8:=([(3,.map 1),(5,.ptr 2 0),(7,.own 0 n),(8,.q (n:Int)),(9,.q (k:Int))]:tL7);letI z3:=([.str x.dev,.q x.seq]:List AV);letI z16:=mget (entM L) (.agg z3);letI z15:=(↑(midx (entM L) (.agg z3)):Int);letI z12:=(wa4 (Option.getD z16 z18)+1);letI z9:=wa8 te 103 (entM L)/\.q (wa4 (Option.getD z16 (.q 0)))=Option.getD z16 (.q 0);letI z7:=ment (.q 0) (entM L) (.agg z3);letI z20:=List.getD z7 z15.toNat (.any,.any);letI z11:=Option.getD (mget z7 (.agg z3)) z18;letI z17:=(wa4 z11+1);letI z14:=wa8 te 103 z7/\.q (wa4 z11)=Option.getD (mget z7 (.agg z3)) z18;letI z6:=((0:Int)<=z15/\z15<(z7.length:Int):Prop);letI z4:=([(0,.row 47 15 n (waa g) false),(1,.amap (List.map (λ(p:AV×AV)=>(AV.rn z19 p.1,AV.rn z19 p.2)) (List.set z7 z15.toNat (z20.1,.q z12)))),(2,.cells z10 47)]:oL7);letI z2:=([(0,.row 47 15 n (waa g) false),(1,.amap (List.map (λ(p:AV×AV)=>(AV.rn z19 p.1,AV.rn z19 p.2)) (List.set z7 z15.toNat (z20.1,.q z17)))),(2,.cells z10 47)]:oL7);letI z5:=(z14/\(inR .i64 z17/\z6/\z13/\∃(O':oL7),wac z2 O'/\Q .normal (St.mk z8 O' 3 []))/\inR .i64 z17/\z6/\z13/\∃(O':oL7),wac z2 O'/\Q .normal (St.mk z8 O' 3 []):Prop);letI z1:=((wa8 te 103 (entM L)/\.q (wa4 (Option.getD z16 z18))=Option.getD z16 z18)/\(inR .i64 z12/\z9/\z6/\z13/\∃(O':oL7),wac z4 O'/\Q .normal (St.mk z8 O' 3 []))/\z9/\(inR .i64 z12/\z6/\z13/\∃(O':oL7),wac z4 O'/\Q .normal (St.mk z8 O' 3 []))/\inR .i64 z12/\z6/\z13/\∃(O':oL7),wac z4 O'/\Q .normal (St.mk z8 O' 3 []):Prop);letI z0:=(True/\z1/\z9/\z5/\z14/\inR .i64 z17/\z6/\z13/\∃(O':oL7),wac z2 O'/\Q .normal (St.mk z8 O' 3 []));z0/\z0/\True/\z1/\z9/\z5/\z14/\inR .i64 z17/\z6/\z13/\∃(O':oL7),wac z2 O'/\Q .normal (St.mk z8 O' 3 [])):=by kernel_rfl
theorem wj5(hP:C.P=Tryz.prog):wae C 64 wd1:=by
 have _:C.Loose:=inferInstance;rintro args objs U Os vc h hvc;unfold wd1 at h;split at h<;>simp only[sI7,pI7,reduceCtorEq] at h;rename_i dev seq kind o p per day st pr rep o' p' per' dev' num;obtain⟨rfl,rfl,rfl⟩:=h;refine wae.wp0 (prg hP) [] 0 .nil (hP ▸ Tryz.func64) rfl rfl rfl ?_;have hn:=nf_mark ⟨dev,seq,kind,⟨o,p,per,day,st,pr,rep⟩,⟨o',p',per',dev',num⟩⟩;dsimp only at hn;rw[hn];exact⟨⟨trivial,trivial⟩,rfl,rfl⟩
def keyK(p:List UInt8×Int):AV:=.agg [.str p.1,.q p.2]
theorem wfs(a b:List UInt8×Int):keq (keyK a) (keyK b)=(decide (a.1=b.1) && decide (a.2=b.2)):=by simp[keyK,keq,keqL,keq0]
theorem wsu(p:List UInt8×Int):(decide (p.1=p.1) && decide (p.2=p.2))=true:=by simp
theorem wct(σ:Nat->Option Nat)(L:List ((List UInt8×Int)×Int)):(entM L).map (λp=>(AV.rn σ p.1,AV.rn σ p.2))=entM L:=by
 unfold entM;rw[List.map_map];rfl
theorem wk1{L:List ((List UInt8×Int)×Int)}(h:(L.map Prod.fst).Nodup):wa8 te 103 (entM L):=by
 refine⟨List.all_eq_true.2 λp hp=>?_,?_⟩
 ·obtain⟨r,_,rfl⟩:=List.mem_map.1 hp;have:∀(a:List UInt8) (b:Int),keyA te 103 (.agg [.str a,.q b])=true:=λa b=>by kernel_rfl
  exact this _ _
 ·have:(entM L).map Prod.fst=(L.map Prod.fst).map keyK:=by simp[entM,keyK]
  rw[this];refine List.pairwise_map.2 (h.imp λ{a b} hab he=>hab ?_);have q:=wfs a b;rw[he,wfs,wsu] at q;exact wel.1 q.symm
theorem wh7(p:List UInt8×Int):∀L:List ((List UInt8×Int)×Int),Option.getD (mget (entM L) (keyK p)) (.q 0)= .q (getC L p)
 |[]=>rfl
 |x::l=>by
  rw[getC];show Option.getD (match keq (keyK x.1) (keyK p) with | true=>some (.q x.2) | false=>mget (entM l) (keyK p)) _=_
  rw[wfs]
  cases decide (x.1.1=p.1) && decide (x.1.2=p.2) with
  |true=>rfl
  |false=>exact wh7 p l
theorem ment_K(p:List UInt8×Int):∀L:List ((List UInt8×Int)×Int),
  Option.getD (mget (ment (.q 0) (entM L) (keyK p)) (keyK p)) (.q 0)= .q (getC L p)/\midx (entM L) (keyK p)<(ment (.q 0) (entM L) (keyK p)).length/\
  (ment (.q 0) (entM L) (keyK p)).set (midx (entM L) (keyK p)) (((ment (.q 0) (entM L) (keyK p)).getD (midx (entM L) (keyK p)) (.any,.any)).1,.q (getC L p+1))=entM (addC L p)
 |[]=>by
  refine⟨?_,Nat.zero_lt_one,rfl⟩;show Option.getD (match keq (keyK p) (keyK p) with | true=>some (AV.q 0) | false=>none) _=_
  rw[wfs,wsu];rfl
 |x::l=>by
  obtain⟨i1,i2,i3⟩:=ment_K p l;have e1:ment (.q 0) (entM (x::l)) (keyK p)=match keq (keyK x.1) (keyK p) with | true=>(keyK x.1,AV.q x.2)::entM l | false=>(keyK x.1,AV.q x.2)::ment (.q 0) (entM l) (keyK p):=rfl
  have e2:midx (entM (x::l)) (keyK p)=match keq (keyK x.1) (keyK p) with | true=>0 | false=>midx (entM l) (keyK p)+1:=rfl
  rw[e1,e2,getC,addC,wfs]
  cases h:decide (x.1.1=p.1) && decide (x.1.2=p.2) with
  |true=>
   have e:=wel.1 h;refine⟨?_,Nat.succ_pos _,?_⟩
   ·show Option.getD (match keq (keyK x.1) (keyK p) with | true=>some (AV.q x.2) | false=>mget (entM l) (keyK p)) _=_
    rw[wfs,h];rfl
   ·show (keyK x.1,AV.q (x.2+1))::entM l=(keyK p,AV.q (x.2+1))::entM l;rw[e]
  |false=>
   refine⟨?_,Nat.succ_lt_succ i2,?_⟩
   ·show Option.getD (match keq (keyK x.1) (keyK p) with | true=>some (AV.q x.2) | false=>mget (ment (.q 0) (entM l) (keyK p)) (keyK p)) _=_
    rw[wfs,h];exact i1
   ·show (keyK x.1,AV.q x.2)::(ment (.q 0) (entM l) (keyK p)).set (midx (entM l) (keyK p)) (((ment (.q 0) (entM l) (keyK p)).getD (midx (entM l) (keyK p)) (.any,.any)).1,.q (getC l p+1))=(keyK x.1,AV.q x.2)::entM (addC l p);rw[i3]
theorem w3s{ES:List (AV×AV)}{i:Nat}{v:AV}(hi:i<ES.length)(h:wa8 te 103 (ES.set i ((ES.getD i (.any,.any)).1,v))):wa8 te 103 ES:=by
 have e:(ES.set i ((ES.getD i (.any,.any)).1,v)).map Prod.fst=ES.map Prod.fst:=by
  apply List.ext_getElem
  ·simp
  ·intro j h1 h2;simp only[List.getElem_map,List.getElem_set];split
   ·rename_i e;subst e;simp[hi]
   ·rfl
 obtain⟨h1,h2⟩:=h;rw[e] at h2;refine⟨?_,h2⟩;have f:∀l:List (AV×AV),(l.all λp=>keyA te 103 p.1)=(l.map Prod.fst).all λk=>keyA te 103 k:=λl=>by rw[List.all_map];rfl
 rw[f] at h1 ⊢;rw[e] at h1;exact h1
theorem c5_ok(hP:C.P=Tryz.prog)(L:List ((List UInt8×Int)×Int))(x:MG)(g:Nat->MG)(n k:Nat):waf C 1 22 (regC Tryz.f90 5) (L_c5 L x g n k):=by
 rintro st Q ⟨h0,hnd,hin,hQ⟩;refine waf.regE (prg hP) [(64,.det wd1)] 0 (.cons (wj5 hP) .nil) [3,5,7,8,9] [3,5,7,8,9] h0 ?_ ⟨λ_ _=>rfl,trivial⟩;have zz:zvA (.q 0)= .q 0:=rfl;rw[nf_c5,zz];have F1:Option.getD (mget (entM L) (.agg [.str x.dev,.q x.seq])) (.q 0)= .q (getC L (mk2 x)):=wh7 (mk2 x) L;obtain⟨F3,F4,F5⟩:=ment_K (mk2 x) L;have K1:=wk1 hnd;have K2:wa8 te 103 (ment (.q 0) (entM L) (keyK (mk2 x))):=w3s F4 (F5.symm ▸ wk1 (wrx (mk2 x) hnd));change Option.getD (mget (ment (.q 0) (entM L) (.agg [.str x.dev,.q x.seq])) (.agg [.str x.dev,.q x.seq])) (.q 0)= .q (getC L (mk2 x)) at F3;change midx (entM L) (.agg [.str x.dev,.q x.seq])<(ment (.q 0) (entM L) (.agg [.str x.dev,.q x.seq])).length at F4;change (ment (.q 0) (entM L) (.agg [.str x.dev,.q x.seq])).set (midx (entM L) (.agg [.str x.dev,.q x.seq])) (((ment (.q 0) (entM L) (.agg [.str x.dev,.q x.seq])).getD (midx (entM L) (.agg [.str x.dev,.q x.seq])) (.any,.any)).1,.q (getC L (mk2 x)+1))=entM (addC L (mk2 x)) at F5;change wa8 te 103 (ment (.q 0) (entM L) (.agg [.str x.dev,.q x.seq])) at K2;have F6:(0:Int)<=(midx (entM L) (.agg [.str x.dev,.q x.seq]):Int)/\(midx (entM L) (.agg [.str x.dev,.q x.seq]):Int)<((ment (.q 0) (entM L) (.agg [.str x.dev,.q x.seq])).length:Int):=by omega
 simp only[F1,F3,wa4,tN7,F5,wct];have leaf:∃O',wac (S_c5 (addC L (mk2 x)) x g n k).O O'/\Q .normal ⟨(S_c5 (addC L (mk2 x)) x g n k).T,O',3,[]⟩:=⟨_,was _,hQ⟩;have all:∀i,i<n->True:=λ_ _=>trivial;have K1:=(and_true (wa8 te 103 (entM L))).symm ▸ K1
 repeat' first | exact leaf | exact trivial | exact K1 | exact K2 | exact⟨K2,trivial⟩ | exact hin | exact F6 | exact all | refine And.intro ?_ ?_
theorem ct_loop(hP:C.P=Tryz.prog)(g:Nat->MG)(n:Nat):waf C 1 22 (wah Tryz.f90 3) (L_ct g n):=by
 rintro st Q ⟨h0,hn,hQ⟩;refine waf.mkI (prg hP) [] (λk=>[(1005,L_c5 (cntL g k) (g k) g n k)]) 0 .nil (λk=>[(regC Tryz.f90 5,L_c5 (cntL g k) (g k) g n k)]) (λk=>by kernel_rfl) (λk=>⟨c5_ok hP _ _ g n k,trivial⟩) [3,7,8,9] [3] [] (S_ct g n) (λk=>k<=n) (λk=>n - k) 0 (zL7 _) h0 (λk hk=>?_) (λk=>⟨λ_ _=>rfl,trivial⟩);rw[w15,tN7,wct];have hb:=wko g (mk2 (g k)) k;have hc:=wp7 g (mk2 (g k)) k;refine wag (λh1=>⟨⟨by omega,by omega⟩,⟨by omega,rfl⟩,⟨rfl,rQ7,rfl,rfl,trivial⟩,wk6 g k,by simp only[inR];omega,by simp only[inR];omega,k+1,⟨rfl,rQ7,?_,trivial⟩,by omega,by omega⟩) (λh1=>?_)
 ·rw[wct];rfl
 ·have:k=n:=by omega
  subst this;rw[wct];exact⟨λ_ _=>rfl,_,was _,hQ⟩
theorem wv3(hP:C.P=Tryz.prog):wae C 90 whg:=by
 rintro args objs U Os vc h hvc;unfold whg at h;split at h<;>cases h;rename_i n t m f fr;obtain⟨rfl,rfl,rfl,hn,hf⟩:=hvc;generalize mgOf f=g at *;subst hf;refine wae.wpL (prg hP) [] [(3,L_ct g n)] 0 .nil (hP ▸ Tryz.func90) rfl rfl rfl [(wah Tryz.f90 3,L_ct g n)] (by kernel_rfl) ⟨ct_loop hP g n,trivial⟩ ?_;rw[w17,wct];exact⟨⟨rfl,rQ7,rfl,trivial⟩,hn,λ_ _=>rfl,_,was _,rfl,rfl⟩
end Go.Eng
