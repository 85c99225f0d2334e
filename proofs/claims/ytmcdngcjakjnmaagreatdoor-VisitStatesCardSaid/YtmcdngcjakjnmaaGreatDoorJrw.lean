/- counts: what it answers. -/
import Derived.Test.YtmcdngcjakjnmaaGreatDoorJru
import Derived.Test.YtmcdngcjakjnmaaGreatDoorJrv
namespace Go.Eng
def ckL(K:List (List UInt8×Int)):Nat->List ((List UInt8×Int)×Bool)
 |0=>[]
 |k+1=>setA (ckL K k) (atK K k) true
def clnM(K:List ((List UInt8×Int)×Bool))(m:MG):Bool:=(getA K (mk2 m)).getD false
def mnL(K:List ((List UInt8×Int)×Bool))(M:List MG)(k:Nat):List MG:=(lst (atM M) k).filter λm=> !clnM K m
theorem mnL_sn(K:List ((List UInt8×Int)×Bool))(M:List MG)(k:Nat):mnL K M (k+1)=bif clnM K (atM M k) then mnL K M k else mnL K M k++[atM M k]:=by
 unfold mnL;rw[wfy,List.filter_append]
 cases h:clnM K (atM M k) with
 |true=>simp[h]
 |false=>simp[h]
theorem mnL_len(K:List ((List UInt8×Int)×Bool))(M:List MG)(k:Nat):(mnL K M k).length<=k:=by
 have:=List.length_filter_le (λm=> !clnM K m) (lst (atM M) k);unfold mnL;simp[lst] at this ⊢;exact this
theorem wp5(K:List (List UInt8×Int)):∀k,((ckL K k).map Prod.fst).Nodup
 |0=>.nil
 |k+1=>wg4 (wp5 K k) _ _
theorem wuu(K:List (List UInt8×Int))(p:List UInt8×Int):∀k,(getA (ckL K k) p).getD false=decide (∃i,i<k/\atK K i=p)
 |0=>by simp[ckL,getA]
 |k+1=>by
  have ih:=wuu K p k;rw[ckL,wf3]
  by_cases h:atK K k=p
  ·rw[decide_eq_true h,cond_true,decide_eq_true ⟨k,by omega,h⟩];rfl
  ·rw[decide_eq_false h,cond_false,ih];congr 1;refine propext ⟨λ⟨i,hi,e⟩=>⟨i,by omega,e⟩,λ⟨i,hi,e⟩=>⟨i,?_,e⟩⟩
   rcases Nat.lt_or_ge i k with q | q
   ·exact q
   ·have:i=k:=by omega
    subst this;exact absurd e h
theorem wkd{M:List MG}{x:List UInt8×Int}:∀ {k},x∈clnP M k->1<numC (atM M) x M.length
 |0,h=>by simp[clnP] at h
 |k+1,h=>by
  rw[clnP] at h
  by_cases q:1<numC (atM M) (mk2 (atM M k)) M.length
  ·cases q2:decide (1<numC (atM M) (mk2 (atM M k)) M.length) && (decide ((clnP M k).length=0) || !smK (atK (clnP M k) ((clnP M k).length - 1)) (mk2 (atM M k))) with
   |true=>
    rw[q2,cond_true] at h
    rcases List.mem_append.1 h with h | h
    ·exact wkd h
    ·rw[List.mem_singleton.1 h];exact q
   |false=>rw[q2,cond_false] at h;exact wkd h
  ·rw[decide_eq_false q,Bool.false_and,cond_false] at h;exact wkd h
theorem wur{M:List MG}{x:List UInt8×Int}{k:Nat}(h:x∈clnP M k):∀d,x∈clnP M (k+d)
 |0=>h
 |d+1=>by
  have ih:=wur h d;rw[show k+(d+1)=k+d+1 from rfl,clnP]
  cases decide (1<numC (atM M) (mk2 (atM M (k+d))) M.length) && (decide ((clnP M (k+d)).length=0) || !smK (atK (clnP M (k+d)) ((clnP M (k+d)).length - 1)) (mk2 (atM M (k+d)))) with
  |true=>exact List.mem_append_left _ ih
  |false=>exact ih
theorem wus{M:List MG}{x:List UInt8×Int}:x∈clnP M M.length↔1<numC (atM M) x M.length:=by
 refine⟨wkd,λh=>?_⟩;obtain⟨i,j,hij,hj,e1,e2⟩:=(whb _ _ _).1 h;have h':=h;rw[← e2] at h';obtain⟨h1,h2⟩:=w20 (k:=j) h';have hm:x∈clnP M (j+1):=by
  rw[← e2, ← h2];exact wu3 (by omega)
 have:=wur hm (M.length - (j+1))
 rwa [show j+1+(M.length - (j+1))=M.length by omega] at this
theorem w0m(g:Nat->MG)(n:Nat):mnL (ckL (wb5 g n) (wb5 g n).length) (mrgL g n noM 0) (mrgL g n noM 0).length=wak g n:=by
 unfold mnL wak;rw[wc4];refine List.filter_congr λm _=>?_;unfold clnM;rw[wuu];congr 2;refine propext ⟨λ⟨i,hi,e⟩=>?_,λh=>?_⟩
 ·have:=wu3 hi;rw[e] at this;exact wus.1 this
 ·have:=wus.2 h;obtain⟨i,hi,e⟩:=List.getElem_of_mem this;refine⟨i,hi,?_⟩;unfold atK;rw[List.getD_eq_getElem?_getD];have hi':i<(wb5 g n).length:=hi;rw[List.getElem?_eq_getElem hi'];exact e
theorem wxh{B:List (SL×List MG)}{s:SL}{m:MG}(h:s ∉ B.map Prod.fst):putB B s m=B++[(s,[m])]:=by
 induction B with
 |nil=>rfl
 |cons x B ih=>
  rw[List.map_cons,List.mem_cons,not_or] at h;rw[putB,decide_eq_false (λq=>h.1 q.symm),cond_false,ih h.2];rfl
theorem putB_at{B:List (SL×List MG)}(hn:(B.map Prod.fst).Nodup){j:Nat}(hj:j<B.length){s:SL}{m:MG}(h:(B[j]).1=s):putB B s m=B.set j (s,(B[j]).2++[m]):=by
 induction B generalizing j with
 |nil=>exact absurd hj (nZ7 j)
 |cons x B ih=>
  rw[List.map_cons,List.nodup_cons] at hn
  cases j with
  |zero=>
   have h:x.1=s:=h;rw[putB,decide_eq_true h,cond_true, ← h];rfl
  |succ j=>
   have hj':j<B.length:=by simpa using hj
   have h':(B[j]).1=s:=h;have hne:¬ x.1=s:=λq=>hn.1 (by rw[q, ← h'];exact List.mem_map_of_mem (List.getElem_mem hj'));rw[putB,decide_eq_false hne,cond_false,ih hn.2 hj' h'];rfl
theorem wuy{l:List MG}{x:SL×List MG}(h:x∈wai l):0<x.2.length/\x.2.length<=l.length:=by
 have e:=wu0 h;have hk:x.1∈(wai l).map Prod.fst:=List.mem_map_of_mem h;obtain⟨m,hm,hs⟩:=(wo8 x.1 l).1 hk;rw[e];refine⟨List.length_pos_of_mem (List.mem_filter.2 ⟨hm,decide_eq_true hs⟩),List.length_filter_le _ _⟩
def entG{κ α:Type}(kv:κ->AV)(vv:α->AV)(L:List (κ×α)):List (AV×AV):=L.map λx=>(kv x.1,vv x.2)
def keyD(p:List UInt8×Int):AV:=.agg [.str p.1,.q p.2]
def keyS(s:SL):AV:=.agg [.str s.o,.str s.p,.q s.per]
def vwM(l:List MG):AV:=.view 15 l.length (waa (atM l))
def esB(B:List (SL×List MG))(vs:List Value):List (AV×Value):=(B.zip vs).map λp=>(keyS p.1.1,p.2)
def fmB(B:List (SL×List MG))(vs:List Value):List FE:=(B.zip vs).map λp=>(p.2,p.1.2.length,waa (atM p.1.2))
def S_oa(g:Nat->MG)(n:Nat)(K:List (List UInt8×Int))(k:Nat):St:=⟨[(0,.view 15 n (waa g)),(3,.ptr 0 0),(4,.map 1),(15,.view 2 K.length (wb9 (atK K))),(16,.q K.length),(17,.q k),(2,.ptr 2 0)],
 [(0,.cells [.map 3,.nil] 72),(1,.amap (entG keyD .bool (ckL K k))),(2,.cells [.nilmap,.nil] 72),(3,.amap [])],4,[]⟩
def L_oa(g:Nat->MG)(n:Nat)(K:List (List UInt8×Int)):waq:=λst Q=>canonIs te 0 [0,3,4,15,16,17,2] st (S_oa g n K 0)/\K.length<=100000/\
 Q (.exit 0) ⟨[(0,.view 15 n (waa g)),(3,.ptr 0 0),(4,.map 1),(2,.ptr 2 0)],[(0,.cells [.map 3,.nil] 72),(1,.amap (entG keyD .bool (ckL K K.length))),(2,.cells [.nilmap,.nil] 72),(3,.amap [])],4,[]⟩
def S_ob(es:List (AV×Value))(j:Nat)(K:List ((List UInt8×Int)×Bool))(M:List MG)(k:Nat):St:=⟨[(3,.ptr 0 0),(4,.map 1),(25,.own 2 M.length),(26,.int .i64 M.length),(27,.int .i64 k),(2,.ptr 3 0)],
 [(0,.cells [.map 4,.nil] 72),(1,.amap (entG keyD .bool K)),(2,.row 47 15 M.length (waa (atM M)) false),(3,.cells [.nilmap,.nil] 72),(4,.rmap es j none)],5,[]⟩
def S_oc(es:List (AV×Value))(j:Nat)(L:List MG)(K:List ((List UInt8×Int)×Bool))(M:List MG)(k:Nat):St:=⟨[(3,.ptr 0 0),(4,.map 1),(25,.own 2 M.length),(26,.int .i64 M.length),(27,.int .i64 k),(2,.ptr 3 0)],
 [(0,.cells [.map 4,.nil] 72),(1,.amap (entG keyD .bool K)),(2,.row 47 15 M.length (waa (atM M)) false),(3,.cells [.nilmap,.nil] 72),(4,.rmap es j (some (.own 5 L.length))),(5,.row 47 15 L.length (waa (atM L)) false)],6,[]⟩
structure OC where
 es:List (AV×Value)
 j:Nat
 L:List MG
 k:Nat
def S_oi(K:List ((List UInt8×Int)×Bool))(M:List MG)(i:OC):St:=S_oc i.es i.j i.L K M i.k
def Q_ob(es:List (AV×Value))(j:Nat)(e:Exit)(s:St):Prop:=e= .exit 2/\s=⟨[(3,.ptr 0 0),(2,.ptr 1 0)],[(0,.cells [.map 2,.nil] 72),(1,.cells [.nilmap,.nil] 72),(2,.rmap es j none)],3,[]⟩
def L_ob(K:List ((List UInt8×Int)×Bool))(M:List MG):waq:=λst Q=>canonIs te 0 [3,4,25,26,27,2] st ⟨[(3,.ptr 0 0),(4,.map 1),(25,.own 2 M.length),(26,.q M.length),(27,.q 0),(2,.ptr 3 0)],
  [(0,.cells [.map 4,.nil] 72),(1,.amap (entG keyD .bool K)),(2,.row 47 15 M.length (waa (atM M)) false),(3,.cells [.nilmap,.nil] 72),(4,.amap [])],5,[]⟩/\M.length<=100000/\(K.map Prod.fst).Nodup/\
 Q (.exit 2) ⟨[(3,.ptr 0 0),(2,.ptr 1 0)],[(2,.amap (entG keyS vwM (wai (mnL K M M.length)))),(0,.cells [.map 2,.nil] 72),(1,.cells [.nilmap,.nil] 72)],3,[]⟩
structure OI where
 c:Nat
 h:Nat->SL
 c0:Nat
 left:List Nat
def S_od(B:List (SL×List MG))(i:OI):St:=⟨[(3,.ptr 0 0),(54,.ptr 1 0),(2,.ptr 2 0)],
 [(0,.cells [.map 3,.own 4 i.c] 72),(1,.miter 3 B.length (69::i.c0::i.left)),(2,.cells [.nilmap,.nil] 72),(3,.amap (entG keyS vwM B)),(4,.row 78 3 i.c (wap i.h) false)],5,[]⟩
def L_od(B:List (SL×List MG)):waq:=λst Q=>canonIs te 0 [3,54,2] (ownNilP 3 1 78 3 st) (S_od B ⟨0,λ_=>default,B.length,List.range B.length⟩)/\B.length<=100000/\(∀x∈B,x.2.length<=100000)/\
 ∀(E:List (SL×List MG)) (h:Nat->SL) (c:Nat),E.Perm B->lst h c=(E.filter λx=>hasV x.2).map Prod.fst->Q (.exit 4) ⟨[(3,.ptr 0 0),(2,.ptr 1 0)],[(0,.cells [.map 2,.own 3 c] 72),(1,.cells [.nilmap,.nil] 72),(2,.amap (entG keyS vwM B)),(3,.row 78 3 c (wap h) false)],4,[]⟩
end Go.Eng
namespace Go.Eng
open Go.Proofs Go.RowKit Go.Sort
def entF(es:List (AV×AV))(i:Nat):List AV:=[(es.getD i (.any,.any)).1,(es.getD i (.any,.any)).2]
theorem entsV_F(es:List (AV×AV)):wfd es.length (entF es)=es:=by
 apply List.ext_getElem?;intro i;unfold wfd;rw[List.getElem?_map]
 rcases Nat.lt_or_ge i es.length with h | h
 ·rw[List.getElem?_range h,Option.map_some,List.getElem?_eq_getElem h];simp[entF,h]
 ·rw[List.getElem?_eq_none (by simpa using h),List.getElem?_eq_none h];rfl
end Go.Eng
namespace Go.Eng
def frzM(r:Nat)(es:List (AV×AV)):AV->AV
 |.map r'=>match Nat.beq r' r with
  |true=>.vmap es.length (entF es)
  |false=>.map r'
 |u=>u
def frzMA(r:Nat)(es:List (AV×AV)):AV->AV
 |.agg cs=>.agg (cs.map (frzM r es))
 |u=>frzM r es u
section
variable {C:Ctx} {E:Ent} {O O':Nat->Option AObj} {bs:Nat->Option Hd} {w:World} {r:Nat} {es:List (AV×AV)}
theorem V.frzM(hW:WRep C E O bs w)(hr0:O r=some (.amap es))(hes:∀p∈es,nref p.1=true/\nref p.2=true)(hO:∀k o,O' k=some o->k≠r/\O k=some o)(hS:Step w (MB E O bs) bs w (MB E O' bs) bs){v:Value}{u:AV}(h:V w (MB E O bs) bs v u):
  V w (MB E O' bs) bs v (Eng.frzM r es u):=by
 cases u with
 |map r'=>
  show V w (MB E O' bs) bs v (match Nat.beq r' r with | true=>AV.vmap es.length (entF es) | false=>AV.map r')
  split
  ·rename_i hb;have e:=Nat.eq_of_beq_eq_true hb;subst e
   cases h with | map hbr=>
   rename_i b' c';obtain⟨b,c,ents,clock,h1,h2,h3,h4⟩:=hW.obj r' _ hr0;rw[h1] at hbr;injection hbr with hbr;injection hbr with e1 e2;subst e1;have hmb:mutB O bs b:=⟨r',_,c,hr0,rfl,h1⟩;refine .vmap (λhM=>?_) (hW.lt r' b c h1) h2 h3.1 (λi e u he hu=>?_) (λi e u he hu=>?_)
   ·rcases hM with hM | ⟨k,o,c2,g1,g2,g3⟩
    ·exact hW.out b hmb hM
    ·obtain⟨q1,q2⟩:=hO k o g1;exact q1 (hW.sep k r' o _ b c2 c q2 hr0 g2 rfl g3 h1)
   ·have hi:i<es.length:=by rw[← h3.1];exact(Array.getElem?_eq_some_iff.1 he).1
    have hp:es[i]?=some es[i]:=List.getElem?_eq_getElem hi;obtain⟨a1,_⟩:=h3.2 i e _ he hp;have:u=(es[i]).1:=by
     simp[entF,hi] at hu;exact hu.symm
    rw[this];exact a1.free hS.far hS.heap hS.size nob (hes _ (List.getElem_mem hi)).1
   ·have hi:i<es.length:=by rw[← h3.1];exact(Array.getElem?_eq_some_iff.1 he).1
    have hp:es[i]?=some es[i]:=List.getElem?_eq_getElem hi;obtain⟨_,a2⟩:=h3.2 i e _ he hp;have:u=(es[i]).2:=by
     simp[entF,hi] at hu;exact hu.symm
    rw[this];exact a2.free hS.far hS.heap hS.size nob (hes _ (List.getElem_mem hi)).2
  ·exact h.step hS
 |_=>exact h.step hS
theorem V.frzMA(hW:WRep C E O bs w)(hr0:O r=some (.amap es))(hes:∀p∈es,nref p.1=true/\nref p.2=true)(hO:∀k o,O' k=some o->k≠r/\O k=some o)(hS:Step w (MB E O bs) bs w (MB E O' bs) bs){v:Value}{u:AV}(h:V w (MB E O bs) bs v u):
  V w (MB E O' bs) bs v (Eng.frzMA r es u):=by
 cases u with
 |agg cs=>
  cases h with | agg hl h1 hv=>
  refine .agg (by simp[hl]) h1 λj v u hj hu=>?_;rw[List.getElem?_map] at hu;obtain⟨u0,h0,rfl⟩:=Option.map_eq_some_iff.1 hu;exact V.frzM hW hr0 hes hO hS (hv j v u0 hj h0)
 |_=>exact V.frzM hW hr0 hes hO hS h
end
def frzMO(r:Nat)(R:AV->List (Nat×AObj)->Prop)(u:AV)(O:List (Nat×AObj)):Prop:=match lk O r with
 |some (.amap es)=>(∀p∈es,nref p.1=true/\nref p.2=true)/\R (frzMA r es u) (rm r O)
 |_=>R u O
theorem war.frzMO{C:Ctx}{f:FuncId}{args:List AV}{objs:List AObj}{R:AV->List (Nat×AObj)->Prop}(r:Nat)(h:war C f args objs (Eng.frzMO r R)):war C f args objs R:=by
 refine⟨h.1,λE bs w cargs h1 h2 h3 h4 h5 h6 h7=>?_⟩;refine(h.2 E bs w cargs h1 h2 h3 h4 h5 h6 h7).mono ?_;rintro e w' ⟨v,u,O',bs',r1,hR0,r3,r4,r5⟩;unfold Eng.frzMO at hR0;split at hR0
 ·rename_i es hO;obtain⟨hg,hR⟩:=hR0;have hk:∀k o,lk (rm r O') k=some o->k≠r/\lk O' k=some o:=λk o ho=>by
   obtain⟨q1,q2⟩:=wca r O' k o ho;exact⟨λe=>q1 e.symm,q2⟩
  obtain⟨hS2,hW2⟩:=r3.less (O':=lk (rm r O')) λk o ho=>(hk k o ho).2;refine⟨v,_,rm r O',bs',r1,hR,hW2,V.frzMA r3 hO hg hk hS2 r4,λk hk=>⟨?_,(r5 k hk).2⟩⟩
  cases hx:lk (rm r O') k with
  |none=>rfl
  |some o=>
   have:=(wca r O' k o hx).2;rw[(r5 k hk).1] at this;cases this
 ·exact⟨v,u,O',bs',r1,hR0,r3,r4,r5⟩
def wli:Spec
 |[.view 15 n f],[]=>some (.agg [.vmap (wai (wak (mgOf f) n)).length (entF (entG keyS vwM (wai (wak (mgOf f) n)))),.view 3 (visL (wak (mgOf f) n)).length (wap (atS (visL (wak (mgOf f) n))))],[],n<=100000/\f=waa (mgOf f)/\∀i,i<n->(mgOf f i).Sm)
 |_,_=>none
structure BkOK (R:List MG):Prop where
 right:RightL R
 len:R.length<=100000
 sm:∀m∈R,m.Sm
def wlc(R:List MG):Spec
 |[.agg [.vmap nb fb,.view 3 _ _],.agg [.str o,.str p,.int .i64 per]],[]=>
   some (.tuple [.agg [.str (resB R ⟨o,p,per⟩).1.o,.str (resB R ⟨o,p,per⟩).1.p,.q (resB R ⟨o,p,per⟩).1.per,.q (resB R ⟨o,p,per⟩).1.day,.q (resB R ⟨o,p,per⟩).1.st,.q (resB R ⟨o,p,per⟩).1.pr,.str (resB R ⟨o,p,per⟩).1.rep],.q (resB R ⟨o,p,per⟩).2],[],
    nb=(wai R).length/\fb=entF (entG keyS vwM (wai R))/\BkOK R/\(⟨o,p,per⟩:SL)∈visL R)
 |_,_=>none
def uRow(g:Nat->Int)(i:Nat):List AV:=[.int .u32 (g i)]
def uOf(f:Nat->List AV)(i:Nat):Int:=match f i with
 |[.int .u32 n]=>n
 |_=>0
def lowI(g:Nat->Int):Nat->Nat
 |0=>0
 |k+1=>bif decide (g k=0) then lowI g k else k+1
def wlr:Spec
 |[.own 0 n],[.row t 1 m f fr]=>some (.own 0 (lowI (uOf f) n),[(0,.row 124 1 n f false)],t=124/\fr=false/\n=m/\n<=1000/\∀i,i<n->f i=uRow (uOf f) i)
 |_,_=>none
def wgo(g:Nat->Int)(n k:Nat):St:=⟨[(0,.own 0 k)],[(0,.row 124 1 n (uRow g) false)],1,[]⟩
def wnc(g:Nat->Int)(n:Nat):waq:=λst Q=>canonIs te 1 [0] st (wgo g n n)/\n<=1000/\Q (.exit 0) (wgo g n (lowI g n))
def lmF(v:Int)(i:Nat):Int:=if i=0 then v % 4294967296 else if i=1 then v / 4294967296 else 0
def lmN(v:Int):Nat:=lowI (lmF v) 2
def weq:Spec
 |[.own 0 n],[.row t 1 m f fr]=>some (.view 1 (lowI (uOf f) n) (uRow (uOf f)),[(0,.row 124 1 n f false)],t=124/\fr=false/\n=m/\n<=1000/\∀i,i<n->f i=uRow (uOf f) i)
 |_,_=>none
def wet:Spec
 |[.int .u64 v],[]=>some (.view 1 (lmN v) (uRow (lmF v)),[],0<=v/\v<18446744073709551616)
 |_,_=>none
def weo:Spec
 |[.int .i64 v],[]=>some (.view 1 (lmN v) (uRow (lmF v)),[],0<=v/\v<9223372036854775808)
 |_,_=>none
def weu:Spec
 |[.int .i64 v],[]=>some (.agg [.bool false,.view 1 (lmN v) (uRow (lmF v)),.nil],[],0<=v/\v<9223372036854775808)
 |_,_=>none
def bsF(g:Nat->SL)(s:SL)(n:Nat):Nat:=fstB (λi=> !decide (ordS (g i) s<0)) n
def S_bs:Spec
 |[.view 3 n f,.agg [.str o,.str p,.int .i64 per],.func 42 []],[]=>some (.tuple [.q (bsF (slOf f) ⟨o,p,per⟩ n),.bool (decide (bsF (slOf f) ⟨o,p,per⟩ n<n) && decide (ordS (slOf f (bsF (slOf f) ⟨o,p,per⟩ n)) ⟨o,p,per⟩=0))],[],
   n<=1000000/\f=wap (slOf f)/\∀i j,i<j->j<n->ordS (slOf f i) (slOf f j)<0)
 |_,_=>none
structure BI where
 a:Nat
 b:Nat
def wmo(g:Nat->SL)(s:SL)(n:Nat)(i:BI):St:=⟨[(0,.view 3 n (wap g)),(2,.func 42 []),(4,.ptr 0 0),(8,.q n),(9,.q i.a),(10,.q i.b)],[(0,.cells [.str s.o,.str s.p,.q s.per] 78)],1,[]⟩
def L_bs(g:Nat->SL)(s:SL)(n:Nat):waq:=λst Q=>canonIs te 0 [0,2,4,8,9,10] st (wmo g s n ⟨0,n⟩)/\n<=1000000/\(∀i j,i<j->j<n->ordS (g i) (g j)<0)/\
 Q (.exit 0) ⟨[(0,.view 3 n (wap g)),(2,.func 42 []),(4,.ptr 0 0),(8,.q n),(9,.q (bsF g s n))],[(0,.cells [.str s.o,.str s.p,.q s.per] 78)],1,[]⟩
def keyE(p:List UInt8×List UInt8):AV:=.agg [.str p.1,.str p.2]
def vI(c:Int):AV:=.q c
def entE(L:List ((List UInt8×List UInt8)×Int)):List (AV×AV):=entG keyE vI L
def way(L:List (SL×Int)):List (AV×AV):=entG keyS vI L
def entW(L:List (SL×Bool)):List (AV×AV):=entG keyS .bool L
def S_u1(R:List MG)(k:Nat):St:=⟨[(3,.ptr 0 0),(4,.map 1),(5,.map 2),(6,.map 3),(7,.own 4 (ob1 R (visL R) k).r.length),(35,.view 3 (visL R).length (wap (atS (visL R)))),(36,.q (visL R).length),(37,.q k)],
 [(0,.cells [.vmap (wai R).length (entF (entG keyS vwM (wai R))),.view 3 (visL R).length (wap (atS (visL R)))] 72),(1,.amap (entE (ob1 R (visL R) k).e)),(2,.amap (way (ob1 R (visL R) k).p)),(3,.amap []),(4,.row 43 7 (ob1 R (visL R) k).r.length (wae (atX (ob1 R (visL R) k).r)) false)],5,[]⟩
def L_u1(R:List MG):waq:=λst Q=>canonIs te 0 [3,4,5,6,7,35,36,37] (ownNil 7 43 7 st) (S_u1 R 0)/\BkOK R/\
 Q (.exit 0) ⟨[(3,.ptr 0 0),(4,.map 1),(5,.map 2),(6,.map 3),(7,.own 4 (repL R).length)],
  [(0,.cells [.vmap (wai R).length (entF (entG keyS vwM (wai R))),.view 3 (visL R).length (wap (atS (visL R)))] 72),(1,.amap (entE (obE R))),(2,.amap (way (obW R 0).p)),(3,.amap []),(4,.row 43 7 (repL R).length (wae (atX (repL R))) false)],5,[]⟩
def S_u2(R:List MG)(k:Nat):St:=⟨[(3,.ptr 0 0),(4,.map 1),(5,.map 2),(6,.map 3),(91,.own 4 (repL R).length),(92,.q (repL R).length),(93,.q k)],
 [(0,.cells [.vmap (wai R).length (entF (entG keyS vwM (wai R))),.view 3 (visL R).length (wap (atS (visL R)))] 72),(1,.amap (entE (obE R))),(2,.amap (way (obW R k).p)),(3,.amap (entW (obW R k).w)),(4,.row 43 7 (repL R).length (wae (atX (repL R))) false)],5,[]⟩
def L_u2(R:List MG):waq:=λst Q=>canonIs te 0 [3,4,5,6,91,92,93] st (S_u2 R 0)/\BkOK R/\
 Q (.exit 3) ⟨[(5,.map 0),(6,.map 1)],[(0,.amap (way (obN R).p)),(1,.amap (entW (obN R).w))],2,[]⟩
def S_u3(P:List (SL×Int))(W:List (SL×Bool))(i:OI):St:=⟨[(5,.map 0),(6,.map 1),(24,.own 2 i.c),(152,.ptr 3 0)],
 [(0,.amap (way P)),(1,.amap (entW W)),(2,.row 78 3 i.c (wap i.h) false),(3,.miter 0 P.length (75::i.c0::i.left))],4,[]⟩
def L_u3(P:List (SL×Int))(W:List (SL×Bool)):waq:=λst Q=>canonIs te 0 [5,6,24,152] (ownNil 24 78 3 st) (S_u3 P W ⟨0,λ_=>default,P.length,List.range P.length⟩)/\(P.map Prod.fst).Nodup/\(W.map Prod.fst).Nodup/\P.length<=200000/\
 ∀(E:List (SL×Int)) (h:Nat->SL) (c:Nat),E.Perm P->lst h c=(E.map Prod.fst).filter (λt=> !wrgB W t)->Q (.exit 5) ⟨[(5,.map 0),(24,.own 1 c)],[(0,.amap (way P)),(1,.row 78 3 c (wap h) false)],2,[]⟩
def wdt(L:List SL)(pr:SL->Int)(i:Nat):List AV:=[.str (atS L i).o,.str (atS L i).p,.q (atS L i).per,.bool false,.view 1 (lmN (pr (atS L i))) (uRow (lmF (pr (atS L i)))),.nil]
def S_u4(P:List (SL×Int))(L:List SL)(pr:SL->Int)(k:Nat):St:=⟨[(5,.map 0),(26,.own 1 k),(167,.own 2 L.length),(168,.q L.length),(169,.q k)],
 [(0,.amap (way P)),(1,.row 41 6 k (wdt L pr) false),(2,.row 78 3 L.length (wap (atS L)) false)],3,[]⟩
def L_u4(P:List (SL×Int))(L:List SL)(pr:SL->Int):waq:=λst Q=>canonIs te 0 [5,26,167,168,169] (ownNil 26 41 6 st) (S_u4 P L pr 0)/\(P.map Prod.fst).Nodup/\L.length<=200000/\(∀s∈L,getA P s=some (pr s)/\0<=pr s/\pr s<9223372036854775808)/\
 Q (.exit 7) ⟨[(26,.own 0 L.length)],[(0,.row 41 6 L.length (wdt L pr) false)],1,[]⟩
def S_obs:Spec
 |[.view 15 n f],[]=>some (.view 6 (obL (wak (mgOf f) n)).length (wdt (obL (wak (mgOf f) n)) (obP (wak (mgOf f) n))),[],n<=100000/\f=waa (mgOf f)/\∀i,i<n->(mgOf f i).Sm)
 |_,_=>none
def wma:Spec
 |[.own 0 n,.int .i64 x],[.row t 1 m f fr]=>some (.q (ixB (λi=>decide (x=vInt f i)) n),[(0,.row 3 1 n (waf (vInt f)) false)],t=3/\fr=false/\n=m/\n<=100000/\f=waf (vInt f))
 |_,_=>none
def wl9(v:Nat->Int)(x:Int)(n k:Nat):St:=⟨[(0,.own 0 n),(1,.q x),(7,.q n),(8,.q k)],[(0,.row 3 1 n (waf v) false)],1,[]⟩
def wnl(v:Nat->Int)(x:Int)(n:Nat):waq:=λst Q=>canonIs te 1 [0,1,7,8] st (wl9 v x n 0)/\n<=100000/\
 wab (decide (fstB (λi=>decide (x=v i)) n<n)) (Q .ret ⟨[(4,.q (fstB (λi=>decide (x=v i)) n))],[(0,.row 3 1 n (waf v) false)],1,[]⟩) (Q (.exit 0) ⟨[],[(0,.row 3 1 n (waf v) false)],1,[]⟩)
def wmf:Spec
 |[.own 0 n,.int .i64 x],[.row t 1 m f fr]=>some (.bool (decide (0<=ixB (λi=>decide (x=vInt f i)) n)),[(0,.row 3 1 n (waf (vInt f)) false)],t=3/\fr=false/\n=m/\n<=100000/\f=waf (vInt f))
 |_,_=>none
def upN(g:Nat->VT)(n:Nat):Nat:=bif decide (fstB (λi=>finB (g i)) n<n) then fstB (λi=>finB (g i)) n+1 else n
def wkx:Spec
 |[.view 7 n f],[]=>some (.view 7 (upN (vtOf f) n) (wae (vtOf f)),[],n<=1000000/\f=wae (vtOf f))
 |_,_=>none
def sncG(v:Nat->Int)(m:Nat)(g:Nat->VT):Nat->Nat
 |0=>0
 |i+1=>bif decide (0<=ixB (λj=>decide ((g i).st=v j)) m) then sncG v m g i else i+1
def wk5:Spec
 |[.own 0 m,.ptr 1 0],[.row t 1 m' f fr,.cells [.view 7 n h] u]=>some (.q (vtOf h (sncG (vInt f) m (vtOf h) (n - 1))).per,[(0,.row 3 1 m (waf (vInt f)) false),(1,.cells [.view 7 n h] 53)],t=3/\u=53/\fr=false/\m=m'/\m<=100/\f=waf (vInt f)/\n<=1000000/\0<n/\h=wae (vtOf h))
 |_,_=>none
def wk2(v:Nat->Int)(m:Nat)(g:Nat->VT)(n i:Nat):St:=⟨[(0,.own 0 m),(1,.ptr 1 0),(4,.q i)],[(0,.row 3 1 m (waf v) false),(1,.cells [.view 7 n (wae g)] 53)],2,[]⟩
def wm4(v:Nat->Int)(m:Nat)(g:Nat->VT)(n:Nat):waq:=λst Q=>canonIs te 2 [0,1,4] st (wk2 v m g n (n - 1))/\n<=1000000/\0<n/\m<=100/\
 Q (.exit 0) ⟨[(1,.ptr 1 0),(4,.q (sncG v m g (n - 1)))],[(0,.row 3 1 m (waf v) false),(1,.cells [.view 7 n (wae g)] 53)],2,[]⟩
def knK(g:Nat->VT)(per:Int)(k:Nat):List VT:=(lst g k).filter λv=>decide (v.per<=per)
def S_sa(g:Nat->VT)(n:Nat)(per:Int)(k:Nat):St:=⟨[(1,.q per),(4,.ptr 0 0),(5,.ptr 1 0),(10,.view 7 n (wae g)),(11,.q n),(12,.q k)],
 [(0,.cells [.q 0,.q 0,.str []] 65),(1,.cells [.own 2 (knK g per k).length] 53),(2,.row 43 7 (knK g per k).length (wae (atX (knK g per k))) false)],3,[]⟩
def L_sa(g:Nat->VT)(n:Nat)(per:Int):waq:=λst Q=>canonIs te 0 [1,4,5,10,11,12] (ownNilC 1 0 43 7 st) (S_sa g n per 0)/\n<=1000000/\
 Q (.exit 0) ⟨[(4,.ptr 0 0),(5,.ptr 1 0)],[(0,.cells [.q 0,.q 0,.str []] 65),(1,.cells [.view 7 (knK g per n).length (wae (atX (knK g per n)))] 53)],3,[]⟩
def wcv:Spec
 |[.view 7 n f,.int .i64 per],[]=>some (.agg [.q (staP per (lst (vtOf f) n)).kind,.q (staP per (lst (vtOf f) n)).since,.str (staP per (lst (vtOf f) n)).rep],[],n<=1000000/\f=wae (vtOf f))
 |_,_=>none
def wk8(g:Nat->Int)(n k:Nat):St:=⟨[(0,.own 0 n),(3,.q k)],[(0,.row 124 1 n (uRow g) false)],1,[]⟩
def wk9:Spec
 |[.own 0 n],[.row t 1 m f fr]=>some (.q (lowI (uOf f) n),[(0,.row 124 1 n f false)],t=124/\fr=false/\n=m/\n<=1000/\∀i,i<n->f i=uRow (uOf f) i)
 |_,_=>none
def wm8(g:Nat->Int)(n:Nat):waq:=λst Q=>canonIs te 1 [0,3] st (wk8 g n n)/\n<=1000/\Q (.exit 0) ⟨[(3,.q (lowI g n))],[(0,.row 124 1 n (uRow g) false)],1,[]⟩
def wil(n:Nat)(u:Nat->Int)(m:Nat)(w:Nat->Int):Bool:=decide (n=m) && decide (fstB (λi=> !decide (u i=w i)) n=n)
def wk7:Spec
 |[.view 1 n f,.view 1 m g],[]=>some (.bool (wil n (uOf f) m (uOf g)),[],n<=1000/\m<=1000/\f=uRow (uOf f)/\g=uRow (uOf g))
 |[.nil,.nil],[]=>some (.bool true,[],True)
 |_,_=>none
def wk4(n:Nat)(u w:Nat->Int)(k:Nat):St:=⟨[(0,.view 1 n (uRow u)),(1,.view 1 n (uRow w)),(12,.q n),(13,.q k)],[],0,[]⟩
def wk3(k:Nat):St:=⟨[(0,.nil),(1,.nil),(12,.q 0),(13,.q k)],[],0,[]⟩
def wm5:waq:=λst Q=>canonIs te 0 [0,1,12,13] st (wk3 0)/\Q (.exit 0) ⟨[],[],0,[]⟩
def wm6(n:Nat)(u w:Nat->Int):waq:=λst Q=>canonIs te 0 [0,1,12,13] st (wk4 n u w 0)/\n<=1000/\
 wab (decide (fstB (λi=> !decide (u i=w i)) n=n)) (Q (.exit 0) ⟨[],[],0,[]⟩) (Q .ret ⟨[(4,.bool false)],[],0,[]⟩)
def wk6:Spec
 |[.agg [.bool a,.view 1 n f,.nil],.agg [.bool b,.view 1 m g,.nil]],[]=>some (.bool (decide (a=b) && wil n (uOf f) m (uOf g)),[],n<=1000/\m<=1000/\f=uRow (uOf f)/\g=uRow (uOf g))
 |_,_=>none
def wme:Spec
 |[.agg [.str _,.str _,.int .i64 _,.int .i64 _,.int .i64 st,.int .i64 _,.str _]],[]=>some (.bool (decide (st=4) || decide (st=5)),[],True)
 |_,_=>none
def wk0:Spec
 |[.int .i64 st],[]=>some (.q (kndF st),[],True)
 |_,_=>none
structure SI where
 k:Nat
 x:SX
def wgi(g:Nat->VT)(n:Nat)(per:Int)(i:SI):St:=⟨[(1,.q per),(4,.ptr 0 0),(5,.ptr 1 0),(10,.view 7 n (wae g)),(11,.q n),(12,.q i.k)],
 [(0,.cells [.q 0,.q 0,.str []] 65),(1,.cells [.q i.x.kind,.q i.x.since,.str i.x.rep] 65)],2,[]⟩
def wm7(g:Nat->VT)(n:Nat)(per:Int):waq:=λst Q=>canonIs te 0 [1,4,5,10,11,12] st (wgi g n per ⟨0,wbu⟩)/\n<=1000000/\
 Q .ret ⟨[(4,.ptr 0 0)],[(0,.cells [.q (staP per (lst g n)).kind,.q (staP per (lst g n)).since,.str (staP per (lst g n)).rep] 65)],1,[]⟩/\
 Q (.exit 0) ⟨[(4,.ptr 0 0),(5,.ptr 1 0)],[(0,.cells [.q 0,.q 0,.str []] 65),(1,.cells [.q (staP per (lst g n)).kind,.q (staP per (lst g n)).since,.str (staP per (lst g n)).rep] 65)],2,[]⟩
def wmp:Spec
 |[],[]=>some (.bool true,[],True)
 |_,_=>none
def wlj:Spec
 |[.own 0 n],[.row _ 15 m f _]=>some (.view 6 (obL (wak (mgOf f) n)).length (wdt (obL (wak (mgOf f) n)) (obP (wak (mgOf f) n))),[],n=m/\n<=100000/\RM f n)
 |_,_=>none
structure EJ where
 L:List VT
 a:Int
def wlq(n:Nat)(v:Nat->Int)(g:Nat->VT)(m:Nat)(per B:Int)(i:EJ):St:=⟨[(0,.view 7 m (wae g)),(1,.q per),(7,.ptr 0 0),(8,.own 1 i.L.length),(22,.q B),(23,.q i.L.length)],
 [(0,.cells [.view 1 n (waf v),.q i.a] 26),(1,.row 43 7 i.L.length (wae (atX i.L)) false)],2,[]⟩
def wnb(n:Nat)(v:Nat->Int)(g:Nat->VT)(m:Nat)(per:Int):waq:=λst Q=>∃(a B:Int),canonIs te 0 [0,1,7,8,22,23] (ownNil 8 43 7 st) (wlq n v g m per B ⟨[],a⟩)/\(1<=B/\B<=10)/\(0<=a/\a<=4611686018427380000)/\
 ∀L:List VT,(L.length:Int)=B->Q (.exit 0) ⟨[(0,.view 7 m (wae g)),(1,.q per),(8,.view 7 L.length (wae (atX L)))],[],1,[]⟩
def wlp(g:Nat->VT)(m:Nat)(per:Int)(L:List VT)(k:Nat):St:=⟨[(0,.view 7 m (wae g)),(1,.q per),(8,.view 7 L.length (wae (atX L))),(36,.q k)],[],0,[]⟩
def wna(g:Nat->VT)(m:Nat)(per:Int):waq:=λst Q=>∃L:List VT,canonIs te 0 [0,1,8,36] st (wlp g m per L 0)/\L.length<=10/\Q (.exit 2) ⟨[(0,.view 7 m (wae g)),(1,.q per)],[],0,[]⟩
end Go.Eng
namespace Go.Eng
open Go.Proofs Go.RowKit
variable {C:Ctx} [C.Loose]
set_option maxRecDepth 20000
theorem nf_mark(m:MG)(R:oR7):wpFn te [] [] 0 Tryz.f64 [.agg [.str m.dev,.q m.seq,.q m.kind,.str m.v.o,.str m.v.p,.q m.v.per,.q m.v.day,.q m.v.st,.q m.v.pr,.str m.v.rep,.str m.d.o,.str m.d.p,.q m.d.per,.str m.d.dev,.q m.d.num]] [] R=((True/\True)/\R (.agg [.str m.dev,.q m.seq]) []):=by kernel_rfl
theorem wzu(g:Nat->MG)(n:Nat)(R:oR7):wpFn te [] [(3,L_ct g n)] 0 Tryz.f90 [.own 0 n] [.row 47 15 n (waa g) false] R=(letI z0:=ren 1 [(1,1)];(TEq [(3,.map 1),(7,.own 0 n),(8,.q (n:Int)),(9,.q 0)] [(3,.map 1),(7,.own 0 n),(8,.q (n:Int)),(9,.q (↑0:Int))]/\wad [(0,.row 47 15 n (waa g) false),(1,.amap (List.map (λ(p:AV×AV)=>(AV.rn z0 p.1,AV.rn z0 p.2)) []))] [(0,.row 47 15 n (waa g) false),(1,.amap (entM (cntL g 0)))])/\n<=1000000/\(∀(i:Nat),i<n->true=true)/\∃(O':oL7),wad [(0,.row 47 15 n (waa g) false),(1,.amap (List.map (λ(p:AV×AV)=>(AV.rn z0 p.1,AV.rn z0 p.2)) (entM (cntL g n))))] O'/\R (.map 1) O'):=by kernel_rfl
theorem wzs(g:Nat->MG)(n k:Nat)(P:Nat->Prop)(R:eR7):wav ⟨te,[],[(1005,L_c5 (cntL g k) (g k) g n k)],1,22,0⟩ (wax Tryz.f90 3) [3,7,8,9] [3] [] (S_ct g n) P R (S_ct g n k)=(letI z2:=ren 1 [(1,1)];letI z1:=([(3,.map 1),(5,.ptr 2 0),(7,.own 0 n),(8,.q (n:Int)),(9,.q (k:Int))]:tL7);letI z0:=(g (k:Int).toNat);wab (decide ((k:Int)<(n:Int))) (((0:Int)<=(k:Int)/\(k:Int)<(n:Int))/\((k:Int).toNat<n/\15=15)/\(TEq z1 z1/\wad [(0,.row 47 15 n (waa g) false),(1,.amap (List.map (λ(p:AV×AV)=>(AV.rn (ren 1 [(1,1),(2,2)]) p.1,AV.rn (ren 1 [(1,1),(2,2)]) p.2)) (entM (cntL g k)))),(2,.cells [.str z0.dev,.q z0.seq,.q z0.kind,.str z0.v.o,.str z0.v.p,.q z0.v.per,.q z0.v.day,.q z0.v.st,.q z0.v.pr,.str z0.v.rep,.str z0.d.o,.str z0.d.p,.q z0.d.per,.str z0.d.dev,.q z0.d.num] 47)] [(0,.row 47 15 n (waa g) false),(1,.amap (entM (cntL g k))),(2,.cells [.str (g k).dev,.q (g k).seq,.q (g k).kind,.str (g k).v.o,.str (g k).v.p,.q (g k).v.per,.q (g k).v.day,.q (g k).v.st,.q (g k).v.pr,.str (g k).v.rep,.str (g k).d.o,.str (g k).d.p,.q (g k).d.per,.str (g k).d.dev,.q (g k).d.num] 47)])/\List.Nodup (List.map Prod.fst (cntL g k))/\inR .i64 (getC (cntL g k) (mk2 (g k))+1)/\inR .i64 ((k:Int)+1)/\∃(i':Nat),(TEq [(3,.map 1),(7,.own 0 n),(8,.q (n:Int)),(9,.q ((k:Int)+1))] [(3,.map 1),(7,.own 0 n),(8,.q (n:Int)),(9,.q (i':Int))]/\wad [(0,.row 47 15 n (waa g) false),(1,.amap (List.map (λ(p:AV×AV)=>(AV.rn z2 p.1,AV.rn z2 p.2)) (entM (addC (cntL g k) (mk2 (g k))))))] [(0,.row 47 15 n (waa g) false),(1,.amap (entM (cntL g i')))])/\P i') ((∀(i:Nat),i<n->true=true)/\∃(O':oL7),wad [(0,.row 47 15 n (waa g) false),(1,.amap (List.map (λ(p:AV×AV)=>(AV.rn z2 p.1,AV.rn z2 p.2)) (entM (cntL g k))))] O'/\R (.exit 0) (St.mk [(3,.map 1)] O' 2 []))):=by kernel_rfl
theorem nf_c5(L:List ((List UInt8×Int)×Int))(x:MG)(g:Nat->MG)(n k:Nat)(Q:eR7):regE ⟨te,[(64,.det wdk)],[],1,22,0⟩ (regC Tryz.f90 5) [3,5,7,8,9] Q (S_c5 L x g n k)=(letI z19:=ren 1 [(1,1),(2,2)];letI z18:=zvA (.q 0);letI z13:=(∀(i:Nat),i<n->true=true:Prop);letI z10:=([.str x.dev,.q x.seq,.q x.kind,.str x.v.o,.str x.v.p,.q x.v.per,.q x.v.day,.q x.v.st,.q x.v.pr,.str x.v.rep,.str x.d.o,.str x.d.p,.q x.d.per,.str x.d.dev,.q x.d.num]:List AV);letI z8:=([(3,.map 1),(5,.ptr 2 0),(7,.own 0 n),(8,.q (n:Int)),(9,.q (k:Int))]:tL7);letI z3:=([.str x.dev,.q x.seq]:List AV);letI z16:=mget (entM L) (.agg z3);letI z15:=(↑(midx (entM L) (.agg z3)):Int);letI z12:=(wau (Option.getD z16 z18)+1);letI z9:=wa5 te 103 (entM L)/\.q (wau (Option.getD z16 (.q 0)))=Option.getD z16 (.q 0);letI z7:=ment (.q 0) (entM L) (.agg z3);letI z20:=List.getD z7 z15.toNat (.any,.any);letI z11:=Option.getD (mget z7 (.agg z3)) z18;letI z17:=(wau z11+1);letI z14:=wa5 te 103 z7/\.q (wau z11)=Option.getD (mget z7 (.agg z3)) z18;letI z6:=((0:Int)<=z15/\z15<(z7.length:Int):Prop);letI z4:=([(0,.row 47 15 n (waa g) false),(1,.amap (List.map (λ(p:AV×AV)=>(AV.rn z19 p.1,AV.rn z19 p.2)) (List.set z7 z15.toNat (z20.1,.q z12)))),(2,.cells z10 47)]:oL7);letI z2:=([(0,.row 47 15 n (waa g) false),(1,.amap (List.map (λ(p:AV×AV)=>(AV.rn z19 p.1,AV.rn z19 p.2)) (List.set z7 z15.toNat (z20.1,.q z17)))),(2,.cells z10 47)]:oL7);letI z5:=(z14/\(inR .i64 z17/\z6/\z13/\∃(O':oL7),wad z2 O'/\Q .normal (St.mk z8 O' 3 []))/\inR .i64 z17/\z6/\z13/\∃(O':oL7),wad z2 O'/\Q .normal (St.mk z8 O' 3 []):Prop);letI z1:=((wa5 te 103 (entM L)/\.q (wau (Option.getD z16 z18))=Option.getD z16 z18)/\(inR .i64 z12/\z9/\z6/\z13/\∃(O':oL7),wad z4 O'/\Q .normal (St.mk z8 O' 3 []))/\z9/\(inR .i64 z12/\z6/\z13/\∃(O':oL7),wad z4 O'/\Q .normal (St.mk z8 O' 3 []))/\inR .i64 z12/\z6/\z13/\∃(O':oL7),wad z4 O'/\Q .normal (St.mk z8 O' 3 []):Prop);letI z0:=(True/\z1/\z9/\z5/\z14/\inR .i64 z17/\z6/\z13/\∃(O':oL7),wad z2 O'/\Q .normal (St.mk z8 O' 3 []));z0/\z0/\True/\z1/\z9/\z5/\z14/\inR .i64 z17/\z6/\z13/\∃(O':oL7),wad z2 O'/\Q .normal (St.mk z8 O' 3 [])):=by kernel_rfl
theorem wja(hP:C.P=Tryz.prog):wac C 64 wdk:=by
 have _:C.Loose:=inferInstance;rintro args objs U Os vc h hvc;unfold wdk at h;split at h<;>simp only[sI7,pI7,reduceCtorEq] at h;rename_i dev seq kind o p per day st pr rep o' p' per' dev' num;obtain⟨rfl,rfl,rfl⟩:=h;refine wac.wp0 (prg hP) [] 0 .nil (hP ▸ Tryz.func64) rfl rfl rfl ?_;have hn:=nf_mark ⟨dev,seq,kind,⟨o,p,per,day,st,pr,rep⟩,⟨o',p',per',dev',num⟩⟩;dsimp only at hn;rw[hn];exact⟨⟨trivial,trivial⟩,rfl,rfl⟩
def keyK(p:List UInt8×Int):AV:=.agg [.str p.1,.q p.2]
theorem we8(a b:List UInt8×Int):keq (keyK a) (keyK b)=(decide (a.1=b.1) && decide (a.2=b.2)):=by simp[keyK,keq,keqL,keq0]
theorem wrd(p:List UInt8×Int):(decide (p.1=p.1) && decide (p.2=p.2))=true:=by simp
theorem wcn(σ:Nat->Option Nat)(L:List ((List UInt8×Int)×Int)):(entM L).map (λp=>(AV.rn σ p.1,AV.rn σ p.2))=entM L:=by
 unfold entM;rw[List.map_map];rfl
theorem wj6{L:List ((List UInt8×Int)×Int)}(h:(L.map Prod.fst).Nodup):wa5 te 103 (entM L):=by
 refine⟨List.all_eq_true.2 λp hp=>?_,?_⟩
 ·obtain⟨r,_,rfl⟩:=List.mem_map.1 hp;have:∀(a:List UInt8) (b:Int),keyA te 103 (.agg [.str a,.q b])=true:=λa b=>by kernel_rfl
  exact this _ _
 ·have:(entM L).map Prod.fst=(L.map Prod.fst).map keyK:=by simp[entM,keyK]
  rw[this];refine List.pairwise_map.2 (h.imp λ{a b} hab he=>hab ?_);have q:=we8 a b;rw[he,we8,wrd] at q;exact wd4.1 q.symm
theorem whf(p:List UInt8×Int):∀L:List ((List UInt8×Int)×Int),Option.getD (mget (entM L) (keyK p)) (.q 0)= .q (getC L p)
 |[]=>rfl
 |x::l=>by
  rw[getC];show Option.getD (match keq (keyK x.1) (keyK p) with | true=>some (.q x.2) | false=>mget (entM l) (keyK p)) _=_
  rw[we8]
  cases decide (x.1.1=p.1) && decide (x.1.2=p.2) with
  |true=>rfl
  |false=>exact whf p l
theorem ment_K(p:List UInt8×Int):∀L:List ((List UInt8×Int)×Int),
  Option.getD (mget (ment (.q 0) (entM L) (keyK p)) (keyK p)) (.q 0)= .q (getC L p)/\midx (entM L) (keyK p)<(ment (.q 0) (entM L) (keyK p)).length/\
  (ment (.q 0) (entM L) (keyK p)).set (midx (entM L) (keyK p)) (((ment (.q 0) (entM L) (keyK p)).getD (midx (entM L) (keyK p)) (.any,.any)).1,.q (getC L p+1))=entM (addC L p)
 |[]=>by
  refine⟨?_,Nat.zero_lt_one,rfl⟩;show Option.getD (match keq (keyK p) (keyK p) with | true=>some (AV.q 0) | false=>none) _=_
  rw[we8,wrd];rfl
 |x::l=>by
  obtain⟨i1,i2,i3⟩:=ment_K p l;have e1:ment (.q 0) (entM (x::l)) (keyK p)=match keq (keyK x.1) (keyK p) with | true=>(keyK x.1,AV.q x.2)::entM l | false=>(keyK x.1,AV.q x.2)::ment (.q 0) (entM l) (keyK p):=rfl
  have e2:midx (entM (x::l)) (keyK p)=match keq (keyK x.1) (keyK p) with | true=>0 | false=>midx (entM l) (keyK p)+1:=rfl
  rw[e1,e2,getC,addC,we8]
  cases h:decide (x.1.1=p.1) && decide (x.1.2=p.2) with
  |true=>
   have e:=wd4.1 h;refine⟨?_,Nat.succ_pos _,?_⟩
   ·show Option.getD (match keq (keyK x.1) (keyK p) with | true=>some (AV.q x.2) | false=>mget (entM l) (keyK p)) _=_
    rw[we8,h];rfl
   ·show (keyK x.1,AV.q (x.2+1))::entM l=(keyK p,AV.q (x.2+1))::entM l;rw[e]
  |false=>
   refine⟨?_,Nat.succ_lt_succ i2,?_⟩
   ·show Option.getD (match keq (keyK x.1) (keyK p) with | true=>some (AV.q x.2) | false=>mget (ment (.q 0) (entM l) (keyK p)) (keyK p)) _=_
    rw[we8,h];exact i1
   ·show (keyK x.1,AV.q x.2)::(ment (.q 0) (entM l) (keyK p)).set (midx (entM l) (keyK p)) (((ment (.q 0) (entM l) (keyK p)).getD (midx (entM l) (keyK p)) (.any,.any)).1,.q (getC l p+1))=(keyK x.1,AV.q x.2)::entM (addC l p);rw[i3]
theorem w08{ES:List (AV×AV)}{i:Nat}{v:AV}(hi:i<ES.length)(h:wa5 te 103 (ES.set i ((ES.getD i (.any,.any)).1,v))):wa5 te 103 ES:=by
 have e:(ES.set i ((ES.getD i (.any,.any)).1,v)).map Prod.fst=ES.map Prod.fst:=by
  apply List.ext_getElem
  ·simp
  ·intro j h1 h2;simp only[List.getElem_map,List.getElem_set];split
   ·rename_i e;subst e;simp[hi]
   ·rfl
 obtain⟨h1,h2⟩:=h;rw[e] at h2;refine⟨?_,h2⟩;have f:∀l:List (AV×AV),(l.all λp=>keyA te 103 p.1)=(l.map Prod.fst).all λk=>keyA te 103 k:=λl=>by rw[List.all_map];rfl
 rw[f] at h1 ⊢;rw[e] at h1;exact h1
theorem c5_ok(hP:C.P=Tryz.prog)(L:List ((List UInt8×Int)×Int))(x:MG)(g:Nat->MG)(n k:Nat):wah C 1 22 (regC Tryz.f90 5) (L_c5 L x g n k):=by
 rintro st Q ⟨h0,hnd,hin,hQ⟩;refine wah.regE (prg hP) [(64,.det wdk)] 0 (.cons (wja hP) .nil) [3,5,7,8,9] [3,5,7,8,9] h0 ?_ ⟨λ_ _=>rfl,trivial⟩;have zz:zvA (.q 0)= .q 0:=rfl;rw[nf_c5,zz];have F1:Option.getD (mget (entM L) (.agg [.str x.dev,.q x.seq])) (.q 0)= .q (getC L (mk2 x)):=whf (mk2 x) L;obtain⟨F3,F4,F5⟩:=ment_K (mk2 x) L;have K1:=wj6 hnd;have K2:wa5 te 103 (ment (.q 0) (entM L) (keyK (mk2 x))):=w08 F4 (F5.symm ▸ wj6 (wqi (mk2 x) hnd));change Option.getD (mget (ment (.q 0) (entM L) (.agg [.str x.dev,.q x.seq])) (.agg [.str x.dev,.q x.seq])) (.q 0)= .q (getC L (mk2 x)) at F3;change midx (entM L) (.agg [.str x.dev,.q x.seq])<(ment (.q 0) (entM L) (.agg [.str x.dev,.q x.seq])).length at F4;change (ment (.q 0) (entM L) (.agg [.str x.dev,.q x.seq])).set (midx (entM L) (.agg [.str x.dev,.q x.seq])) (((ment (.q 0) (entM L) (.agg [.str x.dev,.q x.seq])).getD (midx (entM L) (.agg [.str x.dev,.q x.seq])) (.any,.any)).1,.q (getC L (mk2 x)+1))=entM (addC L (mk2 x)) at F5;change wa5 te 103 (ment (.q 0) (entM L) (.agg [.str x.dev,.q x.seq])) at K2;have F6:(0:Int)<=(midx (entM L) (.agg [.str x.dev,.q x.seq]):Int)/\(midx (entM L) (.agg [.str x.dev,.q x.seq]):Int)<((ment (.q 0) (entM L) (.agg [.str x.dev,.q x.seq])).length:Int):=by omega
 simp only[F1,F3,wau,tN7,F5,wcn];have leaf:∃O',wad (S_c5 (addC L (mk2 x)) x g n k).O O'/\Q .normal ⟨(S_c5 (addC L (mk2 x)) x g n k).T,O',3,[]⟩:=⟨_,wa0 _,hQ⟩;have all:∀i,i<n->True:=λ_ _=>trivial;have K1:=(and_true (wa5 te 103 (entM L))).symm ▸ K1
 repeat' first | exact leaf | exact trivial | exact K1 | exact K2 | exact⟨K2,trivial⟩ | exact hin | exact F6 | exact all | refine And.intro ?_ ?_
theorem ct_loop(hP:C.P=Tryz.prog)(g:Nat->MG)(n:Nat):wah C 1 22 (waj Tryz.f90 3) (L_ct g n):=by
 rintro st Q ⟨h0,hn,hQ⟩;refine wah.mkI (prg hP) [] (λk=>[(1005,L_c5 (cntL g k) (g k) g n k)]) 0 .nil (λk=>[(regC Tryz.f90 5,L_c5 (cntL g k) (g k) g n k)]) (λk=>by kernel_rfl) (λk=>⟨c5_ok hP _ _ g n k,trivial⟩) [3,7,8,9] [3] [] (S_ct g n) (λk=>k<=n) (λk=>n - k) 0 (zL7 _) h0 (λk hk=>?_) (λk=>⟨λ_ _=>rfl,trivial⟩);rw[wzs,tN7,wcn];have hb:=wjs g (mk2 (g k)) k;have hc:=wol g (mk2 (g k)) k;refine wag (λh1=>⟨⟨by omega,by omega⟩,⟨by omega,rfl⟩,⟨rfl,rQ7,rfl,rfl,trivial⟩,wkb g k,by simp only[inR];omega,by simp only[inR];omega,k+1,⟨rfl,rQ7,?_,trivial⟩,by omega,by omega⟩) (λh1=>?_)
 ·rw[wcn];rfl
 ·have:k=n:=by omega
  subst this;rw[wcn];exact⟨λ_ _=>rfl,_,wa0 _,hQ⟩
theorem wun(hP:C.P=Tryz.prog):wac C 90 wgs:=by
 rintro args objs U Os vc h hvc;unfold wgs at h;split at h<;>cases h;rename_i n t m f fr;obtain⟨rfl,rfl,rfl,hn,hf⟩:=hvc;generalize mgOf f=g at *;subst hf;refine wac.wpL (prg hP) [] [(3,L_ct g n)] 0 .nil (hP ▸ Tryz.func90) rfl rfl rfl [(waj Tryz.f90 3,L_ct g n)] (by kernel_rfl) ⟨ct_loop hP g n,trivial⟩ ?_;rw[wzu,wcn];exact⟨⟨rfl,rQ7,rfl,trivial⟩,hn,λ_ _=>rfl,_,wa0 _,rfl,rfl⟩
end Go.Eng
