/- Cloned, and lists of marks: the loops' states. -/
import Derived.Test.YtmcdngcjakjnmaaGreatDoorJrt
namespace Go.Eng
def atS(L:List SL)(i:Nat):SL:=L.getD i default
def atX(L:List VT)(i:Nat):VT:=L.getD i default
theorem wh5{L:List SL}{i:Nat}(h:i<L.length):atS L i=L[i]:=by simp[atS,h]
theorem wgd{L:List SL}{i:Nat}(h:i<L.length):atS L i∈L:=by rw[wh5 h];exact List.getElem_mem h
theorem wi7{L:List SL}{x:SL}(h:x∈L):∃i,i<L.length/\atS L i=x:=by
 obtain⟨i,hi,e⟩:=List.getElem_of_mem h;exact⟨i,hi,(wh5 hi).trans e⟩
theorem wov(L:List SL):lst (atS L) L.length=L:=by
 refine List.ext_getElem (by simp[lst]) λi h1 h2=>?_;simp[lst,wh5 h2]
theorem wu2{L:List VT}{i:Nat}(h:i<L.length):atX L i=L[i]:=by simp[atX,h]
theorem wkn{L:List VT}{i:Nat}(h:i<L.length):atX L i∈L:=by rw[wu2 h];exact List.getElem_mem h
theorem lst_atX(L:List VT):lst (atX L) L.length=L:=by
 refine List.ext_getElem (by simp[lst]) λi h1 h2=>?_;simp[lst,wu2 h2]
theorem wh6{L:List SL}(h:Asc ordS L){i j:Nat}(hij:i<j)(hj:j<L.length):ordS (atS L i) (atS L j)<0:=by
 rw[wh5 (by omega),wh5 hj];exact List.pairwise_iff_getElem.1 h i j (by omega) hj hij
theorem woe{a b:SL}(ho:a.o=b.o)(hp:a.p=b.p):ordS a b<0↔a.per<b.per:=by
 have h1:cmpS a.o b.o=0:=whx.2 ho;have h2:cmpS a.p b.p=0:=whx.2 hp;have h3:=wfg a.per b.per;have e:ordS a b=cmpI a.per b.per:=by
  unfold ordS;rw[h1,h2];simp only[orL,decide_true,cond_true]
  by_cases q:cmpI a.per b.per=0
  ·rw[q];rfl
  ·rw[decide_eq_false q];rfl
 rw[e];omega
def keyB(o p:List UInt8)(s:SL):Bool:=decide (s.o=o) && decide (s.p=p)
def finB(v:VT):Bool:=decide (v.st=4) || decide (v.st=5)
structure SX where
 kind:Int
 since:Int
 rep:List UInt8
 deriving DecidableEq
def kndF(st:Int):Int:=bif decide (st=1) || decide (st=2) then 1 else bif decide (st=3) then 2 else bif decide (st=4) then 3 else bif decide (st=5) then 4 else 0
def wbu:SX:=⟨0,0,[]⟩
def stpX(x:SX)(v:VT):SX:=bif decide (kndF v.st=0) then wbu else bif decide (kndF v.st=x.kind) then x else ⟨kndF v.st,v.per,[]⟩
def endX(x:SX)(v:VT):SX:=bif decide (kndF v.st=4) then ⟨x.kind,x.since,v.rep⟩ else x
def staX(per:Int):SX->List VT->SX
 |x,[]=>x
 |x,v::l=>bif decide (per<v.per) then staX per x l else bif finB v then endX (stpX x v) v else staX per (stpX x v) l
def knwn(per:Int)(l:List VT):List VT:=l.filter λv=>decide (v.per<=per)
def upTo(l:List VT):List VT:=bif decide (fstB (λi=>finB (atX l i)) l.length<l.length) then l.take (fstB (λi=>finB (atX l i)) l.length+1) else l
def snc(q:Int->Bool)(l:List VT):Nat->Nat
 |0=>0
 |i+1=>bif q (atX l i).st then snc q l i else i+1
def q12(st:Int):Bool:=decide (st=1) || decide (st=2)
def q3(st:Int):Bool:=decide (st=3)
def stpP(l:List VT):SX:=bif decide (l.length=0) then wbu else
 bif q12 (atX l (l.length - 1)).st then ⟨1,(atX l (snc q12 l (l.length - 1))).per,[]⟩ else
 bif q3 (atX l (l.length - 1)).st then ⟨2,(atX l (snc q3 l (l.length - 1))).per,[]⟩ else
 bif decide ((atX l (l.length - 1)).st=4) then ⟨3,(atX l (l.length - 1)).per,[]⟩ else
 bif decide ((atX l (l.length - 1)).st=5) then ⟨4,(atX l (l.length - 1)).per,(atX l (l.length - 1)).rep⟩ else wbu
def staP(per:Int)(l:List VT):SX:=stpP (upTo (knwn per l))
theorem wn3(per:Int):∀(l:List VT) (x:SX),staX per x l=staX per x (knwn per l)
 |[],x=>rfl
 |v::l,x=>by
  unfold knwn
  by_cases h:per<v.per
  ·have h':¬ v.per<=per:=by omega
   rw[List.filter_cons_of_neg (by simp[h'])];rw[staX,decide_eq_true h];exact wn3 per l x
  ·have h':v.per<=per:=by omega
   rw[List.filter_cons_of_pos (by simp[h'])];rw[staX,staX,decide_eq_false h];simp only[cond_false]
   cases finB v with
   |true=>rfl
   |false=>exact wn3 per l _
def staY:SX->List VT->SX
 |x,[]=>x
 |x,v::l=>bif finB v then endX (stpX x v) v else staY (stpX x v) l
theorem staX_Y(per:Int):∀(l:List VT) (x:SX),(∀v∈l,v.per<=per)->staX per x l=staY x l
 |[],x,_=>rfl
 |v::l,x,h=>by
  have h1:=h v List.mem_cons_self;rw[staX,staY,decide_eq_false (show ¬ per<v.per by omega),cond_false,staX_Y per l _ λv hv=>h v (List.mem_cons_of_mem _ hv)]
theorem wqz:∀(l:List VT) (x:SX),(∀v∈l,finB v=false)->staY x l=l.foldl stpX x
 |[],x,_=>rfl
 |v::l,x,h=>by
  rw[staY,h v List.mem_cons_self];exact wqz l _ λv hv=>h v (List.mem_cons_of_mem _ hv)
theorem wq0:∀(l r:List VT) (f:VT) (x:SX),(∀v∈l,finB v=false)->finB f=true->staY x (l++f::r)=endX (stpX (l.foldl stpX x) f) f
 |[],r,f,x,_,hf=>by rw[List.nil_append,staY,hf];rfl
 |v::l,r,f,x,h,hf=>by
  rw[List.cons_append,staY,h v List.mem_cons_self];exact wq0 l r f _ (λv hv=>h v (List.mem_cons_of_mem _ hv)) hf
theorem wh4{l r:List VT}{i:Nat}(h:i<l.length):atX (l++r) i=atX l i:=by
 unfold atX;rw[List.getD_eq_getElem?_getD,List.getD_eq_getElem?_getD,List.getElem?_append_left h]
theorem wqd(l:List VT)(v:VT):atX (l++[v]) l.length=v:=by
 unfold atX;rw[List.getD_eq_getElem?_getD,List.getElem?_append_right (lR7 _),Nat.sub_self];rfl
theorem wij(q:Int->Bool)(l r:List VT):∀i,i<=l.length->snc q (l++r) i=snc q l i
 |0,_=>rfl
 |i+1,h=>by rw[snc,snc,wh4 (by omega),wij q l r i (by omega)]
theorem wii(q:Int->Bool)(l:List VT):∀i,snc q l i<=i
 |0=>lR7 _
 |i+1=>by
  have:=wii q l i;rw[snc]
  cases q (atX l i).st with
  |true=>rw[cond_true];omega
  |false=>rw[cond_false];omega
theorem wqy:∀l:List VT,(∀v∈l,finB v=false)->l.foldl stpX wbu=stpP l:=by
 intro l
 induction l using wg1 with
 |nil=>intro _;rfl
 |snoc l v ih=>
  intro h;have hv:=h v (List.mem_append_right _ (List.mem_singleton.2 rfl));have ih:=ih λv hv=>h v (List.mem_append_left _ hv);rw[List.foldl_append,ih,List.foldl_cons,List.foldl_nil];have hlen:(l++[v]).length - 1=l.length:=by simp
  have e2:¬ (l++[v]).length=0:=by simp
  unfold stpP;rw[hlen,decide_eq_false e2,cond_false,wqd];have n4:¬ v.st=4:=λq=>by rw[finB,q] at hv;cases hv
  have n5:¬ v.st=5:=λq=>by rw[finB,q] at hv;cases hv
  rw[decide_eq_false n4,decide_eq_false n5,cond_false,cond_false];rw[wij _ _ _ _ (lR7 _),wij _ _ _ _ (lR7 _)];have hlast:∀q:Int->Bool,q (atX l (l.length - 1)).st=true->0<l.length->snc q l l.length=snc q l (l.length - 1):=λq hq h0=>by
   obtain⟨k,hk⟩:∃k,l.length=k+1:=⟨l.length - 1,by omega⟩;rw[hk] at hq ⊢;rw[Nat.add_sub_cancel] at hq ⊢;rw[snc,hq];rfl
  have hstop:∀q:Int->Bool,(q (atX l (l.length - 1)).st=false∨l.length=0)->snc q l l.length=l.length:=λq hq=>by
   cases hk:l.length with
   |zero=>rfl
   |succ k=>
    rcases hq with hq | hq
    ·rw[hk,Nat.add_sub_cancel] at hq;rw[snc,hq];rfl
    ·omega
  have hat:∀i,i<l.length->atX (l++[v]) i=atX l i:=λi hi=>wh4 hi;have hk1:∀st,q12 st=true->kndF st=1:=λst h=>by unfold kndF;rw[show (decide (st=1) || decide (st=2))=true from h];rfl
  have hk2:∀st,q3 st=true->kndF st=2:=λst h=>by
   have:st=3:=of_decide_eq_true h;subst this;rfl
  have hk0:q12 v.st=false->q3 v.st=false->kndF v.st=0:=λh1 h2=>by
   unfold kndF;rw[show (decide (v.st=1) || decide (v.st=2))=false from h1,show decide (v.st=3)=false from h2,decide_eq_false n4,decide_eq_false n5];rfl
  have fresh:∀(k:Int) (q:Int->Bool),kndF v.st=k->k≠0->(q (atX l (l.length - 1)).st=false∨l.length=0)->∀x:SX,x.kind≠k->stpX x v=⟨k,(atX (l++[v]) (snc q l l.length)).per,[]⟩:=λk q hk h0 hq x hx=>by
   unfold stpX;rw[hk,decide_eq_false h0,decide_eq_false (λe=>hx e.symm),hstop q hq,wqd];rfl
  have keep:∀(k:Int),kndF v.st=k->k≠0->∀x:SX,x.kind=k->stpX x v=x:=λk hk h0 x hx=>by
   unfold stpX;rw[hk,decide_eq_false h0,decide_eq_true hx.symm];rfl
  by_cases hz:l.length=0
  ·rw[decide_eq_true hz,cond_true]
   cases h1:q12 v.st with
   |true=>rw[cond_true];exact fresh 1 q12 (hk1 _ h1) (by decide) (.inr hz) wbu (by decide)
   |false=>
    rw[cond_false]
    cases h2:q3 v.st with
    |true=>rw[cond_true];exact fresh 2 q3 (hk2 _ h2) (by decide) (.inr hz) wbu (by decide)
    |false=>rw[cond_false];unfold stpX;rw[hk0 h1 h2];rfl
  ·have hz':0<l.length:=by omega
   have hlm:=h _ (List.mem_append_left [v] (wkn (show l.length - 1<l.length by omega)));rw[decide_eq_false hz,cond_false];generalize atX l (l.length - 1)=w at *;have m4:¬ w.st=4:=λq=>by rw[finB,q] at hlm;cases hlm
   have m5:¬ w.st=5:=λq=>by rw[finB,q] at hlm;cases hlm
   rw[decide_eq_false m4,decide_eq_false m5,cond_false,cond_false];have no12:q3 w.st=true->q12 w.st=false:=λh=>by
    have:w.st=3:=of_decide_eq_true h;rw[this];rfl
   cases h1:q12 v.st with
   |true=>
    rw[cond_true]
    cases g1:q12 w.st with
    |true=>
     rw[cond_true,keep 1 (hk1 _ h1) (by decide) _ rfl,hlast q12 g1 hz',hat _ (by have:=wii q12 l (l.length - 1);omega)]
    |false=>
     rw[cond_false];refine fresh 1 q12 (hk1 _ h1) (by decide) (.inl g1) _ ?_
     cases q3 w.st with
     |true=>rw[cond_true];show (2:Int)≠1;decide
     |false=>rw[cond_false];show (0:Int)≠1;decide
   |false=>
    rw[cond_false]
    cases h2:q3 v.st with
    |true=>
     rw[cond_true]
     cases g2:q3 w.st with
     |true=>
      rw[no12 g2,cond_false,cond_true,keep 2 (hk2 _ h2) (by decide) _ rfl,hlast q3 g2 hz',hat _ (by have:=wii q3 l (l.length - 1);omega)]
     |false=>
      refine fresh 2 q3 (hk2 _ h2) (by decide) (.inl g2) _ ?_
      cases q12 w.st with
      |true=>rw[cond_true];show (1:Int)≠2;decide
      |false=>rw[cond_false];show (0:Int)≠2;decide
    |false=>rw[cond_false];unfold stpX;rw[hk0 h1 h2];rfl
theorem w1z{q:Nat->Bool}{n j:Nat}(hj:j<n)(h1:∀i,i<j->q i=false)(h2:q j=true):fstB q n=j:=by
 obtain⟨a,b⟩:=wf4 q n
 rcases Nat.lt_trichotomy (fstB q n) j with h | h | h
 ·have:=b (by omega);rw[h1 _ h] at this;cases this
 ·exact h
 ·rw[a j h] at h2;cases h2
theorem wvw{l:List VT}(h:∀v∈l,finB v=false):upTo l=l:=by
 unfold upTo;have:¬ fstB (λi=>finB (atX l i)) l.length<l.length:=λq=>by
  have h1:=(wf4 (λi=>finB (atX l i)) l.length).2 q;have h1:finB (atX l (fstB (λi=>finB (atX l i)) l.length))=true:=h1;rw[h _ (wkn q)] at h1;cases h1
 rw[decide_eq_false this];rfl
theorem wvx{l r:List VT}{f:VT}(h:∀v∈l,finB v=false)(hf:finB f=true):upTo (l++f::r)=l++[f]:=by
 have e:fstB (λi=>finB (atX (l++f::r) i)) (l++f::r).length=l.length:=by
  refine w1z (by simp) (λi hi=>?_) ?_
  ·show finB (atX (l++f::r) i)=false;rw[wh4 hi];exact h _ (wkn hi)
  ·show finB (atX (l++f::r) l.length)=true;unfold atX;rw[List.getD_eq_getElem?_getD,List.getElem?_append_right (lR7 _),Nat.sub_self];exact hf
 unfold upTo;rw[e,decide_eq_true (by simp),cond_true,show l++f::r=(l++[f])++r by simp,List.take_append_of_le_length (by simp),List.take_of_length_le (by simp)]
theorem wt2:∀l:List VT,(∀v∈l,finB v=false)∨∃a f r,l=a++f::r/\(∀v∈a,finB v=false)/\finB f=true
 |[]=>.inl (by simp)
 |v::l=>by
  cases hv:finB v with
  |true=>exact .inr ⟨[],v,l,rfl,by simp,hv⟩
  |false=>
   rcases wt2 l with h | ⟨a,f,r,e,h1,h2⟩
   ·refine .inl λx hx=>?_
    rcases List.mem_cons.1 hx with rfl | hx
    ·exact hv
    ·exact h x hx
   ·refine .inr ⟨v::a,f,r,by rw[e];rfl,λx hx=>?_,h2⟩
    rcases List.mem_cons.1 hx with rfl | hx
    ·exact hv
    ·exact h1 x hx
theorem wv7(a:List VT){f:VT}(hf:finB f=true):stpP (a++[f])=bif decide (f.st=4) then ⟨3,f.per,[]⟩ else ⟨4,f.per,f.rep⟩:=by
 have hlen:(a++[f]).length - 1=a.length:=by simp
 unfold stpP;rw[hlen,decide_eq_false (show ¬ (a++[f]).length=0 by simp),cond_false,wqd]
 rcases Bool.or_eq_true_iff.1 hf with h | h
 ·have h:f.st=4:=of_decide_eq_true h;rw[show q12 f.st=false by rw[h];rfl,show q3 f.st=false by rw[h];rfl,decide_eq_true h];rfl
 ·have h:f.st=5:=of_decide_eq_true h;rw[show q12 f.st=false by rw[h];rfl,show q3 f.st=false by rw[h];rfl,decide_eq_false (show ¬ f.st=4 by omega),decide_eq_true h];rfl
theorem kind_ne(a:List VT)(h:∀v∈a,finB v=false):(stpP a).kind≠3/\(stpP a).kind≠4:=by
 unfold stpP
 by_cases hz:a.length=0
 ·rw[decide_eq_true hz];exact⟨by show (0:Int)≠3;decide,by show (0:Int)≠4;decide⟩
 ·rw[decide_eq_false hz,cond_false];have hl:=h _ (wkn (show a.length - 1<a.length by omega))
  cases q12 (atX a (a.length - 1)).st with
  |true=>exact⟨by show (1:Int)≠3;decide,by show (1:Int)≠4;decide⟩
  |false=>
   cases q3 (atX a (a.length - 1)).st with
   |true=>exact⟨by show (2:Int)≠3;decide,by show (2:Int)≠4;decide⟩
   |false=>
    have m4:¬ (atX a (a.length - 1)).st=4:=λq=>by rw[finB,q] at hl;cases hl
    have m5:¬ (atX a (a.length - 1)).st=5:=λq=>by rw[finB,q] at hl;cases hl
    rw[decide_eq_false m4,decide_eq_false m5];exact⟨by show (0:Int)≠3;decide,by show (0:Int)≠4;decide⟩
theorem staY_P(l:List VT):staY wbu l=stpP (upTo l):=by
 rcases wt2 l with h | ⟨a,f,r,e,h1,h2⟩
 ·rw[wqz l _ h,wqy l h,wvw h]
 ·rw[e,wq0 a r f _ h1 h2,wvx h1 h2,wqy a h1,wv7 a h2];obtain⟨k3,k4⟩:=kind_ne a h1
  rcases Bool.or_eq_true_iff.1 h2 with h | h
  ·have h:f.st=4:=of_decide_eq_true h;have hk:kndF f.st=3:=by rw[h];rfl
   rw[decide_eq_true h];unfold endX stpX;rw[hk,decide_eq_false (show ¬ (3:Int)=(stpP a).kind from λq=>k3 q.symm)];rfl
  ·have h:f.st=5:=of_decide_eq_true h;have hk:kndF f.st=4:=by rw[h];rfl
   rw[decide_eq_false (show ¬ f.st=4 by omega)];unfold endX stpX;rw[hk,decide_eq_false (show ¬ (4:Int)=(stpP a).kind from λq=>k4 q.symm)];rfl
theorem sta_eq(per:Int)(l:List VT):staX per wbu l=staP per l:=by
 rw[wn3,staX_Y per (knwn per l) wbu (λv hv=>of_decide_eq_true (List.mem_filter.1 hv).2),staY_P];rfl
def getA{κ α:Type}[DecidableEq κ]:List (κ×α)->κ->Option α
 |[],_=>none
 |x::B,s=>bif decide (x.1=s) then some x.2 else getA B s
def setA{κ α:Type}[DecidableEq κ]:List (κ×α)->κ->α->List (κ×α)
 |[],s,c=>[(s,c)]
 |x::B,s,c=>bif decide (x.1=s) then (s,c)::B else x::setA B s c
section
variable {κ α:Type} [DecidableEq κ]
theorem wf3(B:List (κ×α))(s t:κ)(c:α):getA (setA B s c) t=bif decide (s=t) then some c else getA B t:=by
 induction B with
 |nil=>simp[setA,getA]
 |cons x B ih=>
  rw[setA]
  by_cases h:x.1=s
  ·rw[decide_eq_true h]
   by_cases h':s=t
   ·simp[getA,h']
   ·have:¬ x.1=t:=λq=>h' (h ▸ q);simp[getA,this,h']
  ·rw[decide_eq_false h]
   by_cases h':x.1=t
   ·have:¬ s=t:=λq=>h (h'.trans q.symm);simp[getA,h',this]
   ·simp[getA,h',ih]
theorem wju{B:List (κ×α)}{s:κ}:getA B s=none↔s ∉ B.map Prod.fst:=by
 induction B with
 |nil=>simp[getA]
 |cons x B ih=>
  rw[getA]
  by_cases h:x.1=s
  ·simp[h]
  ·have h':¬ s=x.1:=λq=>h q.symm;rw[decide_eq_false h,cond_false,ih,List.map_cons,List.mem_cons];simp[h']
theorem wwn{B:List (κ×α)}{s:κ}{c:α}(h:s ∉ B.map Prod.fst):setA B s c=B++[(s,c)]:=by
 induction B with
 |nil=>rfl
 |cons x B ih=>
  rw[List.map_cons,List.mem_cons,not_or] at h;rw[setA,decide_eq_false (λq=>h.1 q.symm),cond_false,ih h.2];rfl
theorem wq8(B:List (κ×α))(s:κ)(c:α):(setA B s c).map Prod.fst=bif decide (s∈B.map Prod.fst) then B.map Prod.fst else B.map Prod.fst++[s]:=by
 induction B with
 |nil=>simp[setA]
 |cons x B ih=>
  rw[setA]
  by_cases h:x.1=s
  ·rw[decide_eq_true h];simp[h]
  ·rw[decide_eq_false h,cond_false,List.map_cons,ih];have h':¬ s=x.1:=λq=>h q.symm
   by_cases q:s∈B.map Prod.fst
   ·have q2:s∈(x::B).map Prod.fst:=List.mem_cons_of_mem _ q;rw[decide_eq_true q,decide_eq_true q2];rfl
   ·have q2:s ∉ (x::B).map Prod.fst:=by
     rw[List.map_cons,List.mem_cons];exact λe=>e.elim h' q
    rw[decide_eq_false q,decide_eq_false q2];rfl
theorem wg4{B:List (κ×α)}(h:(B.map Prod.fst).Nodup)(s:κ)(c:α):((setA B s c).map Prod.fst).Nodup:=by
 rw[wq8]
 by_cases q:s∈B.map Prod.fst
 ·rw[decide_eq_true q];exact h
 ·rw[decide_eq_false q,cond_false,List.nodup_append];refine⟨h,by simp,λa ha b hb e=>q ?_⟩;rw[List.mem_singleton.1 hb] at e;exact e ▸ ha
theorem wwo(B:List (κ×α))(s:κ)(c:α):(setA B s c).length<=B.length+1:=by
 have h:=congrArg List.length (wq8 B s c);rw[List.length_map] at h;rw[h]
 cases decide (s∈B.map Prod.fst) with
 |true=>rw[cond_true,List.length_map];omega
 |false=>rw[cond_false,lA7,List.length_map];exact lR7 _
theorem getA_at{B:List (κ×α)}(hn:(B.map Prod.fst).Nodup){x:κ×α}(h:x∈B):getA B x.1=some x.2:=by
 induction B with
 |nil=>cases h
 |cons y B ih=>
  rw[List.map_cons,List.nodup_cons] at hn
  rcases List.mem_cons.1 h with rfl | h
  ·simp[getA]
  ·have:¬ y.1=x.1:=λq=>hn.1 (q ▸ List.mem_map_of_mem h);rw[getA,decide_eq_false this];exact ih hn.2 h
theorem wtr{B:List (κ×α)}{s:κ}{c:α}(h:getA B s=some c):(s,c)∈B:=by
 induction B with
 |nil=>cases h
 |cons x B ih=>
  rw[getA] at h
  by_cases q:x.1=s
  ·rw[decide_eq_true q,cond_true] at h;have e:x=(s,c):=Prod.ext q (oJ7 h);rw[e];exact List.mem_cons_self
  ·rw[decide_eq_false q,cond_false] at h;exact List.mem_cons_of_mem _ (ih h)
end
def verB(R:List MG)(s:SL):Bool:=decide ((resB R s).2=1)
def priB(v:VT):Bool:=decide (v.st=1) || decide (v.st=2)
def finS(R:List MG)(s:SL):Bool:=verB R s && finB (resB R s).1
def endB(R:List MG)(t:SL):Bool:=(visL R).any λu=>keyB t.o t.p u && (decide (u.per<t.per) && finS R u)
def prB(R:List MG)(t:SL):Bool:=verB R t && (!endB R t && priB (resB R t).1)
def repB(R:List MG)(t:SL):Bool:=verB R t && (!endB R t && decide ((resB R t).1.st=5))
def repL(R:List MG):List VT:=((visL R).filter (repB R)).map λs=>(resB R s).1
def rsl(v:VT):SL:=⟨v.o,v.rep,v.per⟩
theorem w1a{o p:List UInt8}{s:SL}:keyB o p s=true↔s.o=o/\s.p=p:=by simp[keyB]
theorem wj7{R:List MG}{t:SL}:endB R t=true↔∃u∈visL R,u.o=t.o/\u.p=t.p/\u.per<t.per/\finS R u=true:=by
 rw[endB,List.any_eq_true];simp[w1a,and_assoc]
theorem fir_ex(R:List MG):∀(i:Nat),i<(visL R).length->finS R (atS (visL R) i)=true->
  ∃u∈visL R,u.o=(atS (visL R) i).o/\u.p=(atS (visL R) i).p/\u.per<=(atS (visL R) i).per/\finS R u=true/\endB R u=false:=by
 intro i
 induction i using Nat.strongRecOn with
 |_ i ih=>
  intro hi hf
  cases he:endB R (atS (visL R) i) with
  |false=>exact⟨_,wgd hi,rfl,rfl,Int.le_refl _,hf,he⟩
  |true=>
   obtain⟨u,hu,h1,h2,h3,h4⟩:=wj7.1 he;obtain⟨j,hj,rfl⟩:=wi7 hu;have hlt:j<i:=by
    rcases Nat.lt_trichotomy j i with q | q | q
    ·exact q
    ·subst q;omega
    ·have:=(woe h1.symm h2.symm).1 (wh6 (wdq R) q hj);omega
   obtain⟨w,hw,w1,w2,w3,w4⟩:=ih j hlt hj h4;exact⟨w,hw,w1.trans h1,w2.trans h2,by omega,w4⟩
theorem wui{R:List MG}{t:SL}(h:endB R t=true):∃u∈visL R,u.o=t.o/\u.p=t.p/\u.per<t.per/\finS R u=true/\endB R u=false:=by
 obtain⟨u,hu,h1,h2,h3,h4⟩:=wj7.1 h;obtain⟨j,hj,rfl⟩:=wi7 hu;obtain⟨w,hw,w1,w2,w3,w4⟩:=fir_ex R j hj h4;exact⟨w,hw,w1.trans h1,w2.trans h2,by omega,w4⟩
structure OB where
 e:List ((List UInt8×List UInt8)×Int)
 p:List (SL×Int)
 r:List VT
def stO(R:List MG)(x:OB)(s:SL):OB:=bif (getA x.e (s.o,s.p)).isSome || !verB R s then x else
 bif finB (resB R s).1 then ⟨setA x.e (s.o,s.p) s.per,x.p,bif decide ((resB R s).1.st=5) then x.r++[(resB R s).1] else x.r⟩
 else bif priB (resB R s).1 then ⟨x.e,setA x.p s (resB R s).1.pr,x.r⟩ else x
def ob1(R:List MG)(V:List SL):Nat->OB
 |0=>⟨[],[],[]⟩
 |k+1=>stO R (ob1 R V k) (atS V k)
theorem wfy{α:Type}(g:Nat->α)(n:Nat):lst g (n+1)=lst g n++[g n]:=by simp[lst,List.range_succ]
theorem wsv{V:List SL}{k:Nat}{u:SL}:u∈lst (atS V) k↔∃i,i<k/\atS V i=u:=by simp[lst]
theorem w2c{v:VT}(h:finB v=true):priB v=false:=by
 rcases Bool.or_eq_true_iff.1 h with h | h
 ·have:v.st=4:=of_decide_eq_true h;unfold priB;rw[this];rfl
 ·have:v.st=5:=of_decide_eq_true h;unfold priB;rw[this];rfl
structure Ob1 (R:List MG) (k:Nat):Prop where
 e:∀o p c,getA (ob1 R (visL R) k).e (o,p)=some c↔∃u∈lst (atS (visL R)) k,u.o=o/\u.p=p/\finS R u=true/\endB R u=false/\c=u.per
 p:(ob1 R (visL R) k).p=((lst (atS (visL R)) k).filter (prB R)).map λs=>(s,(resB R s).1.pr)
 r:(ob1 R (visL R) k).r=((lst (atS (visL R)) k).filter (repB R)).map λs=>(resB R s).1
theorem wha(R:List MG):∀k,k<=(visL R).length->Ob1 R k
 |0,_=>⟨λo p c=>by simp[ob1,getA,lst],rfl,rfl⟩
 |k+1,hk=>by
  have ih:=wha R k (by omega);have ihe:=ih.e;have ihp:=ih.p;have ihr:=ih.r;have hs:=wgd (show k<(visL R).length by omega);have low:∀u,u∈lst (atS (visL R)) k->u∈visL R/\ordS u (atS (visL R) k)<0:=λu hu=>by
   obtain⟨i,hi,rfl⟩:=wsv.1 hu;exact⟨wgd (by omega),wh6 (wdq R) hi (by omega)⟩
  have key:(getA (ob1 R (visL R) k).e ((atS (visL R) k).o,(atS (visL R) k).p)).isSome=endB R (atS (visL R) k):=by
   rw[Bool.eq_iff_iff,Option.isSome_iff_exists]
   constructor
   ·rintro⟨c,hc⟩;obtain⟨u,hu,h1,h2,h3,_⟩:=(ihe _ _ _).1 hc;obtain⟨w1,w2⟩:=low u hu;exact wj7.2 ⟨u,w1,h1,h2,(woe h1 h2).1 w2,h3⟩
   ·intro h;obtain⟨u,hu,h1,h2,h3,h4,h5⟩:=wui h;obtain⟨j,hj,rfl⟩:=wi7 hu;have hlt:j<k:=by
     rcases Nat.lt_trichotomy j k with q | q | q
     ·exact q
     ·subst q;omega
     ·have:=(woe h1.symm h2.symm).1 (wh6 (wdq R) q hj);omega
    exact⟨_,(ihe _ _ _).2 ⟨_,wsv.2 ⟨j,hlt,rfl⟩,h1,h2,h4,h5,rfl⟩⟩
  have hnew:atS (visL R) k ∉ (ob1 R (visL R) k).p.map Prod.fst:=by
   rw[ihp,List.map_map];intro h;obtain⟨u,hu,e⟩:=List.mem_map.1 h;have e:u=atS (visL R) k:=e;have:=(low u (List.mem_filter.1 hu).1).2;rw[e,wch.self] at this;omega
  have ob:ob1 R (visL R) (k+1)=stO R (ob1 R (visL R) k) (atS (visL R) k):=rfl;have ls:=wfy (atS (visL R)) k;generalize hx:ob1 R (visL R) k=x at *;generalize hsl:atS (visL R) k=s at *;have more:finS R s=true/\endB R s=false∨(finS R s=false∨endB R s=true):=by
   cases finS R s<;>cases endB R s<;>simp
  have keepE:(finS R s=false∨endB R s=true)->∀o p c,getA x.e (o,p)=some c↔∃u∈lst (atS (visL R)) (k+1),u.o=o/\u.p=p/\finS R u=true/\endB R u=false/\c=u.per:=λhn o p c=>by
   rw[ihe,ls]
   constructor
   ·rintro⟨u,hu,h⟩;exact⟨u,List.mem_append_left _ hu,h⟩
   ·rintro⟨u,hu,h⟩
    rcases List.mem_append.1 hu with hu | hu
    ·exact⟨u,hu,h⟩
    ·rw[List.mem_singleton.1 hu] at h
     rcases hn with hn | hn
     ·rw[hn] at h;exact absurd h.2.2.1 (by simp)
     ·rw[hn] at h;exact absurd h.2.2.2.1 (by simp)
  have keepP:prB R s=false->x.p=((lst (atS (visL R)) (k+1)).filter (prB R)).map λs=>(s,(resB R s).1.pr):=λh=>by
   rw[ihp,ls,List.filter_append,List.filter_cons_of_neg (by simp[h])];simp
  have keepR:repB R s=false->x.r=((lst (atS (visL R)) (k+1)).filter (repB R)).map λs=>(resB R s).1:=λh=>by
   rw[ihr,ls,List.filter_append,List.filter_cons_of_neg (by simp[h])];simp
  cases hv:verB R s with
  |false=>
   have h1:finS R s=false:=by unfold finS;rw[hv];rfl
   have h2:prB R s=false:=by unfold prB;rw[hv];rfl
   have h3:repB R s=false:=by unfold repB;rw[hv];rfl
   have e:ob1 R (visL R) (k+1)=x:=by rw[ob];unfold stO;rw[hv,Bool.not_false,Bool.or_true];rfl
   exact⟨by rw[e];exact keepE (.inl h1),by rw[e];exact keepP h2,by rw[e];exact keepR h3⟩
  |true=>
   cases he:endB R s with
   |true=>
    have h2:prB R s=false:=by unfold prB;rw[he];simp
    have h3:repB R s=false:=by unfold repB;rw[he];simp
    have e:ob1 R (visL R) (k+1)=x:=by rw[ob];unfold stO;rw[key,he];rfl
    exact⟨by rw[e];exact keepE (.inr he),by rw[e];exact keepP h2,by rw[e];exact keepR h3⟩
   |false=>
    rw[he] at key
    cases hf:finB (resB R s).1 with
    |true=>
     have h1:finS R s=true:=by unfold finS;rw[hv,hf];rfl
     have h2:prB R s=false:=by unfold prB;rw[w2c hf];simp
     have h3:repB R s=decide ((resB R s).1.st=5):=by unfold repB;rw[hv,he];rfl
     have e:ob1 R (visL R) (k+1)=⟨setA x.e (s.o,s.p) s.per,x.p,bif decide ((resB R s).1.st=5) then x.r++[(resB R s).1] else x.r⟩:=by rw[ob];unfold stO;rw[key,hv,hf];rfl
     refine⟨λo p c=>?_,by rw[e];exact keepP h2,?_⟩
     ·rw[e];show getA (setA x.e (s.o,s.p) s.per) (o,p)=some c↔_;rw[wf3]
      by_cases q:(s.o,s.p)=(o,p)
      ·rw[decide_eq_true q,cond_true];injection q with q1 q2
       constructor
       ·intro hc;exact⟨s,by rw[ls];simp,q1,q2,h1,he,(oJ7 hc).symm⟩
       ·rintro⟨u,hu,u1,u2,u3,u4,rfl⟩;rw[ls] at hu
        rcases List.mem_append.1 hu with hu | hu
        ·have:=(ihe u.o u.p u.per).2 ⟨u,hu,rfl,rfl,u3,u4,rfl⟩;rw[u1,u2, ← q1, ← q2] at this;rw[this] at key;cases key
        ·rw[List.mem_singleton.1 hu]
      ·rw[decide_eq_false q,cond_false,ihe,ls]
       constructor
       ·rintro⟨u,hu,h⟩;exact⟨u,List.mem_append_left _ hu,h⟩
       ·rintro⟨u,hu,h⟩
        rcases List.mem_append.1 hu with hu | hu
        ·exact⟨u,hu,h⟩
        ·rw[List.mem_singleton.1 hu] at h;exact absurd (Prod.ext h.1 h.2.1) q
     ·rw[e,ls,List.filter_append];show (bif decide ((resB R s).1.st=5) then x.r++[(resB R s).1] else x.r)=_
      cases h5:decide ((resB R s).1.st=5) with
      |true=>rw[h5] at h3;rw[List.filter_cons_of_pos h3,ihr];simp
      |false=>rw[h5] at h3;rw[List.filter_cons_of_neg (by simp[h3]),ihr];simp
    |false=>
     have h1:finS R s=false:=by unfold finS;rw[hf];simp
     have n5:(resB R s).1.st≠5:=λq=>by rw[finB,q] at hf;cases hf
     have h3:repB R s=false:=by unfold repB;rw[decide_eq_false n5];simp
     have h2:prB R s=priB (resB R s).1:=by unfold prB;rw[hv,he];rfl
     have e:ob1 R (visL R) (k+1)=bif priB (resB R s).1 then ⟨x.e,setA x.p s (resB R s).1.pr,x.r⟩ else x:=by rw[ob];unfold stO;rw[key,hv,hf];rfl
     cases hp:priB (resB R s).1 with
     |true=>
      rw[hp,cond_true] at e;rw[hp] at h2;refine⟨by rw[e];exact keepE (.inl h1),?_,by rw[e];exact keepR h3⟩;rw[e,ls,List.filter_append,List.filter_cons_of_pos h2];show setA x.p s (resB R s).1.pr=_;rw[wwn hnew,ihp];simp
     |false=>
      rw[hp,cond_false] at e;rw[hp] at h2;exact⟨by rw[e];exact keepE (.inl h1),by rw[e];exact keepP h2,by rw[e];exact keepR h3⟩
def obE(R:List MG):List ((List UInt8×List UInt8)×Int):=(ob1 R (visL R) (visL R).length).e
theorem ob1_p(R:List MG):(ob1 R (visL R) (visL R).length).p=((visL R).filter (prB R)).map λs=>(s,(resB R s).1.pr):=by rw[(wha R _ (lR7 _)).p,wov]
theorem ob1_r(R:List MG):(ob1 R (visL R) (visL R).length).r=repL R:=by rw[(wha R _ (lR7 _)).r,wov];rfl
def ovrB(E:List ((List UInt8×List UInt8)×Int))(s:SL):Bool:=match getA E (s.o,s.p) with
 |some c=>decide (c<s.per)
 |none=>false
theorem ovr_end(R:List MG)(s:SL):ovrB (obE R) s=endB R s:=by
 have h:=(wha R _ (lR7 _)).e s.o s.p;rw[wov] at h;rw[Bool.eq_iff_iff];unfold ovrB
 constructor
 ·intro q
  cases g:getA (obE R) (s.o,s.p) with
  |none=>rw[g] at q;cases q
  |some c=>
   rw[g] at q;obtain⟨u,hu,h1,h2,h3,h4,rfl⟩:=(h c).1 g;exact wj7.2 ⟨u,hu,h1,h2,of_decide_eq_true q,h3⟩
 ·intro q;obtain⟨u,hu,h1,h2,h3,h4,h5⟩:=wui q;have g:getA (obE R) (s.o,s.p)=some u.per:=(h u.per).2 ⟨u,hu,h1,h2,h4,h5,rfl⟩;rw[g];exact decide_eq_true h3
def IsGiv(G:VT->Prop)(r:Int):Prop:=(∀v,¬ G v)/\r=0∨(∃v,G v/\(∀w,G w->w.pr=v.pr)/\r=v.pr)∨(∃v w,G v/\G w/\v.pr≠w.pr)/\r=0
def allQ(c:Int)(l:List VT):Bool:=l.all λw=>decide (w.pr=c)
def givL:List VT->Int
 |[]=>0
 |v::l=>bif allQ v.pr l then v.pr else 0
theorem wti(l:List VT):IsGiv (λv=>v∈l) (givL l):=by
 cases l with
 |nil=>exact .inl ⟨λv=>by simp,rfl⟩
 |cons v l=>
  rw[givL]
  cases h:allQ v.pr l with
  |true=>
   refine .inr (.inl ⟨v,List.mem_cons_self,λw hw=>?_,rfl⟩)
   rcases List.mem_cons.1 hw with rfl | hw
   ·rfl
   ·exact of_decide_eq_true (List.all_eq_true.1 h w hw)
  |false=>
   obtain⟨w,hw,q⟩:=List.all_eq_false.1 h;exact .inr (.inr ⟨⟨w,v,List.mem_cons_of_mem _ hw,List.mem_cons_self,λe=>q (decide_eq_true e)⟩,rfl⟩)
def isR(t:SL)(v:VT):Bool:=decide (rsl v=t)
def givS(R:List MG)(t:SL):Int:=givL ((repL R).filter (isR t))
def obP(R:List MG)(t:SL):Int:=bif decide (t∈visL R) then (bif prB R t then (resB R t).1.pr else 0) else bif endB R t then 0 else givS R t
def obU(R:List MG):List SL:=((repL R).map rsl).foldl insS (visL R)
def obL(R:List MG):List SL:=(obU R).filter λt=>decide (0<obP R t)
theorem obU_asc(R:List MG):Asc ordS (obU R):=(whq _ _ (wdq R)).1
theorem wr7{R:List MG}{t:SL}:t∈obU R↔t∈visL R∨∃v∈repL R,rsl v=t:=by
 rw[obU,(whq _ _ (wdq R)).2,List.mem_map]
theorem wr9(R:List MG):Asc ordS (obL R):=(obU_asc R).filter _
theorem wiy{R:List MG}{t:SL}:t∈obL R↔t∈obU R/\0<obP R t:=by
 rw[obL,List.mem_filter,decide_eq_true_eq]
theorem wxc{R:List MG}{v:VT}:v∈repL R↔resB R (vsl v)=(v,1)/\endB R (vsl v)=false/\v.st=5:=by
 rw[repL,List.mem_map]
 constructor
 ·rintro⟨s,hs,rfl⟩;obtain⟨h1,h2⟩:=List.mem_filter.1 hs;unfold repB at h2;rw[bA7,bA7,Bool.not_eq_true',decide_eq_true_eq] at h2;obtain⟨e1,e2,e3⟩:=h2;have e1:(resB R s).2=1:=of_decide_eq_true e1;have w:=(wrr e1).1;rw[w];exact⟨Prod.ext rfl e1,e2,e3⟩
 ·rintro⟨h1,h2,h3⟩;have e1:(resB R (vsl v)).2=1:=by rw[h1]
  refine⟨vsl v,List.mem_filter.2 ⟨(wrr e1).2,?_⟩,by rw[h1]⟩;unfold repB verB;rw[h1,h2];simp[h3]
theorem wob{R:List MG}(hR:RightL R){s:SL}(h:(resB R s).2=1):visF (resB R s).1=true:=by
 obtain⟨m,hm,hk,e,_⟩:=wrs h;have h0:=hR.ok m hm;rw[← e]
 cases hv:visF m.v with
 |true=>rfl
 |false=>
  unfold msgF at h0;rw[hv] at h0
  cases h1:wbe m.dev<;>cases h2:numF m.seq<;>rw[h1] at h0<;>rw[h2] at h0<;>simp[hk] at h0
theorem wnx{v:VT}(h:visF v=true)(hs:v.st=1∨v.st=2∨v.st=5):1<=v.pr/\v.pr<=1099511627776:=by
 unfold visF at h;rw[bA7] at h;obtain⟨_,h⟩:=h
 rcases hs with q | q | q
 ·rw[q] at h;simp at h;exact⟨h.1.1,h.1.2⟩
 ·rw[q] at h;simp at h;exact⟨h.1.1,h.1.2⟩
 ·rw[q] at h;simp at h;exact⟨h.1.1.1,h.1.1.2⟩
theorem wru{R:List MG}(hR:RightL R){v:VT}(h:v∈repL R):1<=v.pr/\v.pr<=1099511627776:=by
 obtain⟨h1,_,h3⟩:=wxc.1 h;have:=wob hR (s:=vsl v) (by rw[h1]);rw[h1] at this;exact wnx this (.inr (.inr h3))
structure OW where
 p:List (SL×Int)
 w:List (SL×Bool)
def difA(p:List (SL×Int))(s:SL)(c:Int):Bool:=match getA p s with
 |some x=> !decide (x=c)
 |none=>false
def stW(V:List SL)(E:List ((List UInt8×List UInt8)×Int))(x:OW)(v:VT):OW:=
 bif decide (rsl v∈V) || ovrB E (rsl v) then x else ⟨setA x.p (rsl v) v.pr,bif difA x.p (rsl v) v.pr then setA x.w (rsl v) true else x.w⟩
def ob2(V:List SL)(E:List ((List UInt8×List UInt8)×Int))(p0:List (SL×Int))(l:List VT):Nat->OW
 |0=>⟨p0,[]⟩
 |k+1=>stW V E (ob2 V E p0 l k) (atX l k)
def obW(R:List MG)(k:Nat):OW:=ob2 (visL R) (obE R) (ob1 R (visL R) (visL R).length).p (repL R) k
def wrgB(w:List (SL×Bool))(s:SL):Bool:=match getA w s with
 |some b=>b
 |none=>false
theorem w03{α:Type}(l:List α)(a:α):(l++[a]).getLast?=some a:=by simp
def grpR(R:List MG)(t:SL)(k:Nat):List VT:=(lst (atX (repL R)) k).filter (isR t)
theorem w1v(R:List MG)(t:SL)(k:Nat):grpR R t (k+1)=bif isR t (atX (repL R) k) then grpR R t k++[atX (repL R) k] else grpR R t k:=by
 unfold grpR;rw[wfy,List.filter_append]
 cases h:isR t (atX (repL R) k) with
 |true=>simp[h]
 |false=>simp[h]
structure Ob2 (R:List MG) (k:Nat):Prop where
 nd:((obW R k).p.map Prod.fst).Nodup
 wn:∀x∈(obW R k).w,x.2=true
 old:∀t,t∈visL R∨endB R t=true->getA (obW R k).p t=getA (obW R 0).p t/\getA (obW R k).w t=none
 new:∀t,t ∉ visL R->endB R t=false->getA (obW R k).p t=(grpR R t k).getLast?.map VT.pr/\(wrgB (obW R k).w t=false↔∀v∈grpR R t k,∀w∈grpR R t k,v.pr=w.pr)
theorem obW_0(R:List MG):(obW R 0).p=((visL R).filter (prB R)).map λs=>(s,(resB R s).1.pr):=ob1_p R
theorem wix(R:List MG):(obW R 0).p.map Prod.fst=(visL R).filter (prB R):=by
 rw[obW_0,List.map_map];exact(List.map_congr_left λ_ _=>rfl).trans (List.map_id _)
theorem wu5{L:List SL}(h:Asc ordS L):L.Nodup:=h.imp λh e=>by rw[e,wch.self] at h;omega
theorem we3(R:List MG):∀k,Ob2 R k
 |0=>by
  refine⟨?_,λx hx=>(by cases hx),λt _=>⟨rfl,rfl⟩,λt h1 h2=>⟨?_,?_⟩⟩
  ·rw[wix];exact wu5 ((wdq R).filter _)
  ·have:getA (obW R 0).p t=none:=wju.2 (by rw[wix];exact λh=>h1 (List.mem_filter.1 h).1);rw[this];rfl
  ·exact⟨λ_ v hv=>(by cases hv),λ_=>rfl⟩
 |k+1=>by
  have ih:=we3 R k;have st:obW R (k+1)=stW (visL R) (obE R) (obW R k) (atX (repL R) k):=rfl;have gs:=λt=>w1v R t k;have inde:=ih.nd;have iwn:=ih.wn;have iold:=ih.old;have inew:=ih.new;generalize hx:obW R k=x at *;generalize atX (repL R) k=v at *;unfold stW at st;rw[ovr_end] at st
  by_cases q:rsl v∈visL R∨endB R (rsl v)=true
  ·have e:obW R (k+1)=x:=by
    rw[st]
    rcases q with q | q
    ·rw[decide_eq_true q];rfl
    ·rw[q,Bool.or_true];rfl
   rw[← e] at inde iwn iold inew;refine⟨inde,iwn,iold,λt h1 h2=>?_⟩;have hne:isR t v=false:=decide_eq_false λh=>by
    rw[h] at q
    rcases q with q | q
    ·exact h1 q
    ·rw[h2] at q;cases q
   rw[gs,hne];exact inew t h1 h2
  ·rw[not_or] at q;have q2:endB R (rsl v)=false:=by simpa using q.2
   rw[decide_eq_false q.1,q2,Bool.or_false,cond_false] at st;have other:∀t,rsl v≠t->getA (obW R (k+1)).p t=getA x.p t/\getA (obW R (k+1)).w t=getA x.w t:=λt ht=>by
    rw[st]
    constructor
    ·show getA (setA x.p (rsl v) v.pr) t=_;rw[wf3,decide_eq_false ht];rfl
    ·show getA (bif difA x.p (rsl v) v.pr then setA x.w (rsl v) true else x.w) t=_
     cases difA x.p (rsl v) v.pr with
     |true=>rw[cond_true,wf3,decide_eq_false ht];rfl
     |false=>rfl
   refine⟨?_,?_,λt ht=>?_,λt h1 h2=>?_⟩
   ·rw[st];exact wg4 inde _ _
   ·rw[st];show ∀y∈(bif difA x.p (rsl v) v.pr then setA x.w (rsl v) true else x.w),y.2=true
    cases difA x.p (rsl v) v.pr with
    |false=>exact iwn
    |true=>
     rw[cond_true];have:∀B:List (SL×Bool),(∀y∈B,y.2=true)->∀y∈setA B (rsl v) true,y.2=true:=λB=>by
      induction B with
      |nil=>intro _ y hy;rw[setA,List.mem_singleton] at hy;rw[hy]
      |cons z B ihB=>
       intro h y hy;rw[setA] at hy
       cases hz:decide (z.1=rsl v) with
       |true=>
        rw[hz,cond_true] at hy
        rcases List.mem_cons.1 hy with rfl | hy
        ·rfl
        ·exact h y (List.mem_cons_of_mem _ hy)
       |false=>
        rw[hz,cond_false] at hy
        rcases List.mem_cons.1 hy with rfl | hy
        ·exact h _ List.mem_cons_self
        ·exact ihB (λy hy=>h y (List.mem_cons_of_mem _ hy)) y hy
     exact this _ iwn
   ·have hne:rsl v≠t:=λe=>by
     rw[← e] at ht
     rcases ht with ht | ht
     ·exact q.1 ht
     ·rw[q2] at ht;cases ht
    obtain⟨o1,o2⟩:=other t hne;obtain⟨i1,i2⟩:=iold t ht;exact⟨o1.trans i1,o2.trans i2⟩
   ·by_cases e:rsl v=t
    ·subst e;have hr:isR (rsl v) v=true:=decide_eq_true rfl;obtain⟨i1,i2⟩:=inew _ h1 h2;rw[gs,hr,cond_true];have d1:difA x.p (rsl v) v.pr=true↔∃w∈(grpR R (rsl v) k).getLast?,w.pr≠v.pr:=by
      unfold difA;rw[i1]
      cases (grpR R (rsl v) k).getLast? with
      |none=>simp
      |some w=>simp
     refine⟨?_,?_⟩
     ·rw[st,w03];show getA (setA x.p (rsl v) v.pr) (rsl v)=_;rw[wf3,decide_eq_true rfl];rfl
     ·rw[st];show wrgB (bif difA x.p (rsl v) v.pr then setA x.w (rsl v) true else x.w) (rsl v)=false↔_
      cases hd:difA x.p (rsl v) v.pr with
      |true=>
       rw[cond_true];have:wrgB (setA x.w (rsl v) true) (rsl v)=true:=by unfold wrgB;rw[wf3,decide_eq_true rfl];rfl
       rw[this];obtain⟨w,hw,hne⟩:=d1.1 hd;refine⟨λh=>(by cases h),λh=>absurd (h w ?_ v ?_) hne⟩
       ·exact List.mem_append_left _ (List.mem_of_getLast? hw)
       ·exact List.mem_append_right _ (List.mem_singleton.2 rfl)
      |false=>
       rw[cond_false,i2];have hn:∀w,(grpR R (rsl v) k).getLast?=some w->w.pr=v.pr:=λw hw=>by
        by_cases hh:w.pr=v.pr
        ·exact hh
        ·rw[d1.2 ⟨w,hw,hh⟩] at hd;cases hd
       constructor
       ·intro h;have all:∀a∈grpR R (rsl v) k,a.pr=v.pr:=λa ha=>by
         cases hl:(grpR R (rsl v) k).getLast? with
         |none=>rw[List.getLast?_eq_none_iff.1 hl] at ha;cases ha
         |some w=>rw[h a ha w (List.mem_of_getLast? hl),hn w hl]
        have all2:∀a∈grpR R (rsl v) k++[v],a.pr=v.pr:=λa ha=>by
         rcases List.mem_append.1 ha with ha | ha
         ·exact all a ha
         ·rw[List.mem_singleton.1 ha]
        exact λa ha b hb=>(all2 a ha).trans (all2 b hb).symm
       ·intro h a ha b hb;exact h a (List.mem_append_left _ ha) b (List.mem_append_left _ hb)
    ·have hr:isR t v=false:=decide_eq_false e;obtain⟨o1,o2⟩:=other t e;obtain⟨i1,i2⟩:=inew t h1 h2;rw[gs,hr,cond_false];refine⟨o1.trans i1,?_⟩;rw[← i2];unfold wrgB;rw[o2]
def obN(R:List MG):OW:=obW R (repL R).length
theorem w1w(R:List MG)(t:SL):grpR R t (repL R).length=(repL R).filter (isR t):=by rw[grpR,lst_atX]
theorem obN_at{R:List MG}(hR:RightL R)(t:SL):(0<obP R t/\t∈obU R↔(getA (obN R).p t).isSome=true/\wrgB (obN R).w t=false)/\((getA (obN R).p t).isSome=true->wrgB (obN R).w t=false->getA (obN R).p t=some (obP R t)):=by
 have h:=we3 R (repL R).length;have hold:=h.old t;have hnew:=h.new t;change _->getA (obN R).p t=_/\getA (obN R).w t=_ at hold;change _->_->getA (obN R).p t=_/\(wrgB (obN R).w t=false↔_) at hnew;rw[w1w] at hnew
 by_cases hv:t∈visL R
 ·obtain⟨h1,h2⟩:=hold (.inl hv);have hw:wrgB (obN R).w t=false:=by unfold wrgB;rw[h2]
  have hu:t∈obU R:=wr7.2 (.inl hv)
  cases hp:prB R t with
  |true=>
   have hm:(t,(resB R t).1.pr)∈(obW R 0).p:=by rw[obW_0];exact List.mem_map.2 ⟨t,List.mem_filter.2 ⟨hv,hp⟩,rfl⟩
   have hg:getA (obW R 0).p t=some (resB R t).1.pr:=getA_at (we3 R 0).nd hm;have hO:obP R t=(resB R t).1.pr:=by unfold obP;rw[decide_eq_true hv,hp];rfl
   have hpos:1<=(resB R t).1.pr:=by
    unfold prB verB priB at hp;rw[bA7,bA7,decide_eq_true_eq,Bool.or_eq_true,decide_eq_true_eq,decide_eq_true_eq] at hp;exact(wnx (wob hR hp.1) (hp.2.2.elim .inl λh=>.inr (.inl h))).1
   rw[h1,hg,hw,hO];exact⟨⟨λ_=>⟨rfl,rfl⟩,λ_=>⟨by omega,hu⟩⟩,λ_ _=>rfl⟩
  |false=>
   have hg:getA (obW R 0).p t=none:=wju.2 (by rw[wix];exact λh=>by rw[(List.mem_filter.1 h).2] at hp;cases hp);have hO:obP R t=0:=by unfold obP;rw[decide_eq_true hv,hp];rfl
   rw[h1,hg,hO];exact⟨⟨λh=>absurd h.1 (by decide),λh=>absurd h.1 (by simp)⟩,λh=>absurd h (by simp)⟩
 ·cases he:endB R t with
  |true=>
   obtain⟨h1,h2⟩:=hold (.inr he);have hg:getA (obW R 0).p t=none:=wju.2 (by rw[wix];exact λh=>hv (List.mem_filter.1 h).1);have hO:obP R t=0:=by unfold obP;rw[decide_eq_false hv,he];rfl
   rw[h1,hg,hO];exact⟨⟨λh=>absurd h.1 (by decide),λh=>absurd h.1 (by simp)⟩,λh=>absurd h (by simp)⟩
  |false=>
   obtain⟨h1,h2⟩:=hnew hv he;have hO:obP R t=givS R t:=by unfold obP;rw[decide_eq_false hv,he];rfl
   have hG:=wti ((repL R).filter (isR t));have mem:∀ {v},v∈(repL R).filter (isR t)->v∈repL R/\rsl v=t:=λhv=>⟨(List.mem_filter.1 hv).1,of_decide_eq_true (List.mem_filter.1 hv).2⟩;have hU:t∈obU R↔(repL R).filter (isR t)≠[]:=by
    rw[wr7]
    constructor
    ·rintro(h | ⟨v,h,e⟩)
     ·exact absurd h hv
     ·exact List.ne_nil_of_mem (List.mem_filter.2 ⟨h,decide_eq_true e⟩)
    ·intro h;obtain⟨v,hm⟩:=List.exists_mem_of_ne_nil _ h;exact .inr ⟨v,mem hm⟩
   rw[hO,hU,h2,h1];unfold givS;generalize (repL R).filter (isR t)=G at *
   rcases hG with⟨g1,g2⟩ | ⟨v,g1,g2,g3⟩ | ⟨⟨v,w,g1,g2,g3⟩,g4⟩
   ·have:G=[]:=List.eq_nil_iff_forall_not_mem.2 g1;subst this;rw[g2];exact⟨⟨λh=>absurd h.1 (by decide),λh=>absurd h.1 (by simp)⟩,λh=>absurd h (by simp)⟩
   ·have hp:=(wru hR (mem g1).1).1;have hall:∀a∈G,∀b∈G,a.pr=b.pr:=λa ha b hb=>(g2 a ha).trans (g2 b hb).symm;have hne:G≠[]:=List.ne_nil_of_mem g1
    cases hl:G.getLast? with
    |none=>exact absurd (List.getLast?_eq_none_iff.1 hl) hne
    |some u=>
     have:u.pr=v.pr:=g2 u (List.mem_of_getLast? hl);rw[g3];refine⟨⟨λ_=>⟨rfl,hall⟩,λ_=>⟨by omega,hne⟩⟩,λ_ _=>?_⟩;show some u.pr=some v.pr;rw[this]
   ·rw[g4];exact⟨⟨λh=>absurd h.1 (by decide),λh=>absurd (h.2 v g1 w g2) g3⟩,λ_ h=>absurd (h v g1 w g2) g3⟩
theorem wxt{R:List MG}(hR:RightL R){E:List (SL×Int)}{L:List SL}(hE:E.Perm (obN R).p)(hL:L.Perm ((E.map Prod.fst).filter λt=> !wrgB (obN R).w t))(hs:L.Pairwise λx y=>¬ ordS y x<0):L=obL R:=by
 have hnd:=(we3 R (repL R).length).nd;have hEk:(E.map Prod.fst).Perm ((obN R).p.map Prod.fst):=hE.map _;have hn:L.Nodup:=by
  rw[hL.nodup_iff];exact(hEk.nodup_iff.2 hnd).sublist List.filter_sublist
 refine Asc.uniq wch (Asc.of_sorted hs wch (hn.imp λh q=>h (wiv.1 q))) (wr9 R) λt=>?_;rw[hL.mem_iff,List.mem_filter,hEk.mem_iff,wiy,and_comm (a:=t∈obU R),(obN_at hR t).1,Bool.not_eq_true'];refine and_congr_left λ_=>?_
 cases hg:getA (obN R).p t with
 |none=>simpa using wju.1 hg
 |some c=>simpa using⟨c,wtr hg⟩
theorem wr8{R:List MG}(hR:RightL R){t:SL}(h:t∈obL R):getA (obN R).p t=some (obP R t):=by
 obtain⟨h1,h2⟩:=obN_at hR t;have:=h1.1 ⟨(wiy.1 h).2,(wiy.1 h).1⟩;exact h2 this.1 this.2
theorem wsb{α:Type}[DecidableEq α]:∀ {l m:List α},l.Nodup->(∀x∈l,x∈m)->l.length<=m.length
 |[],m,_,_=>zL7 _
 |a::l,m,hn,h=>by
  obtain⟨h1,h2⟩:=List.nodup_cons.1 hn;have ha:=h a List.mem_cons_self;have:=wsb (l:=l) (m:=m.erase a) h2 λx hx=>(List.mem_erase_of_ne (λe=>h1 (by rw[← e];exact hx))).2 (h x (List.mem_cons_of_mem _ hx));rw[List.length_erase_of_mem ha] at this;have:=List.length_pos_of_mem ha;rw[List.length_cons];omega
def slC(s:SL):List AV:=[.str s.o,.str s.p,.q s.per]
def wap(g:Nat->SL)(i:Nat):List AV:=[.str (g i).o,.str (g i).p,.q (g i).per]
def slOf(f:Nat->List AV)(i:Nat):SL:=match f i with
 |[.str o,.str p,.int .i64 per]=>⟨o,p,per⟩
 |_=>default
def vtC(v:VT):List AV:=[.str v.o,.str v.p,.q v.per,.q v.day,.q v.st,.q v.pr,.str v.rep]
def wae(g:Nat->VT)(i:Nat):List AV:=[.str (g i).o,.str (g i).p,.q (g i).per,.q (g i).day,.q (g i).st,.q (g i).pr,.str (g i).rep]
def vtOf(f:Nat->List AV)(i:Nat):VT:=match f i with
 |[.str o,.str p,.int .i64 per,.int .i64 day,.int .i64 st,.int .i64 pr,.str rep]=>⟨o,p,per,day,st,pr,rep⟩
 |_=>default
def wge:Spec
 |[.agg [.str dev,.int .i64 seq,.int .i64 kind,.str o,.str p,.int .i64 per,.int .i64 day,.int .i64 st,.int .i64 pr,.str rep,.str o',.str p',.int .i64 per',.str dev',.int .i64 num]],[]=>
   some (.agg [.str (whr ⟨dev,seq,kind,⟨o,p,per,day,st,pr,rep⟩,⟨o',p',per',dev',num⟩⟩).o,.str (whr ⟨dev,seq,kind,⟨o,p,per,day,st,pr,rep⟩,⟨o',p',per',dev',num⟩⟩).p,.q (whr ⟨dev,seq,kind,⟨o,p,per,day,st,pr,rep⟩,⟨o',p',per',dev',num⟩⟩).per],[],True)
 |_,_=>none
def wgl:Spec
 |[.agg [.str _,.int .i64 _,.int .i64 kind,.str _,.str _,.int .i64 _,.int .i64 _,.int .i64 _,.int .i64 _,.str _,.str _,.str _,.int .i64 _,.str _,.int .i64 _]],[]=>some (.bool (decide (kind=1)),[],True)
 |_,_=>none
def wlz:Spec
 |[.view 15 n f,.func 78 []],[]=>some (.q (ixB (λi=>isV (mgOf f i)) n),[],n<=1000000/\f=waa (mgOf f))
 |_,_=>none
def wly(g:Nat->MG)(n k:Nat):St:=⟨[(0,.view 15 n (waa g)),(1,.func 78 []),(7,.q n),(8,.q k)],[],0,[]⟩
def wnh(g:Nat->MG)(n:Nat):waq:=λst Q=>canonIs te 0 [0,1,7,8] st (wly g n 0)/\n<=1000000/\
 wab (decide (fstB (λi=>isV (g i)) n<n)) (Q .ret ⟨[(4,.q (fstB (λi=>isV (g i)) n))],[],0,[]⟩) (Q (.exit 0) ⟨[],[],0,[]⟩)
def wmj:Spec
 |[.view 15 n f,.func 78 []],[]=>some (.bool (decide (0<=ixB (λi=>isV (mgOf f i)) n)),[],n<=1000000/\f=waa (mgOf f))
 |_,_=>none
def wgg:Spec
 |[.agg [.str o,.str p,.int .i64 per],.agg [.str o',.str p',.int .i64 per']],[]=>some (.q (ordS ⟨o,p,per⟩ ⟨o',p',per'⟩),[],True)
 |_,_=>none
def wgu:wdm
 |[.own 0 n,.func 42 []],[.row t 3 m f fr],R=>t=78/\fr=false/\n=m/\n<=1000000/\f=wap (slOf f)/\
   ∀h:Nat->SL,(lst h n).Perm (lst (slOf f) n)->(∀i j,i<j->j<n->¬ ordS (h j) (h i)<0)->R (.tuple []) [(0,.row 78 3 n (wap h) false)]
 |_,_,_=>False
def wev:Spec
 |[.agg [.str o,.str p,.int .i64 per,.int .i64 day,.int .i64 st,.int .i64 pr,.str rep]],[]=>some (.bool (finB ⟨o,p,per,day,st,pr,rep⟩),[],True)
 |_,_=>none
def wlu:Spec
 |[.view 7 n f,.func 40 []],[]=>some (.q (ixB (λi=>finB (vtOf f i)) n),[],n<=1000000/\f=wae (vtOf f))
 |_,_=>none
def wlt(g:Nat->VT)(n k:Nat):St:=⟨[(0,.view 7 n (wae g)),(1,.func 40 []),(7,.q n),(8,.q k)],[],0,[]⟩
def wnd(g:Nat->VT)(n:Nat):waq:=λst Q=>canonIs te 0 [0,1,7,8] st (wlt g n 0)/\n<=1000000/\
 wab (decide (fstB (λi=>finB (g i)) n<n)) (Q .ret ⟨[(4,.q (fstB (λi=>finB (g i)) n))],[],0,[]⟩) (Q (.exit 0) ⟨[],[],0,[]⟩)
end Go.Eng
namespace Go.Eng
open Go.Proofs Go.RowKit
variable {H:Type} {enc:TypeId×Value->H} {W:World}
theorem undVs:Tryz.prog.underlying 53=some (.slice 43):=by kernel_rfl
theorem el_vt{sp:Nat->Bool}{hd:Bool}{n:Nat}{cs:List Value}{x:DataW H×List MemPlace}(h:DataW.trod enc Tryz.prog W 0 sp hd n 43 cs=some x):∃v:VT,True/\ELm W cs (vtC v):=by
 obtain⟨xv,nv,rfl,_,hc,lv,fv⟩:=DataW.trod_struct undMV h;rw[cMV] at hc;obtain⟨a3,a4,a5,a6,a7,a8,a9,rfl⟩:=list7 hc;obtain⟨z3,g3⟩:=field lv fv 0 9 0 (by kernel_rfl);rw[cS] at g3;obtain⟨z4,g4⟩:=field lv fv 1 9 1 (by kernel_rfl);rw[cS] at g4;obtain⟨z5,g5⟩:=field lv fv 2 3 2 (by kernel_rfl);rw[cI] at g5;obtain⟨z6,g6⟩:=field lv fv 3 3 3 (by kernel_rfl);rw[cI] at g6;obtain⟨z7,g7⟩:=field lv fv 4 3 4 (by kernel_rfl);rw[cI] at g7;obtain⟨z8,g8⟩:=field lv fv 5 2 5 (by kernel_rfl);rw[cI2] at g8;obtain⟨z9,g9⟩:=field lv fv 6 9 6 (by kernel_rfl);rw[cS] at g9;obtain⟨s3,e3,_⟩:=DataW.trod_string undS g3;obtain⟨s4,e4,_⟩:=DataW.trod_string undS g4;obtain⟨i5,e5,_⟩:=DataW.trod_int undI g5;obtain⟨i6,e6,_⟩:=DataW.trod_int undI g6;obtain⟨i7,e7,_⟩:=DataW.trod_int undI g7;obtain⟨i8,e8,_⟩:=DataW.trod_int undI2 g8;obtain⟨s9,e9,_⟩:=DataW.trod_string undS g9;simp at e3 e4 e5 e6 e7 e8 e9;subst e3 e4 e5 e6 e7 e8 e9;exact⟨⟨s3.data.toList,s4.data.toList,i5,i6,i7,i8,s9.data.toList⟩,trivial,⟨rfl,.str rfl⟩,⟨rfl,.str rfl⟩,⟨rfl,.int⟩,⟨rfl,.int⟩,⟨rfl,.int⟩,⟨rfl,.int⟩,⟨rfl,.str rfl⟩,trivial⟩
theorem wxd{fuel:Nat}{cs:List Value}{x:DataW H×List MemPlace}{sp:Nat->Bool}{hd:Bool}(h:DataW.trod enc Tryz.prog W 0 sp hd fuel 53 cs=some x):
  ∃(A:Option Addr) (n c:Nat) (g:Nat->VT),cs=[.slice A n c]/\V W (λ_=>False) nob (.slice A n c) (.view 7 n (wae g)):=by
 obtain⟨A,n,c,g,e,v,_⟩:=wxe (⟨[],[],0,0,0,0,[]⟩:VT) vtC (λ_=>True) undVs cMV (by omega) (λ_=>rfl) el_vt h;exact⟨A,n,c,g,e,v⟩
end Go.Eng
namespace Go.Eng
def S_cn(M:List MG)(k:Nat):St:=⟨[(4,.map 0),(5,.own 1 (clnP M k).length),(13,.own 2 M.length),(14,.q M.length),(15,.q k)],
 [(0,.amap (entM (cntL (atM M) M.length))),(1,.row 103 2 (clnP M k).length (wb9 (atK (clnP M k))) false),(2,.row 47 15 M.length (waa (atM M)) false)],3,[]⟩
def L_cn(M:List MG):waq:=λst Q=>canonIs te 0 [4,5,13,14,15] (ownNil 5 103 2 st) (S_cn M 0)/\M.length<=100000/\
 Q (.exit 0) ⟨[(5,.own 0 (clnP M M.length).length)],[(0,.row 103 2 (clnP M M.length).length (wb9 (atK (clnP M M.length))) false)],1,[]⟩
def wmi:Spec
 |[.view 15 n f],[]=>some (.view 2 (wb5 (mgOf f) n).length (wb9 (atK (wb5 (mgOf f) n))),[],n<=100000/\f=waa (mgOf f)/\∀i,i<n->(mgOf f i).Sm)
 |_,_=>none
end Go.Eng
