/- A row of the state, told by another function that gives the same. -/
import Derived.Test.YtmcdngcjakjnmaaGreatDoorJst
namespace Go.Eng
def atS(L:List SL)(i:Nat):SL:=L.getD i default
def atX(L:List VT)(i:Nat):VT:=L.getD i default
theorem win{L:List SL}{i:Nat}(h:i<L.length):atS L i=L[i]:=by simp[atS,h]
theorem wed{L:List SL}{i:Nat}(h:i<L.length):atS L i∈L:=by rw[win h];exact List.getElem_mem h
theorem wjp{L:List SL}{x:SL}(h:x∈L):∃i,i<L.length/\atS L i=x:=by
 obtain⟨i,hi,e⟩:=List.getElem_of_mem h;exact⟨i,hi,(win hi).trans e⟩
theorem wo9(L:List SL):lst (atS L) L.length=L:=by
 refine List.ext_getElem (by simp[lst]) λi h1 h2=>?_;simp[lst,win h2]
theorem atX_get{L:List VT}{i:Nat}(h:i<L.length):atX L i=L[i]:=by simp[atX,h]
theorem lst_atX(L:List VT):lst (atX L) L.length=L:=by
 refine List.ext_getElem (by simp[lst]) λi h1 h2=>?_;simp[lst,atX_get h2]
theorem wgo{L:List SL}(h:Asc ordS L){i j:Nat}(hij:i<j)(hj:j<L.length):ordS (atS L i) (atS L j)<0:=by
 rw[win (by omega),win hj];exact List.pairwise_iff_getElem.1 h i j (by omega) hj hij
theorem wos{a b:SL}(ho:a.o=b.o)(hp:a.p=b.p):ordS a b<0↔a.per<b.per:=by
 have h1:cmpS a.o b.o=0:=wea.2 ho;have h2:cmpS a.p b.p=0:=wea.2 hp;have h3:=web a.per b.per;have e:ordS a b=cmpI a.per b.per:=by
  unfold ordS;rw[h1,h2];simp only[orL,decide_true,cond_true]
  by_cases q:cmpI a.per b.per=0
  ·rw[q];rfl
  ·rw[decide_eq_false q];rfl
 rw[e];omega
def keyB(o p:List UInt8)(s:SL):Bool:=decide (s.o=o) && decide (s.p=p)
def finB(v:VT):Bool:=decide (v.st=4) || decide (v.st=5)
def getA{κ α:Type}[DecidableEq κ]:List (κ×α)->κ->Option α
 |[],_=>none
 |x::B,s=>bif decide (x.1=s) then some x.2 else getA B s
def setA{κ α:Type}[DecidableEq κ]:List (κ×α)->κ->α->List (κ×α)
 |[],s,c=>[(s,c)]
 |x::B,s,c=>bif decide (x.1=s) then (s,c)::B else x::setA B s c
section
variable {κ α:Type} [DecidableEq κ]
theorem wgd(B:List (κ×α))(s t:κ)(c:α):getA (setA B s c) t=bif decide (s=t) then some c else getA B t:=by
 induction B with
 |nil=>simp[setA,getA]
 |cons x B ih=>
  rw[setA]
  by_cases h:x.1=s
  ·rw[decide_eq_true h]
   by_cases h':s=t
   ·simp[getA,h']
   ·have:¬ x.1=t:=λq=>h' (h ▸ q);simp[getA,this,h']
  ·rw[decide_eq_false h]
   by_cases h':x.1=t
   ·have:¬ s=t:=λq=>h (h'.trans q.symm);simp[getA,h',this]
   ·simp[getA,h',ih]
theorem wkc{B:List (κ×α)}{s:κ}:getA B s=none↔s ∉ B.map Prod.fst:=by
 induction B with
 |nil=>simp[getA]
 |cons x B ih=>
  rw[getA]
  by_cases h:x.1=s
  ·simp[h]
  ·have h':¬ s=x.1:=λq=>h q.symm;rw[decide_eq_false h,cond_false,ih,List.map_cons,List.mem_cons];simp[h']
theorem wwn{B:List (κ×α)}{s:κ}{c:α}(h:s ∉ B.map Prod.fst):setA B s c=B++[(s,c)]:=by
 induction B with
 |nil=>rfl
 |cons x B ih=>
  rw[List.map_cons,List.mem_cons,not_or] at h;rw[setA,decide_eq_false (λq=>h.1 q.symm),cond_false,ih h.2];rfl
theorem wrf(B:List (κ×α))(s:κ)(c:α):(setA B s c).map Prod.fst=bif decide (s∈B.map Prod.fst) then B.map Prod.fst else B.map Prod.fst++[s]:=by
 induction B with
 |nil=>simp[setA]
 |cons x B ih=>
  rw[setA]
  by_cases h:x.1=s
  ·rw[decide_eq_true h];simp[h]
  ·rw[decide_eq_false h,cond_false,List.map_cons,ih];have h':¬ s=x.1:=λq=>h q.symm
   by_cases q:s∈B.map Prod.fst
   ·have q2:s∈(x::B).map Prod.fst:=List.mem_cons_of_mem _ q;rw[decide_eq_true q,decide_eq_true q2];rfl
   ·have q2:s ∉ (x::B).map Prod.fst:=by
     rw[List.map_cons,List.mem_cons];exact λe=>e.elim h' q
    rw[decide_eq_false q,decide_eq_false q2];rfl
theorem whi{B:List (κ×α)}(h:(B.map Prod.fst).Nodup)(s:κ)(c:α):((setA B s c).map Prod.fst).Nodup:=by
 rw[wrf]
 by_cases q:s∈B.map Prod.fst
 ·rw[decide_eq_true q];exact h
 ·rw[decide_eq_false q,cond_false,List.nodup_append];refine⟨h,by simp,λa ha b hb e=>q ?_⟩;rw[List.mem_singleton.1 hb] at e;exact e ▸ ha
theorem wwo(B:List (κ×α))(s:κ)(c:α):(setA B s c).length<=B.length+1:=by
 have h:=congrArg List.length (wrf B s c);rw[List.length_map] at h;rw[h]
 cases decide (s∈B.map Prod.fst) with
 |true=>rw[cond_true,List.length_map];omega
 |false=>rw[cond_false,lA7,List.length_map];exact lR7 _
theorem getA_at{B:List (κ×α)}(hn:(B.map Prod.fst).Nodup){x:κ×α}(h:x∈B):getA B x.1=some x.2:=by
 induction B with
 |nil=>cases h
 |cons y B ih=>
  rw[List.map_cons,List.nodup_cons] at hn
  rcases List.mem_cons.1 h with rfl | h
  ·simp[getA]
  ·have:¬ y.1=x.1:=λq=>hn.1 (q ▸ List.mem_map_of_mem h);rw[getA,decide_eq_false this];exact ih hn.2 h
theorem wt0{B:List (κ×α)}{s:κ}{c:α}(h:getA B s=some c):(s,c)∈B:=by
 induction B with
 |nil=>cases h
 |cons x B ih=>
  rw[getA] at h
  by_cases q:x.1=s
  ·rw[decide_eq_true q,cond_true] at h;have e:x=(s,c):=Prod.ext q (oJ7 h);rw[e];exact List.mem_cons_self
  ·rw[decide_eq_false q,cond_false] at h;exact List.mem_cons_of_mem _ (ih h)
end
def verB(R:List MG)(s:SL):Bool:=decide ((resB R s).2=1)
def priB(v:VT):Bool:=decide (v.st=1) || decide (v.st=2)
def finS(R:List MG)(s:SL):Bool:=verB R s && finB (resB R s).1
def endB(R:List MG)(t:SL):Bool:=(visL R).any λu=>keyB t.o t.p u && (decide (u.per<t.per) && finS R u)
def prB(R:List MG)(t:SL):Bool:=verB R t && (!endB R t && priB (resB R t).1)
def repB(R:List MG)(t:SL):Bool:=verB R t && (!endB R t && decide ((resB R t).1.st=5))
def repL(R:List MG):List VT:=((visL R).filter (repB R)).map λs=>(resB R s).1
def rsl(v:VT):SL:=⟨v.o,v.rep,v.per⟩
theorem w1n{o p:List UInt8}{s:SL}:keyB o p s=true↔s.o=o/\s.p=p:=by simp[keyB]
theorem wkp{R:List MG}{t:SL}:endB R t=true↔∃u∈visL R,u.o=t.o/\u.p=t.p/\u.per<t.per/\finS R u=true:=by
 rw[endB,List.any_eq_true];simp[w1n,and_assoc]
theorem fir_ex(R:List MG):∀(i:Nat),i<(visL R).length->finS R (atS (visL R) i)=true->
  ∃u∈visL R,u.o=(atS (visL R) i).o/\u.p=(atS (visL R) i).p/\u.per<=(atS (visL R) i).per/\finS R u=true/\endB R u=false:=by
 intro i
 induction i using Nat.strongRecOn with
 |_ i ih=>
  intro hi hf
  cases he:endB R (atS (visL R) i) with
  |false=>exact⟨_,wed hi,rfl,rfl,Int.le_refl _,hf,he⟩
  |true=>
   obtain⟨u,hu,h1,h2,h3,h4⟩:=wkp.1 he;obtain⟨j,hj,rfl⟩:=wjp hu;have hlt:j<i:=by
    rcases Nat.lt_trichotomy j i with q | q | q
    ·exact q
    ·subst q;omega
    ·have:=(wos h1.symm h2.symm).1 (wgo (wd3 R) q hj);omega
   obtain⟨w,hw,w1,w2,w3,w4⟩:=ih j hlt hj h4;exact⟨w,hw,w1.trans h1,w2.trans h2,by omega,w4⟩
theorem wuo{R:List MG}{t:SL}(h:endB R t=true):∃u∈visL R,u.o=t.o/\u.p=t.p/\u.per<t.per/\finS R u=true/\endB R u=false:=by
 obtain⟨u,hu,h1,h2,h3,h4⟩:=wkp.1 h;obtain⟨j,hj,rfl⟩:=wjp hu;obtain⟨w,hw,w1,w2,w3,w4⟩:=fir_ex R j hj h4;exact⟨w,hw,w1.trans h1,w2.trans h2,by omega,w4⟩
structure OB where
 e:List ((List UInt8×List UInt8)×Int)
 p:List (SL×Int)
 r:List VT
def stO(R:List MG)(x:OB)(s:SL):OB:=bif (getA x.e (s.o,s.p)).isSome || !verB R s then x else
 bif finB (resB R s).1 then ⟨setA x.e (s.o,s.p) s.per,x.p,bif decide ((resB R s).1.st=5) then x.r++[(resB R s).1] else x.r⟩
 else bif priB (resB R s).1 then ⟨x.e,setA x.p s (resB R s).1.pr,x.r⟩ else x
def ob1(R:List MG)(V:List SL):Nat->OB
 |0=>⟨[],[],[]⟩
 |k+1=>stO R (ob1 R V k) (atS V k)
theorem whz{α:Type}(g:Nat->α)(n:Nat):lst g (n+1)=lst g n++[g n]:=by simp[lst,List.range_succ]
theorem ws7{V:List SL}{k:Nat}{u:SL}:u∈lst (atS V) k↔∃i,i<k/\atS V i=u:=by simp[lst]
theorem w2n{v:VT}(h:finB v=true):priB v=false:=by
 rcases Bool.or_eq_true_iff.1 h with h | h
 ·have:v.st=4:=of_decide_eq_true h;unfold priB;rw[this];rfl
 ·have:v.st=5:=of_decide_eq_true h;unfold priB;rw[this];rfl
structure Ob1 (R:List MG) (k:Nat):Prop where
 e:∀o p c,getA (ob1 R (visL R) k).e (o,p)=some c↔∃u∈lst (atS (visL R)) k,u.o=o/\u.p=p/\finS R u=true/\endB R u=false/\c=u.per
 p:(ob1 R (visL R) k).p=((lst (atS (visL R)) k).filter (prB R)).map λs=>(s,(resB R s).1.pr)
 r:(ob1 R (visL R) k).r=((lst (atS (visL R)) k).filter (repB R)).map λs=>(resB R s).1
theorem whq(R:List MG):∀k,k<=(visL R).length->Ob1 R k
 |0,_=>⟨λo p c=>by simp[ob1,getA,lst],rfl,rfl⟩
 |k+1,hk=>by
  have ih:=whq R k (by omega);have ihe:=ih.e;have ihp:=ih.p;have ihr:=ih.r;have hs:=wed (show k<(visL R).length by omega);have low:∀u,u∈lst (atS (visL R)) k->u∈visL R/\ordS u (atS (visL R) k)<0:=λu hu=>by
   obtain⟨i,hi,rfl⟩:=ws7.1 hu;exact⟨wed (by omega),wgo (wd3 R) hi (by omega)⟩
  have key:(getA (ob1 R (visL R) k).e ((atS (visL R) k).o,(atS (visL R) k).p)).isSome=endB R (atS (visL R) k):=by
   rw[Bool.eq_iff_iff,Option.isSome_iff_exists]
   constructor
   ·rintro⟨c,hc⟩;obtain⟨u,hu,h1,h2,h3,_⟩:=(ihe _ _ _).1 hc;obtain⟨w1,w2⟩:=low u hu;exact wkp.2 ⟨u,w1,h1,h2,(wos h1 h2).1 w2,h3⟩
   ·intro h;obtain⟨u,hu,h1,h2,h3,h4,h5⟩:=wuo h;obtain⟨j,hj,rfl⟩:=wjp hu;have hlt:j<k:=by
     rcases Nat.lt_trichotomy j k with q | q | q
     ·exact q
     ·subst q;omega
     ·have:=(wos h1.symm h2.symm).1 (wgo (wd3 R) q hj);omega
    exact⟨_,(ihe _ _ _).2 ⟨_,ws7.2 ⟨j,hlt,rfl⟩,h1,h2,h4,h5,rfl⟩⟩
  have hnew:atS (visL R) k ∉ (ob1 R (visL R) k).p.map Prod.fst:=by
   rw[ihp,List.map_map];intro h;obtain⟨u,hu,e⟩:=List.mem_map.1 h;have e:u=atS (visL R) k:=e;have:=(low u (List.mem_filter.1 hu).1).2;rw[e,wck.self] at this;omega
  have ob:ob1 R (visL R) (k+1)=stO R (ob1 R (visL R) k) (atS (visL R) k):=rfl;have ls:=whz (atS (visL R)) k;generalize hx:ob1 R (visL R) k=x at *;generalize hsl:atS (visL R) k=s at *;have more:finS R s=true/\endB R s=false∨(finS R s=false∨endB R s=true):=by
   cases finS R s<;>cases endB R s<;>simp
  have keepE:(finS R s=false∨endB R s=true)->∀o p c,getA x.e (o,p)=some c↔∃u∈lst (atS (visL R)) (k+1),u.o=o/\u.p=p/\finS R u=true/\endB R u=false/\c=u.per:=λhn o p c=>by
   rw[ihe,ls]
   constructor
   ·rintro⟨u,hu,h⟩;exact⟨u,List.mem_append_left _ hu,h⟩
   ·rintro⟨u,hu,h⟩
    rcases List.mem_append.1 hu with hu | hu
    ·exact⟨u,hu,h⟩
    ·rw[List.mem_singleton.1 hu] at h
     rcases hn with hn | hn
     ·rw[hn] at h;exact absurd h.2.2.1 (by simp)
     ·rw[hn] at h;exact absurd h.2.2.2.1 (by simp)
  have keepP:prB R s=false->x.p=((lst (atS (visL R)) (k+1)).filter (prB R)).map λs=>(s,(resB R s).1.pr):=λh=>by
   rw[ihp,ls,List.filter_append,List.filter_cons_of_neg (by simp[h])];simp
  have keepR:repB R s=false->x.r=((lst (atS (visL R)) (k+1)).filter (repB R)).map λs=>(resB R s).1:=λh=>by
   rw[ihr,ls,List.filter_append,List.filter_cons_of_neg (by simp[h])];simp
  cases hv:verB R s with
  |false=>
   have h1:finS R s=false:=by unfold finS;rw[hv];rfl
   have h2:prB R s=false:=by unfold prB;rw[hv];rfl
   have h3:repB R s=false:=by unfold repB;rw[hv];rfl
   have e:ob1 R (visL R) (k+1)=x:=by rw[ob];unfold stO;rw[hv,Bool.not_false,Bool.or_true];rfl
   exact⟨by rw[e];exact keepE (.inl h1),by rw[e];exact keepP h2,by rw[e];exact keepR h3⟩
  |true=>
   cases he:endB R s with
   |true=>
    have h2:prB R s=false:=by unfold prB;rw[he];simp
    have h3:repB R s=false:=by unfold repB;rw[he];simp
    have e:ob1 R (visL R) (k+1)=x:=by rw[ob];unfold stO;rw[key,he];rfl
    exact⟨by rw[e];exact keepE (.inr he),by rw[e];exact keepP h2,by rw[e];exact keepR h3⟩
   |false=>
    rw[he] at key
    cases hf:finB (resB R s).1 with
    |true=>
     have h1:finS R s=true:=by unfold finS;rw[hv,hf];rfl
     have h2:prB R s=false:=by unfold prB;rw[w2n hf];simp
     have h3:repB R s=decide ((resB R s).1.st=5):=by unfold repB;rw[hv,he];rfl
     have e:ob1 R (visL R) (k+1)=⟨setA x.e (s.o,s.p) s.per,x.p,bif decide ((resB R s).1.st=5) then x.r++[(resB R s).1] else x.r⟩:=by rw[ob];unfold stO;rw[key,hv,hf];rfl
     refine⟨λo p c=>?_,by rw[e];exact keepP h2,?_⟩
     ·rw[e];show getA (setA x.e (s.o,s.p) s.per) (o,p)=some c↔_;rw[wgd]
      by_cases q:(s.o,s.p)=(o,p)
      ·rw[decide_eq_true q,cond_true];injection q with q1 q2
       constructor
       ·intro hc;exact⟨s,by rw[ls];simp,q1,q2,h1,he,(oJ7 hc).symm⟩
       ·rintro⟨u,hu,u1,u2,u3,u4,rfl⟩;rw[ls] at hu
        rcases List.mem_append.1 hu with hu | hu
        ·have:=(ihe u.o u.p u.per).2 ⟨u,hu,rfl,rfl,u3,u4,rfl⟩;rw[u1,u2, ← q1, ← q2] at this;rw[this] at key;cases key
        ·rw[List.mem_singleton.1 hu]
      ·rw[decide_eq_false q,cond_false,ihe,ls]
       constructor
       ·rintro⟨u,hu,h⟩;exact⟨u,List.mem_append_left _ hu,h⟩
       ·rintro⟨u,hu,h⟩
        rcases List.mem_append.1 hu with hu | hu
        ·exact⟨u,hu,h⟩
        ·rw[List.mem_singleton.1 hu] at h;exact absurd (Prod.ext h.1 h.2.1) q
     ·rw[e,ls,List.filter_append];show (bif decide ((resB R s).1.st=5) then x.r++[(resB R s).1] else x.r)=_
      cases h5:decide ((resB R s).1.st=5) with
      |true=>rw[h5] at h3;rw[List.filter_cons_of_pos h3,ihr];simp
      |false=>rw[h5] at h3;rw[List.filter_cons_of_neg (by simp[h3]),ihr];simp
    |false=>
     have h1:finS R s=false:=by unfold finS;rw[hf];simp
     have n5:(resB R s).1.st≠5:=λq=>by rw[finB,q] at hf;cases hf
     have h3:repB R s=false:=by unfold repB;rw[decide_eq_false n5];simp
     have h2:prB R s=priB (resB R s).1:=by unfold prB;rw[hv,he];rfl
     have e:ob1 R (visL R) (k+1)=bif priB (resB R s).1 then ⟨x.e,setA x.p s (resB R s).1.pr,x.r⟩ else x:=by rw[ob];unfold stO;rw[key,hv,hf];rfl
     cases hp:priB (resB R s).1 with
     |true=>
      rw[hp,cond_true] at e;rw[hp] at h2;refine⟨by rw[e];exact keepE (.inl h1),?_,by rw[e];exact keepR h3⟩;rw[e,ls,List.filter_append,List.filter_cons_of_pos h2];show setA x.p s (resB R s).1.pr=_;rw[wwn hnew,ihp];simp
     |false=>
      rw[hp,cond_false] at e;rw[hp] at h2;exact⟨by rw[e];exact keepE (.inl h1),by rw[e];exact keepP h2,by rw[e];exact keepR h3⟩
def obE(R:List MG):List ((List UInt8×List UInt8)×Int):=(ob1 R (visL R) (visL R).length).e
theorem ob1_p(R:List MG):(ob1 R (visL R) (visL R).length).p=((visL R).filter (prB R)).map λs=>(s,(resB R s).1.pr):=by rw[(whq R _ (lR7 _)).p,wo9]
theorem ob1_r(R:List MG):(ob1 R (visL R) (visL R).length).r=repL R:=by rw[(whq R _ (lR7 _)).r,wo9];rfl
def ovrB(E:List ((List UInt8×List UInt8)×Int))(s:SL):Bool:=match getA E (s.o,s.p) with
 |some c=>decide (c<s.per)
 |none=>false
theorem ovr_end(R:List MG)(s:SL):ovrB (obE R) s=endB R s:=by
 have h:=(whq R _ (lR7 _)).e s.o s.p;rw[wo9] at h;rw[Bool.eq_iff_iff];unfold ovrB
 constructor
 ·intro q
  cases g:getA (obE R) (s.o,s.p) with
  |none=>rw[g] at q;cases q
  |some c=>
   rw[g] at q;obtain⟨u,hu,h1,h2,h3,h4,rfl⟩:=(h c).1 g;exact wkp.2 ⟨u,hu,h1,h2,of_decide_eq_true q,h3⟩
 ·intro q;obtain⟨u,hu,h1,h2,h3,h4,h5⟩:=wuo q;have g:getA (obE R) (s.o,s.p)=some u.per:=(h u.per).2 ⟨u,hu,h1,h2,h4,h5,rfl⟩;rw[g];exact decide_eq_true h3
def IsGiv(G:VT->Prop)(r:Int):Prop:=(∀v,¬ G v)/\r=0∨(∃v,G v/\(∀w,G w->w.pr=v.pr)/\r=v.pr)∨(∃v w,G v/\G w/\v.pr≠w.pr)/\r=0
def allQ(c:Int)(l:List VT):Bool:=l.all λw=>decide (w.pr=c)
def givL:List VT->Int
 |[]=>0
 |v::l=>bif allQ v.pr l then v.pr else 0
theorem wpy(l:List VT):IsGiv (λv=>v∈l) (givL l):=by
 cases l with
 |nil=>exact .inl ⟨λv=>by simp,rfl⟩
 |cons v l=>
  rw[givL]
  cases h:allQ v.pr l with
  |true=>
   refine .inr (.inl ⟨v,List.mem_cons_self,λw hw=>?_,rfl⟩)
   rcases List.mem_cons.1 hw with rfl | hw
   ·rfl
   ·exact of_decide_eq_true (List.all_eq_true.1 h w hw)
  |false=>
   obtain⟨w,hw,q⟩:=List.all_eq_false.1 h;exact .inr (.inr ⟨⟨w,v,List.mem_cons_of_mem _ hw,List.mem_cons_self,λe=>q (decide_eq_true e)⟩,rfl⟩)
def isR(t:SL)(v:VT):Bool:=decide (rsl v=t)
def givS(R:List MG)(t:SL):Int:=givL ((repL R).filter (isR t))
def obP(R:List MG)(t:SL):Int:=bif decide (t∈visL R) then (bif prB R t then (resB R t).1.pr else 0) else bif endB R t then 0 else givS R t
def obU(R:List MG):List SL:=((repL R).map rsl).foldl insS (visL R)
def obL(R:List MG):List SL:=(obU R).filter λt=>decide (0<obP R t)
theorem obU_asc(R:List MG):Asc ordS (obU R):=(wia _ _ (wd3 R)).1
theorem wow{R:List MG}{t:SL}:t∈obU R↔t∈visL R∨∃v∈repL R,rsl v=t:=by
 rw[obU,(wia _ _ (wd3 R)).2,List.mem_map]
theorem wox(R:List MG):Asc ordS (obL R):=(obU_asc R).filter _
theorem wep{R:List MG}{t:SL}:t∈obL R↔t∈obU R/\0<obP R t:=by
 rw[obL,List.mem_filter,decide_eq_true_eq]
theorem woo{R:List MG}{v:VT}:v∈repL R↔resB R (vsl v)=(v,1)/\endB R (vsl v)=false/\v.st=5:=by
 rw[repL,List.mem_map]
 constructor
 ·rintro⟨s,hs,rfl⟩;obtain⟨h1,h2⟩:=List.mem_filter.1 hs;unfold repB at h2;rw[bA7,bA7,Bool.not_eq_true',decide_eq_true_eq] at h2;obtain⟨e1,e2,e3⟩:=h2;have e1:(resB R s).2=1:=of_decide_eq_true e1;have w:=(wr4 e1).1;rw[w];exact⟨Prod.ext rfl e1,e2,e3⟩
 ·rintro⟨h1,h2,h3⟩;have e1:(resB R (vsl v)).2=1:=by rw[h1]
  refine⟨vsl v,List.mem_filter.2 ⟨(wr4 e1).2,?_⟩,by rw[h1]⟩;unfold repB verB;rw[h1,h2];simp[h3]
theorem wi6{R:List MG}(hR:RightL R){s:SL}(h:(resB R s).2=1):visF (resB R s).1=true:=by
 obtain⟨m,hm,hk,e,_⟩:=whn h;have h0:=hR.ok m hm;rw[← e]
 cases hv:visF m.v with
 |true=>rfl
 |false=>
  unfold msgF at h0;rw[hv] at h0
  cases h1:wa4 m.dev<;>cases h2:numF m.seq<;>rw[h1] at h0<;>rw[h2] at h0<;>simp[hk] at h0
theorem wf2{v:VT}(h:visF v=true)(hs:v.st=1∨v.st=2∨v.st=5):1<=v.pr/\v.pr<=1099511627776:=by
 unfold visF at h;rw[bA7] at h;obtain⟨_,h⟩:=h
 rcases hs with q | q | q
 ·rw[q] at h;simp at h;exact⟨h.1.1,h.1.2⟩
 ·rw[q] at h;simp at h;exact⟨h.1.1,h.1.2⟩
 ·rw[q] at h;simp at h;exact⟨h.1.1.1,h.1.1.2⟩
theorem wr6{R:List MG}(hR:RightL R){v:VT}(h:v∈repL R):1<=v.pr/\v.pr<=1099511627776:=by
 obtain⟨h1,_,h3⟩:=woo.1 h;have:=wi6 hR (s:=vsl v) (by rw[h1]);rw[h1] at this;exact wf2 this (.inr (.inr h3))
structure OW where
 p:List (SL×Int)
 w:List (SL×Bool)
def difA(p:List (SL×Int))(s:SL)(c:Int):Bool:=match getA p s with
 |some x=> !decide (x=c)
 |none=>false
def stW(V:List SL)(E:List ((List UInt8×List UInt8)×Int))(x:OW)(v:VT):OW:=
 bif decide (rsl v∈V) || ovrB E (rsl v) then x else ⟨setA x.p (rsl v) v.pr,bif difA x.p (rsl v) v.pr then setA x.w (rsl v) true else x.w⟩
def ob2(V:List SL)(E:List ((List UInt8×List UInt8)×Int))(p0:List (SL×Int))(l:List VT):Nat->OW
 |0=>⟨p0,[]⟩
 |k+1=>stW V E (ob2 V E p0 l k) (atX l k)
def obW(R:List MG)(k:Nat):OW:=ob2 (visL R) (obE R) (ob1 R (visL R) (visL R).length).p (repL R) k
def wrgB(w:List (SL×Bool))(s:SL):Bool:=match getA w s with
 |some b=>b
 |none=>false
theorem w1h{α:Type}(l:List α)(a:α):(l++[a]).getLast?=some a:=by simp
def grpR(R:List MG)(t:SL)(k:Nat):List VT:=(lst (atX (repL R)) k).filter (isR t)
theorem w16(R:List MG)(t:SL)(k:Nat):grpR R t (k+1)=bif isR t (atX (repL R) k) then grpR R t k++[atX (repL R) k] else grpR R t k:=by
 unfold grpR;rw[whz,List.filter_append]
 cases h:isR t (atX (repL R) k) with
 |true=>simp[h]
 |false=>simp[h]
structure Ob2 (R:List MG) (k:Nat):Prop where
 nd:((obW R k).p.map Prod.fst).Nodup
 wn:∀x∈(obW R k).w,x.2=true
 old:∀t,t∈visL R∨endB R t=true->getA (obW R k).p t=getA (obW R 0).p t/\getA (obW R k).w t=none
 new:∀t,t ∉ visL R->endB R t=false->getA (obW R k).p t=(grpR R t k).getLast?.map VT.pr/\(wrgB (obW R k).w t=false↔∀v∈grpR R t k,∀w∈grpR R t k,v.pr=w.pr)
theorem obW_0(R:List MG):(obW R 0).p=((visL R).filter (prB R)).map λs=>(s,(resB R s).1.pr):=ob1_p R
theorem wjg(R:List MG):(obW R 0).p.map Prod.fst=(visL R).filter (prB R):=by
 rw[obW_0,List.map_map];exact(List.map_congr_left λ_ _=>rfl).trans (List.map_id _)
theorem wvb{L:List SL}(h:Asc ordS L):L.Nodup:=h.imp λh e=>by rw[e,wck.self] at h;omega
theorem wff(R:List MG):∀k,Ob2 R k
 |0=>by
  refine⟨?_,λx hx=>(by cases hx),λt _=>⟨rfl,rfl⟩,λt h1 h2=>⟨?_,?_⟩⟩
  ·rw[wjg];exact wvb ((wd3 R).filter _)
  ·have:getA (obW R 0).p t=none:=wkc.2 (by rw[wjg];exact λh=>h1 (List.mem_filter.1 h).1);rw[this];rfl
  ·exact⟨λ_ v hv=>(by cases hv),λ_=>rfl⟩
 |k+1=>by
  have ih:=wff R k;have st:obW R (k+1)=stW (visL R) (obE R) (obW R k) (atX (repL R) k):=rfl;have gs:=λt=>w16 R t k;have inde:=ih.nd;have iwn:=ih.wn;have iold:=ih.old;have inew:=ih.new;generalize hx:obW R k=x at *;generalize atX (repL R) k=v at *;unfold stW at st;rw[ovr_end] at st
  by_cases q:rsl v∈visL R∨endB R (rsl v)=true
  ·have e:obW R (k+1)=x:=by
    rw[st]
    rcases q with q | q
    ·rw[decide_eq_true q];rfl
    ·rw[q,Bool.or_true];rfl
   rw[← e] at inde iwn iold inew;refine⟨inde,iwn,iold,λt h1 h2=>?_⟩;have hne:isR t v=false:=decide_eq_false λh=>by
    rw[h] at q
    rcases q with q | q
    ·exact h1 q
    ·rw[h2] at q;cases q
   rw[gs,hne];exact inew t h1 h2
  ·rw[not_or] at q;have q2:endB R (rsl v)=false:=by simpa using q.2
   rw[decide_eq_false q.1,q2,Bool.or_false,cond_false] at st;have other:∀t,rsl v≠t->getA (obW R (k+1)).p t=getA x.p t/\getA (obW R (k+1)).w t=getA x.w t:=λt ht=>by
    rw[st]
    constructor
    ·show getA (setA x.p (rsl v) v.pr) t=_;rw[wgd,decide_eq_false ht];rfl
    ·show getA (bif difA x.p (rsl v) v.pr then setA x.w (rsl v) true else x.w) t=_
     cases difA x.p (rsl v) v.pr with
     |true=>rw[cond_true,wgd,decide_eq_false ht];rfl
     |false=>rfl
   refine⟨?_,?_,λt ht=>?_,λt h1 h2=>?_⟩
   ·rw[st];exact whi inde _ _
   ·rw[st];show ∀y∈(bif difA x.p (rsl v) v.pr then setA x.w (rsl v) true else x.w),y.2=true
    cases difA x.p (rsl v) v.pr with
    |false=>exact iwn
    |true=>
     rw[cond_true];have:∀B:List (SL×Bool),(∀y∈B,y.2=true)->∀y∈setA B (rsl v) true,y.2=true:=λB=>by
      induction B with
      |nil=>intro _ y hy;rw[setA,List.mem_singleton] at hy;rw[hy]
      |cons z B ihB=>
       intro h y hy;rw[setA] at hy
       cases hz:decide (z.1=rsl v) with
       |true=>
        rw[hz,cond_true] at hy
        rcases List.mem_cons.1 hy with rfl | hy
        ·rfl
        ·exact h y (List.mem_cons_of_mem _ hy)
       |false=>
        rw[hz,cond_false] at hy
        rcases List.mem_cons.1 hy with rfl | hy
        ·exact h _ List.mem_cons_self
        ·exact ihB (λy hy=>h y (List.mem_cons_of_mem _ hy)) y hy
     exact this _ iwn
   ·have hne:rsl v≠t:=λe=>by
     rw[← e] at ht
     rcases ht with ht | ht
     ·exact q.1 ht
     ·rw[q2] at ht;cases ht
    obtain⟨o1,o2⟩:=other t hne;obtain⟨i1,i2⟩:=iold t ht;exact⟨o1.trans i1,o2.trans i2⟩
   ·by_cases e:rsl v=t
    ·subst e;have hr:isR (rsl v) v=true:=decide_eq_true rfl;obtain⟨i1,i2⟩:=inew _ h1 h2;rw[gs,hr,cond_true];have d1:difA x.p (rsl v) v.pr=true↔∃w∈(grpR R (rsl v) k).getLast?,w.pr≠v.pr:=by
      unfold difA;rw[i1]
      cases (grpR R (rsl v) k).getLast? with
      |none=>simp
      |some w=>simp
     refine⟨?_,?_⟩
     ·rw[st,w1h];show getA (setA x.p (rsl v) v.pr) (rsl v)=_;rw[wgd,decide_eq_true rfl];rfl
     ·rw[st];show wrgB (bif difA x.p (rsl v) v.pr then setA x.w (rsl v) true else x.w) (rsl v)=false↔_
      cases hd:difA x.p (rsl v) v.pr with
      |true=>
       rw[cond_true];have:wrgB (setA x.w (rsl v) true) (rsl v)=true:=by unfold wrgB;rw[wgd,decide_eq_true rfl];rfl
       rw[this];obtain⟨w,hw,hne⟩:=d1.1 hd;refine⟨λh=>(by cases h),λh=>absurd (h w ?_ v ?_) hne⟩
       ·exact List.mem_append_left _ (List.mem_of_getLast? hw)
       ·exact List.mem_append_right _ (List.mem_singleton.2 rfl)
      |false=>
       rw[cond_false,i2];have hn:∀w,(grpR R (rsl v) k).getLast?=some w->w.pr=v.pr:=λw hw=>by
        by_cases hh:w.pr=v.pr
        ·exact hh
        ·rw[d1.2 ⟨w,hw,hh⟩] at hd;cases hd
       constructor
       ·intro h;have all:∀a∈grpR R (rsl v) k,a.pr=v.pr:=λa ha=>by
         cases hl:(grpR R (rsl v) k).getLast? with
         |none=>rw[List.getLast?_eq_none_iff.1 hl] at ha;cases ha
         |some w=>rw[h a ha w (List.mem_of_getLast? hl),hn w hl]
        have all2:∀a∈grpR R (rsl v) k++[v],a.pr=v.pr:=λa ha=>by
         rcases List.mem_append.1 ha with ha | ha
         ·exact all a ha
         ·rw[List.mem_singleton.1 ha]
        exact λa ha b hb=>(all2 a ha).trans (all2 b hb).symm
       ·intro h a ha b hb;exact h a (List.mem_append_left _ ha) b (List.mem_append_left _ hb)
    ·have hr:isR t v=false:=decide_eq_false e;obtain⟨o1,o2⟩:=other t e;obtain⟨i1,i2⟩:=inew t h1 h2;rw[gs,hr,cond_false];refine⟨o1.trans i1,?_⟩;rw[← i2];unfold wrgB;rw[o2]
def obN(R:List MG):OW:=obW R (repL R).length
theorem w17(R:List MG)(t:SL):grpR R t (repL R).length=(repL R).filter (isR t):=by rw[grpR,lst_atX]
theorem obN_at{R:List MG}(hR:RightL R)(t:SL):(0<obP R t/\t∈obU R↔(getA (obN R).p t).isSome=true/\wrgB (obN R).w t=false)/\((getA (obN R).p t).isSome=true->wrgB (obN R).w t=false->getA (obN R).p t=some (obP R t)):=by
 have h:=wff R (repL R).length;have hold:=h.old t;have hnew:=h.new t;change _->getA (obN R).p t=_/\getA (obN R).w t=_ at hold;change _->_->getA (obN R).p t=_/\(wrgB (obN R).w t=false↔_) at hnew;rw[w17] at hnew
 by_cases hv:t∈visL R
 ·obtain⟨h1,h2⟩:=hold (.inl hv);have hw:wrgB (obN R).w t=false:=by unfold wrgB;rw[h2]
  have hu:t∈obU R:=wow.2 (.inl hv)
  cases hp:prB R t with
  |true=>
   have hm:(t,(resB R t).1.pr)∈(obW R 0).p:=by rw[obW_0];exact List.mem_map.2 ⟨t,List.mem_filter.2 ⟨hv,hp⟩,rfl⟩
   have hg:getA (obW R 0).p t=some (resB R t).1.pr:=getA_at (wff R 0).nd hm;have hO:obP R t=(resB R t).1.pr:=by unfold obP;rw[decide_eq_true hv,hp];rfl
   have hpos:1<=(resB R t).1.pr:=by
    unfold prB verB priB at hp;rw[bA7,bA7,decide_eq_true_eq,Bool.or_eq_true,decide_eq_true_eq,decide_eq_true_eq] at hp;exact(wf2 (wi6 hR hp.1) (hp.2.2.elim .inl λh=>.inr (.inl h))).1
   rw[h1,hg,hw,hO];exact⟨⟨λ_=>⟨rfl,rfl⟩,λ_=>⟨by omega,hu⟩⟩,λ_ _=>rfl⟩
  |false=>
   have hg:getA (obW R 0).p t=none:=wkc.2 (by rw[wjg];exact λh=>by rw[(List.mem_filter.1 h).2] at hp;cases hp);have hO:obP R t=0:=by unfold obP;rw[decide_eq_true hv,hp];rfl
   rw[h1,hg,hO];exact⟨⟨λh=>absurd h.1 (by decide),λh=>absurd h.1 (by simp)⟩,λh=>absurd h (by simp)⟩
 ·cases he:endB R t with
  |true=>
   obtain⟨h1,h2⟩:=hold (.inr he);have hg:getA (obW R 0).p t=none:=wkc.2 (by rw[wjg];exact λh=>hv (List.mem_filter.1 h).1);have hO:obP R t=0:=by unfold obP;rw[decide_eq_false hv,he];rfl
   rw[h1,hg,hO];exact⟨⟨λh=>absurd h.1 (by decide),λh=>absurd h.1 (by simp)⟩,λh=>absurd h (by simp)⟩
  |false=>
   obtain⟨h1,h2⟩:=hnew hv he;have hO:obP R t=givS R t:=by unfold obP;rw[decide_eq_false hv,he];rfl
   have hG:=wpy ((repL R).filter (isR t));have mem:∀ {v},v∈(repL R).filter (isR t)->v∈repL R/\rsl v=t:=λhv=>⟨(List.mem_filter.1 hv).1,of_decide_eq_true (List.mem_filter.1 hv).2⟩;have hU:t∈obU R↔(repL R).filter (isR t)≠[]:=by
    rw[wow]
    constructor
    ·rintro(h | ⟨v,h,e⟩)
     ·exact absurd h hv
     ·exact List.ne_nil_of_mem (List.mem_filter.2 ⟨h,decide_eq_true e⟩)
    ·intro h;obtain⟨v,hm⟩:=List.exists_mem_of_ne_nil _ h;exact .inr ⟨v,mem hm⟩
   rw[hO,hU,h2,h1];unfold givS;generalize (repL R).filter (isR t)=G at *
   rcases hG with⟨g1,g2⟩ | ⟨v,g1,g2,g3⟩ | ⟨⟨v,w,g1,g2,g3⟩,g4⟩
   ·have:G=[]:=List.eq_nil_iff_forall_not_mem.2 g1;subst this;rw[g2];exact⟨⟨λh=>absurd h.1 (by decide),λh=>absurd h.1 (by simp)⟩,λh=>absurd h (by simp)⟩
   ·have hp:=(wr6 hR (mem g1).1).1;have hall:∀a∈G,∀b∈G,a.pr=b.pr:=λa ha b hb=>(g2 a ha).trans (g2 b hb).symm;have hne:G≠[]:=List.ne_nil_of_mem g1
    cases hl:G.getLast? with
    |none=>exact absurd (List.getLast?_eq_none_iff.1 hl) hne
    |some u=>
     have:u.pr=v.pr:=g2 u (List.mem_of_getLast? hl);rw[g3];refine⟨⟨λ_=>⟨rfl,hall⟩,λ_=>⟨by omega,hne⟩⟩,λ_ _=>?_⟩;show some u.pr=some v.pr;rw[this]
   ·rw[g4];exact⟨⟨λh=>absurd h.1 (by decide),λh=>absurd (h.2 v g1 w g2) g3⟩,λ_ h=>absurd (h v g1 w g2) g3⟩
theorem wxo{R:List MG}(hR:RightL R){E:List (SL×Int)}{L:List SL}(hE:E.Perm (obN R).p)(hL:L.Perm ((E.map Prod.fst).filter λt=> !wrgB (obN R).w t))(hs:L.Pairwise λx y=>¬ ordS y x<0):L=obL R:=by
 have hnd:=(wff R (repL R).length).nd;have hEk:(E.map Prod.fst).Perm ((obN R).p.map Prod.fst):=hE.map _;have hn:L.Nodup:=by
  rw[hL.nodup_iff];exact(hEk.nodup_iff.2 hnd).sublist List.filter_sublist
 refine Asc.uniq wck (Asc.of_sorted hs wck (hn.imp λh q=>h (wjd.1 q))) (wox R) λt=>?_;rw[hL.mem_iff,List.mem_filter,hEk.mem_iff,wep,and_comm (a:=t∈obU R),(obN_at hR t).1,Bool.not_eq_true'];refine and_congr_left λ_=>?_
 cases hg:getA (obN R).p t with
 |none=>simpa using wkc.1 hg
 |some c=>simpa using⟨c,wt0 hg⟩
theorem wsi{R:List MG}(hR:RightL R){t:SL}(h:t∈obL R):getA (obN R).p t=some (obP R t):=by
 obtain⟨h1,h2⟩:=obN_at hR t;have:=h1.1 ⟨(wep.1 h).2,(wep.1 h).1⟩;exact h2 this.1 this.2
theorem wsk{α:Type}[DecidableEq α]:∀ {l m:List α},l.Nodup->(∀x∈l,x∈m)->l.length<=m.length
 |[],m,_,_=>zL7 _
 |a::l,m,hn,h=>by
  obtain⟨h1,h2⟩:=List.nodup_cons.1 hn;have ha:=h a List.mem_cons_self;have:=wsk (l:=l) (m:=m.erase a) h2 λx hx=>(List.mem_erase_of_ne (λe=>h1 (by rw[← e];exact hx))).2 (h x (List.mem_cons_of_mem _ hx));rw[List.length_erase_of_mem ha] at this;have:=List.length_pos_of_mem ha;rw[List.length_cons];omega
theorem obL_end{R:List MG}{t:SL}(h:t∈obL R):endB R t=false:=by
 have h:=(wep.1 h).2
 cases he:endB R t with
 |false=>rfl
 |true=>
  unfold obP prB at h;rw[he] at h
  by_cases q:t∈visL R
  ·rw[decide_eq_true q] at h;simp at h
  ·rw[decide_eq_false q] at h;simp at h
theorem wxq{R:List MG}{t:SL}(h:t∈obL R)(hv:t∈visL R):(resB R t).2=1:=by
 have h:=(wep.1 h).2
 by_cases q:(resB R t).2=1
 ·exact q
 ·unfold obP prB verB at h;rw[decide_eq_true hv,decide_eq_false q] at h;simp at h
theorem wxp{R:List MG}{t:SL}(h:t∈obL R):∃m∈R,resB R (vsl m.v)=(m.v,1)/\m.v.per=t.per/\m.v.o=t.o/\m.v.pr=obP R t/\((m.v.p=t.p/\m.v.st≠5)∨m.v.rep=t.p):=by
 have hp:=(wep.1 h).2;have he:=obL_end h
 by_cases hv:t∈visL R
 ·have h1:=wxq h hv;obtain⟨m,hm,hk,e,e2⟩:=whn h1;have hpr:prB R t=true:=by
   cases q:prB R t with
   |true=>rfl
   |false=>unfold obP at hp;rw[decide_eq_true hv,q] at hp;simp at hp
  have hO:obP R t=(resB R t).1.pr:=by unfold obP;rw[decide_eq_true hv,hpr];rfl
  refine⟨m,hm,?_,congrArg SL.per e2,congrArg SL.o e2,by rw[hO,e],.inl ⟨congrArg SL.p e2,?_⟩⟩
  ·rw[e2];exact Prod.ext e.symm h1
  ·unfold prB priB at hpr;simp only[bA7,Bool.or_eq_true,decide_eq_true_eq] at hpr;rw[e]
   rcases hpr.2.2 with q | q<;>omega
 ·have hO:obP R t=givS R t:=by unfold obP;rw[decide_eq_false hv,he];rfl
  rw[hO] at hp ⊢
  rcases wpy ((repL R).filter (isR t)) with⟨_,h2⟩ | ⟨v,h1,_,h3⟩ | ⟨_,h2⟩
  ·have h2:givS R t=0:=h2;omega
  ·obtain⟨g1,g2⟩:=List.mem_filter.1 h1;have g2:rsl v=t:=of_decide_eq_true g2;obtain⟨r1,r2,r3⟩:=woo.1 g1;obtain⟨m,hm,hk,e,e2⟩:=whn (R:=R) (s:=vsl v) (by rw[r1]);rw[r1] at e;have e:m.v=v:=e;have h3:givS R t=v.pr:=h3;refine⟨m,hm,by rw[e];exact r1,by rw[e, ← g2];rfl,by rw[e, ← g2];rfl,by rw[e,h3],.inr (by rw[e, ← g2];rfl)⟩
  ·have h2:givS R t=0:=h2;omega
theorem obU_out{R:List MG}{o:List UInt8}(h:∀m∈R,m.kind=1->m.v.o=o){t:SL}(ht:t∈obU R):t.o=o:=by
 rcases wow.1 ht with ht | ⟨v,hv,e⟩
 ·obtain⟨m,hm,hk,e⟩:=wfc.1 ht;rw[← e];exact h m hm hk
 ·obtain⟨r1,_,_⟩:=woo.1 hv;obtain⟨m,hm,hk,e1,e2⟩:=whn (R:=R) (s:=vsl v) (by rw[r1]);rw[r1] at e1;have e1:m.v=v:=e1;rw[← e];show v.o=o;rw[← e1];exact h m hm hk
def slC(s:SL):List AV:=[.str s.o,.str s.p,.q s.per]
def wap(g:Nat->SL)(i:Nat):List AV:=[.str (g i).o,.str (g i).p,.q (g i).per]
def slOf(f:Nat->List AV)(i:Nat):SL:=match f i with
 |[.str o,.str p,.int .i64 per]=>⟨o,p,per⟩
 |_=>default
def vtC(v:VT):List AV:=[.str v.o,.str v.p,.q v.per,.q v.day,.q v.st,.q v.pr,.str v.rep]
def wb2(g:Nat->VT)(i:Nat):List AV:=[.str (g i).o,.str (g i).p,.q (g i).per,.q (g i).day,.q (g i).st,.q (g i).pr,.str (g i).rep]
def wgp:Spec
 |[.agg [.str dev,.int .i64 seq,.int .i64 kind,.str o,.str p,.int .i64 per,.int .i64 day,.int .i64 st,.int .i64 pr,.str rep,.str o',.str p',.int .i64 per',.str dev',.int .i64 num]],[]=>
   some (.agg [.str (whr ⟨dev,seq,kind,⟨o,p,per,day,st,pr,rep⟩,⟨o',p',per',dev',num⟩⟩).o,.str (whr ⟨dev,seq,kind,⟨o,p,per,day,st,pr,rep⟩,⟨o',p',per',dev',num⟩⟩).p,.q (whr ⟨dev,seq,kind,⟨o,p,per,day,st,pr,rep⟩,⟨o',p',per',dev',num⟩⟩).per],[],True)
 |_,_=>none
def wgz:Spec
 |[.agg [.str _,.int .i64 _,.int .i64 kind,.str _,.str _,.int .i64 _,.int .i64 _,.int .i64 _,.int .i64 _,.str _,.str _,.str _,.int .i64 _,.str _,.int .i64 _]],[]=>some (.bool (decide (kind=1)),[],True)
 |_,_=>none
def wmd:Spec
 |[.view 15 n f,.func 78 []],[]=>some (.q (ixB (λi=>isV (mgOf f i)) n),[],n<=1000000/\f=waa (mgOf f))
 |_,_=>none
def wmc(g:Nat->MG)(n k:Nat):St:=⟨[(0,.view 15 n (waa g)),(1,.func 78 []),(7,.q n),(8,.q k)],[],0,[]⟩
def wnx(g:Nat->MG)(n:Nat):wan:=λst Q=>canonIs te 0 [0,1,7,8] st (wmc g n 0)/\n<=1000000/\
 wab (decide (fstB (λi=>isV (g i)) n<n)) (Q .ret ⟨[(4,.q (fstB (λi=>isV (g i)) n))],[],0,[]⟩) (Q (.exit 0) ⟨[],[],0,[]⟩)
def wmu:Spec
 |[.view 15 n f,.func 78 []],[]=>some (.bool (decide (0<=ixB (λi=>isV (mgOf f i)) n)),[],n<=1000000/\f=waa (mgOf f))
 |_,_=>none
def wgs:Spec
 |[.agg [.str o,.str p,.int .i64 per],.agg [.str o',.str p',.int .i64 per']],[]=>some (.q (ordS ⟨o,p,per⟩ ⟨o',p',per'⟩),[],True)
 |_,_=>none
def wg8:wda
 |[.own 0 n,.func 42 []],[.row t 3 m f fr],R=>t=78/\fr=false/\n=m/\n<=1000000/\f=wap (slOf f)/\
   ∀h:Nat->SL,(lst h n).Perm (lst (slOf f) n)->(∀i j,i<j->j<n->¬ ordS (h j) (h i)<0)->R (.tuple []) [(0,.row 78 3 n (wap h) false)]
 |_,_,_=>False
def wmq:Spec
 |[.agg [.str o,.str p,.int .i64 per,.int .i64 day,.int .i64 st,.int .i64 pr,.str rep]],[]=>some (.bool (finB ⟨o,p,per,day,st,pr,rep⟩),[],True)
 |_,_=>none
def S_cn(M:List MG)(k:Nat):St:=⟨[(4,.map 0),(5,.own 1 (clnP M k).length),(13,.own 2 M.length),(14,.q M.length),(15,.q k)],
 [(0,.amap (entM (cntL (atM M) M.length))),(1,.row 103 2 (clnP M k).length (wcc (atK (clnP M k))) false),(2,.row 47 15 M.length (waa (atM M)) false)],3,[]⟩
def L_cn(M:List MG):wan:=λst Q=>canonIs te 0 [4,5,13,14,15] (ownNil 5 103 2 st) (S_cn M 0)/\M.length<=100000/\
 Q (.exit 0) ⟨[(5,.own 0 (clnP M M.length).length)],[(0,.row 103 2 (clnP M M.length).length (wcc (atK (clnP M M.length))) false)],1,[]⟩
def wmt:Spec
 |[.view 15 n f],[]=>some (.view 2 (wb7 (mgOf f) n).length (wcc (atK (wb7 (mgOf f) n))),[],n<=100000/\f=waa (mgOf f)/\∀i,i<n->(mgOf f i).Sm)
 |_,_=>none
end Go.Eng
namespace Go.Eng
open Go.RowKit
def allP{α:Type}(p:α->Prop):List α->Prop
 |[]=>True
 |[x]=>p x
 |x::l=>p x/\allP p l
theorem wvd{α:Type}{p:α->Prop}:∀ {l:List α},allP p l->∀x∈l,p x
 |[],_,x,hx=>by cases hx
 |[y],h,x,hx=>by obtain rfl:=List.mem_singleton.1 hx;exact h
 |y::z::l,h,x,hx=>by
  obtain⟨h1,h2⟩:=h
  rcases List.mem_cons.1 hx with rfl | hx
  ·exact h1
  ·exact wvd h2 x hx
def wfr(done:List Nat):List Edge->Bool
 |[]=>true
 |e::l=>match Region.binds .any e with
  |true=>match hasN done e.on with
   |true=>wfr done l
   |false=>false
  |false=>wfr done l
def rdyL(done:List Nat):Nat->List Oper->List (Nat×Oper)
 |_,[]=>[]
 |i,o::l=>match hasN done i with
  |true=>rdyL done (i+1) l
  |false=>match wfr done o.after.toList with
   |true=>(i,o)::rdyL done (i+1) l
   |false=>rdyL done (i+1) l
theorem wqd{done:List Nat}:∀ {l:List Edge},wfr done l=true↔∀e∈l,Region.binds .any e=true->e.on∈done
 |[]=>by simp[wfr]
 |e::l=>by
  unfold wfr;have ih:=wqd (done:=done) (l:=l)
  cases hb:Region.binds .any e with
  |true=>
   cases hh:hasN done e.on with
   |true=>
    dsimp only
    rw[ih]
    constructor
    ·intro h e' he hb'
     rcases List.mem_cons.1 he with rfl | he
     ·exact(wbe _ _).1 hh
     ·exact h e' he hb'
    ·exact λh e' he hb'=>h e' (List.mem_cons_of_mem _ he) hb'
   |false=>
    dsimp only
    refine⟨λh=>(by cases h),λh=>?_⟩;rw[(wbe _ _).2 (h e (List.mem_cons_self ..) hb)] at hh;cases hh
  |false=>
   dsimp only
   rw[ih]
   constructor
   ·intro h e' he hb'
    rcases List.mem_cons.1 he with rfl | he
    ·rw[hb] at hb';cases hb'
    ·exact h e' he hb'
   ·exact λh e' he hb'=>h e' (List.mem_cons_of_mem _ he) hb'
theorem wja{done:List Nat}:∀ {l:List Oper} {j i:Nat} {o:Oper},(i,o)∈rdyL done j l↔∃i',i=j+i'/\l[i']?=some o/\i ∉ done/\∀e∈o.after.toList,Region.binds .any e=true->e.on∈done
 |[],j,i,o=>by simp[rdyL]
 |o'::l,j,i,o=>by
  have ih:=wja (done:=done) (l:=l) (j:=j+1) (i:=i) (o:=o);have tail:(∃i',i=j+1+i'/\l[i']?=some o/\i ∉ done/\∀e∈o.after.toList,Region.binds .any e=true->e.on∈done)->∃i',i=j+i'/\(o'::l)[i']?=some o/\i ∉ done/\∀e∈o.after.toList,Region.binds .any e=true->e.on∈done:=by
   rintro⟨i',h1,h2,h3⟩;exact⟨i'+1,by omega,by simpa using h2,h3⟩
  have back:(∃i',i=j+i'/\(o'::l)[i']?=some o/\i ∉ done/\∀e∈o.after.toList,Region.binds .any e=true->e.on∈done)->(i=j/\o=o'/\j ∉ done/\∀e∈o'.after.toList,Region.binds .any e=true->e.on∈done)∨∃i',i=j+1+i'/\l[i']?=some o/\i ∉ done/\∀e∈o.after.toList,Region.binds .any e=true->e.on∈done:=by
   rintro⟨i',h1,h2,h3,h4⟩
   cases i' with
   |zero=>
    simp only[List.getElem?_cons_zero,sI7] at h2;subst h2;obtain rfl:i=j:=by omega
    exact .inl ⟨rfl,rfl,h3,h4⟩
   |succ i'=>exact .inr ⟨i',by omega,by simpa using h2,h3,h4⟩
  unfold rdyL
  cases hh:hasN done j with
  |true=>
   dsimp only
   rw[ih];refine⟨tail,λh=>?_⟩
   rcases back h with⟨_,_,h3,_⟩ | h
   ·exact absurd ((wbe _ _).1 hh) h3
   ·exact h
  |false=>
   cases hd:wfr done o'.after.toList with
   |true=>
    dsimp only
    rw[List.mem_cons,ih,pI7]
    constructor
    ·rintro(⟨rfl,rfl⟩ | h)
     ·refine⟨0,rfl,rfl,λq=>?_,wqd.1 hd⟩;rw[(wbe _ _).2 q] at hh;cases hh
     ·exact tail h
    ·intro h
     rcases back h with⟨h1,h2,_⟩ | h
     ·exact .inl ⟨h1,h2⟩
     ·exact .inr h
   |false=>
    dsimp only
    rw[ih];refine⟨tail,λh=>?_⟩
    rcases back h with⟨_,_,_,h4⟩ | h
    ·rw[wqd.2 h4] at hd;cases hd
    ·exact h
def wd2(G:Env)(opl:List Oper)(Q:St->Prop):Nat->List Nat->KT
 |0,done,T,O,nx=>match rdyL done 0 opl with
  |[]=>Q ⟨T,O,nx,[]⟩
  |_::_=>False
 |fuel+1,done,T,O,nx=>match rdyL done 0 opl with
  |[]=>Q ⟨T,O,nx,[]⟩
  |p0::l=>allP (λp:Nat×Oper=>match p.2.guard with
   |none=>wp1 G p.2 T O nx (wd2 G opl Q fuel (p.1::done))
   |some _=>False) (p0::l)
def onlyN(K:St->Prop)(Q:Exit->St->Prop):Exit->St->Prop
 |.normal,s=>K s
 |e,s=>Q e s
theorem wp_both{P:Program}{o:Oper}{a:Act}{w:World}{K K':Act->World->Prop}{Q Q':Exit->Act->World->Prop}(h:∀a w,K a w->K' a w)(hq:∀e a w,e≠ .normal->Q e a w->Q' e a w)(hh:o.wp P a w K Q):o.wp P a w K' Q':=by
 unfold Oper.wp at *;generalize (execOp a.eval o).run P w=r at *
 cases r with
 |ok n w'=>
   cases n<;>simp only[Oper.upon] at hh ⊢ <;>
     first
       |exact h _ _ hh
       |exact hh.elim
       |exact Calls.mono hh (λe w'' he=>by
           cases e with
           |returned v=>exact h _ _ he
           |panicked c=>exact hq _ _ _ (by simp) he
           |outgrown=>obtain⟨a',w3,h3⟩:=he;exact⟨a',w3,hq _ _ _ (by simp) h3⟩)
       |exact Rows.mono hh (λ_ _ he=>h _ _ he)
 |halt x w'=>cases x<;>simp only[Oper.upon] at hh ⊢ <;>first | exact hq _ _ _ (by simp) hh | exact hh.elim
theorem wi9{opl:List Oper}{done:List Nat}{listed:Array Bool}(hsz:listed.size=opl.length)(hl:∀i,listed.getD i false=true↔i∈done)(i:Nat):i∈Region.ready .any opl.toArray listed↔∃o,opl[i]?=some o/\(i,o)∈rdyL done 0 opl:=by
 rw[mem_ready];have e:∀o,opl[i]?=some o->(listed.getD i true=false↔i ∉ done):=λo ho=>by
  have hi:i<listed.size:=by rw[hsz];exact(List.getElem?_eq_some_iff.1 ho).1
  rw[wj9 hi true false, ← hl]
  cases listed.getD i false<;>simp
 constructor
 ·rintro⟨h0,o,ho,h⟩;have ho:opl[i]?=some o:=by simpa using ho
  exact⟨o,ho,wja.2 ⟨i,by omega,ho,(e o ho).1 h0,λx hx hb=>(hl _).1 (h x (by simpa using hx) hb)⟩⟩
 ·rintro⟨o,ho,h⟩;obtain⟨i',h1,h2,h3,h4⟩:=wja.1 h;exact⟨(e o ho).2 h3,o,by simpa using ho,λx hx hb=>(hl _).2 (h4 x (by simpa using hx) hb)⟩
theorem wqu{C:Ctx}{G:Env}(hG:EnvOK C G){m:Nat}{opl:List Oper}{Q:Exit->St->Prop}{E:Ent}(hE:E.m=m):∀(fuel:Nat) (done:List Nat) (listed:Array Bool) (T:List (Nat×AV)) (O:List (Nat×AObj)) (nx:Nat) (bs:Nat->Option Hd) (a:Act) (w:World),
  listed.size=opl.length->(∀i,listed.getD i false=true↔i∈done)->wd2 G opl (Q .normal) fuel done T O nx->RepS C E G.N ⟨T,O,nx,[]⟩ bs a w->wpAny C.P .any opl.toArray (QC C E G.N Q) fuel listed a w
 |0,done,listed,T,O,nx,bs,a,w,hsz,hl,h,hr=>by
  unfold wd2 at h;unfold wpAny;split at h
  ·rename_i hr0;refine⟨List.eq_nil_iff_forall_not_mem.2 λi hi=>?_,_,bs,h,hr⟩;obtain⟨o,_,ho⟩:=(wi9 hsz hl i).1 hi;rw[hr0] at ho;cases ho
  ·exact h.elim
 |fuel+1,done,listed,T,O,nx,bs,a,w,hsz,hl,h,hr=>by
  unfold wd2 at h;unfold wpAny;split at h
  ·rename_i hr0;refine⟨λ_=>⟨_,bs,h,hr⟩,λi hi=>?_⟩;obtain⟨o,_,ho⟩:=(wi9 hsz hl i).1 hi;rw[hr0] at ho;cases ho
  ·rename_i p0 l hr0;refine⟨λq=>?_,λi hi=>?_⟩
   ·obtain⟨i0,o0⟩:=p0;have hm:(i0,o0)∈rdyL done 0 opl:=by rw[hr0];exact List.mem_cons_self ..
    obtain⟨i',h1,h2,_⟩:=wja.1 hm;obtain rfl:i0=i':=by omega
    have:=(wi9 hsz hl i0).2 ⟨o0,h2,hm⟩;rw[q] at this;cases this
   obtain⟨o,ho,hm⟩:=(wi9 hsz hl i).1 hi;rw[hr0] at hm;have hp:=wvd h _ hm;dsimp only at hp;have hilt:i<listed.size:=by rw[hsz];exact(List.getElem?_eq_some_iff.1 ho).1
   have hsz':(listed.setIfInBounds i true).size=opl.length:=by simp[hsz]
   have hl':∀j,(listed.setIfInBounds i true).getD j false=true↔j∈i::done:=λj=>by
    by_cases e:i=j
    ·subst e;simp[Array.getD,hilt]
    ·rw[getD_set_ne _ e,hl,List.mem_cons];exact⟨.inr,λh=>h.resolve_left λq=>e q.symm⟩
   split at hp
   ·rename_i hg;have:=woa (m:=m) (ops:=opl.toArray) (rest:=[]) (Q:=onlyN (λs=>wd2 G opl (Q .normal) fuel (i::done) s.T s.O s.nx) Q) hG hg hp (λT' O' nx' hK=>by
     intro E' hE' bs' a' w' hr';exact⟨⟨T',O',nx',[]⟩,bs',hK,hr'⟩) E hE bs a w hr
    have fin:∀a' w',QC C E G.N (onlyN (λs=>wd2 G opl (Q .normal) fuel (i::done) s.T s.O s.nx) Q) .normal a' w'->wpAny C.P .any opl.toArray (QC C E G.N Q) fuel (listed.setIfInBounds i true) a' w':=by
     rintro a' w' ⟨⟨T',O',nx',d'⟩,bs',hK,hr'⟩;exact wqu hG hE fuel _ _ T' O' nx' bs' a' w' hsz' hl' hK hr'
    have other:∀e a' w',e≠Exit.normal->QC C E G.N (onlyN (λs=>wd2 G opl (Q .normal) fuel (i::done) s.T s.O s.nx) Q) e a' w'->QC C E G.N Q e a' w':=by
     rintro e a' w' hne ⟨s,bs',hs,hr'⟩;refine⟨s,bs',?_,hr'⟩
     cases e with
     |normal=>exact absurd rfl hne
     |_=>exact hs
    unfold wpOp;have ho':opl.toArray[i]?=some o:=by simpa using ho
    rw[ho'];unfold wpList at this;dsimp only
    split
    ·rename_i hw;rw[if_pos hw] at this
     rcases this with h | ⟨h1,a',w',h2⟩
     ·exact .inl (wp_both fin other h)
     ·exact .inr ⟨h1,a',w',other _ _ _ (by simp) h2⟩
    ·rename_i hw;rw[if_neg hw] at this;exact fin _ _ this
   ·exact hp.elim
theorem AWP.each{C:Ctx}{G:Env}(hG:EnvOK C G){m id:Nat}{opl:List Oper}{Q:Exit->St->Prop}{T0:List (Nat×AV)}{O0:List (Nat×AObj)}{nx:Nat}{dec:List Nat}
  (h:wd2 G opl (Q .normal) opl.length [] T0 O0 nx):AWP C m G.N (.region id opl.toArray true) Q ⟨T0,O0,nx,dec⟩:=by
 intro E hE bs a w hr;have hS:Step w (MB E (lk O0) bs) bs { w with drawn:=w.drawn+1 } (MB E (lk O0) bs) bs/\WRep C E (lk O0) bs { w with drawn:=w.drawn+1 }:=by
  refine hr.1.2.next (λ_=>False) (λ_ _ h=>h) (λ_ _ _ h=>.inl h) (λ_ h=>h.elim) (λ_ _ _=>rfl) (lR7 _) (λ_ h=>.inl h) (λ_ _ _ h=>.inl ⟨h,λ_ _ _ h=>h⟩) hr.1.2.sep ?_ rfl ⟨rfl,λ_=>Nat.le_succ _⟩ rfl;intro r t sz n f b c ho hb;have:=hr.1.2.frz r t sz n f b c ho hb;exact⟨λh=>this (.inr h),λh=>this (.inl h)⟩
 exact wp_region_any C.mixed (wqu hG hE _ [] _ T0 O0 nx bs a _ (by simp) (λi=>by simp[Array.getD]) (by simpa using h) ⟨⟨hr.1.1.step hS.1,hS.2⟩,hr.2.1,hr.2.2⟩)
def regE(G:Env)(x:Code)(Fe:List Nat)(Q:Exit->St->Prop)(s:St):Prop:=match x with
 |.region _ ops true=>wd2 G ops.toList (Eng.canQ G.te G.m Fe [] Q .normal) ops.toList.length [] s.T s.O s.nx
 |_=>False
theorem wag.regE{C:Ctx}{te:TE}(hte:Prg C te){m N:Nat}{x:Code}{s S:St}{Q:Exit->St->Prop}(calls:List (Nat×CSpec))(fuel:Nat)(hc:wch C calls)(F Fe:List Nat)
  (h0:canonIs te m F s S) (h:Eng.regE ⟨te,calls,[],m,N,fuel⟩ x Fe Q S) (hS:wbr S.O True):AWP C m N x Q s:=by
 have hG:EnvOK C ⟨te,calls,[],m,N,fuel⟩:=⟨hte.ok,hte.one,hc⟩;have h1:AWP C m N x (Eng.canQ te m Fe [] Q) S:=by
  unfold Eng.regE at h;split at h
  ·rename_i id ops;have:=AWP.each (m:=m) (id:=id) (dec:=S.dec) hG h;simpa using this
  ·exact h.elim
 exact AWP.canonIs F h0 h1.canQ hS
end Go.Eng
namespace Go.Eng
end Go.Eng
