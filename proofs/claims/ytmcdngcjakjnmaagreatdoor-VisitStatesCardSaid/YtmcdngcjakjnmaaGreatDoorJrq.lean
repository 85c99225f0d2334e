/- DERIVED: THE SHELF's CONTRACTS AT THIS DUMP, IN PLAIN WORDS (tools/lay-plain.mjs out of 'TryzSortL.lean', which tools/lay-shelf.mjs wrote): THE SAME DECLARATIONS UNDER THE SAME NAMES: 'import', 'namespace', 'open', 'def', 'theorem' AND NOTHING ELSE: no command of the shelf's: FOR A HAND-IN. Each laying: the table of numbers ('.._ren') and one theorem, a field a fact of the dump's own or the kernel's comparison; each contract: ONE APPLICATION. -/
import Derived.Test.YtmcdngcjakjnmaaGreatDoorJrp
import Derived.Shelf.SlGeneric
import Derived.Ground.Names8Prog
import Derived.Shelf.Spec.SlicesGrow
import Derived.Ground.SlsfProg
import Derived.Shelf.SlSortCmp.NoneTotal
namespace Go.Eng
def wbn(nn:Nat->Nat)(gg:Nat->Nat->MG)(i:Nat):List AV:=[.view 15 (nn i) (waa (gg i))]
def sumN(nn:Nat->Nat):Nat->Nat
 |0=>0
 |k+1=>sumN nn k+nn k
def catG(nn:Nat->Nat)(gg:Nat->Nat->MG):Nat->Nat->MG
 |0,_=>default
 |k+1,i=>if i<sumN nn k then catG nn gg k i else gg k (i - sumN nn k)
def wmz:wdm
 |[.own 0 c],[.row t 1 c' f fr],R=>∃(nn:Nat->Nat) (gg:Nat->Nat->MG),t=22/\fr=false/\c=c'/\c<=1000/\(∀i,i<c->wbn nn gg i=f i)/\sumN nn c<=1000000/\
   R (.view 15 (sumN nn c) (waa (catG nn gg c))) [(0,.row 22 1 c (wbn nn gg) false)]
 |_,_,_=>False
def S_c1(nn:Nat->Nat)(gg:Nat->Nat->MG)(c k:Nat):St:=⟨[(0,.own 0 c),(3,.q (sumN nn k)),(9,.own 0 c),(10,.q c),(11,.q k)],[(0,.row 22 1 c (wbn nn gg) false)],1,[]⟩
def L_c1(nn:Nat->Nat)(gg:Nat->Nat->MG)(c:Nat):waq:=λst Q=>canonIs te 1 [0,3,9,10,11] st (S_c1 nn gg c 0)/\c<=1000/\sumN nn c<=1000000/\
 Q (.exit 0) ⟨[(0,.own 0 c),(3,.q (sumN nn c))],[(0,.row 22 1 c (wbn nn gg) false)],1,[]⟩
def S_c2(nn:Nat->Nat)(gg:Nat->Nat->MG)(c k:Nat):St:=⟨[(6,.own 1 (sumN nn k)),(25,.own 0 c),(26,.q c),(27,.q k)],[(0,.row 22 1 c (wbn nn gg) false),(1,.row 47 15 (sumN nn k) (waa (catG nn gg k)) false)],2,[]⟩
def L_c2(nn:Nat->Nat)(gg:Nat->Nat->MG)(c:Nat):waq:=λst Q=>canonIs te 1 [6,25,26,27] (ownNil 6 47 15 st) (S_c2 nn gg c 0)/\c<=1000/\sumN nn c<=1000000/\
 Q (.exit 2) ⟨[(6,.own 1 (sumN nn c))],[(0,.row 22 1 c (wbn nn gg) false),(1,.row 47 15 (sumN nn c) (waa (catG nn gg c)) false)],2,[]⟩
def atM(L:List MG)(i:Nat):MG:=L.getD i default
def flL(g:Nat->MG)(k:Nat):List MG:=(lst g k).filter okM
structure MG.Sm (m:MG):Prop where
 a:m.dev.length<9223372036854775808
 b:m.v.o.length<9223372036854775808
 c:m.d.o.length<9223372036854775808
 d:m.d.dev.length<9223372036854775808
def nn2(n m i:Nat):Nat:=if i=0 then n else m
def gg2(g h:Nat->MG)(i:Nat):Nat->MG:=if i=0 then g else h
def mrgL(g:Nat->MG)(n:Nat)(h:Nat->MG)(m:Nat):List MG:=mrgF (lst g n++lst h m)
def S_mg(g:Nat->MG)(n k:Nat):St:=⟨[(5,.own 0 (flL g k).length),(11,.view 15 n (waa g)),(12,.q n),(13,.q k)],[(0,.row 47 15 (flL g k).length (waa (atM (flL g k))) false)],1,[]⟩
def L_mg(g:Nat->MG)(n:Nat):waq:=λst Q=>canonIs te 0 [5,11,12,13] (ownNil 5 47 15 st) (S_mg g n 0)/\n<=200000/\(∀i,i<n->(g i).Sm)/\
 Q (.exit 0) ⟨[(5,.own 0 (flL g n).length)],[(0,.row 47 15 (flL g n).length (waa (atM (flL g n))) false)],1,[]⟩
def S_mrg:Spec
 |[.view 15 n f,.view 15 m h],[]=>some (.own 0 (mrgL (mgOf f) n (mgOf h) m).length,[(0,.row 47 15 (mrgL (mgOf f) n (mgOf h) m).length (waa (atM (mrgL (mgOf f) n (mgOf h) m))) false)],
   n<=100000/\m<=100000/\f=waa (mgOf f)/\h=waa (mgOf h)/\(∀i,i<n->(mgOf f i).Sm)/\∀i,i<m->(mgOf h i).Sm)
 |_,_=>none
def mk2(m:MG):List UInt8×Int:=(m.dev,m.seq)
def addC:List ((List UInt8×Int)×Int)->List UInt8×Int->List ((List UInt8×Int)×Int)
 |[],p=>[(p,1)]
 |x::l,p=>bif decide (x.1.1=p.1) && decide (x.1.2=p.2) then (p,x.2+1)::l else x::addC l p
def getC:List ((List UInt8×Int)×Int)->List UInt8×Int->Int
 |[],_=>0
 |x::l,p=>bif decide (x.1.1=p.1) && decide (x.1.2=p.2) then x.2 else getC l p
def cntL(g:Nat->MG):Nat->List ((List UInt8×Int)×Int)
 |0=>[]
 |k+1=>addC (cntL g k) (mk2 (g k))
def numC(g:Nat->MG)(p:List UInt8×Int):Nat->Int
 |0=>0
 |k+1=>numC g p k+bif decide ((mk2 (g k)).1=p.1) && decide ((mk2 (g k)).2=p.2) then 1 else 0
theorem wd4{a b:List UInt8×Int}:(decide (a.1=b.1) && decide (a.2=b.2))=true↔a=b:=by
 simp[Prod.ext_iff]
theorem wtq(q p:List UInt8×Int):∀L,getC (addC L p) q=getC L q+bif decide (p.1=q.1) && decide (p.2=q.2) then 1 else 0
 |[]=>by
  show (bif decide (p.1=q.1) && decide (p.2=q.2) then (1:Int) else 0)=0+bif decide (p.1=q.1) && decide (p.2=q.2) then 1 else 0
  generalize (decide (p.1=q.1) && decide (p.2=q.2))=b
  cases b<;>rfl
 |x::l=>by
  have ih:=wtq q p l;rw[addC]
  cases h:decide (x.1.1=p.1) && decide (x.1.2=p.2) with
  |true=>
   have e:=wd4.1 h;show getC ((p,x.2+1)::l) q=getC (x::l) q+_;rw[getC,getC,e]
   cases h2:decide (p.1=q.1) && decide (p.2=q.2) with
   |true=>rfl
   |false=>show getC l q=getC l q+0;omega
  |false=>
   show getC (x::addC l p) q=getC (x::l) q+_;rw[getC,getC]
   cases h2:decide (x.1.1=q.1) && decide (x.1.2=q.2) with
   |true=>
    have e:=wd4.1 h2;have:(decide (p.1=q.1) && decide (p.2=q.2))=false:=by
     cases r:decide (p.1=q.1) && decide (p.2=q.2) with
     |false=>rfl
     |true=>rw[e, ← wd4.1 r] at h;simp at h
    rw[this];show x.2=x.2+0;omega
   |false=>exact ih
theorem wjs(g:Nat->MG)(q:List UInt8×Int):∀k,getC (cntL g k) q=numC g q k
 |0=>rfl
 |k+1=>by rw[cntL,wtq,wjs g q k,numC]
theorem wol(g:Nat->MG)(q:List UInt8×Int):∀k,0<=numC g q k/\numC g q k<=k
 |0=>by simp[numC]
 |k+1=>by
  have:=wol g q k;rw[numC]
  cases decide ((mk2 (g k)).1=q.1) && decide ((mk2 (g k)).2=q.2)<;>simp<;>omega
theorem wvb(p:List UInt8×Int):∀(L:List ((List UInt8×Int)×Int)) (x:List UInt8×Int),x∈(addC L p).map Prod.fst->x∈L.map Prod.fst∨x=p
 |[],x,h=>by simpa[addC] using h
 |y::l,x,h=>by
  rw[addC] at h
  cases e:decide (y.1.1=p.1) && decide (y.1.2=p.2) with
  |true=>
   rw[e] at h
   rcases List.mem_cons.1 h with h | h
   ·exact .inr h
   ·exact .inl (List.mem_cons_of_mem _ h)
  |false=>
   rw[e] at h
   rcases List.mem_cons.1 h with h | h
   ·exact .inl (by rw[h];exact List.mem_cons_self ..)
   ·rcases wvb p l x h with h | h
    ·exact .inl (List.mem_cons_of_mem _ h)
    ·exact .inr h
theorem wqi(p:List UInt8×Int):∀ {L:List ((List UInt8×Int)×Int)},(L.map Prod.fst).Nodup->((addC L p).map Prod.fst).Nodup
 |[],_=>by simp[addC]
 |y::l,h=>by
  obtain⟨h1,h2⟩:=List.nodup_cons.1 (show (y.1::l.map Prod.fst).Nodup from h);rw[addC]
  cases e:decide (y.1.1=p.1) && decide (y.1.2=p.2) with
  |true=>
   have e':=wd4.1 e;exact List.nodup_cons.2 ⟨by rw[← e'];exact h1,h2⟩
  |false=>
   refine List.nodup_cons.2 ⟨λq=>?_,wqi p h2⟩
   rcases wvb p l y.1 q with q | q
   ·exact h1 q
   ·rw[q] at e;simp at e
theorem wkb(g:Nat->MG):∀k,((cntL g k).map Prod.fst).Nodup
 |0=>by simp[cntL]
 |k+1=>wqi _ (wkb g k)
def entM(L:List ((List UInt8×Int)×Int)):List (AV×AV):=L.map λx=>(.agg [.str x.1.1,.q x.1.2],.q x.2)
def wdk:Spec
 |[.agg [.str dev,.int .i64 seq,.int .i64 _,.str _,.str _,.int .i64 _,.int .i64 _,.int .i64 _,.int .i64 _,.str _,.str _,.str _,.int .i64 _,.str _,.int .i64 _]],[]=>some (.agg [.str dev,.q seq],[],True)
 |_,_=>none
def wgs:Spec
 |[.own 0 n],[.row t 15 m f fr]=>some (.map 1,[(0,.row 47 15 n f false),(1,.amap (entM (cntL (mgOf f) n)))],t=47/\fr=false/\n=m/\n<=1000000/\f=waa (mgOf f))
 |_,_=>none
def S_ct(g:Nat->MG)(n k:Nat):St:=⟨[(3,.map 1),(7,.own 0 n),(8,.q n),(9,.q k)],[(0,.row 47 15 n (waa g) false),(1,.amap (entM (cntL g k)))],2,[]⟩
def L_ct(g:Nat->MG)(n:Nat):waq:=λst Q=>canonIs te 1 [3,7,8,9] st (S_ct g n 0)/\n<=1000000/\Q (.exit 0) ⟨[(3,.map 1)],[(0,.row 47 15 n (waa g) false),(1,.amap (entM (cntL g n)))],2,[]⟩
def S_c5(L:List ((List UInt8×Int)×Int))(x:MG)(g:Nat->MG)(n k:Nat):St:=⟨[(3,.map 1),(5,.ptr 2 0),(7,.own 0 n),(8,.q n),(9,.q k)],[(0,.row 47 15 n (waa g) false),(1,.amap (entM L)),
 (2,.cells [.str x.dev,.q x.seq,.q x.kind,.str x.v.o,.str x.v.p,.q x.v.per,.q x.v.day,.q x.v.st,.q x.v.pr,.str x.v.rep,.str x.d.o,.str x.d.p,.q x.d.per,.str x.d.dev,.q x.d.num] 47)],3,[]⟩
def L_c5(L:List ((List UInt8×Int)×Int))(x:MG)(g:Nat->MG)(n k:Nat):waq:=λst Q=>canonIs te 1 [3,5,7,8,9] st (S_c5 L x g n k)/\(L.map Prod.fst).Nodup/\inR .i64 (getC L (mk2 x)+1)/\
 Q .normal (S_c5 (addC L (mk2 x)) x g n k)
def fstB(q:Nat->Bool):Nat->Nat
 |0=>0
 |k+1=>bif decide (fstB q k<k) then fstB q k else (bif q k then k else k+1)
def ixB(q:Nat->Bool)(n:Nat):Int:=bif decide (fstB q n<n) then (fstB q n:Int) else -1
theorem wjv(q:Nat->Bool):∀k,fstB q k<=k
 |0=>lR7 _
 |k+1=>by
  have ih:=wjv q k;rw[fstB]
  cases decide (fstB q k<k) with
  |true=>show fstB q k<=k+1;omega
  |false=>cases q k with
   |true=>show k<=k+1;omega
   |false=>exact lR7 _
theorem weg{q:Nat->Bool}{k:Nat}(h:fstB q k=k)(hk:q k=false):fstB q (k+1)=k+1:=by
 rw[fstB,decide_eq_false (show ¬ fstB q k<k by omega),hk];rfl
theorem weh{q:Nat->Bool}{k:Nat}(h:fstB q k=k)(hk:q k=true):∀n,k<n->fstB q n=k
 |0,hn=>absurd hn (nZ7 _)
 |n+1,hn=>by
  rw[fstB]
  by_cases e:k=n
  ·subst e;rw[decide_eq_false (show ¬ fstB q k<k by omega),hk];rfl
  ·have ih:=weh h hk n (by omega);rw[ih,decide_eq_true (show k<n by omega)];rfl
theorem wf4(q:Nat->Bool):∀n,(∀j,j<fstB q n->q j=false)/\(fstB q n<n->q (fstB q n)=true)
 |0=>⟨λj hj=>absurd hj (nZ7 _),λh=>absurd h (nZ7 _)⟩
 |n+1=>by
  obtain⟨h1,h2⟩:=wf4 q n;have hle:=wjv q n
  by_cases h:fstB q n<n
  ·have e:fstB q (n+1)=fstB q n:=by rw[fstB,decide_eq_true h];rfl
   rw[e];exact⟨h1,λ_=>h2 h⟩
  ·have h0:fstB q n=n:=by omega
   rw[h0] at h1
   cases hq:q n with
   |true=>
    have e:fstB q (n+1)=n:=by rw[fstB,decide_eq_false h,hq];rfl
    rw[e];exact⟨h1,λ_=>hq⟩
   |false=>
    have e:fstB q (n+1)=n+1:=weg h0 hq;rw[e];refine⟨λj hj=>?_,λh=>absurd h (Nat.lt_irrefl _)⟩
    by_cases q':j=n
    ·rw[q'];exact hq
    ·exact h1 j (by omega)
def cntE(es:List (AV×AV))(m:MG):Int:=wau ((mget es (.agg [.str m.dev,.q m.seq])).getD (.q 0))
def delF(es:List (AV×AV))(m:MG):Bool:=decide (1<cntE es m)
def EsOK(es:List (AV×AV)):Prop:=∃L:List ((List UInt8×Int)×Int),es=entM L/\(L.map Prod.fst).Nodup
def wep:Spec
 |[.agg [.str dev,.int .i64 seq,.int .i64 kind,.str o,.str p,.int .i64 per,.int .i64 day,.int .i64 st,.int .i64 pr,.str rep,.str o',.str p',.int .i64 per',.str dev',.int .i64 num],.ptr 0 0],[.cells [.map 1] t,.amap es]=>
   some (.bool (delF es ⟨dev,seq,kind,⟨o,p,per,day,st,pr,rep⟩,⟨o',p',per',dev',num⟩⟩),[(0,.cells [.map 1] t),(1,.amap es)],t=126/\EsOK es)
 |_,_=>none
def wl0:Spec
 |[.own 0 n,.func 92 [.ptr 1 0]],[.row t 15 m f fr,.cells [.map 2] t2,.amap es]=>
   some (.q (ixB (λi=>delF es (mgOf f i)) n),[(0,.row 47 15 n f false),(1,.cells [.map 2] 126),(2,.amap es)],t=47/\t2=126/\fr=false/\n=m/\n<=1000000/\f=waa (mgOf f)/\EsOK es)
 |_,_=>none
def wlx(es:List (AV×AV))(g:Nat->MG)(n k:Nat):St:=⟨[(0,.own 0 n),(1,.func 92 [.ptr 1 0]),(7,.q n),(8,.q k)],[(0,.row 47 15 n (waa g) false),(1,.cells [.map 2] 126),(2,.amap es)],3,[]⟩
def wng(es:List (AV×AV))(g:Nat->MG)(n:Nat):waq:=λst Q=>canonIs te 3 [0,1,7,8] st (wlx es g n 0)/\n<=1000000/\EsOK es/\
 wab (decide (fstB (λi=>delF es (g i)) n<n)) (Q .ret ⟨[(4,.q (fstB (λi=>delF es (g i)) n))],[(0,.row 47 15 n (waa g) false),(1,.cells [.map 2] 126),(2,.amap es)],3,[]⟩)
  (Q (.exit 0) ⟨[],[(0,.row 47 15 n (waa g) false),(1,.cells [.map 2] 126),(2,.amap es)],3,[]⟩)
def kpL(es:List (AV×AV))(g:Nat->MG)(n:Nat):List MG:=(lst g n).filter λx=> !delF es x
def wmy:wdm
 |[.own 0 n,.func 92 [.ptr 1 0]],[.row t 15 m f fr,.cells [.map 2] t2,.amap es],R=>t=47/\t2=126/\fr=false/\n=m/\n<=1000000/\f=waa (mgOf f)/\EsOK es/\
   ∀(k:Nat) (h:Nat->MG),lst h k=kpL es (mgOf f) n->R (.own 0 k) [(0,.row 47 15 k (waa h) false),(1,.cells [.map 2] 126),(2,.amap es)]
 |_,_,_=>False
def S_df(es:List (AV×AV))(n:Nat)(i:CI):St:=⟨[(0,.own 0 n),(1,.func 92 [.ptr 1 0]),(5,.q i.w),(6,.q i.k)],[(0,.row 47 15 n (waa i.h) false),(1,.cells [.map 2] 126),(2,.amap es)],3,[]⟩
def L_df(es:List (AV×AV))(g:Nat->MG)(n i0:Nat):waq:=λst Q=>canonIs te 3 [0,1,5,6] st (S_df es n ⟨i0+1,i0,g⟩)/\(i0<n/\n<=1000000)/\EsOK es/\(∀j,j<i0->delF es (g j)=false)/\delF es (g i0)=true/\
 ∀(w:Nat) (h:Nat->MG),w<=n->lst h w=kpL es g n->Q (.exit 0) ⟨[(0,.own 0 n),(5,.q w)],[(0,.row 47 15 n (waa h) false),(1,.cells [.map 2] 126),(2,.amap es)],3,[]⟩
def noM:Nat->MG:=λ_=>default
def wak(g:Nat->MG)(n:Nat):List MG:=(mrgL g n noM 0).filter λx=> !decide (1<numC (atM (mrgL g n noM 0)) (mk2 x) (mrgL g n noM 0).length)
def wes:Spec
 |[.view 15 n f,.nil],[]=>some (.own 0 (mrgL (mgOf f) n noM 0).length,[(0,.row 47 15 (mrgL (mgOf f) n noM 0).length (waa (atM (mrgL (mgOf f) n noM 0))) false)],
   n<=100000/\f=waa (mgOf f)/\∀i,i<n->(mgOf f i).Sm)
 |_,_=>none
def wla:Spec
 |[.view 15 n f],[]=>some (.view 15 (wak (mgOf f) n).length (waa (atM (wak (mgOf f) n))),[],n<=100000/\f=waa (mgOf f)/\∀i,i<n->(mgOf f i).Sm)
 |_,_=>none
def selF(o p:List UInt8)(per:Int)(m:MG):Bool:=decide (m.kind=1) && (decide (m.v.o=o) && (decide (m.v.p=p) && decide (m.v.per=per)))
def stpC(L:List MG)(m:MG):List MG:=bif decide (0<L.length) && decide ((atM L (L.length - 1)).dev=m.dev) then L.take (L.length - 1)++[m] else L++[m]
def canL(o p:List UInt8)(per:Int)(g:Nat->MG):Nat->List MG
 |0=>[]
 |k+1=>bif selF o p per (g k) then stpC (canL o p per g k) (g k) else canL o p per g k
def wmm:Spec
 |[.view 15 n f,.str o,.str p,.int .i64 per],[]=>some (.view 15 (canL o p per (mgOf f) n).length (waa (atM (canL o p per (mgOf f) n))),[],n<=1000000/\f=waa (mgOf f))
 |_,_=>none
def wmh(o p:List UInt8)(per:Int)(g:Nat->MG)(n k:Nat):St:=⟨[(1,.str o),(2,.str p),(3,.q per),(9,.own 0 (canL o p per g k).length),(13,.view 15 n (waa g)),(14,.q n),(15,.q k)],[(0,.row 47 15 (canL o p per g k).length (waa (atM (canL o p per g k))) false)],1,[]⟩
def wnn(o p:List UInt8)(per:Int)(g:Nat->MG)(n:Nat):waq:=λst Q=>canonIs te 0 [1,2,3,9,13,14,15] (ownNil 9 47 15 st) (wmh o p per g n 0)/\n<=1000000/\
 Q (.exit 0) ⟨[(9,.own 0 (canL o p per g n).length)],[(0,.row 47 15 (canL o p per g n).length (waa (atM (canL o p per g n))) false)],1,[]⟩
def difF(x:VT)(m:MG):Bool:= !decide (m.v.st=x.st) || (!decide (m.v.pr=x.pr) || !decide (m.v.rep=x.rep))
def namF(x:DT)(m:MG):Bool:=decide (m.dev=x.dev) && decide (m.seq=x.num)
def wgk:Spec
 |[.agg [.str dev,.int .i64 seq,.int .i64 kind,.str o,.str p,.int .i64 per,.int .i64 day,.int .i64 st,.int .i64 pr,.str rep,.str o',.str p',.int .i64 per',.str dev',.int .i64 num],.ptr 0 0],[.cells [.str xo,.str xp,.int .i64 xper,.int .i64 xday,.int .i64 xst,.int .i64 xpr,.str xrep] t]=>some (.bool (difF ⟨xo,xp,xper,xday,xst,xpr,xrep⟩ ⟨dev,seq,kind,⟨o,p,per,day,st,pr,rep⟩,⟨o',p',per',dev',num⟩⟩),[(0,.cells [.str xo,.str xp,.q xper,.q xday,.q xst,.q xpr,.str xrep] 43)],t=43)
 |_,_=>none
def wl2:Spec
 |[.view 15 n f,.func 61 [.ptr 0 0]],[.cells [.str xo,.str xp,.int .i64 xper,.int .i64 xday,.int .i64 xst,.int .i64 xpr,.str xrep] t]=>some (.q (ixB (λi=>difF ⟨xo,xp,xper,xday,xst,xpr,xrep⟩ (mgOf f i)) n),[(0,.cells [.str xo,.str xp,.q xper,.q xday,.q xst,.q xpr,.str xrep] 43)],t=43/\n<=1000000/\f=waa (mgOf f))
 |_,_=>none
def wlw(x:VT)(g:Nat->MG)(n k:Nat):St:=⟨[(0,.view 15 n (waa g)),(1,.func 61 [.ptr 0 0]),(7,.q n),(8,.q k)],[(0,.cells [.str x.o,.str x.p,.q x.per,.q x.day,.q x.st,.q x.pr,.str x.rep] 43)],1,[]⟩
def wnf(x:VT)(g:Nat->MG)(n:Nat):waq:=λst Q=>canonIs te 1 [0,1,7,8] st (wlw x g n 0)/\n<=1000000/\
 wab (decide (fstB (λi=>difF x (g i)) n<n)) (Q .ret ⟨[(4,.q (fstB (λi=>difF x (g i)) n))],[(0,.cells [.str x.o,.str x.p,.q x.per,.q x.day,.q x.st,.q x.pr,.str x.rep] 43)],1,[]⟩) (Q (.exit 0) ⟨[],[(0,.cells [.str x.o,.str x.p,.q x.per,.q x.day,.q x.st,.q x.pr,.str x.rep] 43)],1,[]⟩)
def wgj:Spec
 |[.agg [.str dev,.int .i64 seq,.int .i64 kind,.str o,.str p,.int .i64 per,.int .i64 day,.int .i64 st,.int .i64 pr,.str rep,.str o',.str p',.int .i64 per',.str dev',.int .i64 num],.ptr 0 0],[.cells [.str xo,.str xp,.int .i64 xper,.str xdev,.int .i64 xnum] t]=>some (.bool (namF ⟨xo,xp,xper,xdev,xnum⟩ ⟨dev,seq,kind,⟨o,p,per,day,st,pr,rep⟩,⟨o',p',per',dev',num⟩⟩),[(0,.cells [.str xo,.str xp,.q xper,.str xdev,.q xnum] 45)],t=45)
 |_,_=>none
def wl1:Spec
 |[.view 15 n f,.func 63 [.ptr 0 0]],[.cells [.str xo,.str xp,.int .i64 xper,.str xdev,.int .i64 xnum] t]=>some (.q (ixB (λi=>namF ⟨xo,xp,xper,xdev,xnum⟩ (mgOf f i)) n),[(0,.cells [.str xo,.str xp,.q xper,.str xdev,.q xnum] 45)],t=45/\n<=1000000/\f=waa (mgOf f))
 |_,_=>none
def wlv(x:DT)(g:Nat->MG)(n k:Nat):St:=⟨[(0,.view 15 n (waa g)),(1,.func 63 [.ptr 0 0]),(7,.q n),(8,.q k)],[(0,.cells [.str x.o,.str x.p,.q x.per,.str x.dev,.q x.num] 45)],1,[]⟩
def wne(x:DT)(g:Nat->MG)(n:Nat):waq:=λst Q=>canonIs te 1 [0,1,7,8] st (wlv x g n 0)/\n<=1000000/\
 wab (decide (fstB (λi=>namF x (g i)) n<n)) (Q .ret ⟨[(4,.q (fstB (λi=>namF x (g i)) n))],[(0,.cells [.str x.o,.str x.p,.q x.per,.str x.dev,.q x.num] 45)],1,[]⟩) (Q (.exit 0) ⟨[],[(0,.cells [.str x.o,.str x.p,.q x.per,.str x.dev,.q x.num] 45)],1,[]⟩)
def wmk:Spec
 |[.view 15 n f,.func 61 [.ptr 0 0]],[.cells [.str xo,.str xp,.int .i64 xper,.int .i64 xday,.int .i64 xst,.int .i64 xpr,.str xrep] t]=>some (.bool (decide (0<=ixB (λi=>difF ⟨xo,xp,xper,xday,xst,xpr,xrep⟩ (mgOf f i)) n)),[(0,.cells [.str xo,.str xp,.q xper,.q xday,.q xst,.q xpr,.str xrep] 43)],t=43/\n<=1000000/\f=waa (mgOf f))
 |_,_=>none
def we0:VT:=⟨[],[],0,0,0,0,[]⟩
def wci(o p:List UInt8)(per q:Int)(m:MG):Bool:=decide (m.kind=2) && (decide (m.d.o=o) && (decide (m.d.p=p) && (decide (m.d.per=per) && !decide (m.seq<q))))
def dcF(o p:List UInt8)(per:Int)(C:List MG)(g:Nat->MG):Nat->VT×Int
 |0=>(we0, -1)
 |k+1=>bif wci o p per (dcF o p per C g k).2 (g k) && decide (fstB (λi=>namF (g k).d (atM C i)) C.length<C.length) then ((atM C (fstB (λi=>namF (g k).d (atM C i)) C.length)).v,(g k).seq) else dcF o p per C g k
def resR(o p:List UInt8)(per:Int)(R C:List MG):VT×Int:=
 bif decide (C.length=0) then (we0,0) else bif decide (0<=ixB (λi=>difF (atM C 0).v (atM C i)) C.length) then
  (bif decide ((dcF o p per C (atM R) R.length).2<0) then (we0,2) else ((dcF o p per C (atM R) R.length).1,1)) else ((atM C 0).v,1)
def resF(g:Nat->MG)(n:Nat)(o p:List UInt8)(per:Int):VT×Int:=resR o p per (wak g n) (canL o p per (atM (wak g n)) (wak g n).length)
def wlb:Spec
 |[.view 15 n f,.str o,.str p,.int .i64 per],[]=>
   some (.tuple [.agg [.str (resF (mgOf f) n o p per).1.o,.str (resF (mgOf f) n o p per).1.p,.q (resF (mgOf f) n o p per).1.per,.q (resF (mgOf f) n o p per).1.day,.q (resF (mgOf f) n o p per).1.st,.q (resF (mgOf f) n o p per).1.pr,.str (resF (mgOf f) n o p per).1.rep],.q (resF (mgOf f) n o p per).2],[],
    n<=100000/\f=waa (mgOf f)/\∀i,i<n->(mgOf f i).Sm)
 |_,_=>none
def S_rl(o p:List UInt8)(per:Int)(C R:List MG)(k:Nat):St:=⟨[(1,.str o),(2,.str p),(3,.q per),(8,.ptr 0 0),(11,.view 15 C.length (waa (atM C))),(13,.ptr 1 0),(14,.q (dcF o p per C (atM R) k).2),(40,.view 15 R.length (waa (atM R))),(41,.q R.length),(42,.q k)],
 [(0,.cells [.str [],.str [],.q 0,.q 0,.q 0,.q 0,.str []] 43),(1,.cells [.str (dcF o p per C (atM R) k).1.o,.str (dcF o p per C (atM R) k).1.p,.q (dcF o p per C (atM R) k).1.per,.q (dcF o p per C (atM R) k).1.day,.q (dcF o p per C (atM R) k).1.st,.q (dcF o p per C (atM R) k).1.pr,.str (dcF o p per C (atM R) k).1.rep] 43)],2,[]⟩
def L_rl(o p:List UInt8)(per:Int)(C R:List MG):waq:=λst Q=>canonIs te 0 [1,2,3,8,11,13,14,40,41,42] st (S_rl o p per C R 0)/\R.length<=1000000/\C.length<=1000000/\
 Q (.exit 0) ⟨[(8,.ptr 0 0),(13,.ptr 1 0),(14,.q (dcF o p per C (atM R) R.length).2)],[(0,.cells [.str [],.str [],.q 0,.q 0,.q 0,.q 0,.str []] 43),
  (1,.cells [.str (dcF o p per C (atM R) R.length).1.o,.str (dcF o p per C (atM R) R.length).1.p,.q (dcF o p per C (atM R) R.length).1.per,.q (dcF o p per C (atM R) R.length).1.day,.q (dcF o p per C (atM R) R.length).1.st,.q (dcF o p per C (atM R) R.length).1.pr,.str (dcF o p per C (atM R) R.length).1.rep] 43)],2,[]⟩
end Go.Eng
namespace Go.Proofs
open Go.Shelf
def Tryz.grow116_ren:Go.Shelf.Ren:=⟨λ | 4=>116 | n=>n,λ | 22=>22 | 25=>47 | 3=>3 | 4=>4 | 9=>9 | 20=>20 | 0=>0 | n=>n,λ | n=>n⟩
theorem Tryz.grow116:Go.Proofs.Lays8.n4 Tryz.prog Tryz.grow116_ren:={
 mixed:=by kernel_rfl
 f4:=⟨Tryz.f116.name,by decide,Tryz.func116.trans (congrArg some (by kernel_rfl))⟩
 t0:=Tryz.underlying0
 a0:=Tryz.isAgg0
 z0:=Tryz.sizeOf0
 v0:=Tryz.zeroValue0
 t3:=Tryz.underlying3
 a3:=Tryz.isAgg3
 z3:=Tryz.sizeOf3
 v3:=Tryz.zeroValue3
 t4:=Tryz.underlying4
 a4:=Tryz.isAgg4
 z4:=Tryz.sizeOf4
 v4:=Tryz.zeroValue4
 t9:=Tryz.underlying9
 a9:=Tryz.isAgg9
 z9:=Tryz.sizeOf9
 v9:=Tryz.zeroValue9
 t20:=Tryz.underlying20
 a20:=Tryz.isAgg20
 z20:=Tryz.sizeOf20
 v20:=Tryz.zeroValue20
 t22:=Tryz.underlying22
 a22:=Tryz.isAgg22
 z22:=Tryz.sizeOf22
 v22:=Tryz.zeroValue22 }
end Go.Proofs
namespace Go.Eng
open Go.Proofs Go.RowKit
variable {C:Ctx} [C.Loose]
set_option maxRecDepth 20000
theorem grow_ok(hP:C.P=Tryz.prog):wbi C 116 wmx:=by
 have _:C.Loose:=inferInstance;rintro args objs R h;unfold wmx at h;split at h
 ·rename_i n;obtain⟨h0,hn,hz,hp⟩:=h;refine⟨⟨_,hP ▸ Tryz.func116,rfl,by decide⟩,λE bs w cargs h1 h2 h3 hW h5 h6 h7=>?_⟩;obtain⟨a,b,rfl⟩:∃a b,cargs=[a,b]:=by
   match cargs,h6 with
   |[a,b],_=>exact⟨a,b,rfl⟩
  have V0:=h7 0 _ _ rfl rfl;have V1:=(h7 1 _ _ rfl rfl).int_iff;subst V1;generalize hu:AV.nil=u at V0
  cases V0<;>cases hu;have hO:lkL []=lk []:=by funext i;rfl
  rw[hO] at hW;obtain⟨m,rfl⟩:∃m:Nat,n=(m:Int):=⟨n.toNat,by omega⟩
  rcases Nat.eq_zero_or_pos m with rfl | hm
  ·refine Calls.mono (hP ▸ Any8.slices_Grow_room Tryz.grow116 none 0 0 0 w (by omega) (by omega) (by omega) (by omega)) ?_;rintro e w' ⟨rfl,rfl⟩;exact⟨_,.nil,[],bs,rfl,hz rfl,hW,.nil,λr _=>⟨rfl,h5 r (zL7 _)⟩⟩
  ·obtain⟨i,hi,hisz,hib,hiz⟩:=((prg hP).ok 47 _ rfl).2.1;have hbytes:i.bytes<=1000:=by rw[hib];decide
   have hs15:i.size=15:=hisz;have hmul:(0+m) * i.bytes<=140737488355328:=Nat.le_trans (Nat.mul_le_mul (show 0+m<=1000000 by omega) hbytes) (by decide);have hc:=Any8.slices_Grow_grow Tryz.grow116 i _ (hP ▸ hi) hiz (by omega) none 0 0 m [] w (by omega) (by omega) hmul (by omega) (by simp) (λ_=>rfl) (λa h=>by cases h);have hcap:=grownCap_ge w (0+m) 0 47;have hmax:=grownCap_le_maxLen w (0+m) 0 47 (by unfold maxLen;omega);have c1:=h5 0 (zL7 _);have key:∀vs:Array Value,vs.size=grownCap w (0+m) 0 47 * 15->∃v u O' bs',(Ending.returned (.slice (some ⟨w.heap.size,0,none⟩) 0 (grownCap w (0+m) 0 47)))= .returned v/\R u O'/\WRep C E (lk O') bs' (w.drew.alloc (.cells vs 47))/\V (w.drew.alloc (.cells vs 47)) (MB E (lk O') bs') bs' v u/\∀r,0+16<=r->lk O' r=none/\bs' r=none:=by
    intro vs hvs
    obtain⟨k1,k2⟩:=whc hW c1 (w1:=w.drew) rfl rfl ⟨rfl,λ_=>Nat.le_succ _⟩ rfl (vs:=vs) (e:=47) (sz:=15) (n:=0) (c:=grownCap w (0+m) 0 47) (f:=λ_=>[]) (zL7 _) hmax hvs
     (λi hi=>absurd hi (nZ7 _)) (λi hi=>absurd hi (nZ7 _)) (λi hi=>absurd hi (nZ7 _))
    have e1:up (lk []) 0 (AObj.row 47 15 0 (λ_=>[]) false)=lk [(0,.row 47 15 0 (λ_=>[]) false)]:=by
     funext r;rw[wat]
     by_cases h:0=r
     ·subst h;rw[wao,if_pos rfl]
     ·rw[wan _ _ _ h,if_neg h]
    rw[e1] at k2;refine⟨_,.own 0 0,[(0,.row 47 15 0 (λ_=>[]) false)],up bs 0 (.blk w.heap.size (grownCap w (0+m) 0 47)),rfl,hp (by omega),k2,.own (wao _ _ _) (zL7 _) hmax,λr hr=>?_⟩;exact⟨by rw[wat,if_neg (by omega)];rfl,by rw[wan _ _ _ (by omega)];exact h5 r (zL7 _)⟩
   refine Calls.mono (hP ▸ hc) ?_;rintro e w' ⟨rfl,rfl⟩;refine key _ ?_;generalize hz15:Value.cells _=zc;have hz15:zc.size=15:=by rw[← hz15];rfl
   have hcap:0+m<=grownCap w (0+m) 0 47:=hcap;show (#[]++Builtin.zeroCells zc (0+m - 0)++Builtin.zeroCells zc (grownCap w (0+m) 0 47 - (0+m))).size=_;rw[Array.size_append,Array.size_append,size_zeroCells,size_zeroCells,hz15];simp only[Array.size_empty];omega
 ·exact h.elim
theorem nf_cc(nn:Nat->Nat)(gg:Nat->Nat->MG)(c:Nat)(R:oR7):wpFn te [(116,.rel wmx)] [(3,L_c1 nn gg c),(11,L_c2 nn gg c)] 0 Tryz.f95 [.own 0 c] [.row 22 1 c (wbn nn gg) false] R=(letI z3:=(∀(i:Nat),i<sumN nn c->true=true:Prop);letI z2:=(↑(sumN nn c):Int);letI z1:=([(0,.row 22 1 c (wbn nn gg) false),(1,.row 47 15 (sumN nn c) (waa (catG nn gg c)) false)]:oL7);letI z0:=(TEq [(6,.own 1 0),(25,.own 0 c),(26,.q (c:Int)),(27,.q 0)] [(6,.own 1 0),(25,.own 0 c),(26,.q (c:Int)),(27,.q (↑0:Int))]/\wad [(0,.row 22 1 c (wbn nn gg) false),(1,.row 47 15 0 (λ(_x:Nat)=>[]) false)] [(0,.row 22 1 c (wbn nn gg) false),(1,.row 47 15 0 (waa (catG nn gg 0)) false)]);(TEq [(0,.own 0 c),(3,.q 0),(9,.own 0 c),(10,.q (c:Int)),(11,.q 0)] [(0,.own 0 c),(3,.q (↑(sumN nn 0):Int)),(9,.own 0 c),(10,.q (c:Int)),(11,.q (↑0:Int))]/\wad [(0,.row 22 1 c (wbn nn gg) false)] [(0,.row 22 1 c (wbn nn gg) false)])/\c<=1000/\sumN nn c<=1000000/\(0:Int)<=z2/\z2<=1000000/\(z2=0->z0/\c<=1000/\sumN nn c<=1000000/\(∀(i:Nat),i<c->true=true)/\z3/\∃(O':oL7),wad z1 O'/\R (.own 1 (sumN nn c)) O')/\((0:Int)<z2->(∀(i:Nat),i<0->true=true)/\z0/\c<=1000/\sumN nn c<=1000000/\(∀(i:Nat),i<c->true=true)/\z3/\∃(O':oL7),wad z1 O'/\R (.own 1 (sumN nn c)) O')):=by kernel_rfl
theorem wz5(nn:Nat->Nat)(gg:Nat->Nat->MG)(c k:Nat)(P:Nat->Prop)(R:eR7):wav ⟨te,[],[],1,36,0⟩ (wax Tryz.f95 3) [0,3,9,10,11] [0,3] [] (S_c1 nn gg c) P R (S_c1 nn gg c k)=(letI z2:=(↑(sumN nn k):Int);letI z1:=([(0,.row 22 1 c (wbn nn gg) false)]:oL7);letI z0:=(↑(nn (k:Int).toNat):Int);wab (decide ((k:Int)<(c:Int))) (((0:Int)<=(k:Int)/\(k:Int)<(c:Int))/\((k:Int).toNat<c/\1=1)/\inR .i64 (z2+z0)/\wab (decide (z2+z0<0)) False (inR .i64 ((k:Int)+1)/\∃(i':Nat),(TEq [(0,.own 0 c),(3,.q (z2+z0)),(9,.own 0 c),(10,.q (c:Int)),(11,.q ((k:Int)+1))] [(0,.own 0 c),(3,.q (↑(sumN nn i'):Int)),(9,.own 0 c),(10,.q (c:Int)),(11,.q (i':Int))]/\wad z1 z1)/\P i')) ((∀(i:Nat),i<c->true=true)/\∃(O':oL7),wad z1 O'/\R (.exit 0) (St.mk [(0,.own 0 c),(3,.q z2)] O' 1 []))):=by kernel_rfl
theorem wz4(nn:Nat->Nat)(gg:Nat->Nat->MG)(c k:Nat)(P:Nat->Prop)(R:eR7):wav ⟨te,[],[],1,36,0⟩ (wax Tryz.f95 11) [6,25,26,27] [6] [] (S_c2 nn gg c) P R (S_c2 nn gg c k)=(letI z0:=(k:Int).toNat;wab (decide ((k:Int)<(c:Int))) (((0:Int)<=(k:Int)/\(k:Int)<(c:Int))/\((k:Int).toNat<c/\1=1)/\(15=15/\sumN nn k<=sumN nn k/\15=15/\47=47/\15=15/\sumN nn k+nn z0<=9223372036854775807/\(sumN nn k+nn z0) * 176<=140737488355328)/\inR .i64 ((k:Int)+1)/\∃(i':Nat),(TEq [(6,.own 1 (sumN nn k+nn z0)),(25,.own 0 c),(26,.q (c:Int)),(27,.q ((k:Int)+1))] [(6,.own 1 (sumN nn i')),(25,.own 0 c),(26,.q (c:Int)),(27,.q (i':Int))]/\wad [(0,.row 22 1 c (wbn nn gg) false),(1,.row 47 15 (sumN nn k+nn z0) (apF (sumN nn k) (waa (catG nn gg k)) (waa (gg z0))) false)] [(0,.row 22 1 c (wbn nn gg) false),(1,.row 47 15 (sumN nn i') (waa (catG nn gg i')) false)])/\P i') ((∀(i:Nat),i<c->true=true)/\(∀(i:Nat),i<sumN nn k->true=true)/\∃(O':oL7),wad [(0,.row 22 1 c (wbn nn gg) false),(1,.row 47 15 (sumN nn k) (waa (catG nn gg k)) false)] O'/\R (.exit 2) (St.mk [(6,.own 1 (sumN nn k))] O' 2 []))):=by kernel_rfl
theorem wn2 (nn : Nat → Nat) : ∀ {k c : Nat}, k ≤ c → sumN nn k ≤ sumN nn c
  | k, 0, h => by obtain rfl : k = 0 := by omega
                  exact lR7 _
  | k, c + 1, h => by
    by_cases e : k = c + 1
    · rw [e]; exact lR7 _
    · have := wn2 nn (show k ≤ c by omega)
      rw [sumN]; omega
theorem c1_loop(hP:C.P=Tryz.prog)(nn:Nat->Nat)(gg:Nat->Nat->MG)(c:Nat):wah C 1 36 (waj Tryz.f95 3) (L_c1 nn gg c):=by
 have _:C.Loose:=inferInstance;rintro st Q ⟨h0,hc,hs,hQ⟩;refine wah.mk (prg hP) [] 0 .nil [0,3,9,10,11] [0,3] [] (S_c1 nn gg c) (λk=>k<=c) (λk=>c - k) 0 (zL7 _) h0 (λk hk=>?_) (λi=>⟨λ_ _=>rfl,trivial⟩);rw[wz5,tN7];refine wag (λh1=>?_) (λh1=>?_)
 ·have hle:=wn2 nn (show k+1<=c by omega);rw[sumN] at hle;refine⟨⟨by omega,by omega⟩,⟨by omega,rfl⟩,by simp only[inR];omega,wag (λq=>?_) (λ_=>⟨by simp only[inR];omega,k+1,⟨?_,rQ7,trivial⟩,by omega,by omega⟩)⟩
  ·exfalso;omega
  ·rfl
 ·have:k=c:=by omega
  subst this;exact⟨λ_ _=>rfl,_,wa0 _,hQ⟩
theorem c2_loop(hP:C.P=Tryz.prog)(nn:Nat->Nat)(gg:Nat->Nat->MG)(c:Nat):wah C 1 36 (waj Tryz.f95 11) (L_c2 nn gg c):=by
 have _:C.Loose:=inferInstance;rintro st Q ⟨h0,hc,hs,hQ⟩;refine AWP.ownNil 6 47 15 ?_;refine wah.mk (prg hP) [] 0 .nil [6,25,26,27] [6] [] (S_c2 nn gg c) (λk=>k<=c) (λk=>c - k) 0 (zL7 _) h0 (λk hk=>?_) (λi=>⟨λ_ _=>rfl,λ_ _=>rfl,trivial⟩);rw[wz4,tN7];refine wag (λh1=>?_) (λh1=>?_)
 ·have hle:=wn2 nn (show k+1<=c by omega);rw[sumN] at hle;refine⟨⟨by omega,by omega⟩,⟨by omega,rfl⟩,⟨rfl,lR7 _,rfl,rfl,rfl,by omega,?_⟩,by simp only[inR];omega,k+1,⟨rfl,rQ7,⟨rfl,rfl,rfl,rfl,rfl,λj hj=>?_⟩,trivial⟩,by omega,by omega⟩
  ·show (sumN nn k+nn k) * 176<=_;omega
  ·show apF (sumN nn k) (waa (catG nn gg k)) (waa (gg k)) j=waa (catG nn gg (k+1)) j;unfold apF waa;rw[catG]
   by_cases h:j<sumN nn k
   ·simp only[h,if_true]
   ·simp only[h,if_false]
 ·have:k=c:=by omega
  subst this;exact⟨λ_ _=>rfl,λ_ _=>rfl,_,wa0 _,hQ⟩
theorem w2t(hP:C.P=Tryz.prog):wbi C 95 wmz:=by
 rintro args objs R h;unfold wmz at h;split at h
 ·rename_i c t c' f fr;obtain⟨nn,gg,rfl,rfl,rfl,hc,hf,hs,hR⟩:=h;refine war.rowEq 0 (f':=wbn nn gg) rfl hf (war.frzO 1 ?_);show war C _ [.own 0 c] [.row 22 1 c (wbn nn gg) false] _;refine wbi.wpL (prg hP) [(116,.rel wmx)] [(3,L_c1 nn gg c),(11,L_c2 nn gg c)] 0 (.cons (grow_ok hP) .nil) (hP ▸ Tryz.func95) rfl rfl rfl [(waj Tryz.f95 3,L_c1 nn gg c),(waj Tryz.f95 11,L_c2 nn gg c)] (by kernel_rfl) ⟨c1_loop hP nn gg c,c2_loop hP nn gg c,trivial⟩ ?_;rw[nf_cc];have fin:(∀(i:Nat),i<c->true=true)/\(∀(i:Nat),i<sumN nn c->true=true)/\∃(O':List (Nat×AObj)),wad [(0,.row 22 1 c (wbn nn gg) false),(1,.row 47 15 (sumN nn c) (waa (catG nn gg c)) false)] O'/\frzO 1 R (.own 1 (sumN nn c)) O':=by
   refine⟨λ_ _=>rfl,λ_ _=>rfl,_,wa0 _,λ_ _=>rfl,?_⟩;have hb:Nat.ble (sumN nn c) (sumN nn c)=true:=Nat.ble_eq_true_of_le (lR7 _);have e:frzC 1 15 (sumN nn c) (waa (catG nn gg c)) (.own 1 (sumN nn c))= .view 15 (sumN nn c) (waa (catG nn gg c)):=by simp[frzC,frzA,frz,hb]
   rw[e];exact hR
  have start:TEq [(6,.own 1 0),(25,.own 0 c),(26,.q (c:Int)),(27,.q 0)] [(6,.own 1 0),(25,.own 0 c),(26,.q (c:Int)),(27,.q ((0:Nat):Int))]/\wad [(0,.row 22 1 c (wbn nn gg) false),(1,.row 47 15 0 (λ_=>[]) false)] [(0,.row 22 1 c (wbn nn gg) false),(1,.row 47 15 0 (waa (catG nn gg 0)) false)]:=
   ⟨rfl,rQ7,⟨rfl,rfl,rfl,rfl,rfl,λi hi=>absurd hi (nZ7 i)⟩,trivial⟩
  exact⟨⟨rfl,rQ7,trivial⟩,hc,hs,by omega,by omega,λ_=>⟨start,hc,hs,fin⟩,λ_=>⟨λ_ _=>rfl,start,hc,hs,fin⟩⟩
 ·exact h.elim
end Go.Eng
namespace Go.Eng
theorem wah.mkI{C:Ctx}{te:TE}(hte:Prg C te){m N:Nat}{x:Code}{s:St}{Q:Exit->St->Prop}(calls:List (Nat×CSpec)){ι:Type}(loops:ι->List (Nat×waq))(fuel:Nat)(hc:wcl C calls)(ls:ι->List (Code×waq))(hls:∀i,wa6 (loops i) x=ls i)(hL:∀i,wey C m N (ls i))
  (F Fe Fr:List Nat) (S:ι->St) (I:ι->Prop) (μ:ι->Nat) (i0:ι) (hI:I i0)
  (h0:canonIs te m F s (S i0)) (round:∀i,I i->wav ⟨te,calls,loops i,m,N,fuel⟩ x F Fe Fr S (λi'=>I i'/\μ i'<μ i) Q (S i)) (hS:∀i,wbv (S i).O True:=by intro i;trivial):AWP C m N (.loop x) Q s:=by
 obtain⟨ρ0,hw⟩:=wdf h0 (wb3 (hS i0)).1;have key:AWP C m N (.loop x) (Eng.canQ te m Fe Fr Q) s:=by
  refine AWP.loop S I μ i0 hI hw λi hi=>?_;have hG:EnvOK C ⟨te,calls,loops i,m,N,fuel⟩:=⟨hte.ok,hte.one,hc⟩;refine(wcx hG x _ _ (by rw[hls i];exact(hL i).all) (round i hi)).mono λe s hq=>wn0 (λs hs=>?_) e s hq;obtain⟨i',h3,h1,h2⟩:=hs;obtain⟨ρ,hw'⟩:=wdf h3 (wb3 (hS i')).1;exact⟨i',ρ,h1,h2,hw'⟩
 exact key.canQ
theorem wrx{α:Type}[Inhabited α](enc:α->List AV)(L:List α)(x:α)(ch:Nat->List AV)(hch:ch 0=enc x)(j:Nat)(hj:j<L.length+1):
  apF L.length (λi=>enc (L.getD i default)) ch j=enc ((L++[x]).getD j default):=by
 unfold apF
 by_cases h1:j<L.length
 ·rw[if_pos h1];show enc _=enc _;congr 1;rw[List.getD_eq_getElem?_getD,List.getD_eq_getElem?_getD,List.getElem?_append_left h1]
 ·have:j=L.length:=by omega
  subst this;rw[if_neg h1,Nat.sub_self,hch];show enc _=enc _;congr 1;simp
end Go.Eng
namespace Go.Eng
open Go.Proofs Go.RowKit
variable {C:Ctx} [C.Loose]
set_option maxRecDepth 20000
theorem nf_cp(g:Nat->MG)(n:Nat)(R:oR7):wpFn te [] [(4,L_cp g n)] 0 Tryz.f99 [.own 0 n] [.row 47 15 n (waa g) false] R=(letI z0:=([(0,.row 47 15 n (waa g) false)]:oL7);wab (decide ((n:Int)<2)) ((∀(i:Nat),i<n->true=true)/\∃(O':oL7),wad z0 O'/\R (.own 0 n) O') ((TEq [(0,.own 0 n),(3,.q 1)] [(0,.own 0 n),(3,.q (↑1:Int))]/\wad z0 z0)/\2<=n/\n<=1000000/\(allK g n=true->(∀(i:Nat),i<n->true=true)/\∃(O':oL7),wad z0 O'/\R (.own 0 n) O')/\∀(w:Nat) (h:Nat->MG),lst h w=ddL g n->(∀(i:Nat),i<w->true=true)/\∃(O':oL7),wad [(0,.row 47 15 w (waa h) false)] O'/\R (.own 0 w) O')):=by kernel_rfl
theorem wzt(g:Nat->MG)(n k:Nat)(P:Nat->Prop)(R:eR7):wav ⟨te,[],[(9,L_ci g n k)],1,61,0⟩ (wax Tryz.f99 4) [0,3] [0] [2] (S_cp g n) P R (S_cp g n k)=(letI z2:=([(0,.row 47 15 n (waa g) false)]:oL7);letI z1:=(g (k:Int).toNat);letI z0:=(g ((k:Int) - (1:Int)).toNat);wab (decide ((k:Int)<(n:Int))) (((0:Int)<=(k:Int)/\(k:Int)<(n:Int))/\((k:Int).toNat<n/\15=15)/\inR .i64 ((k:Int) - (1:Int))/\((0:Int)<=(k:Int) - (1:Int)/\(k:Int) - (1:Int)<(n:Int))/\(((k:Int) - (1:Int)).toNat<n/\15=15)/\wab (decide (z1.dev=z0.dev) && (decide (z1.seq=z0.seq) && (decide (z1.kind=z0.kind) && (decide (z1.v.o=z0.v.o) && (decide (z1.v.p=z0.v.p) && (decide (z1.v.per=z0.v.per) && (decide (z1.v.day=z0.v.day) && (decide (z1.v.st=z0.v.st) && (decide (z1.v.pr=z0.v.pr) && decide (z1.v.rep=z0.v.rep)))))) && (decide (z1.d.o=z0.d.o) && (decide (z1.d.p=z0.d.p) && (decide (z1.d.per=z0.d.per) && (decide (z1.d.dev=z0.d.dev) && decide (z1.d.num=z0.d.num))))))))) (((0:Int)<=(k:Int)/\(k:Int)<=(n:Int))/\(TEq [(0,.own 0 n),(3,.q (k:Int)),(4,.sub 0 15 (k:Int).toNat (n - (k:Int).toNat)),(5,.q 1)] [(0,.own 0 n),(3,.q (↑(CI.w (CI.mk 1 k g)):Int)),(4,.sub 0 15 k (n - k)),(5,.q (↑(CI.k (CI.mk 1 k g)):Int))]/\wad z2 [(0,.row 47 15 n (waa (CI.h (CI.mk 1 k g))) false)])/\(1<=k/\k<n/\n<=1000000)/\allK g k=true/\wcb g k=false/\∀(w:Nat) (h:Nat->MG),letI z3:=((0:Int)<=(w:Int)/\(w:Int)<=(n:Int):Prop);w<=n->lst h w=ddL g n->z3/\(w:Int).toNat<=n/\z3/\(∀(i:Nat),i<(w:Int).toNat->true=true)/\∃(O':oL7),wad [(0,.row 47 15 (w:Int).toNat (waa h) false)] O'/\R .ret (St.mk [(2,.own 0 (w:Int).toNat)] O' 1 [])) (inR .i64 ((k:Int)+1)/\∃(i':Nat),(TEq [(0,.own 0 n),(3,.q ((k:Int)+1))] [(0,.own 0 n),(3,.q (i':Int))]/\wad z2 z2)/\P i')) ((∀(i:Nat),i<n->true=true)/\∃(O':oL7),wad z2 O'/\R (.exit 0) (St.mk [(0,.own 0 n)] O' 1 []))):=by kernel_rfl
theorem wzz(g:Nat->MG)(n k0:Nat)(i:CI)(P:CI->Prop)(R:eR7):wav ⟨te,[],[],1,61,0⟩ (wax Tryz.f99 9) [0,3,4,5] [0,3] [] (S_ci g n k0) P R (S_ci g n k0 i)=(letI z6:=([(0,.row 47 15 n (waa (CI.h i)) false)]:oL7);letI z3:=(↑(CI.w i):Int);letI z2:=(↑(CI.k i):Int);letI z5:=(z2+1);letI z4:=((0:Int)<=z2/\z2<(↑(n - k0):Int)/\15=15:Prop);letI z1:=(CI.h i (k0+(z2 - (1:Int)).toNat));letI z0:=(CI.h i (k0+z2.toNat));wab (decide (z2<(↑(n - k0):Int))) (z4/\(k0+z2.toNat<n/\15=15)/\inR .i64 (z2 - (1:Int))/\((0:Int)<=z2 - (1:Int)/\z2 - (1:Int)<(↑(n - k0):Int)/\15=15)/\(k0+(z2 - (1:Int)).toNat<n/\15=15)/\wab (!(decide (z0.dev=z1.dev) && (decide (z0.seq=z1.seq) && (decide (z0.kind=z1.kind) && (decide (z0.v.o=z1.v.o) && (decide (z0.v.p=z1.v.p) && (decide (z0.v.per=z1.v.per) && (decide (z0.v.day=z1.v.day) && (decide (z0.v.st=z1.v.st) && (decide (z0.v.pr=z1.v.pr) && decide (z0.v.rep=z1.v.rep)))))) && (decide (z0.d.o=z1.d.o) && (decide (z0.d.p=z1.d.p) && (decide (z0.d.per=z1.d.per) && (decide (z0.d.dev=z1.d.dev) && decide (z0.d.num=z1.d.num)))))))))) (z4/\(k0+z2.toNat<n/\15=15)/\((0:Int)<=z3/\z3<(n:Int))/\(List.length [AV.str z0.dev,.q z0.seq,.q z0.kind,.str z0.v.o,.str z0.v.p,.q z0.v.per,.q z0.v.day,.q z0.v.st,.q z0.v.pr,.str z0.v.rep,.str z0.d.o,.str z0.d.p,.q z0.d.per,.str z0.d.dev,.q z0.d.num]=15/\z3.toNat<n/\15=15)/\inR .i64 (z3+1)/\inR .i64 z5/\∃(i':CI),(TEq [(0,.own 0 n),(3,.q (z3+1)),(4,.sub 0 15 k0 (n - k0)),(5,.q z5)] [(0,.own 0 n),(3,.q (↑(CI.w i'):Int)),(4,.sub 0 15 k0 (n - k0)),(5,.q (↑(CI.k i'):Int))]/\wad [(0,.row 47 15 n (λ(k:Nat)=>if k=Int.toNat z3 then [.str z0.dev,.q z0.seq,.q z0.kind,.str z0.v.o,.str z0.v.p,.q z0.v.per,.q z0.v.day,.q z0.v.st,.q z0.v.pr,.str z0.v.rep,.str z0.d.o,.str z0.d.p,.q z0.d.per,.str z0.d.dev,.q z0.d.num] else waa (CI.h i) k) false)] [(0,.row 47 15 n (waa (CI.h i')) false)])/\P i') (inR .i64 z5/\∃(i':CI),(TEq [(0,.own 0 n),(3,.q z3),(4,.sub 0 15 k0 (n - k0)),(5,.q z5)] [(0,.own 0 n),(3,.q (↑(CI.w i'):Int)),(4,.sub 0 15 k0 (n - k0)),(5,.q (↑(CI.k i'):Int))]/\wad z6 [(0,.row 47 15 n (waa (CI.h i')) false)])/\P i')) ((∀(i:Nat),i<n->true=true)/\∃(O':oL7),wad z6 O'/\R (.exit 2) (St.mk [(0,.own 0 n),(3,.q z3)] O' 1 []))):=by kernel_rfl
theorem wdv(g:Nat->MG)(n:Nat):lst g (n+1)=lst g n++[g n]:=by simp[lst,List.range_succ]
theorem wt8{a b:MG}:eqM a b=true↔a=b:=by
 unfold eqM;simp only[bA7,decide_eq_true_eq]
 constructor
 ·rintro⟨h1,h2,h3,⟨h4,h5,h6,h7,h8,h9,h10⟩,h11,h12,h13,h14,h15⟩;obtain⟨dev,seq,kind,⟨o,p,per,day,st,pr,rep⟩,⟨o',p',per',dev',num⟩⟩:=a;obtain⟨_,_,_,⟨_,_,_,_,_,_,_⟩,⟨_,_,_,_,_⟩⟩:=b;simp_all
 ·rintro rfl;simp
theorem wka(g:Nat->MG)(m:Nat):ddL g (m+1)=ddL g m++bif wcb g m then [g m] else []:=by
 unfold ddL;rw[List.range_succ,List.filter_append,List.map_append]
 cases h:wcb g m<;>simp[h]
theorem wqg(g:Nat->MG):∀ {k:Nat},allK g k=true->ddL g k=lst g k
 |0,_=>rfl
 |k+1,h=>by
  rw[allK,bA7] at h;rw[wka,wqg g h.1,h.2,wdv];rfl
theorem wjm{g:Nat->MG}{k:Nat}(h:0<k):wcb g k= !eqM (g k) (g (k - 1)):=by
 unfold wcb;rw[decide_eq_false (by omega)];rfl
theorem ci_loop(hP:C.P=Tryz.prog)(g:Nat->MG)(n k0:Nat):wah C 1 61 (waj Tryz.f99 9) (L_ci g n k0):=by
 have _:C.Loose:=inferInstance;rintro st Q ⟨h0,⟨hk0,hk1,hn⟩,hall,hkeep,hQ⟩
 refine wah.mk (prg hP) [] 0 .nil [0,3,4,5] [0,3] [] (S_ci g n k0) (λi=>1<=i.k/\i.k<=n - k0/\i.w<k0+i.k/\lst i.h i.w=ddL g (k0+i.k)/\∀j,i.w<=j->i.h j=g j) (λi=>n - k0 - i.k) ⟨1,k0,g⟩
  ⟨lR7 _,by show 1<=n - k0;omega,Nat.lt_succ_self _,?_,λ_ _=>rfl⟩ h0 (λi hi=>?_) (λi=>⟨λ_ _=>rfl,trivial⟩)
 ·show lst g k0=ddL g (k0+1);rw[wka,hkeep,wqg g hall];simp
 obtain⟨i1,i2,i3,i4,i5⟩:=hi;obtain⟨k,w,h⟩:=i;dsimp only at i1 i2 i3 i4 i5;rw[wzz];dsimp only
 rw[tN7,tN7];have e1:((k:Int) - 1).toNat=k - 1:=by omega
 rw[e1];refine wag (λh1=>?_) (λh1=>?_)
 ·have hk:k<n - k0:=by omega
  have r1:h (k0+k)=g (k0+k):=i5 _ (by omega);have r2:h (k0+(k - 1))=g (k0+(k - 1)):=i5 _ (by omega);have hkp:wcb g (k0+k)= !eqM (g (k0+k)) (g (k0+(k - 1))):=by
   rw[wjm (by omega)];have:k0+k - 1=k0+(k - 1):=by omega
   rw[this]
  have hkp:wcb g (k0+k)= !eqM (h (k0+k)) (h (k0+(k - 1))):=by rw[r1,r2];exact hkp
  refine⟨⟨by omega,by omega,rfl⟩,⟨by omega,rfl⟩,by simp only[inR];omega,⟨by omega,by omega,rfl⟩,⟨by omega,rfl⟩,wam (λq=>?_) (λq=>?_)⟩
  ·have q:wcb g (k0+k)=true:=hkp.trans q;refine⟨⟨by omega,by omega,rfl⟩,⟨by omega,rfl⟩,⟨by omega,by omega⟩,⟨rfl,by omega,rfl⟩,by simp only[inR];omega,by simp only[inR];omega,⟨k+1,w+1,λj=>if j=w then h (k0+k) else h j⟩,⟨rfl,⟨rfl,rfl,rfl,rfl,rfl,λj hj=>?_⟩,trivial⟩,⟨Nat.le_add_left _ _,hk,?_,?_,λj hj=>?_⟩,?_⟩
   ·unfold waa
    by_cases e:j=w
    ·simp only[e,if_true]
    ·simp only[e,if_false]
   ·show w+1<k0+(k+1);omega
   ·show lst (λj=>if j=w then h (k0+k) else h j) (w+1)=ddL g (k0+k+1)
    have e:lst (λj=>if j=w then h (k0+k) else h j) w=lst h w:=List.map_congr_left λj hj=>by
     have:=List.mem_range.1 hj;rw[if_neg (by omega)]
    rw[wdv,wka,q,e,i4,if_pos rfl,r1];rfl
   ·have hj:w+1<=j:=hj;show (if j=w then h (k0+k) else h j)=g j
    rw[if_neg (by omega)];exact i5 j (by omega)
   ·show n - k0 - (k+1)<n - k0 - k;omega
  ·have q:wcb g (k0+k)=false:=hkp.trans q;refine⟨by simp only[inR];omega,⟨k+1,w,h⟩,⟨rfl,rQ7,trivial⟩,⟨Nat.le_add_left _ _,hk,?_,?_,i5⟩,?_⟩
   ·show w<k0+(k+1);omega
   ·show lst h w=ddL g (k0+k+1);rw[wka,q,i4];simp
   ·show n - k0 - (k+1)<n - k0 - k;omega
 ·have:k=n - k0:=by omega
  subst this;have e:k0+(n - k0)=n:=by omega
  rw[e] at i4;exact⟨λ_ _=>rfl,_,wa0 _,hQ w h (by omega) i4⟩
theorem cp_loop(hP:C.P=Tryz.prog)(g:Nat->MG)(n:Nat):wah C 1 61 (waj Tryz.f99 4) (L_cp g n):=by
 rintro st Q ⟨h0,hn2,hn,hQ,hR⟩
 refine wah.mkI (prg hP) [] (λk=>[(9,L_ci g n k)]) 0 .nil (λk=>[(waj Tryz.f99 9,L_ci g n k)]) (λk=>by kernel_rfl) (λk=>⟨ci_loop hP g n k,trivial⟩) [0,3] [0] [2] (S_cp g n) (λk=>1<=k/\k<=n/\allK g k=true) (λk=>n - k) 1
  ⟨lR7 _,by omega,rfl⟩ h0 (λk hk=>?_) (λk=>⟨λ_ _=>rfl,trivial⟩)
 obtain⟨i1,i2,i3⟩:=hk;have e1:((k:Int) - 1).toNat=k - 1:=by omega
 have hkp:wcb g k= !eqM (g k) (g (k - 1)):=wjm (by omega);rw[wzt,tN7,e1];refine wag (λh1=>⟨⟨by omega,by omega⟩,⟨by omega,rfl⟩,by simp only[inR];omega,⟨by omega,by omega⟩,⟨by omega,rfl⟩,wam (λq=>?_) (λq=>?_)⟩) (λh1=>?_)
 ·have q:eqM (g k) (g (k - 1))=true:=q;rw[q] at hkp;refine⟨⟨by omega,by omega⟩,⟨rfl,rQ7,trivial⟩,⟨i1,by omega,hn⟩,i3,hkp,λw h hw hl=>?_⟩;rw[tN7];exact⟨⟨by omega,by omega⟩,hw,⟨by omega,by omega⟩,λ_ _=>rfl,_,wa0 _,hR w h hl⟩
 ·have q:eqM (g k) (g (k - 1))=false:=q;rw[q] at hkp;refine⟨by simp only[inR];omega,k+1,⟨rfl,rQ7,trivial⟩,⟨by omega,by omega,?_⟩,by omega⟩;rw[allK,i3,hkp];rfl
 ·have:k=n:=by omega
  subst this;exact⟨λ_ _=>rfl,_,wa0 _,hQ i3⟩
theorem w2x(hP:C.P=Tryz.prog):wbi C 99 wm0:=by
 rintro args objs R h;unfold wm0 at h;split at h
 ·rename_i n t m f fr;obtain⟨rfl,rfl,rfl,hn,hf,hR⟩:=h;generalize mgOf f=g at *;subst hf;refine wbi.wpL (prg hP) [] [(4,L_cp g n)] 0 .nil (hP ▸ Tryz.func99) rfl rfl rfl [(waj Tryz.f99 4,L_cp g n)] (by kernel_rfl) ⟨cp_loop hP g n,trivial⟩ ?_;rw[nf_cp];refine wag (λh1=>⟨λ_ _=>rfl,_,wa0 _,hR n g ?_⟩) (λh1=>⟨⟨rfl,rQ7,trivial⟩,by omega,hn,λha=>⟨λ_ _=>rfl,_,wa0 _,hR n g (wqg g ha).symm⟩,λw h hl=>⟨λ_ _=>rfl,_,wa0 _,hR w h hl⟩⟩);have h1:n<2:=by omega
  match n,h1 with
  |0,_=>rfl
  |1,_=>rfl
 ·exact h.elim
end Go.Eng
namespace Go.Proofs
open Go.Shelf
def Tryz.sort43_ren:Go.Shelf.Ren:=⟨λ | 6=>43 | 15=>83 | 14=>82 | 28=>110 | 29=>111 | 20=>102 | 21=>103 | 22=>104 | 23=>105 | 24=>106 | 25=>107 | 26=>108 | 27=>109 | 46=>125 | 47=>126 | 48=>127 | 49=>128 | 50=>129 | 57=>149 | n=>n,λ | 22=>70 | 24=>78 | 25=>84 | 3=>3 | 39=>117 | 0=>0 | 53=>124 | 55=>105 | 4=>4 | 46=>139 | 45=>138 | 50=>81 | 5=>5 | 9=>9 | 66=>152 | 70=>156 | 76=>172 | 77=>173 | n=>n,λ | n=>n⟩
theorem Tryz.sort43:Go.Proofs.SlLaysF0.n6 Tryz.prog Tryz.sort43_ren:={
 mixed:=by kernel_rfl
 f6:=⟨Tryz.f43.name,by decide,Tryz.func43.trans (congrArg some (by kernel_rfl))⟩
 f14:=⟨Tryz.f82.name,by decide,Tryz.func82.trans (congrArg some (by kernel_rfl))⟩
 f15:=Tryz.func83.trans (congrArg some (by kernel_rfl))
 f20:=⟨Tryz.f102.name,by decide,Tryz.func102.trans (congrArg some (by kernel_rfl))⟩
 f21:=⟨Tryz.f103.name,by decide,Tryz.func103.trans (congrArg some (by kernel_rfl))⟩
 f22:=⟨Tryz.f104.name,by decide,Tryz.func104.trans (congrArg some (by kernel_rfl))⟩
 f23:=⟨Tryz.f105.name,by decide,Tryz.func105.trans (congrArg some (by kernel_rfl))⟩
 f24:=⟨Tryz.f106.name,by decide,Tryz.func106.trans (congrArg some (by kernel_rfl))⟩
 f25:=⟨Tryz.f107.name,by decide,Tryz.func107.trans (congrArg some (by kernel_rfl))⟩
 f26:=⟨Tryz.f108.name,by decide,Tryz.func108.trans (congrArg some (by kernel_rfl))⟩
 f27:=⟨Tryz.f109.name,by decide,Tryz.func109.trans (congrArg some (by kernel_rfl))⟩
 f28:=Tryz.func110.trans (congrArg some (by kernel_rfl))
 f29:=Tryz.func111.trans (congrArg some (by kernel_rfl))
 f46:=⟨Tryz.f125.name,by decide,Tryz.func125.trans (congrArg some (by kernel_rfl))⟩
 f47:=Tryz.func126.trans (congrArg some (by kernel_rfl))
 f48:=Tryz.func127.trans (congrArg some (by kernel_rfl))
 f49:=⟨Tryz.f128.name,by decide,Tryz.func128.trans (congrArg some (by kernel_rfl))⟩
 f50:=⟨Tryz.f129.name,by decide,Tryz.func129.trans (congrArg some (by kernel_rfl))⟩
 f57:=⟨Tryz.f149.name,by decide,Tryz.func149.trans (congrArg some (by kernel_rfl))⟩
 t0:=Tryz.underlying0
 a0:=Tryz.isAgg0
 z0:=Tryz.sizeOf0
 v0:=Tryz.zeroValue0
 t3:=Tryz.underlying3
 a3:=Tryz.isAgg3
 z3:=Tryz.sizeOf3
 v3:=Tryz.zeroValue3
 t4:=Tryz.underlying4
 a4:=Tryz.isAgg4
 z4:=Tryz.sizeOf4
 v4:=Tryz.zeroValue4
 t5:=Tryz.underlying5
 a5:=Tryz.isAgg5
 z5:=Tryz.sizeOf5
 v5:=Tryz.zeroValue5
 t9:=Tryz.underlying9
 a9:=Tryz.isAgg9
 z9:=Tryz.sizeOf9
 v9:=Tryz.zeroValue9
 t22:=Tryz.underlying70
 a22:=Tryz.isAgg70
 z22:=Tryz.sizeOf70
 v22:=Tryz.zeroValue70
 t25:=Tryz.underlying84
 a25:=Tryz.isAgg84
 z25:=Tryz.sizeOf84
 v25:=Tryz.zeroValue84
 t39:=Tryz.underlying117
 a39:=Tryz.isAgg117
 z39:=Tryz.sizeOf117
 v39:=Tryz.zeroValue117
 t45:=Tryz.underlying138
 a45:=Tryz.isAgg138
 z45:=Tryz.sizeOf138
 v45:=Tryz.zeroValue138
 t46:=Tryz.underlying139
 a46:=Tryz.isAgg139
 z46:=Tryz.sizeOf139
 v46:=Tryz.zeroValue139
 t50:=Tryz.underlying81
 a50:=Tryz.isAgg81
 z50:=Tryz.sizeOf81
 v50:=Tryz.zeroValue81
 t53:=Tryz.underlying124
 a53:=Tryz.isAgg124
 z53:=Tryz.sizeOf124
 v53:=Tryz.zeroValue124
 t55:=Tryz.underlying105
 a55:=Tryz.isAgg105
 z55:=Tryz.sizeOf105
 v55:=Tryz.zeroValue105
 t66:=Tryz.underlying152
 a66:=Tryz.isAgg152
 z66:=Tryz.sizeOf152
 v66:=Tryz.zeroValue152
 t70:=Tryz.underlying156
 a70:=Tryz.isAgg156
 z70:=Tryz.sizeOf156
 v70:=Tryz.zeroValue156
 t76:=Tryz.underlying172
 a76:=Tryz.isAgg172
 z76:=Tryz.sizeOf172
 v76:=Tryz.zeroValue172
 t77:=Tryz.underlying173
 a77:=Tryz.isAgg173
 z77:=Tryz.sizeOf173
 v77:=Tryz.zeroValue173 }
def Tryz.sort97_ren:Go.Shelf.Ren:=⟨λ | 6=>97 | 15=>83 | 14=>121 | 28=>110 | 29=>111 | 20=>140 | 21=>141 | 22=>142 | 23=>143 | 24=>144 | 25=>145 | 26=>146 | 27=>147 | 46=>159 | 47=>126 | 48=>127 | 49=>160 | 50=>161 | 57=>168 | n=>n,λ | 22=>22 | 24=>47 | 25=>135 | 3=>3 | 39=>117 | 0=>0 | 53=>124 | 55=>105 | 4=>4 | 46=>139 | 45=>138 | 50=>81 | 5=>5 | 9=>9 | 66=>152 | 70=>156 | 76=>172 | 77=>173 | n=>n,λ | n=>n⟩
theorem Tryz.sort97:Go.Proofs.SlLaysF0.n6 Tryz.prog Tryz.sort97_ren:={
 mixed:=by kernel_rfl
 f6:=⟨Tryz.f97.name,by decide,Tryz.func97.trans (congrArg some (by kernel_rfl))⟩
 f14:=⟨Tryz.f121.name,by decide,Tryz.func121.trans (congrArg some (by kernel_rfl))⟩
 f15:=Tryz.func83.trans (congrArg some (by kernel_rfl))
 f20:=⟨Tryz.f140.name,by decide,Tryz.func140.trans (congrArg some (by kernel_rfl))⟩
 f21:=⟨Tryz.f141.name,by decide,Tryz.func141.trans (congrArg some (by kernel_rfl))⟩
 f22:=⟨Tryz.f142.name,by decide,Tryz.func142.trans (congrArg some (by kernel_rfl))⟩
 f23:=⟨Tryz.f143.name,by decide,Tryz.func143.trans (congrArg some (by kernel_rfl))⟩
 f24:=⟨Tryz.f144.name,by decide,Tryz.func144.trans (congrArg some (by kernel_rfl))⟩
 f25:=⟨Tryz.f145.name,by decide,Tryz.func145.trans (congrArg some (by kernel_rfl))⟩
 f26:=⟨Tryz.f146.name,by decide,Tryz.func146.trans (congrArg some (by kernel_rfl))⟩
 f27:=⟨Tryz.f147.name,by decide,Tryz.func147.trans (congrArg some (by kernel_rfl))⟩
 f28:=Tryz.func110.trans (congrArg some (by kernel_rfl))
 f29:=Tryz.func111.trans (congrArg some (by kernel_rfl))
 f46:=⟨Tryz.f159.name,by decide,Tryz.func159.trans (congrArg some (by kernel_rfl))⟩
 f47:=Tryz.func126.trans (congrArg some (by kernel_rfl))
 f48:=Tryz.func127.trans (congrArg some (by kernel_rfl))
 f49:=⟨Tryz.f160.name,by decide,Tryz.func160.trans (congrArg some (by kernel_rfl))⟩
 f50:=⟨Tryz.f161.name,by decide,Tryz.func161.trans (congrArg some (by kernel_rfl))⟩
 f57:=⟨Tryz.f168.name,by decide,Tryz.func168.trans (congrArg some (by kernel_rfl))⟩
 t0:=Tryz.underlying0
 a0:=Tryz.isAgg0
 z0:=Tryz.sizeOf0
 v0:=Tryz.zeroValue0
 t3:=Tryz.underlying3
 a3:=Tryz.isAgg3
 z3:=Tryz.sizeOf3
 v3:=Tryz.zeroValue3
 t4:=Tryz.underlying4
 a4:=Tryz.isAgg4
 z4:=Tryz.sizeOf4
 v4:=Tryz.zeroValue4
 t5:=Tryz.underlying5
 a5:=Tryz.isAgg5
 z5:=Tryz.sizeOf5
 v5:=Tryz.zeroValue5
 t9:=Tryz.underlying9
 a9:=Tryz.isAgg9
 z9:=Tryz.sizeOf9
 v9:=Tryz.zeroValue9
 t22:=Tryz.underlying22
 a22:=Tryz.isAgg22
 z22:=Tryz.sizeOf22
 v22:=Tryz.zeroValue22
 t25:=Tryz.underlying135
 a25:=Tryz.isAgg135
 z25:=Tryz.sizeOf135
 v25:=Tryz.zeroValue135
 t39:=Tryz.underlying117
 a39:=Tryz.isAgg117
 z39:=Tryz.sizeOf117
 v39:=Tryz.zeroValue117
 t45:=Tryz.underlying138
 a45:=Tryz.isAgg138
 z45:=Tryz.sizeOf138
 v45:=Tryz.zeroValue138
 t46:=Tryz.underlying139
 a46:=Tryz.isAgg139
 z46:=Tryz.sizeOf139
 v46:=Tryz.zeroValue139
 t50:=Tryz.underlying81
 a50:=Tryz.isAgg81
 z50:=Tryz.sizeOf81
 v50:=Tryz.zeroValue81
 t53:=Tryz.underlying124
 a53:=Tryz.isAgg124
 z53:=Tryz.sizeOf124
 v53:=Tryz.zeroValue124
 t55:=Tryz.underlying105
 a55:=Tryz.isAgg105
 z55:=Tryz.sizeOf105
 v55:=Tryz.zeroValue105
 t66:=Tryz.underlying152
 a66:=Tryz.isAgg152
 z66:=Tryz.sizeOf152
 v66:=Tryz.zeroValue152
 t70:=Tryz.underlying156
 a70:=Tryz.isAgg156
 z70:=Tryz.sizeOf156
 v70:=Tryz.zeroValue156
 t76:=Tryz.underlying172
 a76:=Tryz.isAgg172
 z76:=Tryz.sizeOf172
 v76:=Tryz.zeroValue172
 t77:=Tryz.underlying173
 a77:=Tryz.isAgg173
 z77:=Tryz.sizeOf173
 v77:=Tryz.zeroValue173 }
end Go.Proofs
