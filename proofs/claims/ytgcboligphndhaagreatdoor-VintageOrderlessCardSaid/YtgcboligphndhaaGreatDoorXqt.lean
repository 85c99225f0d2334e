/- Encode: texts and numbers, the loops' states. -/
import Derived.Test.YtgcboligphndhaaGreatDoorXqs
namespace Go.Eng
def wc8:FL:=⟨[],0,0,0,[],[],[]⟩
def atF(L:List FL)(i:Nat):FL:=L.getD i wc8
theorem wix{L:List FL}{i:Nat}(h:i<L.length):atF L i=L[i]:=by simp[atF,h]
theorem wdt{L:List FL}{i:Nat}(h:i<L.length):atF L i∈L:=by rw[wix h];exact List.getElem_mem h
theorem ascF_at{L:List FL}(h:Asc ordF L){i j:Nat}(hij:i<j)(hj:j<L.length):ordF (atF L i) (atF L j)<0:=by
 rw[wix (show i<L.length by omega),wix hj];exact List.pairwise_iff_getElem.1 h i j (by omega) hj hij
def wcx(ok:FL->Bool)(g:Nat->FL)(t:List UInt8):Nat->Option Nat
 |0=>none
 |n+1=>bif ok (g n) && decide (encF (g n)=t) then (match wcx ok g t n with
   |none=>some n
   |some j=>bif decide ((g n).day<(g j).day) then some n else some j) else wcx ok g t n
structure Best (ok:FL->Bool) (g:Nat->FL) (t:List UInt8) (n j:Nat):Prop where
 lt:j<n
 good:ok (g j)=true
 enc:encF (g j)=t
 least:∀k,k<n->ok (g k)=true->encF (g k)=t->(g j).day<(g k).day∨((g j).day=(g k).day/\j<=k)
theorem wiv(ok:FL->Bool)(g:Nat->FL)(t:List UInt8):∀n,(∀j,wcx ok g t n=some j->Best ok g t n j)/\(wcx ok g t n=none->∀k,k<n->ok (g k)=true->encF (g k)≠t)
 |0=>⟨(λj h=>by cases h),λ_ k hk=>absurd hk (nZ7 k)⟩
 |n+1=>by
  obtain⟨ih1,ih2⟩:=wiv ok g t n;rw[wcx]
  cases q:ok (g n) && decide (encF (g n)=t) with
  |false=>
   have no:ok (g n)=true->encF (g n)=t->False:=λa b=>by rw[a,decide_eq_true b] at q;cases q
   simp only[cond_false];refine⟨λj h=>?_,λh k hk hok e=>?_⟩
   ·have b:=ih1 j h;exact⟨by have:=b.lt;omega,b.good,b.enc,λk hk hok e=>by
     by_cases z:k=n
     ·subst z;exact(no hok e).elim
     ·exact b.least k (by omega) hok e⟩
   ·by_cases z:k=n
    ·subst z;exact no hok e
    ·exact ih2 h k (by omega) hok e
  |true=>
   rw[bA7,decide_eq_true_eq] at q;simp only[cond_true]
   cases b:wcx ok g t n with
   |none=>
    refine⟨λj h=>?_,λh=>by cases h⟩;obtain rfl:=oJ7 h;exact⟨by omega,q.1,q.2,λk hk hok e=>by
     by_cases z:k=n
     ·subst z;exact .inr ⟨rfl,lR7 _⟩
     ·exact absurd e (ih2 b k (by omega) hok)⟩
   |some i=>
    have bi:=ih1 i b;have:=bi.lt
    by_cases d:(g n).day<(g i).day
    ·dsimp only
     rw[decide_eq_true d];refine⟨λj h=>?_,λh=>by cases h⟩;obtain rfl:=oJ7 h;exact⟨by omega,q.1,q.2,λk hk hok e=>by
      by_cases z:k=n
      ·subst z;exact .inr ⟨rfl,lR7 _⟩
      ·have:=bi.least k (by omega) hok e;omega⟩
    ·dsimp only
     rw[decide_eq_false d];refine⟨λj h=>?_,λh=>by cases h⟩;obtain rfl:=oJ7 h;exact⟨by omega,bi.good,bi.enc,λk hk hok e=>by
      by_cases z:k=n
      ·subst z;omega
      ·exact bi.least k (by omega) hok e⟩
theorem Best.uniq{ok:FL->Bool}{g:Nat->FL}{t:List UInt8}{n i j:Nat}(a:Best ok g t n i)(b:Best ok g t n j):i=j:=by
 have h1:=a.least j b.lt b.good b.enc;have h2:=b.least i a.lt a.good a.enc;omega
def kpS(ok:FL->Bool)(g:Nat->FL)(i:Nat):Nat->Bool
 |0=>true
 |k+1=>kpS ok g i k && !(!decide (k=i) && (ok (g k) && (decide (encF (g k)=encF (g i)) && (decide ((g k).day<(g i).day) || (decide ((g k).day=(g i).day) && decide (k<i))))))
theorem wuc{ok:FL->Bool}{g:Nat->FL}{i:Nat}:∀ {n},kpS ok g i n=true↔∀k,k<n->k≠i->ok (g k)=true->encF (g k)=encF (g i)->¬ ((g k).day<(g i).day∨((g k).day=(g i).day/\k<i))
 |0=>by simp[kpS]
 |n+1=>by
  rw[kpS,bA7,wuc (n:=n)]
  constructor
  ·rintro⟨h1,h2⟩ k hk hne hok e
   by_cases z:k=n
   ·subst z;intro q;rw[Bool.not_eq_true',decide_eq_false hne,hok,decide_eq_true e] at h2
    rcases q with q | ⟨q,r⟩
    ·rw[decide_eq_true q] at h2;simp at h2
    ·rw[decide_eq_true q,decide_eq_true r] at h2;simp at h2
   ·exact h1 k (by omega) hne hok e
  ·intro h;refine⟨λk hk=>h k (by omega),?_⟩
   by_cases z:n=i
   ·simp[z]
   ·by_cases z2:ok (g n)=true
    ·by_cases z3:encF (g n)=encF (g i)
     ·have:=h n (by omega) z z2 z3;rw[not_or,not_and] at this;rw[decide_eq_false this.1]
      by_cases z4:(g n).day=(g i).day
      ·rw[decide_eq_false (this.2 z4)];simp
      ·rw[decide_eq_false z4];simp
     ·rw[decide_eq_false z3];simp
    ·rw[Bool.not_eq_true] at z2;rw[z2];simp
theorem wud{ok:FL->Bool}{g:Nat->FL}{n i:Nat}(hi:i<n)(hok:ok (g i)=true):kpS ok g i n=true↔Best ok g (encF (g i)) n i:=by
 rw[wuc]
 constructor
 ·intro h;refine⟨hi,hok,rfl,λk hk hk2 e=>?_⟩
  by_cases z:k=i
  ·subst z;exact .inr ⟨rfl,lR7 _⟩
  ·have:=h k hk z hk2 e;omega
 ·intro b k hk hne hk2 e;have:=b.least k hk hk2 e;omega
def kept(ok:FL->Bool)(g:Nat->FL)(n i:Nat):Bool:=ok (g i) && kpS ok g i n
theorem wj5{ok:FL->Bool}{g:Nat->FL}{n i:Nat}(hi:i<n):kept ok g n i=true↔Best ok g (encF (g i)) n i:=by
 unfold kept;rw[bA7]
 constructor
 ·rintro⟨a,b⟩;exact(wud hi a).1 b
 ·intro b;exact⟨b.good,(wud hi b.good).2 b⟩
theorem w1o{ok:FL->Bool}{g:Nat->FL}{n i j:Nat}(hi:i<n)(hj:j<n)(a:kept ok g n i=true)(b:kept ok g n j=true)(e:encF (g i)=encF (g j)):i=j:=by
 have h1:=(wj5 hi).1 a;have h2:=(wj5 hj).1 b;rw[e] at h1;exact h1.uniq h2
def dnF(L:List FL)(m:FL):Nat->Nat
 |0=>0
 |a+1=>bif decide (ordF m (atF L a)<0) then dnF L m a else a+1
theorem wq1(L:List FL)(m:FL):∀a,dnF L m a<=a
 |0=>lR7 _
 |a+1=>by
  rw[dnF]
  cases decide (ordF m (atF L a)<0) with
  |true=>have:=wq1 L m a;show dnF L m a<=a+1;omega
  |false=>exact lR7 _
theorem dnF_hi(L:List FL)(m:FL):∀a i,dnF L m a<=i->i<a->ordF m (atF L i)<0
 |0,i,_,h=>absurd h (nZ7 _)
 |a+1,i,h1,h2=>by
  rw[dnF] at h1
  by_cases q:ordF m (atF L a)<0
  ·rw[decide_eq_true q] at h1
   by_cases e:i=a
   ·rw[e];exact q
   ·exact dnF_hi L m a i h1 (by omega)
  ·rw[decide_eq_false q] at h1;have h1:a+1<=i:=h1;omega
theorem dnF_lo(L:List FL)(m:FL):∀a,dnF L m a=0∨¬ ordF m (atF L (dnF L m a - 1))<0
 |0=>.inl rfl
 |a+1=>by
  rw[dnF]
  by_cases q:ordF m (atF L a)<0
  ·rw[decide_eq_true q];exact dnF_lo L m a
  ·rw[decide_eq_false q];exact .inr q
def insF(L:List FL)(m:FL):List FL:=L.take (dnF L m L.length)++m::L.drop (dnF L m L.length)
theorem w1y{L:List FL}{m x:FL}:x∈insF L m↔x=m∨x∈L:=by
 unfold insF;rw[List.mem_append,List.mem_cons];have:x∈L↔x∈L.take (dnF L m L.length)∨x∈L.drop (dnF L m L.length):=by
  rw[← List.mem_append,List.take_append_drop]
 rw[this];grind
theorem w1z{L:List FL}{m:FL}(h:Asc ordF L)(hn:∀x∈L,encF x≠encF m):Asc ordF (insF L m):=by
 have hle:=wq1 L m L.length;unfold insF;refine Asc.insert (by rw[List.take_append_drop];exact h) (λy hy=>?_) (λy hy=>?_)
 ·obtain⟨i,hi,rfl⟩:=List.mem_iff_getElem.1 hy;rw[List.length_take] at hi;rw[List.getElem_take, ← wix (show i<L.length by omega)];have hlo:=(dnF_lo L m L.length).resolve_left (by omega);generalize dnF L m L.length=a at *;have ne:ordF m (atF L (a - 1))≠0:=λz=>hn _ (wdt (by omega)) (ws6 z).1.symm;have k:=wgm.neg m (atF L (a - 1));have k':=wgm.neg (atF L (a - 1)) m;have lt:ordF (atF L (a - 1)) m<0:=by omega
  by_cases z:i=a - 1
  ·rw[z];exact lt
  ·exact wgm.lt_trans (ascF_at h (show i<a - 1 by omega) (by omega)) lt
 ·obtain⟨i,hi,rfl⟩:=List.mem_iff_getElem.1 hy;rw[List.length_drop] at hi;rw[List.getElem_drop, ← wix (by omega)];exact dnF_hi L m L.length _ (by omega) (by omega)
def nrmK(ok:FL->Bool)(g:Nat->FL)(n:Nat):Nat->List FL
 |0=>[]
 |k+1=>bif kept ok g n k then insF (nrmK ok g n k) (g k) else nrmK ok g n k
theorem wjs{ok:FL->Bool}{g:Nat->FL}{n:Nat}{x:FL}:∀ {k},x∈nrmK ok g n k↔∃i,i<k/\kept ok g n i=true/\g i=x
 |0=>by simp[nrmK]
 |k+1=>by
  rw[nrmK]
  cases q:kept ok g n k with
  |true=>
   rw[cond_true,w1y,wjs (k:=k)]
   constructor
   ·rintro(rfl | ⟨i,hi,h⟩)
    ·exact⟨k,by omega,q,rfl⟩
    ·exact⟨i,by omega,h⟩
   ·rintro⟨i,hi,h1,h2⟩
    by_cases z:i=k
    ·subst z;exact .inl h2.symm
    ·exact .inr ⟨i,by omega,h1,h2⟩
  |false=>
   rw[cond_false,wjs (k:=k)]
   constructor
   ·rintro⟨i,hi,h⟩;exact⟨i,by omega,h⟩
   ·rintro⟨i,hi,h1,h2⟩
    by_cases z:i=k
    ·subst z;rw[q] at h1;cases h1
    ·exact⟨i,by omega,h1,h2⟩
theorem wh4{ok:FL->Bool}{g:Nat->FL}{n:Nat}:∀ {k},k<=n->Asc ordF (nrmK ok g n k)
 |0,_=>List.Pairwise.nil
 |k+1,hk=>by
  rw[nrmK]
  cases q:kept ok g n k with
  |false=>exact wh4 (by omega)
  |true=>
   refine w1z (wh4 (by omega)) λx hx e=>?_;obtain⟨i,hi,h1,rfl⟩:=wjs.1 hx;have:=w1o (show i<n by omega) (show k<n by omega) h1 q e;omega
def nrmL(ok:FL->Bool)(g:Nat->FL)(n:Nat):List FL:=nrmK ok g n n
theorem wjr{ok:FL->Bool}{g:Nat->FL}{n:Nat}{x:FL}:x∈nrmL ok g n↔∃i,Best ok g (encF x) n i/\g i=x:=by
 unfold nrmL;rw[wjs]
 constructor
 ·rintro⟨i,hi,h,rfl⟩;exact⟨i,(wj5 hi).1 h,rfl⟩
 ·rintro⟨i,h,rfl⟩;exact⟨i,h.lt,(wj5 h.lt).2 h,rfl⟩
theorem wx9{ok:FL->Bool}{g:Nat->FL}{n:Nat}{L:List FL}(h:Asc ordF L)(hm:∀x,x∈L↔∃i,Best ok g (encF x) n i/\g i=x):L=nrmL ok g n:=
 Asc.uniq wgm h (wh4 (lR7 n)) λx=>(hm x).trans wjr.symm
theorem nrm_ok{ok:FL->Bool}{g:Nat->FL}{n:Nat}{x:FL}(hx:x∈nrmL ok g n):ok x=true:=by
 obtain⟨i,hi,rfl⟩:=wjr.1 hx;exact hi.good
def waw(ok:FL->Bool)(g:Nat->FL):Nat->List (List UInt8)
 |0=>[]
 |k+1=>bif ok (g k) && !decide (encF (g k)∈waw ok g k) then waw ok g k++[encF (g k)] else waw ok g k
theorem wgr{ok:FL->Bool}{g:Nat->FL}{t:List UInt8}:∀ {k},t∈waw ok g k↔∃i,i<k/\ok (g i)=true/\encF (g i)=t
 |0=>by simp[waw]
 |k+1=>by
  have ih:=wgr (ok:=ok) (g:=g) (t:=t) (k:=k);rw[waw]
  cases q:ok (g k) with
  |false=>
   rw[Bool.false_and,cond_false,ih]
   constructor
   ·rintro⟨i,hi,h⟩;exact⟨i,by omega,h⟩
   ·rintro⟨i,hi,h1,h2⟩
    by_cases z:i=k
    ·subst z;rw[q] at h1;cases h1
    ·exact⟨i,by omega,h1,h2⟩
  |true=>
   by_cases p:encF (g k)∈waw ok g k
   ·rw[decide_eq_true p];show t∈waw ok g k↔_;rw[ih]
    constructor
    ·rintro⟨i,hi,h⟩;exact⟨i,by omega,h⟩
    ·rintro⟨i,hi,h1,h2⟩
     by_cases z:i=k
     ·subst z;subst h2;exact ih.1 p
     ·exact⟨i,by omega,h1,h2⟩
   ·rw[decide_eq_false p];show t∈waw ok g k++[encF (g k)]↔_;rw[List.mem_append,List.mem_singleton,ih]
    constructor
    ·rintro(⟨i,hi,h⟩ | rfl)
     ·exact⟨i,by omega,h⟩
     ·exact⟨k,by omega,q,rfl⟩
    ·rintro⟨i,hi,h1,h2⟩
     by_cases z:i=k
     ·subst z;exact .inr h2.symm
     ·exact .inl ⟨i,by omega,h1,h2⟩
theorem wfz{ok:FL->Bool}{g:Nat->FL}:∀k,(waw ok g k).Nodup
 |0=>List.nodup_nil
 |k+1=>by
  rw[waw]
  cases q:ok (g k) && !decide (encF (g k)∈waw ok g k) with
  |false=>exact wfz k
  |true=>
   rw[bA7,Bool.not_eq_true',decide_eq_false_iff_not] at q;show (waw ok g k++[encF (g k)]).Nodup;rw[List.nodup_append];refine⟨wfz k,by simp,λa ha b hb=>?_⟩;rw[List.mem_singleton] at hb;subst hb;intro e;subst e;exact q.2 ha
def wbe(ok:FL->Bool)(g:Nat->FL)(n:Nat)(t:List UInt8):FL:=match wcx ok g t n with
 |some j=>g j
 |none=>wc8
theorem wg7{ok:FL->Bool}{g:Nat->FL}{n:Nat}{t:List UInt8}(h:t∈waw ok g n):∃j,Best ok g t n j/\wbe ok g n t=g j:=by
 obtain⟨i,hi,h1,h2⟩:=wgr.1 h
 cases b:wcx ok g t n with
 |none=>exact absurd h2 ((wiv ok g t n).2 b i hi h1)
 |some j=>exact⟨j,(wiv ok g t n).1 j b,by unfold wbe;rw[b]⟩
theorem wya{ok:FL->Bool}{g:Nat->FL}{n:Nat}{K:List (List UInt8)}(hp:K.Perm (waw ok g n))(hs:K.Pairwise λa b=>¬ ordF (wbe ok g n b) (wbe ok g n a)<0):K.map (wbe ok g n)=nrmL ok g n:=by
 have mem:∀t,t∈K->t∈waw ok g n:=λt h=>hp.mem_iff.1 h;have enc:∀t,t∈K->encF (wbe ok g n t)=t:=λt h=>by
  obtain⟨j,b,e⟩:=wg7 (mem t h);rw[e];exact b.enc
 apply wx9
 ·refine Asc.of_sorted (by rw[List.pairwise_map];exact hs) wgm ?_;rw[List.pairwise_map];have nd:K.Nodup:=hp.nodup_iff.2 (wfz n);refine nd.imp_of_mem λ{a b} ha hb hne z=>hne ?_;have:=(ws6 z).1;rw[enc a ha,enc b hb] at this;exact this
 ·intro x;rw[List.mem_map]
  constructor
  ·rintro⟨t,ht,rfl⟩;obtain⟨j,b,e⟩:=wg7 (mem t ht);rw[enc t ht];exact⟨j,b,e.symm⟩
  ·rintro⟨i,b,rfl⟩;have hk:encF (g i)∈waw ok g n:=wgr.2 ⟨i,b.lt,b.good,rfl⟩;obtain⟨j,b',e⟩:=wg7 hk;exact⟨encF (g i),hp.mem_iff.2 hk,by rw[e,b'.uniq b]⟩
theorem mgE_cut{a b:MG}{r s:List UInt8}(h:mgE a++r=mgE b++s):a=b/\r=s:=by
 obtain⟨a1,a2,a3,⟨b1,b2,b3,b4,b5,b6,b7⟩,c1,c2,c3,c4,c5⟩:=a;obtain⟨a1',a2',a3',⟨b1',b2',b3',b4',b5',b6',b7'⟩,c1',c2',c3',c4',c5'⟩:=b;unfold mgE at h;simp only[List.append_assoc] at h;obtain⟨e1,h⟩:=wda h;obtain⟨e2,h⟩:=wbz h;obtain⟨e3,h⟩:=wbz h;obtain⟨e4,h⟩:=wda h;obtain⟨e5,h⟩:=wda h;obtain⟨e6,h⟩:=wbz h;obtain⟨e7,h⟩:=wbz h;obtain⟨e8,h⟩:=wbz h;obtain⟨e9,h⟩:=wbz h;obtain⟨e10,h⟩:=wda h;obtain⟨e11,h⟩:=wda h;obtain⟨e12,h⟩:=wda h;obtain⟨e13,h⟩:=wbz h;obtain⟨e14,h⟩:=wda h;obtain⟨e15,hr⟩:=wbz h;subst e1;subst e2;subst e3;subst e4;subst e5;subst e6;subst e7;subst e8;subst e9;subst e10;subst e11;subst e12;subst e13;subst e14;subst e15;exact⟨rfl,hr⟩
theorem rwE_cut{a b:RW}{r s:List UInt8}(h:rwE a++r=rwE b++s):a=b/\r=s:=by
 obtain⟨a1,a2,a3,a4,a5⟩:=a;obtain⟨b1,b2,b3,b4,b5⟩:=b;unfold rwE at h;simp only[List.append_assoc] at h;obtain⟨e1,h⟩:=wda h;obtain⟨e2,h⟩:=wda h;obtain⟨e3,h⟩:=wbz h;obtain⟨e4,h⟩:=wbz h;obtain⟨e5,hr⟩:=wbz h;subst e1;subst e2;subst e3;subst e4;subst e5;exact⟨rfl,hr⟩
theorem bkE_cut{a b:BK}{r s:List UInt8}(h:bkE a++r=bkE b++s):a=b/\r=s:=by
 obtain⟨a1,a2⟩:=a;obtain⟨b1,b2⟩:=b;unfold bkE at h;simp only[List.append_assoc] at h;obtain⟨e1,h⟩:=wbz h;obtain⟨e2,hr⟩:=wbz h;subst e1;subst e2;exact⟨rfl,hr⟩
theorem wh8{α:Type}{e:α->List UInt8}(hc:∀ {a b:α} {r s:List UInt8},e a++r=e b++s->a=b/\r=s):∀ {l k:List α} {r s:List UInt8},l.length=k.length->l.flatMap e++r=k.flatMap e++s->l=k/\r=s
 |[],[],_,_,_,h=>⟨rfl,h⟩
 |[],_::_,_,_,hl,_=>by simp at hl
 |_::_,[],_,_,hl,_=>by simp at hl
 |x::l,y::k,r,s,hl,h=>by
  rw[List.flatMap_cons,List.flatMap_cons,List.append_assoc,List.append_assoc] at h;obtain⟨e1,h⟩:=hc h;obtain⟨e2,h⟩:=wh8 hc (by simpa using hl) h;exact⟨by rw[e1,e2],h⟩
theorem rtE_cut{a b:RT}{r s:List UInt8}(h:rtE a++r=rtE b++s):a=b/\r=s:=by
 obtain⟨a1,a2,a3,a4,a5⟩:=a;obtain⟨b1,b2,b3,b4,b5⟩:=b;unfold rtE at h;simp only[List.append_assoc] at h;obtain⟨e1,h⟩:=wda h;obtain⟨e2,h⟩:=wda h;obtain⟨e3,h⟩:=wbz h;obtain⟨e4,h⟩:=wbz h;obtain⟨e5,h⟩:=wbz h;obtain⟨e6,hr⟩:=wh8 (λh=>bkE_cut h) (by omega) h;subst e1;subst e2;subst e3;subst e4;subst e6;exact⟨rfl,hr⟩
theorem w2s{f g:FL}(h:encF f=encF g)(hd:f.day=g.day):f=g:=by
 obtain⟨a1,a2,a3,a4,a5,a6,a7⟩:=f;obtain⟨b1,b2,b3,b4,b5,b6,b7⟩:=g;unfold encF at h;dsimp only at h hd;obtain⟨e1,h⟩:=wda h;obtain⟨e2,h⟩:=wbz h;obtain⟨e3,h⟩:=wbz h;obtain⟨e4,h⟩:=wbz h;obtain⟨e5,h⟩:=wh8 (λh=>mgE_cut h) (by omega) h;obtain⟨e6,h⟩:=wbz h;obtain⟨e7,h⟩:=wh8 (λh=>rwE_cut h) (by omega) h;obtain⟨e8,h⟩:=wbz h;have h:a7.flatMap rtE++[]=b7.flatMap rtE++[]:=by rw[List.append_nil,List.append_nil];exact h
 obtain⟨e9,_⟩:=wh8 (λh=>rtE_cut h) (by omega) h;subst e1;subst e2;subst e3;subst e5;subst e7;subst e9;subst hd;rfl
theorem memL{α:Type}{g:Nat->α}{n:Nat}{x:α}:x∈lst g n↔∃i,i<n/\g i=x:=by
 unfold lst;rw[List.mem_map]
 constructor
 ·rintro⟨i,hi,e⟩;exact⟨i,List.mem_range.1 hi,e⟩
 ·rintro⟨i,hi,e⟩;exact⟨i,List.mem_range.2 hi,e⟩
theorem wte{ok:FL->Bool}{g:Nat->FL}{n:Nat}{x:FL}:x∈nrmL ok g n↔x∈lst g n/\ok x=true/\∀y,y∈lst g n->ok y=true->encF y=encF x->x.day<=y.day:=by
 rw[wjr]
 constructor
 ·rintro⟨i,b,rfl⟩;refine⟨memL.2 ⟨i,b.lt,rfl⟩,b.good,λy hy hok e=>?_⟩;obtain⟨k,hk,rfl⟩:=memL.1 hy;have:=b.least k hk hok e;omega
 ·rintro⟨hx,hok,hl⟩;obtain⟨i,hi,rfl⟩:=memL.1 hx;have hk:encF (g i)∈waw ok g n:=wgr.2 ⟨i,hi,hok,rfl⟩;obtain⟨j,b,_⟩:=wg7 hk;have h1:=b.least i hi hok rfl;have h2:=hl (g j) (memL.2 ⟨j,b.lt,rfl⟩) b.good b.enc;exact⟨j,b,w2s b.enc (by omega)⟩
theorem wtf{ok:FL->Bool}{g h:Nat->FL}{n m:Nat}(e:∀x,x∈lst g n↔x∈lst h m):nrmL ok g n=nrmL ok h m:=
 Asc.uniq wgm (wh4 (lR7 n)) (wh4 (lR7 m)) λx=>by
  show x∈nrmL ok g n↔x∈nrmL ok h m;rw[wte,wte,e];exact and_congr_right λ_=>and_congr_right λ_=>forall_congr' λy=>by rw[e]
theorem wp4(L:List FL):lst (atF L) L.length=L:=by
 apply List.ext_getElem
 ·simp[lst]
 ·intro i h1 h2;simp[lst,atF,h2]
def knwL(ok:FL->Bool)(g:Nat->FL)(n:Nat)(d:Int):List FL:=(nrmL ok g n).filter λf=>decide (f.day<=d)
theorem wue{ok:FL->Bool}{g h:Nat->FL}{n m:Nat}(e:∀x,x∈lst g n↔x∈lst h m)(d:Int):knwL ok g n d=knwL ok h m d:=by
 unfold knwL;rw[wtf e]
def edM(f:FL):MG:=⟨f.id,f.ver,0,⟨[],[],0,0,0,0,[]⟩,⟨[],[],0,[],0⟩⟩
def cfB(L:List FL)(i:Nat):Bool:=decide (1<numC (λj=>edM (atF L j)) (mk2 (edM (atF L i))) L.length)
def selK(q:Nat->Bool)(L:List FL):Nat->List FL
 |0=>[]
 |k+1=>bif q k then selK q L k++[atF L k] else selK q L k
theorem wjf{q:Nat->Bool}{L:List FL}{x:FL}:∀ {k},x∈selK q L k↔∃i,i<k/\q i=true/\atF L i=x
 |0=>by simp[selK]
 |k+1=>by
  rw[selK]
  cases h:q k with
  |true=>
   rw[cond_true,List.mem_append,List.mem_singleton,wjf (k:=k)]
   constructor
   ·rintro(⟨i,hi,h1,h2⟩ | rfl)
    ·exact⟨i,by omega,h1,h2⟩
    ·exact⟨k,by omega,h,rfl⟩
   ·rintro⟨i,hi,h1,h2⟩
    by_cases z:i=k
    ·subst z;exact .inr h2.symm
    ·exact .inl ⟨i,by omega,h1,h2⟩
  |false=>
   rw[cond_false,wjf (k:=k)]
   constructor
   ·rintro⟨i,hi,h1,h2⟩;exact⟨i,by omega,h1,h2⟩
   ·rintro⟨i,hi,h1,h2⟩
    by_cases z:i=k
    ·subst z;rw[h] at h1;cases h1
    ·exact⟨i,by omega,h1,h2⟩
theorem why(q:Nat->Bool)(L:List FL):∀k,(selK q L k).length<=k
 |0=>lR7 _
 |k+1=>by
  have ih:=why q L k;rw[selK]
  cases q k with
  |true=>rw[cond_true,lA7];show _+1<=_;omega
  |false=>rw[cond_false];omega
def badL(L:List FL):List FL:=selK (cfB L) L L.length
def wbk(L:List FL):List FL:=selK (λi=> !cfB L i) L L.length
theorem wqq{L:List FL}{x:FL}(h:x∈wbk L):x∈L:=by
 obtain⟨i,hi,_,rfl⟩:=wjf.1 h;exact wdt hi
def nwF(G:List FL)(id:List UInt8):Nat->Int
 |0=>0
 |k+1=>bif !decide ((atF G k).kind=1) && decide ((atF G k).id=id) then max (nwF G id k) (atF G k).ver else nwF G id k
def vwB(G:List FL)(f:FL):Bool:= !(!decide (f.kind=1) && decide (f.ver<nwF G f.id G.length))
def wfo(G:List FL):List FL:=G.filter (vwB G)
def vwL(ok:FL->Bool)(g:Nat->FL)(n:Nat)(d:Int):List FL:=wfo (wbk (knwL ok g n d))
def cfL(ok:FL->Bool)(g:Nat->FL)(n:Nat)(d:Int):List FL:=badL (knwL ok g n d)
def hasT(L:List FL)(t:List UInt8):Nat->Bool
 |0=>false
 |k+1=>hasT L t k || decide (encF (atF L k)=t)
def chgL(ok:FL->Bool)(g:Nat->FL)(n:Nat)(d e:Int):List FL:=(vwL ok g n e).filter λf=> !hasT (vwL ok g n d) (encF f) (vwL ok g n d).length
theorem wo1{ok:FL->Bool}{g h:Nat->FL}{n m:Nat}(e:∀x,x∈lst g n↔x∈lst h m)(d:Int):vwL ok g n d=vwL ok h m d:=by
 unfold vwL;rw[wue e]
theorem w3j{ok:FL->Bool}{g h:Nat->FL}{n m:Nat}(e:∀x,x∈lst g n↔x∈lst h m)(d:Int):cfL ok g n d=cfL ok h m d:=by
 unfold cfL;rw[wue e]
theorem w3g{ok:FL->Bool}{g h:Nat->FL}{n m:Nat}(e:∀x,x∈lst g n↔x∈lst h m)(d d':Int):chgL ok g n d d'=chgL ok h m d d':=by
 unfold chgL;rw[wo1 e,wo1 e]
def atB(L:List BK)(i:Nat):BK:=L.getD i ⟨0,0⟩
def lowB(bs:List BK):Nat->Int
 |0=>0
 |k+1=>(atB bs k).up
def bkOK(bs:List BK)(i:Nat):Bool:=decide (0<=(atB bs i).pr) && (decide ((atB bs i).pr<=1099511627776) && (bif decide (i+1=bs.length) then decide ((atB bs i).up=0) else decide (lowB bs i<(atB bs i).up) && decide ((atB bs i).up<=1099511627776)))
def bksB(bs:List BK):Nat->Bool
 |0=>true
 |k+1=>bksB bs k && bkOK bs k
def tfF(st:Int)(bs:List BK):Int:=bif !(decide (0<=st) && decide (st<=1099511627776)) then 140 else bif decide (bs.length<1) || decide (8<bs.length) then 141 else bif bksB bs bs.length then 0 else 141
def rtOK(t:RT):Bool:=wby t.o t.p t.per && decide (tfF t.st t.bs=0)
def ctF(f:FL):Bool:=bif decide (f.kind=1) then decide (f.rs.length+f.ts.length=0) && (decide (f.ms.length<=400) && f.ms.all λm=>decide (msgF m=0))
 else bif decide (f.kind=2) then decide (f.ms.length+f.ts.length=0) && (decide (f.rs.length<=400) && f.rs.all rowF)
 else decide (f.ms.length+f.rs.length=0) && (decide (f.ts.length<=400) && f.ts.all rtOK)
def vinF(f:FL):Int:=bif !wa8 f.id then 150 else bif decide (f.ver<1) || decide (1000<f.ver) || (decide (f.kind=1) && !decide (f.ver=1)) then 151 else bif decide (f.day<0) || decide (182620<f.day) then 152
 else bif decide (f.kind<1) || decide (3<f.kind) then 153 else bif !ctF f then 154 else 0
def okV(f:FL):Bool:=decide (vinF f=0)
theorem wx6{f:FL}(h:okV f=true):wa8 f.id=true/\(1<=f.ver/\f.ver<=1000)/\(0<=f.day/\f.day<=182620)/\(1<=f.kind/\f.kind<=3)/\(f.kind=1->f.ver=1)/\ctF f=true:=by
 unfold okV vinF at h;rw[decide_eq_true_eq] at h
 cases h1:wa8 f.id with
 |false=>rw[h1] at h;exact absurd (show (150:Int)=0 from h) (by decide)
 |true=>
  rw[h1] at h
  cases h2:decide (f.ver<1) || decide (1000<f.ver) || (decide (f.kind=1) && !decide (f.ver=1)) with
  |true=>rw[h2] at h;exact absurd (show (151:Int)=0 from h) (by decide)
  |false=>
   rw[h2] at h
   cases h3:decide (f.day<0) || decide (182620<f.day) with
   |true=>rw[h3] at h;exact absurd (show (152:Int)=0 from h) (by decide)
   |false=>
    rw[h3] at h
    cases h4:decide (f.kind<1) || decide (3<f.kind) with
    |true=>rw[h4] at h;exact absurd (show (153:Int)=0 from h) (by decide)
    |false=>
     rw[h4] at h
     cases h5:ctF f with
     |false=>rw[h5] at h;exact absurd (show (154:Int)=0 from h) (by decide)
     |true=>
      simp only[Bool.or_eq_false_iff,Bool.and_eq_false_iff,decide_eq_false_iff_not,Bool.not_eq_false',decide_eq_true_eq] at h2 h3 h4;obtain⟨⟨a1,a2⟩,a3⟩:=h2;exact⟨rfl,⟨by omega,by omega⟩,⟨by omega,by omega⟩,⟨by omega,by omega⟩,λk=>a3.resolve_left (λz=>z k),rfl⟩
def whp:RT:=⟨[],[],0,0,[]⟩
def atT(L:List RT)(i:Nat):RT:=L.getD i whp
theorem atT_get{L:List RT}{i:Nat}(h:i<L.length):atT L i=L[i]:=by simp[atT,h]
theorem wwb{L:List RT}{i:Nat}(h:i<L.length):atT L i∈L:=by rw[atT_get h];exact List.getElem_mem h
def sameT(a b:RT):Bool:=decide (a.o=b.o) && (decide (a.p=b.p) && decide (a.per=b.per))
def devF(i:Int):List UInt8:=List.getD [[97],[98],[99]] i.toNat []
def whg:Spec
 |[.ptr 0 0],[.cells [.view sz n f,.int .i64 a] t]=>some (.str (devF (waa n (vInt f) a 3)),[(0,.cells [.view 1 n f,.q (a+1)] 27)],t=27/\sz=1/\f=wab (vInt f)/\(0<=a/\a<=4611686018427387000))
 |_,_=>none
structure VT.Made (x:VT):Prop where
 ok:visF x=true
 o:x.o.length<=2
def wni:wb8
 |[.ptr 0 0],[.cells [.view sz n f,.int .i64 a] t],R=>t=27/\sz=1/\f=wab (vInt f)/\(0<=a/\a<=4611686018427386000)/\
   ∀(x:VT) (a':Int),x.Made->(a<=a'/\a'<=a+7)->
   R (.agg [.str x.o,.str x.p,.q x.per,.q x.day,.q x.st,.q x.pr,.str x.rep]) [(0,.cells [.view 1 n f,.q a'] 27)]
 |_,_,_=>False
structure MG.Made (m:MG):Prop where
 ok:msgF m=0
 dev:m.dev.length<=1
 o:m.v.o.length<=2
 o':m.d.o.length<=2
 dd:m.d.dev.length<=1
def whl:wb8
 |[.ptr 0 0],[.cells [.view sz n f,.int .i64 a] t],R=>t=27/\sz=1/\f=wab (vInt f)/\(0<=a/\a<=4611686018427385000)/\
   ∀(m:MG) (a':Int),m.Made->(a<=a'/\a'<=a+10)->
   R (.agg [.str m.dev,.q m.seq,.q m.kind,.str m.v.o,.str m.v.p,.q m.v.per,.q m.v.day,.q m.v.st,.q m.v.pr,.str m.v.rep,.str m.d.o,.str m.d.p,.q m.d.per,.str m.d.dev,.q m.d.num]) [(0,.cells [.view 1 n f,.q a'] 27)]
 |_,_,_=>False
theorem idF4:∀i,i<4->¬ idF 4=idF (i:Nat):=by decide+kernel
theorem wkt:∀i,i<3->wa8 (List.getD [[97],[98],[99]] i [])=true/\(List.getD [[97],[98],[99]] i ([]:List UInt8)).length<=1:=by decide+kernel
structure MgS where
 c:Nat
 g:Nat->MG
 a:Int
def MG.put(g:Nat->MG)(k:Nat)(r:MG)(i:Nat):MG:=if i<k then g i else r
def wl9(n:Nat)(v:Nat->Int)(N:Int)(i:MgS):St:=⟨[(0,.ptr 0 0),(5,.own 1 i.c),(9,.q N),(10,.q i.c)],
 [(0,.cells [.view 1 n (wab v),.q i.a] 27),(1,.row 40 15 i.c (wag i.g) false)],2,[]⟩
def wn6(n:Nat)(v:Nat->Int)(a N:Int):war:=λst Q=>canonIs te 1 [0,5,9,10] (ownNil 5 40 15 st) (wl9 n v N ⟨0,λ_=>default,a⟩)/\(0<=N/\N<=100)/\(0<=a/\a<=4611686018427375000)/\
 ∀i:MgS,i.c=N.toNat->(a<=i.a/\i.a<=a+10 * i.c)->(∀j,j<i.c->(i.g j).Made)->Q (.exit 0) ⟨[(5,.own 1 i.c)],[(0,.cells [.view 1 n (wab v),.q i.a] 27),(1,.row 40 15 i.c (wag i.g) false)],2,[]⟩
def wno:wb8
 |[.ptr 0 0,.int .i64 most],[.cells [.view sz n f,.int .i64 a] t],R=>t=27/\sz=1/\f=wab (vInt f)/\(0<=a/\a<=4611686018427370000)/\(0<=most/\most<=90)/\
   ∀(c:Nat) (g:Nat->MG) (a':Int),c<=most.toNat->(a<=a'/\a'<=a+1000)->(∀j,j<c->(g j).Made)->
   R (.own 1 c) [(0,.cells [.view 1 n f,.q a'] 27),(1,.row 40 15 c (wag g) false)]
 |_,_,_=>False
theorem wdz{α:Type}(L:List α)(d:α):lst (λi=>L.getD i d) L.length=L:=by
 apply List.ext_getElem?;intro i;unfold lst;rw[List.getElem?_map]
 rcases Nat.lt_or_ge i L.length with h | h
 ·rw[List.getElem?_range h,Option.map_some,List.getElem?_eq_getElem h];simp[h]
 ·rw[List.getElem?_eq_none (by simpa using h),List.getElem?_eq_none h];rfl
def wa1(g:Nat->BK)(i:Nat):List AV:=[.q (g i).up,.q (g i).pr]
def bkOf(f:Nat->List AV)(i:Nat):BK:=match f i with
 |[.int .i64 u,.int .i64 p]=>⟨u,p⟩
 |_=>⟨0,0⟩
def wah(g:Nat->RT)(i:Nat):List AV:=[.str (g i).o,.str (g i).p,.q (g i).per,.q (g i).st,.view 2 (g i).bs.length (wa1 (atB (g i).bs))]
def rtOf(f:Nat->List AV)(i:Nat):RT:=match f i with
 |[.str o,.str p,.int .i64 per,.int .i64 st,.view _ n h]=>⟨o,p,per,st,lst (bkOf h) n⟩
 |_=>whp
def wac(g:Nat->FL)(i:Nat):List AV:=[.str (g i).id,.q (g i).ver,.q (g i).day,.q (g i).kind,.view 15 (g i).ms.length (wag (atM (g i).ms)),.view 5 (g i).rs.length (wai (atR (g i).rs)),.view 5 (g i).ts.length (wah (atT (g i).ts))]
def flV(id:List UInt8)(ver day kind:Int)(nm:Nat)(fm:Nat->List AV)(nr:Nat)(fr:Nat->List AV)(nt:Nat)(ft:Nat->List AV):FL:=⟨id,ver,day,kind,lst (mgOf fm) nm,lst (rwOf fr) nr,lst (rtOf ft) nt⟩
def flOf(f:Nat->List AV)(i:Nat):FL:=match f i with
 |[.str id,.int .i64 ver,.int .i64 day,.int .i64 kind,.view _ nm fm,.view _ nr fr,.view _ nt ft]=>flV id ver day kind nm fm nr fr nt ft
 |_=>wc8
theorem wk4(L:List BK):lst (bkOf (wa1 (atB L))) L.length=L:=wdz L _
theorem wjj(g:Nat->RT):rtOf (wah g)=g:=by
 funext i;show (⟨(g i).o,(g i).p,(g i).per,(g i).st,lst (bkOf (wa1 (atB (g i).bs))) (g i).bs.length⟩:RT)=g i;rw[wk4]
theorem wtz(L:List MG):lst (mgOf (wag (atM L))) L.length=L:=wdz L _
theorem wsn(L:List RW):lst (rwOf (wai (atR L))) L.length=L:=wdz L _
theorem wsu(L:List RT):lst (rtOf (wah (atT L))) L.length=L:=by rw[wjj];exact wdz L _
theorem wcq(f:FL):flV f.id f.ver f.day f.kind f.ms.length (wag (atM f.ms)) f.rs.length (wai (atR f.rs)) f.ts.length (wah (atT f.ts))=f:=by
 unfold flV;rw[wtz,wsn,wsu]
theorem wcr(g:Nat->FL):flOf (wac g)=g:=by
 funext i;exact wcq (g i)
structure FlC (nm:Nat) (fm:Nat->List AV) (nr:Nat) (fr:Nat->List AV) (nt:Nat) (ft:Nat->List AV):Prop where
 m:fm=wag (atM (lst (mgOf fm) nm))
 r:fr=wai (atR (lst (rwOf fr) nr))
 t:ft=wah (atT (lst (rtOf ft) nt))
theorem wdc(f:FL):FlC f.ms.length (wag (atM f.ms)) f.rs.length (wai (atR f.rs)) f.ts.length (wah (atT f.ts)):=⟨by rw[wtz],by rw[wsn],by rw[wsu]⟩
def wm6:Spec
 |[.view 2 n f],[]=>some (.view 2 n f,[],n<=100000/\∀i,i<n->nrefL (f i)=true)
 |_,_=>none
def whk:Spec
 |[.view 15 n f],[]=>some (.view 15 n f,[],n<=100000/\∀i,i<n->nrefL (f i)=true)
 |_,_=>none
def whi:Spec
 |[.view 5 n f],[]=>some (.view 5 n f,[],n<=100000/\∀i,i<n->nrefL (f i)=true)
 |_,_=>none
def whj:Spec
 |[.view 5 0 f],[]=>some (.view 5 0 f,[],True)
 |[.view 5 (n+1) f],[]=>some (.own 0 (n+1),[(0,.row 97 5 (n+1) f false)],n+1<=100000/\∀i,i<n+1->nrefL (f i)=true)
 |_,_=>none
def wbb(F:FL):List AV:=[.str F.id,.q F.ver,.q F.day,.q F.kind,.view 15 F.ms.length (wag (atM F.ms)),.view 5 F.rs.length (wai (atR F.rs)),.view 5 F.ts.length (wah (atT F.ts))]
def S_kc(F:FL)(k:Nat):St:=⟨[(1,.ptr 0 0),(2,.ptr 1 0),(17,.own 2 F.ts.length),(18,.q F.ts.length),(19,.q k)],
 [(0,.cells [.str F.id,.q F.ver,.q F.day,.q F.kind,.view 15 F.ms.length (wag (atM F.ms)),.view 5 F.rs.length (wai (atR F.rs)),.own 2 F.ts.length] 49),(1,.cells [.str [],.q 0,.q 0,.q 0,.nil,.nil,.nil] 49),
  (2,.row 97 5 F.ts.length (wah (atT F.ts)) false)],3,[]⟩
def L_kc(F:FL):war:=λst Q=>canonIs te 0 [1,2,17,18,19] st (S_kc F 0)/\F.ts.length<=1000/\(∀t∈F.ts,t.bs.length<=1000)/\Q (.exit 0) ⟨[(1,.ptr 0 0),(2,.ptr 1 0)],[(0,.cells [.str F.id,.q F.ver,.q F.day,.q F.kind,.view 15 F.ms.length (wag (atM F.ms)),.view 5 F.rs.length (wai (atR F.rs)),.own 2 F.ts.length] 49),(1,.cells [.str [],.q 0,.q 0,.q 0,.nil,.nil,.nil] 49),
  (2,.row 97 5 F.ts.length (wah (atT F.ts)) false)],3,[]⟩
end Go.Eng
namespace Go.Eng
open Go.Lib
def digT(u:Nat):List UInt8:=if u=0 then [] else decDigits u
theorem w2y{u:Nat}(h:u≠0):digT u=digT (u / 10)++[UInt8.ofNat (48+u % 10)]:=by
 unfold digT;rw[if_neg h,decDigits]
 by_cases q:u<10
 ·rw[dif_pos q,if_pos (show u / 10=0 by omega),Nat.mod_eq_of_lt q];rfl
 ·rw[dif_neg q,if_neg (show ¬ u / 10=0 by omega)]
theorem wuh{n:Int}(h:n≠0):itoa n=bif decide (n<0) then 45::digT n.natAbs else digT n.natAbs:=by
 unfold itoa digT;rw[if_neg (show ¬ n.natAbs=0 by omega)]
 by_cases q:n<0
 ·rw[if_pos q,decide_eq_true q];rfl
 ·rw[if_neg q,decide_eq_false q,show n.natAbs=n.toNat by omega];rfl
theorem w1s:itoa 0=[48]:=by
 unfold itoa;rw[if_neg (by decide),decDigits];rfl
theorem w2x{m:Int}(h:m≠0):digT m.natAbs=digT (Int.tdiv m 10).natAbs++[UInt8.ofNat (48+(Int.tmod m 10).natAbs)]:=by
 have e1:(Int.tdiv m 10).natAbs=m.natAbs / 10:=by rw[Int.natAbs_tdiv];rfl
 have e2:(Int.tmod m 10).natAbs=m.natAbs % 10:=by rw[Int.natAbs_tmod];rfl
 rw[e1,e2];exact w2y (by omega)
theorem w1u (n : Int) (h : -9223372036854775808 ≤ n ∧ n ≤ 9223372036854775807) : (itoa n).length ≤ 20 := by
  have dl : ∀ (k u : Nat), u < 10 ^ (k + 1) → (decDigits u).length ≤ k + 1 := by
    intro k
    induction k with
    | zero => intro u hu; rw [decDigits, dif_pos (by simpa using hu)]; simp
    | succ k ih =>
      intro u hu
      rw [decDigits]
      by_cases q : u < 10
      · rw [dif_pos q]; simp
      · rw [dif_neg q, lA7]
        have := ih (u / 10) (by rw [Nat.pow_succ] at hu; omega)
        simp; omega
  unfold itoa
  by_cases q : n < 0
  · rw [if_pos q, List.length_cons]
    have := dl 18 n.natAbs (by have : (10 : Nat) ^ 19 = 10000000000000000000 := by decide
                               omega)
    omega
  · rw [if_neg q]
    have := dl 18 n.toNat (by have : (10 : Nat) ^ 19 = 10000000000000000000 := by decide
                              omega)
    omega
end Go.Eng
namespace Go.Eng
def whb:Spec
 |[.int .i64 n],[]=>some (.bool (decide (0<=n) && decide (n<=1099511627776)),[],True)
 |_,_=>none
def S_tv(st:Int)(bs:List BK)(k:Nat):St:=⟨[(1,.ptr 0 0),(3,.q (lowB bs k)),(22,.view 2 bs.length (wa1 (atB bs))),(23,.q bs.length),(24,.q k)],[(0,.cells [.q st,.view 2 bs.length (wa1 (atB bs))] 95)],1,[]⟩
def L_tv(st:Int)(bs:List BK):war:=λS Q=>canonIs te 0 [1,3,22,23,24] S (S_tv st bs 0)/\bs.length<=8/\wad (bksB bs bs.length) (Q (.exit 0) ⟨[],[],0,[]⟩) (Q .ret ⟨[(2,.q 141)],[],0,[]⟩)
def wlo:Spec
 |[.agg [.int .i64 st,.view 2 n f]],[]=>some (.q (tfF st (lst (bkOf f) n)),[],f=wa1 (atB (lst (bkOf f) n)))
 |_,_=>none
def wlp:Spec
 |[.own 0 n],[.row _ 5 m f _]=>some (.q (svF (rwOf f) n),[],n=m/\n<=1000000/\(∀i,i<n->f i=wai (rwOf f) i)/\∀i,i<n->(rwOf f i).o.length<4294967281)
 |_,_=>none
def wlx:Spec
 |[.agg [.str o,.str p,.int .i64 per,.int .i64 st,.view 2 n f]],[]=>some (.bool (rtOK ⟨o,p,per,st,lst (bkOf f) n⟩),[],o.length<4294967281/\f=wa1 (atB (lst (bkOf f) n)))
 |_,_=>none
def badM(m:MG):Bool:= !decide (msgF m=0)
def badT(t:RT):Bool:= !rtOK t
structure RT.Sm (t:RT):Prop where
 o:t.o.length<4294967281
structure FL.Sm (F:FL):Prop where
 id:F.id.length<4294967281
 m:F.ms.length<=1000/\∀m∈F.ms,m.Sm
 r:F.rs.length<=1000/\∀r∈F.rs,r.o.length<4294967281
 t:F.ts.length<=1000/\∀t∈F.ts,t.Sm
def S_k1:Spec
 |[.agg [.str dev,.int .i64 seq,.int .i64 kind,.str o,.str p,.int .i64 per,.int .i64 day,.int .i64 st,.int .i64 pr,.str rep,.str o',.str p',.int .i64 per',.str dev',.int .i64 num]],[]=>some (.bool (badM ⟨dev,seq,kind,⟨o,p,per,day,st,pr,rep⟩,⟨o',p',per',dev',num⟩⟩),[],dev.length<4294967281/\o.length<4294967281/\o'.length<4294967281/\dev'.length<4294967281)
 |_,_=>none
def S_k2:Spec
 |[.agg [.str o,.str p,.int .i64 per,.int .i64 st,.view 2 n f]],[]=>some (.bool (badT ⟨o,p,per,st,lst (bkOf f) n⟩),[],o.length<4294967281/\f=wa1 (atB (lst (bkOf f) n)))
 |_,_=>none
def wmr:Spec
 |[.view 15 n f,.func 125 []],[]=>some (.q (ixB (λi=>badM (mgOf f i)) n),[],n<=1000000/\f=wag (mgOf f)/\∀i,i<n->(mgOf f i).Sm)
 |_,_=>none
def wmp(g:Nat->MG)(n k:Nat):St:=⟨[(0,.view 15 n (wag g)),(1,.func 125 []),(7,.q n),(8,.q k)],[],0,[]⟩
def wok(g:Nat->MG)(n:Nat):war:=λst Q=>canonIs te 0 [0,1,7,8] st (wmp g n 0)/\n<=1000000/\(∀i,i<n->(g i).Sm)/\
 wad (decide (fstB (λi=>badM (g i)) n<n)) (Q .ret ⟨[(4,.q (fstB (λi=>badM (g i)) n))],[],0,[]⟩) (Q (.exit 0) ⟨[],[],0,[]⟩)
def wm8:Spec
 |[.view 15 n f,.func 125 []],[]=>some (.bool (decide (0<=ixB (λi=>badM (mgOf f i)) n)),[],n<=1000000/\f=wag (mgOf f)/\∀i,i<n->(mgOf f i).Sm)
 |_,_=>none
def wmq:Spec
 |[.view 5 n f,.func 127 []],[]=>some (.q (ixB (λi=>badT (rtOf f i)) n),[],n<=1000000/\f=wah (rtOf f)/\∀i,i<n->(rtOf f i).Sm)
 |_,_=>none
def wmo(g:Nat->RT)(n k:Nat):St:=⟨[(0,.view 5 n (wah g)),(1,.func 127 []),(7,.q n),(8,.q k)],[],0,[]⟩
def woj(g:Nat->RT)(n:Nat):war:=λst Q=>canonIs te 0 [0,1,7,8] st (wmo g n 0)/\n<=1000000/\(∀i,i<n->(g i).Sm)/\
 wad (decide (fstB (λi=>badT (g i)) n<n)) (Q .ret ⟨[(4,.q (fstB (λi=>badT (g i)) n))],[],0,[]⟩) (Q (.exit 0) ⟨[],[],0,[]⟩)
def wm7:Spec
 |[.view 5 n f,.func 127 []],[]=>some (.bool (decide (0<=ixB (λi=>badT (rtOf f i)) n)),[],n<=1000000/\f=wah (rtOf f)/\∀i,i<n->(rtOf f i).Sm)
 |_,_=>none
def wm3:Spec
 |[.agg [.str id,.int .i64 ver,.int .i64 day,.int .i64 kind,.view 15 nm fm,.view 5 nr fr,.view 5 nt ft]],[]=>some (.bool (ctF (flV id ver day kind nm fm nr fr nt ft)),[],FlC nm fm nr fr nt ft/\(flV id ver day kind nm fm nr fr nt ft).Sm)
 |_,_=>none
def wle:Spec
 |[.agg [.str id,.int .i64 ver,.int .i64 day,.int .i64 kind,.view 15 nm fm,.view 5 nr fr,.view 5 nt ft]],[]=>some (.q (vinF (flV id ver day kind nm fm nr fr nt ft)),[],FlC nm fm nr fr nt ft/\(flV id ver day kind nm fm nr fr nt ft).Sm)
 |_,_=>none
def txF(g:Nat->List UInt8):Nat->List UInt8
 |0=>[]
 |k+1=>txF g k++txtE (g k)
def nuF(g:Nat->Int):Nat->List UInt8
 |0=>[]
 |k+1=>nuF g k++numE (g k)
def wax(g:Nat->List UInt8)(i:Nat):List AV:=[.str (g i)]
def stOf(f:Nat->List AV)(i:Nat):List UInt8:=wbx ((f i).headD .any)
def wee:Spec
 |[.int .i64 n,.int .i64 10],[]=>some (.str (Go.Lib.itoa n),[],inR .i64 n)
 |_,_=>none
def wcm:Spec
 |[.int .i64 n],[]=>some (.str (Go.Lib.itoa n),[],inR .i64 n)
 |_,_=>none
def S_cc:Spec
 |[.ptr 0 0],[.cells [.nilptr,.nil] t]=>some (.tuple [],[(0,.cells [.ptr 0 0,.nil] 111)],t=111)
 |[.ptr 0 0],[.cells [.ptr 0 0,.own 1 n] t,.row t8 1 m f false]=>some (.tuple [],[(0,.cells [.ptr 0 0,.own 1 n] 111),(1,.row t8 1 m f false)],t=111)
 |_,_=>none
def S_ws:Spec
 |[.ptr 0 0,.str s],[.cells [.nilptr,.nil] t]=>some (.tuple [.q s.length,.nilIface],[(0,.cells [.ptr 0 0,.own 1 s.length] 111),(1,.row 5 1 s.length (strG s) false)],t=111/\s.length<=1099511627776)
 |[.ptr 0 0,.str s],[.cells [.ptr 0 0,.own 1 n] t,.row t8 1 m f false]=>some (.tuple [.q s.length,.nilIface],[(0,.cells [.ptr 0 0,.own 2 (wao m f++s).length] 111),(2,.row 5 1 (wao m f++s).length (strG (wao m f++s)) false)],
   t=111/\t8=5/\n=m/\f=strG (wao m f)/\(wao m f++s).length<=1099511627776)
 |_,_=>none
def wnd:Spec
 |[.ptr 0 0],[.cells [.ptr 0 0,.own 1 n] t,.row t8 1 m f false]=>some (.str (wao m f),[(0,.cells [.ptr 0 0,.own 1 n] 111)],t=111/\t8=5/\n=m/\f=strG (wao m f)/\0<n/\n<=1099511627776)
 |_,_=>none
def S_text:Spec
 |[.ptr 0 0,.own 1 n],[.cells [.nilptr,.nil] t,.row ts 1 n' h false]=>some (.tuple [],[(0,.cells [.ptr 0 0,.own 2 (txF (stOf h) n).length] 111),(1,.row 9 1 n' h false),(2,.row 5 1 (txF (stOf h) n).length (strG (txF (stOf h) n)) false)],
   t=111/\ts=9/\n=1/\n'=1/\h 0=wax (stOf h) 0/\(txF (stOf h) n).length<=1099511627776)
 |[.ptr 0 0,.own 1 n],[.cells [.ptr 0 0,.own 2 c] t,.row ts 1 n' h false,.row t8 1 m f false]=>some (.tuple [],[(0,.cells [.ptr 0 0,.own 3 (wao m f++txF (stOf h) n).length] 111),(1,.row 9 1 n' h false),(3,.row 5 1 (wao m f++txF (stOf h) n).length (strG (wao m f++txF (stOf h) n)) false)],
   t=111/\t8=5/\ts=9/\c=m/\n=n'/\(1<=n/\n<=3)/\f=strG (wao m f)/\(∀i,i<n->h i=wax (stOf h) i)/\(wao m f++txF (stOf h) n).length<=1099511627776)
 |_,_=>none
def wwi:Spec
 |[.ptr 0 0,.own 1 n],[.cells [.ptr 0 0,.own 2 c] t,.row ts 1 n' h false,.row t8 1 m f false]=>some (.tuple [],[(0,.cells [.ptr 0 0,.own 3 (wao m f++nuF (vInt h) n).length] 111),(1,.row 2 1 n' h false),(3,.row 5 1 (wao m f++nuF (vInt h) n).length (strG (wao m f++nuF (vInt h) n)) false)],
   t=111/\t8=5/\ts=2/\c=m/\n=n'/\(1<=n/\n<=4)/\f=strG (wao m f)/\(∀i,i<n->h i=wab (vInt h) i)/\(∀i,i<n->inR .i64 (vInt h i))/\(wao m f++nuF (vInt h) n).length<=1099511627776)
 |_,_=>none
def wbh:wb8
 |[.ptr 0 0,.own 1 n],[.cells [.nilptr,.nil] t,.row ts 1 n' h false],R=>(t=111/\ts=9/\n=1/\n'=1)/\h 0=wax (stOf h) 0/\(txF (stOf h) n).length<=1099511627776/\
   ∀L':List UInt8,L'=txF (stOf h) n->R (.tuple []) [(0,.cells [.ptr 0 0,.own 2 L'.length] 111),(1,.row 9 1 n' h false),(2,.row 5 1 L'.length (strG L') false)]
 |[.ptr 0 0,.own 1 n],[.cells [.ptr 0 0,.own 2 c] t,.row ts 1 n' h false,.row t8 1 m f false],R=>(t=111/\t8=5/\ts=9/\c=m/\n=n'/\(1<=n/\n<=3))/\∃L:List UInt8,(m=L.length/\f=strG L)/\
   (∀i,i<n->h i=wax (stOf h) i)/\(L++txF (stOf h) n).length<=1099511627776/\
   ∀L':List UInt8,L'=L++txF (stOf h) n->R (.tuple []) [(0,.cells [.ptr 0 0,.own 3 L'.length] 111),(1,.row 9 1 n' h false),(3,.row 5 1 L'.length (strG L') false)]
 |_,_,_=>False
def wbi:wb8
 |[.ptr 0 0,.own 1 n],[.cells [.ptr 0 0,.own 2 c] t,.row ts 1 n' h false,.row t8 1 m f false],R=>(t=111/\t8=5/\ts=2/\c=m/\n=n'/\(1<=n/\n<=4))/\∃L:List UInt8,(m=L.length/\f=strG L)/\
   (∀i,i<n->h i=wab (vInt h) i)/\(∀i,i<n->inR .i64 (vInt h i))/\(L++nuF (vInt h) n).length<=1099511627776/\
   ∀L':List UInt8,L'=L++nuF (vInt h) n->R (.tuple []) [(0,.cells [.ptr 0 0,.own 3 L'.length] 111),(1,.row 2 1 n' h false),(3,.row 5 1 L'.length (strG L') false)]
 |_,_,_=>False
structure DcS where
 out:List UInt8
 m:Int
def S_dc(n:Int)(i:DcS):St:=⟨[(0,.q n),(3,.str i.out),(4,.q i.m)],[],0,[]⟩
def L_dc(n:Int):war:=λst Q=>canonIs te 0 [0,3,4] st (S_dc n ⟨[],n⟩)/\inR .i64 n/\Q (.exit 0) ⟨[(0,.q n),(3,.str (digT n.natAbs))],[],0,[]⟩
def wlm(g:Nat->List UInt8)(n k:Nat):St:=⟨[(3,.str (txF g k)),(6,.own 0 n),(7,.q n),(8,.q k)],[(0,.row 9 1 n (wax g) false)],1,[]⟩
def wnz(g:Nat->List UInt8)(n:Nat):war:=λst Q=>canonIs te 1 [3,6,7,8] st (wlm g n 0)/\n<=100/\(∀i,i<n->(g i).length<=1099511627776)/\
 Q (.exit 0) ⟨[(3,.str (txF g n))],[(0,.row 9 1 n (wax g) false)],1,[]⟩
def wdi:Spec
 |[.own 0 n],[.row ts 1 n' h false]=>some (.str (txF (stOf h) n),[(0,.row 9 1 n' h false)],ts=9/\n=n'/\n<=100/\(∀i,i<n->h i=wax (stOf h) i)/\∀i,i<n->(stOf h i).length<=1099511627776)
 |_,_=>none
def wl4(g:Nat->Int)(n k:Nat):St:=⟨[(3,.str (nuF g k)),(6,.own 0 n),(7,.q n),(8,.q k)],[(0,.row 2 1 n (wab g) false)],1,[]⟩
def wn3(g:Nat->Int)(n:Nat):war:=λst Q=>canonIs te 1 [3,6,7,8] st (wl4 g n 0)/\n<=100/\(∀i,i<n->inR .i64 (g i))/\
 Q (.exit 0) ⟨[(3,.str (nuF g n))],[(0,.row 2 1 n (wab g) false)],1,[]⟩
def wdj:Spec
 |[.own 0 n],[.row ts 1 n' h false]=>some (.str (nuF (vInt h) n),[(0,.row 2 1 n' h false)],ts=2/\n=n'/\n<=100/\(∀i,i<n->h i=wab (vInt h) i)/\∀i,i<n->inR .i64 (vInt h i))
 |_,_=>none
end Go.Eng
