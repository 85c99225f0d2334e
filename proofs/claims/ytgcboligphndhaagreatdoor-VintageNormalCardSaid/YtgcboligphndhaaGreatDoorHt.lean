/- Encode: texts and numbers, the loops' states. -/
import Derived.Test.YtgcboligphndhaaGreatDoorHs
namespace Go.Eng
def wde:FL:=⟨[],0,0,0,[],[],[]⟩
def atF(L:List FL)(i:Nat):FL:=L.getD i wde
theorem wjf{L:List FL}{i:Nat}(h:i<L.length):atF L i=L[i]:=by simp[atF,h]
theorem weg{L:List FL}{i:Nat}(h:i<L.length):atF L i∈L:=by rw[wjf h];exact List.getElem_mem h
theorem ascF_at{L:List FL}(h:Asc ordF L){i j:Nat}(hij:i<j)(hj:j<L.length):ordF (atF L i) (atF L j)<0:=by
 rw[wjf (show i<L.length by omega),wjf hj];exact List.pairwise_iff_getElem.1 h i j (by omega) hj hij
def wc1(ok:FL->Bool)(g:Nat->FL)(t:List UInt8):Nat->Option Nat
 |0=>none
 |n+1=>bif ok (g n) && decide (encF (g n)=t) then (match wc1 ok g t n with
   |none=>some n
   |some j=>bif decide ((g n).day<(g j).day) then some n else some j) else wc1 ok g t n
structure Best (ok:FL->Bool) (g:Nat->FL) (t:List UInt8) (n j:Nat):Prop where
 lt:j<n
 good:ok (g j)=true
 enc:encF (g j)=t
 least:∀k,k<n->ok (g k)=true->encF (g k)=t->(g j).day<(g k).day∨((g j).day=(g k).day/\j<=k)
theorem wjd(ok:FL->Bool)(g:Nat->FL)(t:List UInt8):∀n,(∀j,wc1 ok g t n=some j->Best ok g t n j)/\(wc1 ok g t n=none->∀k,k<n->ok (g k)=true->encF (g k)≠t)
 |0=>⟨(λj h=>by cases h),λ_ k hk=>absurd hk (nZ7 k)⟩
 |n+1=>by
  obtain⟨ih1,ih2⟩:=wjd ok g t n;rw[wc1]
  cases q:ok (g n) && decide (encF (g n)=t) with
  |false=>
   have no:ok (g n)=true->encF (g n)=t->False:=λa b=>by rw[a,decide_eq_true b] at q;cases q
   simp only[cond_false];refine⟨λj h=>?_,λh k hk hok e=>?_⟩
   ·have b:=ih1 j h;exact⟨by have:=b.lt;omega,b.good,b.enc,λk hk hok e=>by
     by_cases z:k=n
     ·subst z;exact(no hok e).elim
     ·exact b.least k (by omega) hok e⟩
   ·by_cases z:k=n
    ·subst z;exact no hok e
    ·exact ih2 h k (by omega) hok e
  |true=>
   rw[bA7,decide_eq_true_eq] at q;simp only[cond_true]
   cases b:wc1 ok g t n with
   |none=>
    refine⟨λj h=>?_,λh=>by cases h⟩;obtain rfl:=oJ7 h;exact⟨by omega,q.1,q.2,λk hk hok e=>by
     by_cases z:k=n
     ·subst z;exact .inr ⟨rfl,lR7 _⟩
     ·exact absurd e (ih2 b k (by omega) hok)⟩
   |some i=>
    have bi:=ih1 i b;have:=bi.lt
    by_cases d:(g n).day<(g i).day
    ·dsimp only
     rw[decide_eq_true d];refine⟨λj h=>?_,λh=>by cases h⟩;obtain rfl:=oJ7 h;exact⟨by omega,q.1,q.2,λk hk hok e=>by
      by_cases z:k=n
      ·subst z;exact .inr ⟨rfl,lR7 _⟩
      ·have:=bi.least k (by omega) hok e;omega⟩
    ·dsimp only
     rw[decide_eq_false d];refine⟨λj h=>?_,λh=>by cases h⟩;obtain rfl:=oJ7 h;exact⟨by omega,bi.good,bi.enc,λk hk hok e=>by
      by_cases z:k=n
      ·subst z;omega
      ·exact bi.least k (by omega) hok e⟩
theorem Best.uniq{ok:FL->Bool}{g:Nat->FL}{t:List UInt8}{n i j:Nat}(a:Best ok g t n i)(b:Best ok g t n j):i=j:=by
 have h1:=a.least j b.lt b.good b.enc;have h2:=b.least i a.lt a.good a.enc;omega
def kpS(ok:FL->Bool)(g:Nat->FL)(i:Nat):Nat->Bool
 |0=>true
 |k+1=>kpS ok g i k && !(!decide (k=i) && (ok (g k) && (decide (encF (g k)=encF (g i)) && (decide ((g k).day<(g i).day) || (decide ((g k).day=(g i).day) && decide (k<i))))))
theorem wuq{ok:FL->Bool}{g:Nat->FL}{i:Nat}:∀ {n},kpS ok g i n=true↔∀k,k<n->k≠i->ok (g k)=true->encF (g k)=encF (g i)->¬ ((g k).day<(g i).day∨((g k).day=(g i).day/\k<i))
 |0=>by simp[kpS]
 |n+1=>by
  rw[kpS,bA7,wuq (n:=n)]
  constructor
  ·rintro⟨h1,h2⟩ k hk hne hok e
   by_cases z:k=n
   ·subst z;intro q;rw[Bool.not_eq_true',decide_eq_false hne,hok,decide_eq_true e] at h2
    rcases q with q | ⟨q,r⟩
    ·rw[decide_eq_true q] at h2;simp at h2
    ·rw[decide_eq_true q,decide_eq_true r] at h2;simp at h2
   ·exact h1 k (by omega) hne hok e
  ·intro h;refine⟨λk hk=>h k (by omega),?_⟩
   by_cases z:n=i
   ·simp[z]
   ·by_cases z2:ok (g n)=true
    ·by_cases z3:encF (g n)=encF (g i)
     ·have:=h n (by omega) z z2 z3;rw[not_or,not_and] at this;rw[decide_eq_false this.1]
      by_cases z4:(g n).day=(g i).day
      ·rw[decide_eq_false (this.2 z4)];simp
      ·rw[decide_eq_false z4];simp
     ·rw[decide_eq_false z3];simp
    ·rw[Bool.not_eq_true] at z2;rw[z2];simp
theorem wur{ok:FL->Bool}{g:Nat->FL}{n i:Nat}(hi:i<n)(hok:ok (g i)=true):kpS ok g i n=true↔Best ok g (encF (g i)) n i:=by
 rw[wuq]
 constructor
 ·intro h;refine⟨hi,hok,rfl,λk hk hk2 e=>?_⟩
  by_cases z:k=i
  ·subst z;exact .inr ⟨rfl,lR7 _⟩
  ·have:=h k hk z hk2 e;omega
 ·intro b k hk hne hk2 e;have:=b.least k hk hk2 e;omega
def kept(ok:FL->Bool)(g:Nat->FL)(n i:Nat):Bool:=ok (g i) && kpS ok g i n
theorem wkp{ok:FL->Bool}{g:Nat->FL}{n i:Nat}(hi:i<n):kept ok g n i=true↔Best ok g (encF (g i)) n i:=by
 unfold kept;rw[bA7]
 constructor
 ·rintro⟨a,b⟩;exact(wur hi a).1 b
 ·intro b;exact⟨b.good,(wur hi b.good).2 b⟩
theorem w2w{ok:FL->Bool}{g:Nat->FL}{n i j:Nat}(hi:i<n)(hj:j<n)(a:kept ok g n i=true)(b:kept ok g n j=true)(e:encF (g i)=encF (g j)):i=j:=by
 have h1:=(wkp hi).1 a;have h2:=(wkp hj).1 b;rw[e] at h1;exact h1.uniq h2
def dnF(L:List FL)(m:FL):Nat->Nat
 |0=>0
 |a+1=>bif decide (ordF m (atF L a)<0) then dnF L m a else a+1
theorem wi7(L:List FL)(m:FL):∀a,dnF L m a<=a
 |0=>lR7 _
 |a+1=>by
  rw[dnF]
  cases decide (ordF m (atF L a)<0) with
  |true=>have:=wi7 L m a;show dnF L m a<=a+1;omega
  |false=>exact lR7 _
theorem dnF_hi(L:List FL)(m:FL):∀a i,dnF L m a<=i->i<a->ordF m (atF L i)<0
 |0,i,_,h=>absurd h (nZ7 _)
 |a+1,i,h1,h2=>by
  rw[dnF] at h1
  by_cases q:ordF m (atF L a)<0
  ·rw[decide_eq_true q] at h1
   by_cases e:i=a
   ·rw[e];exact q
   ·exact dnF_hi L m a i h1 (by omega)
  ·rw[decide_eq_false q] at h1;have h1:a+1<=i:=h1;omega
theorem dnF_lo(L:List FL)(m:FL):∀a,dnF L m a=0∨¬ ordF m (atF L (dnF L m a - 1))<0
 |0=>.inl rfl
 |a+1=>by
  rw[dnF]
  by_cases q:ordF m (atF L a)<0
  ·rw[decide_eq_true q];exact dnF_lo L m a
  ·rw[decide_eq_false q];exact .inr q
def insF(L:List FL)(m:FL):List FL:=L.take (dnF L m L.length)++m::L.drop (dnF L m L.length)
theorem w25{L:List FL}{m x:FL}:x∈insF L m↔x=m∨x∈L:=by
 unfold insF;rw[List.mem_append,List.mem_cons];have:x∈L↔x∈L.take (dnF L m L.length)∨x∈L.drop (dnF L m L.length):=by
  rw[← List.mem_append,List.take_append_drop]
 rw[this];grind
theorem w26{L:List FL}{m:FL}(h:Asc ordF L)(hn:∀x∈L,encF x≠encF m):Asc ordF (insF L m):=by
 have hle:=wi7 L m L.length;unfold insF;refine Asc.insert (by rw[List.take_append_drop];exact h) (λy hy=>?_) (λy hy=>?_)
 ·obtain⟨i,hi,rfl⟩:=List.mem_iff_getElem.1 hy;rw[List.length_take] at hi;rw[List.getElem_take, ← wjf (show i<L.length by omega)];have hlo:=(dnF_lo L m L.length).resolve_left (by omega);generalize dnF L m L.length=a at *;have ne:ordF m (atF L (a - 1))≠0:=λz=>hn _ (weg (by omega)) (wto z).1.symm;have k:=wg0.neg m (atF L (a - 1));have k':=wg0.neg (atF L (a - 1)) m;have lt:ordF (atF L (a - 1)) m<0:=by omega
  by_cases z:i=a - 1
  ·rw[z];exact lt
  ·exact wg0.lt_trans (ascF_at h (show i<a - 1 by omega) (by omega)) lt
 ·obtain⟨i,hi,rfl⟩:=List.mem_iff_getElem.1 hy;rw[List.length_drop] at hi;rw[List.getElem_drop, ← wjf (by omega)];exact dnF_hi L m L.length _ (by omega) (by omega)
def nrmK(ok:FL->Bool)(g:Nat->FL)(n:Nat):Nat->List FL
 |0=>[]
 |k+1=>bif kept ok g n k then insF (nrmK ok g n k) (g k) else nrmK ok g n k
theorem wif{ok:FL->Bool}{g:Nat->FL}{n:Nat}{x:FL}:∀ {k},x∈nrmK ok g n k↔∃i,i<k/\kept ok g n i=true/\g i=x
 |0=>by simp[nrmK]
 |k+1=>by
  rw[nrmK]
  cases q:kept ok g n k with
  |true=>
   rw[cond_true,w25,wif (k:=k)]
   constructor
   ·rintro(rfl | ⟨i,hi,h⟩)
    ·exact⟨k,by omega,q,rfl⟩
    ·exact⟨i,by omega,h⟩
   ·rintro⟨i,hi,h1,h2⟩
    by_cases z:i=k
    ·subst z;exact .inl h2.symm
    ·exact .inr ⟨i,by omega,h1,h2⟩
  |false=>
   rw[cond_false,wif (k:=k)]
   constructor
   ·rintro⟨i,hi,h⟩;exact⟨i,by omega,h⟩
   ·rintro⟨i,hi,h1,h2⟩
    by_cases z:i=k
    ·subst z;rw[q] at h1;cases h1
    ·exact⟨i,by omega,h1,h2⟩
theorem wig{ok:FL->Bool}{g:Nat->FL}{n:Nat}:∀ {k},k<=n->Asc ordF (nrmK ok g n k)
 |0,_=>List.Pairwise.nil
 |k+1,hk=>by
  rw[nrmK]
  cases q:kept ok g n k with
  |false=>exact wig (by omega)
  |true=>
   refine w26 (wig (by omega)) λx hx e=>?_;obtain⟨i,hi,h1,rfl⟩:=wif.1 hx;have:=w2w (show i<n by omega) (show k<n by omega) h1 q e;omega
def nrmL(ok:FL->Bool)(g:Nat->FL)(n:Nat):List FL:=nrmK ok g n n
theorem wg2{ok:FL->Bool}{g:Nat->FL}{n:Nat}{x:FL}:x∈nrmL ok g n↔∃i,Best ok g (encF x) n i/\g i=x:=by
 unfold nrmL;rw[wif]
 constructor
 ·rintro⟨i,hi,h,rfl⟩;exact⟨i,(wkp hi).1 h,rfl⟩
 ·rintro⟨i,h,rfl⟩;exact⟨i,h.lt,(wkp h.lt).2 h,rfl⟩
theorem wy0{ok:FL->Bool}{g:Nat->FL}{n:Nat}{L:List FL}(h:Asc ordF L)(hm:∀x,x∈L↔∃i,Best ok g (encF x) n i/\g i=x):L=nrmL ok g n:=
 Asc.uniq wg0 h (wig (lR7 n)) λx=>(hm x).trans wg2.symm
theorem nrm_enc{ok:FL->Bool}{g:Nat->FL}{n:Nat}{x y:FL}(hx:x∈nrmL ok g n)(hy:y∈nrmL ok g n)(e:encF x=encF y):x=y:=by
 obtain⟨i,hi,rfl⟩:=wg2.1 hx;obtain⟨j,hj,rfl⟩:=wg2.1 hy;rw[e] at hi;rw[hi.uniq hj]
theorem nrm_ok{ok:FL->Bool}{g:Nat->FL}{n:Nat}{x:FL}(hx:x∈nrmL ok g n):ok x=true:=by
 obtain⟨i,hi,rfl⟩:=wg2.1 hx;exact hi.good
def way(ok:FL->Bool)(g:Nat->FL):Nat->List (List UInt8)
 |0=>[]
 |k+1=>bif ok (g k) && !decide (encF (g k)∈way ok g k) then way ok g k++[encF (g k)] else way ok g k
theorem wg5{ok:FL->Bool}{g:Nat->FL}{t:List UInt8}:∀ {k},t∈way ok g k↔∃i,i<k/\ok (g i)=true/\encF (g i)=t
 |0=>by simp[way]
 |k+1=>by
  have ih:=wg5 (ok:=ok) (g:=g) (t:=t) (k:=k);rw[way]
  cases q:ok (g k) with
  |false=>
   rw[Bool.false_and,cond_false,ih]
   constructor
   ·rintro⟨i,hi,h⟩;exact⟨i,by omega,h⟩
   ·rintro⟨i,hi,h1,h2⟩
    by_cases z:i=k
    ·subst z;rw[q] at h1;cases h1
    ·exact⟨i,by omega,h1,h2⟩
  |true=>
   by_cases p:encF (g k)∈way ok g k
   ·rw[decide_eq_true p];show t∈way ok g k↔_;rw[ih]
    constructor
    ·rintro⟨i,hi,h⟩;exact⟨i,by omega,h⟩
    ·rintro⟨i,hi,h1,h2⟩
     by_cases z:i=k
     ·subst z;subst h2;exact ih.1 p
     ·exact⟨i,by omega,h1,h2⟩
   ·rw[decide_eq_false p];show t∈way ok g k++[encF (g k)]↔_;rw[List.mem_append,List.mem_singleton,ih]
    constructor
    ·rintro(⟨i,hi,h⟩ | rfl)
     ·exact⟨i,by omega,h⟩
     ·exact⟨k,by omega,q,rfl⟩
    ·rintro⟨i,hi,h1,h2⟩
     by_cases z:i=k
     ·subst z;exact .inr h2.symm
     ·exact .inl ⟨i,by omega,h1,h2⟩
theorem wgc{ok:FL->Bool}{g:Nat->FL}:∀k,(way ok g k).Nodup
 |0=>List.nodup_nil
 |k+1=>by
  rw[way]
  cases q:ok (g k) && !decide (encF (g k)∈way ok g k) with
  |false=>exact wgc k
  |true=>
   rw[bA7,Bool.not_eq_true',decide_eq_false_iff_not] at q;show (way ok g k++[encF (g k)]).Nodup;rw[List.nodup_append];refine⟨wgc k,by simp,λa ha b hb=>?_⟩;rw[List.mem_singleton] at hb;subst hb;intro e;subst e;exact q.2 ha
def wbf(ok:FL->Bool)(g:Nat->FL)(n:Nat)(t:List UInt8):FL:=match wc1 ok g t n with
 |some j=>g j
 |none=>wde
theorem whk{ok:FL->Bool}{g:Nat->FL}{n:Nat}{t:List UInt8}(h:t∈way ok g n):∃j,Best ok g t n j/\wbf ok g n t=g j:=by
 obtain⟨i,hi,h1,h2⟩:=wg5.1 h
 cases b:wc1 ok g t n with
 |none=>exact absurd h2 ((wjd ok g t n).2 b i hi h1)
 |some j=>exact⟨j,(wjd ok g t n).1 j b,by unfold wbf;rw[b]⟩
theorem wy1{ok:FL->Bool}{g:Nat->FL}{n:Nat}{K:List (List UInt8)}(hp:K.Perm (way ok g n))(hs:K.Pairwise λa b=>¬ ordF (wbf ok g n b) (wbf ok g n a)<0):K.map (wbf ok g n)=nrmL ok g n:=by
 have mem:∀t,t∈K->t∈way ok g n:=λt h=>hp.mem_iff.1 h;have enc:∀t,t∈K->encF (wbf ok g n t)=t:=λt h=>by
  obtain⟨j,b,e⟩:=whk (mem t h);rw[e];exact b.enc
 apply wy0
 ·refine Asc.of_sorted (by rw[List.pairwise_map];exact hs) wg0 ?_;rw[List.pairwise_map];have nd:K.Nodup:=hp.nodup_iff.2 (wgc n);refine nd.imp_of_mem λ{a b} ha hb hne z=>hne ?_;have:=(wto z).1;rw[enc a ha,enc b hb] at this;exact this
 ·intro x;rw[List.mem_map]
  constructor
  ·rintro⟨t,ht,rfl⟩;obtain⟨j,b,e⟩:=whk (mem t ht);rw[enc t ht];exact⟨j,b,e.symm⟩
  ·rintro⟨i,b,rfl⟩;have hk:encF (g i)∈way ok g n:=wg5.2 ⟨i,b.lt,b.good,rfl⟩;obtain⟨j,b',e⟩:=whk hk;exact⟨encF (g i),hp.mem_iff.2 hk,by rw[e,b'.uniq b]⟩
theorem mgE_cut{a b:MG}{r s:List UInt8}(h:mgE a++r=mgE b++s):a=b/\r=s:=by
 obtain⟨a1,a2,a3,⟨b1,b2,b3,b4,b5,b6,b7⟩,c1,c2,c3,c4,c5⟩:=a;obtain⟨a1',a2',a3',⟨b1',b2',b3',b4',b5',b6',b7'⟩,c1',c2',c3',c4',c5'⟩:=b;unfold mgE at h;simp only[List.append_assoc] at h;obtain⟨e1,h⟩:=wdg h;obtain⟨e2,h⟩:=wb4 h;obtain⟨e3,h⟩:=wb4 h;obtain⟨e4,h⟩:=wdg h;obtain⟨e5,h⟩:=wdg h;obtain⟨e6,h⟩:=wb4 h;obtain⟨e7,h⟩:=wb4 h;obtain⟨e8,h⟩:=wb4 h;obtain⟨e9,h⟩:=wb4 h;obtain⟨e10,h⟩:=wdg h;obtain⟨e11,h⟩:=wdg h;obtain⟨e12,h⟩:=wdg h;obtain⟨e13,h⟩:=wb4 h;obtain⟨e14,h⟩:=wdg h;obtain⟨e15,hr⟩:=wb4 h;subst e1;subst e2;subst e3;subst e4;subst e5;subst e6;subst e7;subst e8;subst e9;subst e10;subst e11;subst e12;subst e13;subst e14;subst e15;exact⟨rfl,hr⟩
theorem rwE_cut{a b:RW}{r s:List UInt8}(h:rwE a++r=rwE b++s):a=b/\r=s:=by
 obtain⟨a1,a2,a3,a4,a5⟩:=a;obtain⟨b1,b2,b3,b4,b5⟩:=b;unfold rwE at h;simp only[List.append_assoc] at h;obtain⟨e1,h⟩:=wdg h;obtain⟨e2,h⟩:=wdg h;obtain⟨e3,h⟩:=wb4 h;obtain⟨e4,h⟩:=wb4 h;obtain⟨e5,hr⟩:=wb4 h;subst e1;subst e2;subst e3;subst e4;subst e5;exact⟨rfl,hr⟩
theorem bkE_cut{a b:BK}{r s:List UInt8}(h:bkE a++r=bkE b++s):a=b/\r=s:=by
 obtain⟨a1,a2⟩:=a;obtain⟨b1,b2⟩:=b;unfold bkE at h;simp only[List.append_assoc] at h;obtain⟨e1,h⟩:=wb4 h;obtain⟨e2,hr⟩:=wb4 h;subst e1;subst e2;exact⟨rfl,hr⟩
theorem wil{α:Type}{e:α->List UInt8}(hc:∀ {a b:α} {r s:List UInt8},e a++r=e b++s->a=b/\r=s):∀ {l k:List α} {r s:List UInt8},l.length=k.length->l.flatMap e++r=k.flatMap e++s->l=k/\r=s
 |[],[],_,_,_,h=>⟨rfl,h⟩
 |[],_::_,_,_,hl,_=>by simp at hl
 |_::_,[],_,_,hl,_=>by simp at hl
 |x::l,y::k,r,s,hl,h=>by
  rw[List.flatMap_cons,List.flatMap_cons,List.append_assoc,List.append_assoc] at h;obtain⟨e1,h⟩:=hc h;obtain⟨e2,h⟩:=wil hc (by simpa using hl) h;exact⟨by rw[e1,e2],h⟩
theorem rtE_cut{a b:RT}{r s:List UInt8}(h:rtE a++r=rtE b++s):a=b/\r=s:=by
 obtain⟨a1,a2,a3,a4,a5⟩:=a;obtain⟨b1,b2,b3,b4,b5⟩:=b;unfold rtE at h;simp only[List.append_assoc] at h;obtain⟨e1,h⟩:=wdg h;obtain⟨e2,h⟩:=wdg h;obtain⟨e3,h⟩:=wb4 h;obtain⟨e4,h⟩:=wb4 h;obtain⟨e5,h⟩:=wb4 h;obtain⟨e6,hr⟩:=wil (λh=>bkE_cut h) (by omega) h;subst e1;subst e2;subst e3;subst e4;subst e6;exact⟨rfl,hr⟩
theorem w30{f g:FL}(h:encF f=encF g)(hd:f.day=g.day):f=g:=by
 obtain⟨a1,a2,a3,a4,a5,a6,a7⟩:=f;obtain⟨b1,b2,b3,b4,b5,b6,b7⟩:=g;unfold encF at h;dsimp only at h hd;obtain⟨e1,h⟩:=wdg h;obtain⟨e2,h⟩:=wb4 h;obtain⟨e3,h⟩:=wb4 h;obtain⟨e4,h⟩:=wb4 h;obtain⟨e5,h⟩:=wil (λh=>mgE_cut h) (by omega) h;obtain⟨e6,h⟩:=wb4 h;obtain⟨e7,h⟩:=wil (λh=>rwE_cut h) (by omega) h;obtain⟨e8,h⟩:=wb4 h;have h:a7.flatMap rtE++[]=b7.flatMap rtE++[]:=by rw[List.append_nil,List.append_nil];exact h
 obtain⟨e9,_⟩:=wil (λh=>rtE_cut h) (by omega) h;subst e1;subst e2;subst e3;subst e5;subst e7;subst e9;subst hd;rfl
theorem memL{α:Type}{g:Nat->α}{n:Nat}{x:α}:x∈lst g n↔∃i,i<n/\g i=x:=by
 unfold lst;rw[List.mem_map]
 constructor
 ·rintro⟨i,hi,e⟩;exact⟨i,List.mem_range.1 hi,e⟩
 ·rintro⟨i,hi,e⟩;exact⟨i,List.mem_range.2 hi,e⟩
theorem nrm_set{ok:FL->Bool}{g:Nat->FL}{n:Nat}{x:FL}:x∈nrmL ok g n↔x∈lst g n/\ok x=true/\∀y,y∈lst g n->ok y=true->encF y=encF x->x.day<=y.day:=by
 rw[wg2]
 constructor
 ·rintro⟨i,b,rfl⟩;refine⟨memL.2 ⟨i,b.lt,rfl⟩,b.good,λy hy hok e=>?_⟩;obtain⟨k,hk,rfl⟩:=memL.1 hy;have:=b.least k hk hok e;omega
 ·rintro⟨hx,hok,hl⟩;obtain⟨i,hi,rfl⟩:=memL.1 hx;have hk:encF (g i)∈way ok g n:=wg5.2 ⟨i,hi,hok,rfl⟩;obtain⟨j,b,_⟩:=whk hk;have h1:=b.least i hi hok rfl;have h2:=hl (g j) (memL.2 ⟨j,b.lt,rfl⟩) b.good b.enc;exact⟨j,b,w30 b.enc (by omega)⟩
theorem lst_atF(L:List FL):lst (atF L) L.length=L:=by
 apply List.ext_getElem
 ·simp[lst]
 ·intro i h1 h2;simp[lst,atF,h2]
theorem wy2{ok:FL->Bool}{g:Nat->FL}{n:Nat}:nrmL ok (atF (nrmL ok g n)) (nrmL ok g n).length=nrmL ok g n:=by
 refine Asc.uniq wg0 (wig (lR7 _)) (wig (lR7 n)) λx=>?_;show x∈nrmL ok (atF (nrmL ok g n)) (nrmL ok g n).length↔x∈nrmL ok g n;rw[nrm_set,lst_atF]
 constructor
 ·rintro⟨h,_⟩;exact h
 ·intro h;exact⟨h,nrm_ok h,λy hy _ e=>by rw[nrm_enc hy h e];exact Int.le_refl _⟩
def knwL(ok:FL->Bool)(g:Nat->FL)(n:Nat)(d:Int):List FL:=(nrmL ok g n).filter λf=>decide (f.day<=d)
def edM(f:FL):MG:=⟨f.id,f.ver,0,⟨[],[],0,0,0,0,[]⟩,⟨[],[],0,[],0⟩⟩
def cfB(L:List FL)(i:Nat):Bool:=decide (1<numC (λj=>edM (atF L j)) (mk2 (edM (atF L i))) L.length)
def selK(q:Nat->Bool)(L:List FL):Nat->List FL
 |0=>[]
 |k+1=>bif q k then selK q L k++[atF L k] else selK q L k
theorem wpy{q:Nat->Bool}{L:List FL}{x:FL}:∀ {k},x∈selK q L k↔∃i,i<k/\q i=true/\atF L i=x
 |0=>by simp[selK]
 |k+1=>by
  rw[selK]
  cases h:q k with
  |true=>
   rw[cond_true,List.mem_append,List.mem_singleton,wpy (k:=k)]
   constructor
   ·rintro(⟨i,hi,h1,h2⟩ | rfl)
    ·exact⟨i,by omega,h1,h2⟩
    ·exact⟨k,by omega,h,rfl⟩
   ·rintro⟨i,hi,h1,h2⟩
    by_cases z:i=k
    ·subst z;exact .inr h2.symm
    ·exact .inl ⟨i,by omega,h1,h2⟩
  |false=>
   rw[cond_false,wpy (k:=k)]
   constructor
   ·rintro⟨i,hi,h1,h2⟩;exact⟨i,by omega,h1,h2⟩
   ·rintro⟨i,hi,h1,h2⟩
    by_cases z:i=k
    ·subst z;rw[h] at h1;cases h1
    ·exact⟨i,by omega,h1,h2⟩
theorem wjx(q:Nat->Bool)(L:List FL):∀k,(selK q L k).length<=k
 |0=>lR7 _
 |k+1=>by
  have ih:=wjx q L k;rw[selK]
  cases q k with
  |true=>rw[cond_true,lA7];show _+1<=_;omega
  |false=>rw[cond_false];omega
def badL(L:List FL):List FL:=selK (cfB L) L L.length
def wbo(L:List FL):List FL:=selK (λi=> !cfB L i) L L.length
theorem wu1{L:List FL}{x:FL}(h:x∈wbo L):x∈L:=by
 obtain⟨i,hi,_,rfl⟩:=wpy.1 h;exact weg hi
def nwF(G:List FL)(id:List UInt8):Nat->Int
 |0=>0
 |k+1=>bif !decide ((atF G k).kind=1) && decide ((atF G k).id=id) then max (nwF G id k) (atF G k).ver else nwF G id k
def vwB(G:List FL)(f:FL):Bool:= !(!decide (f.kind=1) && decide (f.ver<nwF G f.id G.length))
def wf3(G:List FL):List FL:=G.filter (vwB G)
def vwL(ok:FL->Bool)(g:Nat->FL)(n:Nat)(d:Int):List FL:=wf3 (wbo (knwL ok g n d))
def atB(L:List BK)(i:Nat):BK:=L.getD i ⟨0,0⟩
def lowB(bs:List BK):Nat->Int
 |0=>0
 |k+1=>(atB bs k).up
def bkOK(bs:List BK)(i:Nat):Bool:=decide (0<=(atB bs i).pr) && (decide ((atB bs i).pr<=1099511627776) && (bif decide (i+1=bs.length) then decide ((atB bs i).up=0) else decide (lowB bs i<(atB bs i).up) && decide ((atB bs i).up<=1099511627776)))
def bksB(bs:List BK):Nat->Bool
 |0=>true
 |k+1=>bksB bs k && bkOK bs k
def tfF(st:Int)(bs:List BK):Int:=bif !(decide (0<=st) && decide (st<=1099511627776)) then 140 else bif decide (bs.length<1) || decide (8<bs.length) then 141 else bif bksB bs bs.length then 0 else 141
def rtOK(t:RT):Bool:=wbg t.o t.p t.per && decide (tfF t.st t.bs=0)
def ctF(f:FL):Bool:=bif decide (f.kind=1) then decide (f.rs.length+f.ts.length=0) && (decide (f.ms.length<=400) && f.ms.all λm=>decide (msgF m=0))
 else bif decide (f.kind=2) then decide (f.ms.length+f.ts.length=0) && (decide (f.rs.length<=400) && f.rs.all rowF)
 else decide (f.ms.length+f.rs.length=0) && (decide (f.ts.length<=400) && f.ts.all rtOK)
def vinF(f:FL):Int:=bif !wa3 f.id then 150 else bif decide (f.ver<1) || decide (1000<f.ver) || (decide (f.kind=1) && !decide (f.ver=1)) then 151 else bif decide (f.day<0) || decide (182620<f.day) then 152
 else bif decide (f.kind<1) || decide (3<f.kind) then 153 else bif !ctF f then 154 else 0
def okV(f:FL):Bool:=decide (vinF f=0)
theorem wyx{f:FL}(h:okV f=true):wa3 f.id=true/\(1<=f.ver/\f.ver<=1000)/\(0<=f.day/\f.day<=182620)/\(1<=f.kind/\f.kind<=3)/\(f.kind=1->f.ver=1)/\ctF f=true:=by
 unfold okV vinF at h;rw[decide_eq_true_eq] at h
 cases h1:wa3 f.id with
 |false=>rw[h1] at h;exact absurd (show (150:Int)=0 from h) (by decide)
 |true=>
  rw[h1] at h
  cases h2:decide (f.ver<1) || decide (1000<f.ver) || (decide (f.kind=1) && !decide (f.ver=1)) with
  |true=>rw[h2] at h;exact absurd (show (151:Int)=0 from h) (by decide)
  |false=>
   rw[h2] at h
   cases h3:decide (f.day<0) || decide (182620<f.day) with
   |true=>rw[h3] at h;exact absurd (show (152:Int)=0 from h) (by decide)
   |false=>
    rw[h3] at h
    cases h4:decide (f.kind<1) || decide (3<f.kind) with
    |true=>rw[h4] at h;exact absurd (show (153:Int)=0 from h) (by decide)
    |false=>
     rw[h4] at h
     cases h5:ctF f with
     |false=>rw[h5] at h;exact absurd (show (154:Int)=0 from h) (by decide)
     |true=>
      simp only[Bool.or_eq_false_iff,Bool.and_eq_false_iff,decide_eq_false_iff_not,Bool.not_eq_false',decide_eq_true_eq] at h2 h3 h4;obtain⟨⟨a1,a2⟩,a3⟩:=h2;exact⟨rfl,⟨by omega,by omega⟩,⟨by omega,by omega⟩,⟨by omega,by omega⟩,λk=>a3.resolve_left (λz=>z k),rfl⟩
def we6:RT:=⟨[],[],0,0,[]⟩
def atT(L:List RT)(i:Nat):RT:=L.getD i we6
theorem atT_get{L:List RT}{i:Nat}(h:i<L.length):atT L i=L[i]:=by simp[atT,h]
theorem wwn{L:List RT}{i:Nat}(h:i<L.length):atT L i∈L:=by rw[atT_get h];exact List.getElem_mem h
def sameT(a b:RT):Bool:=decide (a.o=b.o) && (decide (a.p=b.p) && decide (a.per=b.per))
def devF(i:Int):List UInt8:=List.getD [[97],[98],[99]] i.toNat []
def whs:Spec
 |[.ptr 0 0],[.cells [.view sz n f,.int .i64 a] t]=>some (.str (devF (waa n (vInt f) a 3)),[(0,.cells [.view 1 n f,.q (a+1)] 27)],t=27/\sz=1/\f=wad (vInt f)/\(0<=a/\a<=4611686018427387000))
 |_,_=>none
structure VT.Made (x:VT):Prop where
 ok:visF x=true
 o:x.o.length<=2
def wn1:wci
 |[.ptr 0 0],[.cells [.view sz n f,.int .i64 a] t],R=>t=27/\sz=1/\f=wad (vInt f)/\(0<=a/\a<=4611686018427386000)/\
   ∀(x:VT) (a':Int),x.Made->(a<=a'/\a'<=a+7)->
   R (.agg [.str x.o,.str x.p,.q x.per,.q x.day,.q x.st,.q x.pr,.str x.rep]) [(0,.cells [.view 1 n f,.q a'] 27)]
 |_,_,_=>False
structure MG.Made (m:MG):Prop where
 ok:msgF m=0
 dev:m.dev.length<=1
 o:m.v.o.length<=2
 o':m.d.o.length<=2
 dd:m.d.dev.length<=1
def whx:wci
 |[.ptr 0 0],[.cells [.view sz n f,.int .i64 a] t],R=>t=27/\sz=1/\f=wad (vInt f)/\(0<=a/\a<=4611686018427385000)/\
   ∀(m:MG) (a':Int),m.Made->(a<=a'/\a'<=a+10)->
   R (.agg [.str m.dev,.q m.seq,.q m.kind,.str m.v.o,.str m.v.p,.q m.v.per,.q m.v.day,.q m.v.st,.q m.v.pr,.str m.v.rep,.str m.d.o,.str m.d.p,.q m.d.per,.str m.d.dev,.q m.d.num]) [(0,.cells [.view 1 n f,.q a'] 27)]
 |_,_,_=>False
theorem idF4:∀i,i<4->¬ idF 4=idF (i:Nat):=by decide+kernel
theorem wle:∀i,i<3->wa3 (List.getD [[97],[98],[99]] i [])=true/\(List.getD [[97],[98],[99]] i ([]:List UInt8)).length<=1:=by decide+kernel
def wek:Spec
 |[.str o,.str p,.int .i64 per],[]=>some (.bool (wbg o p per),[],o.length<4294967281)
 |_,_=>none
def wml:Spec
 |[.int .i64 p],[]=>some (.bool (decide (0<=p) && decide (p<=5999)),[],True)
 |_,_=>none
def wnm:Spec
 |[.agg [.str o,.str p,.int .i64 per,.str dev,.int .i64 num]],[]=>some (.bool (wbg o p per && (wa3 dev && numF num)),[],o.length<4294967281/\dev.length<4294967281)
 |_,_=>none
structure MgS where
 c:Nat
 g:Nat->MG
 a:Int
def MG.put(g:Nat->MG)(k:Nat)(r:MG)(i:Nat):MG:=if i<k then g i else r
def wmw(n:Nat)(v:Nat->Int)(N:Int)(i:MgS):St:=⟨[(0,.ptr 0 0),(5,.own 1 i.c),(9,.q N),(10,.q i.c)],
 [(0,.cells [.view 1 n (wad v),.q i.a] 27),(1,.row 40 15 i.c (wae i.g) false)],2,[]⟩
def wov(n:Nat)(v:Nat->Int)(a N:Int):waq:=λst Q=>canonIs te 1 [0,5,9,10] (ownNil 5 40 15 st) (wmw n v N ⟨0,λ_=>default,a⟩)/\(0<=N/\N<=100)/\(0<=a/\a<=4611686018427375000)/\
 ∀i:MgS,i.c=N.toNat->(a<=i.a/\i.a<=a+10 * i.c)->(∀j,j<i.c->(i.g j).Made)->Q (.exit 0) ⟨[(5,.own 1 i.c)],[(0,.cells [.view 1 n (wad v),.q i.a] 27),(1,.row 40 15 i.c (wae i.g) false)],2,[]⟩
def wn6:wci
 |[.ptr 0 0,.int .i64 most],[.cells [.view sz n f,.int .i64 a] t],R=>t=27/\sz=1/\f=wad (vInt f)/\(0<=a/\a<=4611686018427370000)/\(0<=most/\most<=90)/\
   ∀(c:Nat) (g:Nat->MG) (a':Int),c<=most.toNat->(a<=a'/\a'<=a+1000)->(∀j,j<c->(g j).Made)->
   R (.own 1 c) [(0,.cells [.view 1 n f,.q a'] 27),(1,.row 40 15 c (wae g) false)]
 |_,_,_=>False
def cutM(g:Nat->MG)(i:Nat):MG:=⟨(g i).dev.take 30,(g i).seq,(g i).kind,⟨(g i).v.o.take 30,(g i).v.p.take 30,(g i).v.per,(g i).v.day,(g i).v.st,(g i).v.pr,(g i).v.rep.take 30⟩,⟨(g i).d.o.take 30,(g i).d.p.take 30,(g i).d.per,(g i).d.dev.take 30,(g i).d.num⟩⟩
theorem wd4{α:Type}(L:List α)(d:α):lst (λi=>L.getD i d) L.length=L:=by
 apply List.ext_getElem?;intro i;unfold lst;rw[List.getElem?_map]
 rcases Nat.lt_or_ge i L.length with h | h
 ·rw[List.getElem?_range h,Option.map_some,List.getElem?_eq_getElem h];simp[h]
 ·rw[List.getElem?_eq_none (by simpa using h),List.getElem?_eq_none h];rfl
def was(g:Nat->BK)(i:Nat):List AV:=[.q (g i).up,.q (g i).pr]
def bkOf(f:Nat->List AV)(i:Nat):BK:=match f i with
 |[.int .i64 u,.int .i64 p]=>⟨u,p⟩
 |_=>⟨0,0⟩
def wag(g:Nat->RT)(i:Nat):List AV:=[.str (g i).o,.str (g i).p,.q (g i).per,.q (g i).st,.view 2 (g i).bs.length (was (atB (g i).bs))]
def rtOf(f:Nat->List AV)(i:Nat):RT:=match f i with
 |[.str o,.str p,.int .i64 per,.int .i64 st,.view _ n h]=>⟨o,p,per,st,lst (bkOf h) n⟩
 |_=>we6
def wac(g:Nat->FL)(i:Nat):List AV:=[.str (g i).id,.q (g i).ver,.q (g i).day,.q (g i).kind,.view 15 (g i).ms.length (wae (atM (g i).ms)),.view 5 (g i).rs.length (wah (atR (g i).rs)),.view 5 (g i).ts.length (wag (atT (g i).ts))]
def flV(id:List UInt8)(ver day kind:Int)(nm:Nat)(fm:Nat->List AV)(nr:Nat)(fr:Nat->List AV)(nt:Nat)(ft:Nat->List AV):FL:=⟨id,ver,day,kind,lst (mgOf fm) nm,lst (rwOf fr) nr,lst (rtOf ft) nt⟩
def flOf(f:Nat->List AV)(i:Nat):FL:=match f i with
 |[.str id,.int .i64 ver,.int .i64 day,.int .i64 kind,.view _ nm fm,.view _ nr fr,.view _ nt ft]=>flV id ver day kind nm fm nr fr nt ft
 |_=>wde
theorem whh(L:List BK):lst (bkOf (was (atB L))) L.length=L:=wd4 L _
theorem wj0(g:Nat->RT):rtOf (wag g)=g:=by
 funext i;show (⟨(g i).o,(g i).p,(g i).per,(g i).st,lst (bkOf (was (atB (g i).bs))) (g i).bs.length⟩:RT)=g i;rw[whh]
theorem wue(L:List MG):lst (mgOf (wae (atM L))) L.length=L:=wd4 L _
theorem ws5(L:List RW):lst (rwOf (wah (atR L))) L.length=L:=wd4 L _
theorem wtc(L:List RT):lst (rtOf (wag (atT L))) L.length=L:=by rw[wj0];exact wd4 L _
theorem wcg(f:FL):flV f.id f.ver f.day f.kind f.ms.length (wae (atM f.ms)) f.rs.length (wah (atR f.rs)) f.ts.length (wag (atT f.ts))=f:=by
 unfold flV;rw[wue,ws5,wtc]
theorem wea(g:Nat->FL):flOf (wac g)=g:=by
 funext i;exact wcg (g i)
structure FlC (nm:Nat) (fm:Nat->List AV) (nr:Nat) (fr:Nat->List AV) (nt:Nat) (ft:Nat->List AV):Prop where
 m:fm=wae (atM (lst (mgOf fm) nm))
 r:fr=wah (atR (lst (rwOf fr) nr))
 t:ft=wag (atT (lst (rtOf ft) nt))
theorem wcl(f:FL):FlC f.ms.length (wae (atM f.ms)) f.rs.length (wah (atR f.rs)) f.ts.length (wag (atT f.ts)):=⟨by rw[wue],by rw[ws5],by rw[wtc]⟩
def wnq:Spec
 |[.view 2 n f],[]=>some (.view 2 n f,[],n<=100000/\∀i,i<n->nrefL (f i)=true)
 |_,_=>none
def whw:Spec
 |[.view 15 n f],[]=>some (.view 15 n f,[],n<=100000/\∀i,i<n->nrefL (f i)=true)
 |_,_=>none
def whu:Spec
 |[.view 5 n f],[]=>some (.view 5 n f,[],n<=100000/\∀i,i<n->nrefL (f i)=true)
 |_,_=>none
def whv:Spec
 |[.view 5 0 f],[]=>some (.view 5 0 f,[],True)
 |[.view 5 (n+1) f],[]=>some (.own 0 (n+1),[(0,.row 97 5 (n+1) f false)],n+1<=100000/\∀i,i<n+1->nrefL (f i)=true)
 |_,_=>none
def wbb(F:FL):List AV:=[.str F.id,.q F.ver,.q F.day,.q F.kind,.view 15 F.ms.length (wae (atM F.ms)),.view 5 F.rs.length (wah (atR F.rs)),.view 5 F.ts.length (wag (atT F.ts))]
def S_kc(F:FL)(k:Nat):St:=⟨[(1,.ptr 0 0),(2,.ptr 1 0),(17,.own 2 F.ts.length),(18,.q F.ts.length),(19,.q k)],
 [(0,.cells [.str F.id,.q F.ver,.q F.day,.q F.kind,.view 15 F.ms.length (wae (atM F.ms)),.view 5 F.rs.length (wah (atR F.rs)),.own 2 F.ts.length] 49),(1,.cells [.str [],.q 0,.q 0,.q 0,.nil,.nil,.nil] 49),
  (2,.row 97 5 F.ts.length (wag (atT F.ts)) false)],3,[]⟩
def L_kc(F:FL):waq:=λst Q=>canonIs te 0 [1,2,17,18,19] st (S_kc F 0)/\F.ts.length<=1000/\(∀t∈F.ts,t.bs.length<=1000)/\Q (.exit 0) ⟨[(1,.ptr 0 0),(2,.ptr 1 0)],[(0,.cells [.str F.id,.q F.ver,.q F.day,.q F.kind,.view 15 F.ms.length (wae (atM F.ms)),.view 5 F.rs.length (wah (atR F.rs)),.own 2 F.ts.length] 49),(1,.cells [.str [],.q 0,.q 0,.q 0,.nil,.nil,.nil] 49),
  (2,.row 97 5 F.ts.length (wag (atT F.ts)) false)],3,[]⟩
end Go.Eng
namespace Go.Eng
open Go.Lib
def digT(u:Nat):List UInt8:=if u=0 then [] else decDigits u
theorem w36{u:Nat}(h:u≠0):digT u=digT (u / 10)++[UInt8.ofNat (48+u % 10)]:=by
 unfold digT;rw[if_neg h,decDigits]
 by_cases q:u<10
 ·rw[dif_pos q,if_pos (show u / 10=0 by omega),Nat.mod_eq_of_lt q];rfl
 ·rw[dif_neg q,if_neg (show ¬ u / 10=0 by omega)]
theorem wuu{n:Int}(h:n≠0):itoa n=bif decide (n<0) then 45::digT n.natAbs else digT n.natAbs:=by
 unfold itoa digT;rw[if_neg (show ¬ n.natAbs=0 by omega)]
 by_cases q:n<0
 ·rw[if_pos q,decide_eq_true q];rfl
 ·rw[if_neg q,decide_eq_false q,show n.natAbs=n.toNat by omega];rfl
theorem w2z:itoa 0=[48]:=by
 unfold itoa;rw[if_neg (by decide),decDigits];rfl
theorem w35{m:Int}(h:m≠0):digT m.natAbs=digT (Int.tdiv m 10).natAbs++[UInt8.ofNat (48+(Int.tmod m 10).natAbs)]:=by
 have e1:(Int.tdiv m 10).natAbs=m.natAbs / 10:=by rw[Int.natAbs_tdiv];rfl
 have e2:(Int.tmod m 10).natAbs=m.natAbs % 10:=by rw[Int.natAbs_tmod];rfl
 rw[e1,e2];exact w36 (by omega)
theorem w21 (n : Int) (h : -9223372036854775808 ≤ n ∧ n ≤ 9223372036854775807) : (itoa n).length ≤ 20 := by
  have dl : ∀ (k u : Nat), u < 10 ^ (k + 1) → (decDigits u).length ≤ k + 1 := by
    intro k
    induction k with
    | zero => intro u hu; rw [decDigits, dif_pos (by simpa using hu)]; simp
    | succ k ih =>
      intro u hu
      rw [decDigits]
      by_cases q : u < 10
      · rw [dif_pos q]; simp
      · rw [dif_neg q, lA7]
        have := ih (u / 10) (by rw [Nat.pow_succ] at hu; omega)
        simp; omega
  unfold itoa
  by_cases q : n < 0
  · rw [if_pos q, List.length_cons]
    have := dl 18 n.natAbs (by have : (10 : Nat) ^ 19 = 10000000000000000000 := by decide
                               omega)
    omega
  · rw [if_neg q]
    have := dl 18 n.toNat (by have : (10 : Nat) ^ 19 = 10000000000000000000 := by decide
                              omega)
    omega
end Go.Eng
namespace Go.Eng
def whn:Spec
 |[.int .i64 n],[]=>some (.bool (decide (0<=n) && decide (n<=1099511627776)),[],True)
 |_,_=>none
def S_tv(st:Int)(bs:List BK)(k:Nat):St:=⟨[(1,.ptr 0 0),(3,.q (lowB bs k)),(22,.view 2 bs.length (was (atB bs))),(23,.q bs.length),(24,.q k)],[(0,.cells [.q st,.view 2 bs.length (was (atB bs))] 95)],1,[]⟩
def L_tv(st:Int)(bs:List BK):waq:=λS Q=>canonIs te 0 [1,3,22,23,24] S (S_tv st bs 0)/\bs.length<=8/\wab (bksB bs bs.length) (Q (.exit 0) ⟨[],[],0,[]⟩) (Q .ret ⟨[(2,.q 141)],[],0,[]⟩)
def S_tw(st:Int)(bs:List BK)(k:Nat):St:=⟨[(1,.ptr 0 0),(3,.q (lowB bs k)),(25,.view 2 bs.length (was (atB bs))),(26,.q bs.length),(27,.q k)],[(0,.cells [.q st,.view 2 bs.length (was (atB bs))] 95)],1,[]⟩
def L_tw(st:Int)(bs:List BK):waq:=λS Q=>canonIs te 0 [1,3,25,26,27] S (S_tw st bs 0)/\bs.length<=8/\wab (bksB bs bs.length) (Q (.exit 0) ⟨[],[],0,[]⟩) (Q .ret ⟨[(2,.q 141)],[],0,[]⟩)
def wft:Spec
 |[.agg [.int .i64 st,.view 2 n f]],[]=>some (.q (tfF st (lst (bkOf f) n)),[],f=was (atB (lst (bkOf f) n)))
 |_,_=>none
def wl6:Spec
 |[.own 0 n],[.row _ 5 m f _]=>some (.q (svF (rwOf f) n),[],n=m/\n<=1000000/\(∀i,i<n->f i=wah (rwOf f) i)/\∀i,i<n->(rwOf f i).o.length<4294967281)
 |_,_=>none
def wfv:Spec
 |[.agg [.str o,.str p,.int .i64 per,.int .i64 st,.view 2 n f]],[]=>some (.bool (rtOK ⟨o,p,per,st,lst (bkOf f) n⟩),[],o.length<4294967281/\f=was (atB (lst (bkOf f) n)))
 |_,_=>none
def badM(m:MG):Bool:= !decide (msgF m=0)
def badT(t:RT):Bool:= !rtOK t
structure RT.Sm (t:RT):Prop where
 o:t.o.length<4294967281
structure FL.Sm (F:FL):Prop where
 id:F.id.length<4294967281
 m:F.ms.length<=1000/\∀m∈F.ms,m.Sm
 r:F.rs.length<=1000/\∀r∈F.rs,r.o.length<4294967281
 t:F.ts.length<=1000/\∀t∈F.ts,t.Sm
def S_k1:Spec
 |[.agg [.str dev,.int .i64 seq,.int .i64 kind,.str o,.str p,.int .i64 per,.int .i64 day,.int .i64 st,.int .i64 pr,.str rep,.str o',.str p',.int .i64 per',.str dev',.int .i64 num]],[]=>some (.bool (badM ⟨dev,seq,kind,⟨o,p,per,day,st,pr,rep⟩,⟨o',p',per',dev',num⟩⟩),[],dev.length<4294967281/\o.length<4294967281/\o'.length<4294967281/\dev'.length<4294967281)
 |_,_=>none
def S_k2:Spec
 |[.agg [.str o,.str p,.int .i64 per,.int .i64 st,.view 2 n f]],[]=>some (.bool (badT ⟨o,p,per,st,lst (bkOf f) n⟩),[],o.length<4294967281/\f=was (atB (lst (bkOf f) n)))
 |_,_=>none
def wnc:Spec
 |[.view 15 n f,.func 125 []],[]=>some (.q (ixB (λi=>badM (mgOf f i)) n),[],n<=1000000/\f=wae (mgOf f)/\∀i,i<n->(mgOf f i).Sm)
 |_,_=>none
def wna(g:Nat->MG)(n k:Nat):St:=⟨[(0,.view 15 n (wae g)),(1,.func 125 []),(7,.q n),(8,.q k)],[],0,[]⟩
def wo8(g:Nat->MG)(n:Nat):waq:=λst Q=>canonIs te 0 [0,1,7,8] st (wna g n 0)/\n<=1000000/\(∀i,i<n->(g i).Sm)/\
 wab (decide (fstB (λi=>badM (g i)) n<n)) (Q .ret ⟨[(4,.q (fstB (λi=>badM (g i)) n))],[],0,[]⟩) (Q (.exit 0) ⟨[],[],0,[]⟩)
def wns:Spec
 |[.view 15 n f,.func 125 []],[]=>some (.bool (decide (0<=ixB (λi=>badM (mgOf f i)) n)),[],n<=1000000/\f=wae (mgOf f)/\∀i,i<n->(mgOf f i).Sm)
 |_,_=>none
def wnb:Spec
 |[.view 5 n f,.func 127 []],[]=>some (.q (ixB (λi=>badT (rtOf f i)) n),[],n<=1000000/\f=wag (rtOf f)/\∀i,i<n->(rtOf f i).Sm)
 |_,_=>none
def wm9(g:Nat->RT)(n k:Nat):St:=⟨[(0,.view 5 n (wag g)),(1,.func 127 []),(7,.q n),(8,.q k)],[],0,[]⟩
def wo7(g:Nat->RT)(n:Nat):waq:=λst Q=>canonIs te 0 [0,1,7,8] st (wm9 g n 0)/\n<=1000000/\(∀i,i<n->(g i).Sm)/\
 wab (decide (fstB (λi=>badT (g i)) n<n)) (Q .ret ⟨[(4,.q (fstB (λi=>badT (g i)) n))],[],0,[]⟩) (Q (.exit 0) ⟨[],[],0,[]⟩)
def wnr:Spec
 |[.view 5 n f,.func 127 []],[]=>some (.bool (decide (0<=ixB (λi=>badT (rtOf f i)) n)),[],n<=1000000/\f=wag (rtOf f)/\∀i,i<n->(rtOf f i).Sm)
 |_,_=>none
def wno:Spec
 |[.agg [.str id,.int .i64 ver,.int .i64 day,.int .i64 kind,.view 15 nm fm,.view 5 nr fr,.view 5 nt ft]],[]=>some (.bool (ctF (flV id ver day kind nm fm nr fr nt ft)),[],FlC nm fm nr fr nt ft/\(flV id ver day kind nm fm nr fr nt ft).Sm)
 |_,_=>none
def weh:Spec
 |[.agg [.str id,.int .i64 ver,.int .i64 day,.int .i64 kind,.view 15 nm fm,.view 5 nr fr,.view 5 nt ft]],[]=>some (.q (vinF (flV id ver day kind nm fm nr fr nt ft)),[],FlC nm fm nr fr nt ft/\(flV id ver day kind nm fm nr fr nt ft).Sm)
 |_,_=>none
def S_w1(F:FL)(k:Nat):St:=⟨[(1,.ptr 0 0),(95,.view 15 F.ms.length (wae (atM F.ms))),(96,.q F.ms.length),(97,.q k)],[(0,.cells [.str F.id,.q F.ver,.q F.day,.q F.kind,.view 15 F.ms.length (wae (atM F.ms)),.view 5 F.rs.length (wah (atR F.rs)),.view 5 F.ts.length (wag (atT F.ts))] 49)],1,[]⟩
def L_w1(F:FL):waq:=λst Q=>canonIs te 0 [1,95,96,97] st (S_w1 F 0)/\F.Sm/\wab (F.ms.all λm=>decide (msgF m=0)) (Q (.exit 0) ⟨[(1,.ptr 0 0)],[(0,.cells [.str F.id,.q F.ver,.q F.day,.q F.kind,.view 15 F.ms.length (wae (atM F.ms)),.view 5 F.rs.length (wah (atR F.rs)),.view 5 F.ts.length (wag (atT F.ts))] 49)],1,[]⟩) (Q .ret ⟨[(2,.q 154)],[],0,[]⟩)
def S_w2(F:FL)(k:Nat):St:=⟨[(1,.ptr 0 0),(106,.view 5 F.rs.length (wah (atR F.rs))),(107,.q F.rs.length),(108,.q k)],[(0,.cells [.str F.id,.q F.ver,.q F.day,.q F.kind,.view 15 F.ms.length (wae (atM F.ms)),.view 5 F.rs.length (wah (atR F.rs)),.view 5 F.ts.length (wag (atT F.ts))] 49)],1,[]⟩
def L_w2(F:FL):waq:=λst Q=>canonIs te 0 [1,106,107,108] st (S_w2 F 0)/\F.Sm/\wab (F.rs.all rowF) (Q (.exit 2) ⟨[(1,.ptr 0 0)],[(0,.cells [.str F.id,.q F.ver,.q F.day,.q F.kind,.view 15 F.ms.length (wae (atM F.ms)),.view 5 F.rs.length (wah (atR F.rs)),.view 5 F.ts.length (wag (atT F.ts))] 49)],1,[]⟩) (Q .ret ⟨[(2,.q 154)],[],0,[]⟩)
def S_w3(F:FL)(k:Nat):St:=⟨[(117,.view 5 F.ts.length (wag (atT F.ts))),(118,.q F.ts.length),(119,.q k)],[],0,[]⟩
def L_w3(F:FL):waq:=λst Q=>canonIs te 0 [117,118,119] st (S_w3 F 0)/\F.Sm/\wab (F.ts.all rtOK) (Q (.exit 4) ⟨[],[],0,[]⟩) (Q .ret ⟨[(2,.q 154)],[],0,[]⟩)
def txF(g:Nat->List UInt8):Nat->List UInt8
 |0=>[]
 |k+1=>txF g k++txtE (g k)
def nuF(g:Nat->Int):Nat->List UInt8
 |0=>[]
 |k+1=>nuF g k++numE (g k)
def waz(g:Nat->List UInt8)(i:Nat):List AV:=[.str (g i)]
def stOf(f:Nat->List AV)(i:Nat):List UInt8:=wb3 ((f i).headD .any)
def wen:Spec
 |[.int .i64 n,.int .i64 10],[]=>some (.str (Go.Lib.itoa n),[],inR .i64 n)
 |_,_=>none
def wct:Spec
 |[.int .i64 n],[]=>some (.str (Go.Lib.itoa n),[],inR .i64 n)
 |_,_=>none
def S_cc:Spec
 |[.ptr 0 0],[.cells [.nilptr,.nil] t]=>some (.tuple [],[(0,.cells [.ptr 0 0,.nil] 111)],t=111)
 |[.ptr 0 0],[.cells [.ptr 0 0,.own 1 n] t,.row t8 1 m f false]=>some (.tuple [],[(0,.cells [.ptr 0 0,.own 1 n] 111),(1,.row t8 1 m f false)],t=111)
 |_,_=>none
def S_ws:Spec
 |[.ptr 0 0,.str s],[.cells [.nilptr,.nil] t]=>some (.tuple [.q s.length,.nilIface],[(0,.cells [.ptr 0 0,.own 1 s.length] 111),(1,.row 5 1 s.length (strG s) false)],t=111/\s.length<=1099511627776)
 |[.ptr 0 0,.str s],[.cells [.ptr 0 0,.own 1 n] t,.row t8 1 m f false]=>some (.tuple [.q s.length,.nilIface],[(0,.cells [.ptr 0 0,.own 2 (wao m f++s).length] 111),(2,.row 5 1 (wao m f++s).length (strG (wao m f++s)) false)],
   t=111/\t8=5/\n=m/\f=strG (wao m f)/\(wao m f++s).length<=1099511627776)
 |_,_=>none
def wnv:Spec
 |[.ptr 0 0],[.cells [.ptr 0 0,.own 1 n] t,.row t8 1 m f false]=>some (.str (wao m f),[(0,.cells [.ptr 0 0,.own 1 n] 111)],t=111/\t8=5/\n=m/\f=strG (wao m f)/\0<n/\n<=1099511627776)
 |_,_=>none
def S_text:Spec
 |[.ptr 0 0,.own 1 n],[.cells [.nilptr,.nil] t,.row ts 1 n' h false]=>some (.tuple [],[(0,.cells [.ptr 0 0,.own 2 (txF (stOf h) n).length] 111),(1,.row 9 1 n' h false),(2,.row 5 1 (txF (stOf h) n).length (strG (txF (stOf h) n)) false)],
   t=111/\ts=9/\n=1/\n'=1/\h 0=waz (stOf h) 0/\(txF (stOf h) n).length<=1099511627776)
 |[.ptr 0 0,.own 1 n],[.cells [.ptr 0 0,.own 2 c] t,.row ts 1 n' h false,.row t8 1 m f false]=>some (.tuple [],[(0,.cells [.ptr 0 0,.own 3 (wao m f++txF (stOf h) n).length] 111),(1,.row 9 1 n' h false),(3,.row 5 1 (wao m f++txF (stOf h) n).length (strG (wao m f++txF (stOf h) n)) false)],
   t=111/\t8=5/\ts=9/\c=m/\n=n'/\(1<=n/\n<=3)/\f=strG (wao m f)/\(∀i,i<n->h i=waz (stOf h) i)/\(wao m f++txF (stOf h) n).length<=1099511627776)
 |_,_=>none
def wwx:Spec
 |[.ptr 0 0,.own 1 n],[.cells [.ptr 0 0,.own 2 c] t,.row ts 1 n' h false,.row t8 1 m f false]=>some (.tuple [],[(0,.cells [.ptr 0 0,.own 3 (wao m f++nuF (vInt h) n).length] 111),(1,.row 2 1 n' h false),(3,.row 5 1 (wao m f++nuF (vInt h) n).length (strG (wao m f++nuF (vInt h) n)) false)],
   t=111/\t8=5/\ts=2/\c=m/\n=n'/\(1<=n/\n<=4)/\f=strG (wao m f)/\(∀i,i<n->h i=wad (vInt h) i)/\(∀i,i<n->inR .i64 (vInt h i))/\(wao m f++nuF (vInt h) n).length<=1099511627776)
 |_,_=>none
def wbk:wci
 |[.ptr 0 0,.own 1 n],[.cells [.nilptr,.nil] t,.row ts 1 n' h false],R=>(t=111/\ts=9/\n=1/\n'=1)/\h 0=waz (stOf h) 0/\(txF (stOf h) n).length<=1099511627776/\
   ∀L':List UInt8,L'=txF (stOf h) n->R (.tuple []) [(0,.cells [.ptr 0 0,.own 2 L'.length] 111),(1,.row 9 1 n' h false),(2,.row 5 1 L'.length (strG L') false)]
 |[.ptr 0 0,.own 1 n],[.cells [.ptr 0 0,.own 2 c] t,.row ts 1 n' h false,.row t8 1 m f false],R=>(t=111/\t8=5/\ts=9/\c=m/\n=n'/\(1<=n/\n<=3))/\∃L:List UInt8,(m=L.length/\f=strG L)/\
   (∀i,i<n->h i=waz (stOf h) i)/\(L++txF (stOf h) n).length<=1099511627776/\
   ∀L':List UInt8,L'=L++txF (stOf h) n->R (.tuple []) [(0,.cells [.ptr 0 0,.own 3 L'.length] 111),(1,.row 9 1 n' h false),(3,.row 5 1 L'.length (strG L') false)]
 |_,_,_=>False
def wbl:wci
 |[.ptr 0 0,.own 1 n],[.cells [.ptr 0 0,.own 2 c] t,.row ts 1 n' h false,.row t8 1 m f false],R=>(t=111/\t8=5/\ts=2/\c=m/\n=n'/\(1<=n/\n<=4))/\∃L:List UInt8,(m=L.length/\f=strG L)/\
   (∀i,i<n->h i=wad (vInt h) i)/\(∀i,i<n->inR .i64 (vInt h i))/\(L++nuF (vInt h) n).length<=1099511627776/\
   ∀L':List UInt8,L'=L++nuF (vInt h) n->R (.tuple []) [(0,.cells [.ptr 0 0,.own 3 L'.length] 111),(1,.row 2 1 n' h false),(3,.row 5 1 L'.length (strG L') false)]
 |_,_,_=>False
structure DcS where
 out:List UInt8
 m:Int
def S_dc(n:Int)(i:DcS):St:=⟨[(0,.q n),(3,.str i.out),(4,.q i.m)],[],0,[]⟩
def L_dc(n:Int):waq:=λst Q=>canonIs te 0 [0,3,4] st (S_dc n ⟨[],n⟩)/\inR .i64 n/\Q (.exit 0) ⟨[(0,.q n),(3,.str (digT n.natAbs))],[],0,[]⟩
def wl4(g:Nat->List UInt8)(n k:Nat):St:=⟨[(3,.str (txF g k)),(6,.own 0 n),(7,.q n),(8,.q k)],[(0,.row 9 1 n (waz g) false)],1,[]⟩
def woh(g:Nat->List UInt8)(n:Nat):waq:=λst Q=>canonIs te 1 [3,6,7,8] st (wl4 g n 0)/\n<=100/\(∀i,i<n->(g i).length<=1099511627776)/\
 Q (.exit 0) ⟨[(3,.str (txF g n))],[(0,.row 9 1 n (waz g) false)],1,[]⟩
def wdp:Spec
 |[.own 0 n],[.row ts 1 n' h false]=>some (.str (txF (stOf h) n),[(0,.row 9 1 n' h false)],ts=9/\n=n'/\n<=100/\(∀i,i<n->h i=waz (stOf h) i)/\∀i,i<n->(stOf h i).length<=1099511627776)
 |_,_=>none
def wmr(g:Nat->Int)(n k:Nat):St:=⟨[(3,.str (nuF g k)),(6,.own 0 n),(7,.q n),(8,.q k)],[(0,.row 2 1 n (wad g) false)],1,[]⟩
def wor(g:Nat->Int)(n:Nat):waq:=λst Q=>canonIs te 1 [3,6,7,8] st (wmr g n 0)/\n<=100/\(∀i,i<n->inR .i64 (g i))/\
 Q (.exit 0) ⟨[(3,.str (nuF g n))],[(0,.row 2 1 n (wad g) false)],1,[]⟩
def wdq:Spec
 |[.own 0 n],[.row ts 1 n' h false]=>some (.str (nuF (vInt h) n),[(0,.row 2 1 n' h false)],ts=2/\n=n'/\n<=100/\(∀i,i<n->h i=wad (vInt h) i)/\∀i,i<n->inR .i64 (vInt h i))
 |_,_=>none
end Go.Eng
