/- Encode: texts and numbers, the loops' states. -/
import Derived.Test.YtgcboligphndhaaGreatDoorXs
namespace Go.Eng
def wdg:FL:=⟨[],0,0,0,[],[],[]⟩
def atF(L:List FL)(i:Nat):FL:=L.getD i wdg
theorem whl{L:List FL}{i:Nat}(h:i<L.length):atF L i=L[i]:=by simp[atF,h]
theorem wd1{L:List FL}{i:Nat}(h:i<L.length):atF L i∈L:=by rw[whl h];exact List.getElem_mem h
theorem ascF_at{L:List FL}(h:Asc ordF L){i j:Nat}(hij:i<j)(hj:j<L.length):ordF (atF L i) (atF L j)<0:=by
 rw[whl (show i<L.length by omega),whl hj];exact List.pairwise_iff_getElem.1 h i j (by omega) hj hij
def wc3(ok:FL->Bool)(g:Nat->FL)(t:List UInt8):Nat->Option Nat
 |0=>none
 |n+1=>bif ok (g n) && decide (encF (g n)=t) then (match wc3 ok g t n with
   |none=>some n
   |some j=>bif decide ((g n).day<(g j).day) then some n else some j) else wc3 ok g t n
structure Best (ok:FL->Bool) (g:Nat->FL) (t:List UInt8) (n j:Nat):Prop where
 lt:j<n
 good:ok (g j)=true
 enc:encF (g j)=t
 least:∀k,k<n->ok (g k)=true->encF (g k)=t->(g j).day<(g k).day∨((g j).day=(g k).day/\j<=k)
theorem wjk(ok:FL->Bool)(g:Nat->FL)(t:List UInt8):∀n,(∀j,wc3 ok g t n=some j->Best ok g t n j)/\(wc3 ok g t n=none->∀k,k<n->ok (g k)=true->encF (g k)≠t)
 |0=>⟨(λj h=>by cases h),λ_ k hk=>absurd hk (nZ7 k)⟩
 |n+1=>by
  obtain⟨ih1,ih2⟩:=wjk ok g t n;rw[wc3]
  cases q:ok (g n) && decide (encF (g n)=t) with
  |false=>
   have no:ok (g n)=true->encF (g n)=t->False:=λa b=>by rw[a,decide_eq_true b] at q;cases q
   simp only[cond_false];refine⟨λj h=>?_,λh k hk hok e=>?_⟩
   ·have b:=ih1 j h;exact⟨by have:=b.lt;omega,b.good,b.enc,λk hk hok e=>by
     by_cases z:k=n
     ·subst z;exact(no hok e).elim
     ·exact b.least k (by omega) hok e⟩
   ·by_cases z:k=n
    ·subst z;exact no hok e
    ·exact ih2 h k (by omega) hok e
  |true=>
   rw[bA7,decide_eq_true_eq] at q;simp only[cond_true]
   cases b:wc3 ok g t n with
   |none=>
    refine⟨λj h=>?_,λh=>by cases h⟩;obtain rfl:=oJ7 h;exact⟨by omega,q.1,q.2,λk hk hok e=>by
     by_cases z:k=n
     ·subst z;exact .inr ⟨rfl,lR7 _⟩
     ·exact absurd e (ih2 b k (by omega) hok)⟩
   |some i=>
    have bi:=ih1 i b;have:=bi.lt
    by_cases d:(g n).day<(g i).day
    ·dsimp only
     rw[decide_eq_true d];refine⟨λj h=>?_,λh=>by cases h⟩;obtain rfl:=oJ7 h;exact⟨by omega,q.1,q.2,λk hk hok e=>by
      by_cases z:k=n
      ·subst z;exact .inr ⟨rfl,lR7 _⟩
      ·have:=bi.least k (by omega) hok e;omega⟩
    ·dsimp only
     rw[decide_eq_false d];refine⟨λj h=>?_,λh=>by cases h⟩;obtain rfl:=oJ7 h;exact⟨by omega,bi.good,bi.enc,λk hk hok e=>by
      by_cases z:k=n
      ·subst z;omega
      ·exact bi.least k (by omega) hok e⟩
theorem Best.uniq{ok:FL->Bool}{g:Nat->FL}{t:List UInt8}{n i j:Nat}(a:Best ok g t n i)(b:Best ok g t n j):i=j:=by
 have h1:=a.least j b.lt b.good b.enc;have h2:=b.least i a.lt a.good a.enc;omega
def kpS(ok:FL->Bool)(g:Nat->FL)(i:Nat):Nat->Bool
 |0=>true
 |k+1=>kpS ok g i k && !(!decide (k=i) && (ok (g k) && (decide (encF (g k)=encF (g i)) && (decide ((g k).day<(g i).day) || (decide ((g k).day=(g i).day) && decide (k<i))))))
theorem wvg{ok:FL->Bool}{g:Nat->FL}{i:Nat}:∀ {n},kpS ok g i n=true↔∀k,k<n->k≠i->ok (g k)=true->encF (g k)=encF (g i)->¬ ((g k).day<(g i).day∨((g k).day=(g i).day/\k<i))
 |0=>by simp[kpS]
 |n+1=>by
  rw[kpS,bA7,wvg (n:=n)]
  constructor
  ·rintro⟨h1,h2⟩ k hk hne hok e
   by_cases z:k=n
   ·subst z;intro q;rw[Bool.not_eq_true',decide_eq_false hne,hok,decide_eq_true e] at h2
    rcases q with q | ⟨q,r⟩
    ·rw[decide_eq_true q] at h2;simp at h2
    ·rw[decide_eq_true q,decide_eq_true r] at h2;simp at h2
   ·exact h1 k (by omega) hne hok e
  ·intro h;refine⟨λk hk=>h k (by omega),?_⟩
   by_cases z:n=i
   ·simp[z]
   ·by_cases z2:ok (g n)=true
    ·by_cases z3:encF (g n)=encF (g i)
     ·have:=h n (by omega) z z2 z3;rw[not_or,not_and] at this;rw[decide_eq_false this.1]
      by_cases z4:(g n).day=(g i).day
      ·rw[decide_eq_false (this.2 z4)];simp
      ·rw[decide_eq_false z4];simp
     ·rw[decide_eq_false z3];simp
    ·rw[Bool.not_eq_true] at z2;rw[z2];simp
theorem wvh{ok:FL->Bool}{g:Nat->FL}{n i:Nat}(hi:i<n)(hok:ok (g i)=true):kpS ok g i n=true↔Best ok g (encF (g i)) n i:=by
 rw[wvg]
 constructor
 ·intro h;refine⟨hi,hok,rfl,λk hk hk2 e=>?_⟩
  by_cases z:k=i
  ·subst z;exact .inr ⟨rfl,lR7 _⟩
  ·have:=h k hk z hk2 e;omega
 ·intro b k hk hne hk2 e;have:=b.least k hk hk2 e;omega
def kept(ok:FL->Bool)(g:Nat->FL)(n i:Nat):Bool:=ok (g i) && kpS ok g i n
theorem wky{ok:FL->Bool}{g:Nat->FL}{n i:Nat}(hi:i<n):kept ok g n i=true↔Best ok g (encF (g i)) n i:=by
 unfold kept;rw[bA7]
 constructor
 ·rintro⟨a,b⟩;exact(wvh hi a).1 b
 ·intro b;exact⟨b.good,(wvh hi b.good).2 b⟩
theorem w3q{ok:FL->Bool}{g:Nat->FL}{n i j:Nat}(hi:i<n)(hj:j<n)(a:kept ok g n i=true)(b:kept ok g n j=true)(e:encF (g i)=encF (g j)):i=j:=by
 have h1:=(wky hi).1 a;have h2:=(wky hj).1 b;rw[e] at h1;exact h1.uniq h2
def dnF(L:List FL)(m:FL):Nat->Nat
 |0=>0
 |a+1=>bif decide (ordF m (atF L a)<0) then dnF L m a else a+1
theorem wje(L:List FL)(m:FL):∀a,dnF L m a<=a
 |0=>lR7 _
 |a+1=>by
  rw[dnF]
  cases decide (ordF m (atF L a)<0) with
  |true=>have:=wje L m a;show dnF L m a<=a+1;omega
  |false=>exact lR7 _
theorem dnF_hi(L:List FL)(m:FL):∀a i,dnF L m a<=i->i<a->ordF m (atF L i)<0
 |0,i,_,h=>absurd h (nZ7 _)
 |a+1,i,h1,h2=>by
  rw[dnF] at h1
  by_cases q:ordF m (atF L a)<0
  ·rw[decide_eq_true q] at h1
   by_cases e:i=a
   ·rw[e];exact q
   ·exact dnF_hi L m a i h1 (by omega)
  ·rw[decide_eq_false q] at h1;have h1:a+1<=i:=h1;omega
theorem dnF_lo(L:List FL)(m:FL):∀a,dnF L m a=0∨¬ ordF m (atF L (dnF L m a - 1))<0
 |0=>.inl rfl
 |a+1=>by
  rw[dnF]
  by_cases q:ordF m (atF L a)<0
  ·rw[decide_eq_true q];exact dnF_lo L m a
  ·rw[decide_eq_false q];exact .inr q
def insF(L:List FL)(m:FL):List FL:=L.take (dnF L m L.length)++m::L.drop (dnF L m L.length)
theorem w3y{L:List FL}{m x:FL}:x∈insF L m↔x=m∨x∈L:=by
 unfold insF;rw[List.mem_append,List.mem_cons];have:x∈L↔x∈L.take (dnF L m L.length)∨x∈L.drop (dnF L m L.length):=by
  rw[← List.mem_append,List.take_append_drop]
 rw[this];grind
theorem w3z{L:List FL}{m:FL}(h:Asc ordF L)(hn:∀x∈L,encF x≠encF m):Asc ordF (insF L m):=by
 have hle:=wje L m L.length;unfold insF;refine Asc.insert (by rw[List.take_append_drop];exact h) (λy hy=>?_) (λy hy=>?_)
 ·obtain⟨i,hi,rfl⟩:=List.mem_iff_getElem.1 hy;rw[List.length_take] at hi;rw[List.getElem_take, ← whl (show i<L.length by omega)];have hlo:=(dnF_lo L m L.length).resolve_left (by omega);generalize dnF L m L.length=a at *;have ne:ordF m (atF L (a - 1))≠0:=λz=>hn _ (wd1 (by omega)) (wuc z).1.symm;have k:=wik.neg m (atF L (a - 1));have k':=wik.neg (atF L (a - 1)) m;have lt:ordF (atF L (a - 1)) m<0:=by omega
  by_cases z:i=a - 1
  ·rw[z];exact lt
  ·exact wik.lt_trans (ascF_at h (show i<a - 1 by omega) (by omega)) lt
 ·obtain⟨i,hi,rfl⟩:=List.mem_iff_getElem.1 hy;rw[List.length_drop] at hi;rw[List.getElem_drop, ← whl (by omega)];exact dnF_hi L m L.length _ (by omega) (by omega)
def nrmK(ok:FL->Bool)(g:Nat->FL)(n:Nat):Nat->List FL
 |0=>[]
 |k+1=>bif kept ok g n k then insF (nrmK ok g n k) (g k) else nrmK ok g n k
theorem wil{ok:FL->Bool}{g:Nat->FL}{n:Nat}{x:FL}:∀ {k},x∈nrmK ok g n k↔∃i,i<k/\kept ok g n i=true/\g i=x
 |0=>by simp[nrmK]
 |k+1=>by
  rw[nrmK]
  cases q:kept ok g n k with
  |true=>
   rw[cond_true,w3y,wil (k:=k)]
   constructor
   ·rintro(rfl | ⟨i,hi,h⟩)
    ·exact⟨k,by omega,q,rfl⟩
    ·exact⟨i,by omega,h⟩
   ·rintro⟨i,hi,h1,h2⟩
    by_cases z:i=k
    ·subst z;exact .inl h2.symm
    ·exact .inr ⟨i,by omega,h1,h2⟩
  |false=>
   rw[cond_false,wil (k:=k)]
   constructor
   ·rintro⟨i,hi,h⟩;exact⟨i,by omega,h⟩
   ·rintro⟨i,hi,h1,h2⟩
    by_cases z:i=k
    ·subst z;rw[q] at h1;cases h1
    ·exact⟨i,by omega,h1,h2⟩
theorem wqr{ok:FL->Bool}{g:Nat->FL}{n:Nat}:∀ {k},k<=n->Asc ordF (nrmK ok g n k)
 |0,_=>List.Pairwise.nil
 |k+1,hk=>by
  rw[nrmK]
  cases q:kept ok g n k with
  |false=>exact wqr (by omega)
  |true=>
   refine w3z (wqr (by omega)) λx hx e=>?_;obtain⟨i,hi,h1,rfl⟩:=wil.1 hx;have:=w3q (show i<n by omega) (show k<n by omega) h1 q e;omega
def nrmL(ok:FL->Bool)(g:Nat->FL)(n:Nat):List FL:=nrmK ok g n n
theorem wqp{ok:FL->Bool}{g:Nat->FL}{n:Nat}{x:FL}:x∈nrmL ok g n↔∃i,Best ok g (encF x) n i/\g i=x:=by
 unfold nrmL;rw[wil]
 constructor
 ·rintro⟨i,hi,h,rfl⟩;exact⟨i,(wky hi).1 h,rfl⟩
 ·rintro⟨i,h,rfl⟩;exact⟨i,h.lt,(wky h.lt).2 h,rfl⟩
theorem wzo{ok:FL->Bool}{g:Nat->FL}{n:Nat}{L:List FL}(h:Asc ordF L)(hm:∀x,x∈L↔∃i,Best ok g (encF x) n i/\g i=x):L=nrmL ok g n:=
 Asc.uniq wik h (wqr (lR7 n)) λx=>(hm x).trans wqp.symm
theorem nrm_ok{ok:FL->Bool}{g:Nat->FL}{n:Nat}{x:FL}(hx:x∈nrmL ok g n):ok x=true:=by
 obtain⟨i,hi,rfl⟩:=wqp.1 hx;exact hi.good
def wa1(ok:FL->Bool)(g:Nat->FL):Nat->List (List UInt8)
 |0=>[]
 |k+1=>bif ok (g k) && !decide (encF (g k)∈wa1 ok g k) then wa1 ok g k++[encF (g k)] else wa1 ok g k
theorem wit{ok:FL->Bool}{g:Nat->FL}{t:List UInt8}:∀ {k},t∈wa1 ok g k↔∃i,i<k/\ok (g i)=true/\encF (g i)=t
 |0=>by simp[wa1]
 |k+1=>by
  have ih:=wit (ok:=ok) (g:=g) (t:=t) (k:=k);rw[wa1]
  cases q:ok (g k) with
  |false=>
   rw[Bool.false_and,cond_false,ih]
   constructor
   ·rintro⟨i,hi,h⟩;exact⟨i,by omega,h⟩
   ·rintro⟨i,hi,h1,h2⟩
    by_cases z:i=k
    ·subst z;rw[q] at h1;cases h1
    ·exact⟨i,by omega,h1,h2⟩
  |true=>
   by_cases p:encF (g k)∈wa1 ok g k
   ·rw[decide_eq_true p];show t∈wa1 ok g k↔_;rw[ih]
    constructor
    ·rintro⟨i,hi,h⟩;exact⟨i,by omega,h⟩
    ·rintro⟨i,hi,h1,h2⟩
     by_cases z:i=k
     ·subst z;subst h2;exact ih.1 p
     ·exact⟨i,by omega,h1,h2⟩
   ·rw[decide_eq_false p];show t∈wa1 ok g k++[encF (g k)]↔_;rw[List.mem_append,List.mem_singleton,ih]
    constructor
    ·rintro(⟨i,hi,h⟩ | rfl)
     ·exact⟨i,by omega,h⟩
     ·exact⟨k,by omega,q,rfl⟩
    ·rintro⟨i,hi,h1,h2⟩
     by_cases z:i=k
     ·subst z;exact .inr h2.symm
     ·exact .inl ⟨i,by omega,h1,h2⟩
theorem wgh{ok:FL->Bool}{g:Nat->FL}:∀k,(wa1 ok g k).Nodup
 |0=>List.nodup_nil
 |k+1=>by
  rw[wa1]
  cases q:ok (g k) && !decide (encF (g k)∈wa1 ok g k) with
  |false=>exact wgh k
  |true=>
   rw[bA7,Bool.not_eq_true',decide_eq_false_iff_not] at q;show (wa1 ok g k++[encF (g k)]).Nodup;rw[List.nodup_append];refine⟨wgh k,by simp,λa ha b hb=>?_⟩;rw[List.mem_singleton] at hb;subst hb;intro e;subst e;exact q.2 ha
def wbg(ok:FL->Bool)(g:Nat->FL)(n:Nat)(t:List UInt8):FL:=match wc3 ok g t n with
 |some j=>g j
 |none=>wdg
theorem wjl{ok:FL->Bool}{g:Nat->FL}{n:Nat}{t:List UInt8}(h:t∈wa1 ok g n):∃j,Best ok g t n j/\wbg ok g n t=g j:=by
 obtain⟨i,hi,h1,h2⟩:=wit.1 h
 cases b:wc3 ok g t n with
 |none=>exact absurd h2 ((wjk ok g t n).2 b i hi h1)
 |some j=>exact⟨j,(wjk ok g t n).1 j b,by unfold wbg;rw[b]⟩
theorem wzp{ok:FL->Bool}{g:Nat->FL}{n:Nat}{K:List (List UInt8)}(hp:K.Perm (wa1 ok g n))(hs:K.Pairwise λa b=>¬ ordF (wbg ok g n b) (wbg ok g n a)<0):K.map (wbg ok g n)=nrmL ok g n:=by
 have mem:∀t,t∈K->t∈wa1 ok g n:=λt h=>hp.mem_iff.1 h;have enc:∀t,t∈K->encF (wbg ok g n t)=t:=λt h=>by
  obtain⟨j,b,e⟩:=wjl (mem t h);rw[e];exact b.enc
 apply wzo
 ·refine Asc.of_sorted (by rw[List.pairwise_map];exact hs) wik ?_;rw[List.pairwise_map];have nd:K.Nodup:=hp.nodup_iff.2 (wgh n);refine nd.imp_of_mem λ{a b} ha hb hne z=>hne ?_;have:=(wuc z).1;rw[enc a ha,enc b hb] at this;exact this
 ·intro x;rw[List.mem_map]
  constructor
  ·rintro⟨t,ht,rfl⟩;obtain⟨j,b,e⟩:=wjl (mem t ht);rw[enc t ht];exact⟨j,b,e.symm⟩
  ·rintro⟨i,b,rfl⟩;have hk:encF (g i)∈wa1 ok g n:=wit.2 ⟨i,b.lt,b.good,rfl⟩;obtain⟨j,b',e⟩:=wjl hk;exact⟨encF (g i),hp.mem_iff.2 hk,by rw[e,b'.uniq b]⟩
def knwL(ok:FL->Bool)(g:Nat->FL)(n:Nat)(d:Int):List FL:=(nrmL ok g n).filter λf=>decide (f.day<=d)
def edM(f:FL):MG:=⟨f.id,f.ver,0,⟨[],[],0,0,0,0,[]⟩,⟨[],[],0,[],0⟩⟩
def wfg(a b:FL):Bool:=decide (a.id=b.id) && decide (a.ver=b.ver)
theorem wqe{a b:FL}:wfg a b=true↔mk2 (edM a)=mk2 (edM b):=by simp[wfg,mk2,edM]
def cfB(L:List FL)(i:Nat):Bool:=decide (1<numC (λj=>edM (atF L j)) (mk2 (edM (atF L i))) L.length)
def conS(L:List FL)(i:Nat):Nat->Bool
 |0=>false
 |k+1=>conS L i k || (!decide (k=i) && wfg (atF L k) (atF L i))
theorem wwv{L:List FL}{i:Nat}:∀ {n},conS L i n=true↔∃k,k<n/\k≠i/\wfg (atF L k) (atF L i)=true
 |0=>by simp[conS]
 |n+1=>by
  rw[conS,Bool.or_eq_true,wwv (n:=n),bA7,Bool.not_eq_true',decide_eq_false_iff_not]
  constructor
  ·rintro(⟨k,hk,h⟩ | ⟨h1,h2⟩)
   ·exact⟨k,by omega,h⟩
   ·exact⟨n,by omega,h1,h2⟩
  ·rintro⟨k,hk,h1,h2⟩
   by_cases z:k=n
   ·subst z;exact .inr ⟨h1,h2⟩
   ·exact .inl ⟨k,by omega,h1,h2⟩
theorem conS_cf{L:List FL}{i:Nat}(hi:i<L.length):conS L i L.length=cfB L i:=by
 unfold cfB;rw[Bool.eq_iff_iff,wwv,decide_eq_true_eq,wul]
 constructor
 ·rintro⟨k,hk,hne,e⟩;have e:=wqe.1 e
  by_cases z:k<i
  ·exact⟨k,i,z,hi,e,rfl⟩
  ·exact⟨i,k,by omega,hk,rfl,e⟩
 ·rintro⟨a,b,hab,hb,e1,e2⟩
  by_cases z:a=i
  ·exact⟨b,hb,by omega,wqe.2 e2⟩
  ·exact⟨a,by omega,z,wqe.2 e1⟩
def selK(q:Nat->Bool)(L:List FL):Nat->List FL
 |0=>[]
 |k+1=>bif q k then selK q L k++[atF L k] else selK q L k
theorem wj5{q:Nat->Bool}{L:List FL}{x:FL}:∀ {k},x∈selK q L k↔∃i,i<k/\q i=true/\atF L i=x
 |0=>by simp[selK]
 |k+1=>by
  rw[selK]
  cases h:q k with
  |true=>
   rw[cond_true,List.mem_append,List.mem_singleton,wj5 (k:=k)]
   constructor
   ·rintro(⟨i,hi,h1,h2⟩ | rfl)
    ·exact⟨i,by omega,h1,h2⟩
    ·exact⟨k,by omega,h,rfl⟩
   ·rintro⟨i,hi,h1,h2⟩
    by_cases z:i=k
    ·subst z;exact .inr h2.symm
    ·exact .inl ⟨i,by omega,h1,h2⟩
  |false=>
   rw[cond_false,wj5 (k:=k)]
   constructor
   ·rintro⟨i,hi,h1,h2⟩;exact⟨i,by omega,h1,h2⟩
   ·rintro⟨i,hi,h1,h2⟩
    by_cases z:i=k
    ·subst z;rw[h] at h1;cases h1
    ·exact⟨i,by omega,h1,h2⟩
theorem we1(q:Nat->Bool)(L:List FL):∀k,(selK q L k).length<=k
 |0=>lR7 _
 |k+1=>by
  have ih:=we1 q L k;rw[selK]
  cases q k with
  |true=>rw[cond_true,lA7];show _+1<=_;omega
  |false=>rw[cond_false];omega
theorem wtm{q r:Nat->Bool}{L:List FL}:∀ {k},(∀i,i<k->q i=r i)->selK q L k=selK r L k
 |0,_=>rfl
 |k+1,h=>by rw[selK,selK,h k (by omega),wtm (k:=k) λi hi=>h i (by omega)]
def badL(L:List FL):List FL:=selK (cfB L) L L.length
def wa6(L:List FL):List FL:=selK (λi=> !cfB L i) L L.length
theorem wk5{L:List FL}{x:FL}(h:x∈wa6 L):x∈L:=by
 obtain⟨i,hi,_,rfl⟩:=wj5.1 h;exact wd1 hi
def nwF(G:List FL)(id:List UInt8):Nat->Int
 |0=>0
 |k+1=>bif !decide ((atF G k).kind=1) && decide ((atF G k).id=id) then max (nwF G id k) (atF G k).ver else nwF G id k
theorem nwF_lt{G:List FL}{id:List UInt8}{v:Int}(hv:0<=v):∀ {n},v<nwF G id n↔∃k,k<n/\(atF G k).kind≠1/\(atF G k).id=id/\v<(atF G k).ver
 |0=>by simp[nwF];omega
 |n+1=>by
  have ih:=nwF_lt (G:=G) (id:=id) hv (n:=n);rw[nwF]
  cases h: !decide ((atF G n).kind=1) && decide ((atF G n).id=id) with
  |true=>
   rw[bA7,Bool.not_eq_true',decide_eq_false_iff_not,decide_eq_true_eq] at h;rw[cond_true];have e:v<max (nwF G id n) (atF G n).ver↔v<nwF G id n∨v<(atF G n).ver:=by omega
   rw[e,ih]
   constructor
   ·rintro(⟨k,hk,q⟩ | q)
    ·exact⟨k,by omega,q⟩
    ·exact⟨n,by omega,h.1,h.2,q⟩
   ·rintro⟨k,hk,q1,q2,q3⟩
    by_cases z:k=n
    ·subst z;exact .inr q3
    ·exact .inl ⟨k,by omega,q1,q2,q3⟩
  |false=>
   rw[cond_false,ih]
   constructor
   ·rintro⟨k,hk,q⟩;exact⟨k,by omega,q⟩
   ·rintro⟨k,hk,q1,q2,q3⟩
    by_cases z:k=n
    ·subst z;rw[decide_eq_false q1,decide_eq_true q2] at h
     cases h
    ·exact⟨k,by omega,q1,q2,q3⟩
def nwS(G:List FL)(f:FL):Nat->Bool
 |0=>true
 |k+1=>nwS G f k && !(!decide ((atF G k).kind=1) && (decide ((atF G k).id=f.id) && decide (f.ver<(atF G k).ver)))
theorem wuh{G:List FL}{f:FL}:∀ {n},nwS G f n=true↔¬ ∃k,k<n/\(atF G k).kind≠1/\(atF G k).id=f.id/\f.ver<(atF G k).ver
 |0=>by simp[nwS]
 |n+1=>by
  rw[nwS,bA7,wuh (n:=n),Bool.not_eq_true']
  constructor
  ·rintro⟨h1,h2⟩ ⟨k,hk,q1,q2,q3⟩
   by_cases z:k=n
   ·subst z;rw[decide_eq_false q1,decide_eq_true q2,decide_eq_true q3] at h2
    cases h2
   ·exact h1 ⟨k,by omega,q1,q2,q3⟩
  ·intro h;refine⟨λ⟨k,hk,q⟩=>h ⟨k,by omega,q⟩,?_⟩
   by_cases z1:(atF G n).kind=1
   ·rw[decide_eq_true z1];rfl
   ·by_cases z2:(atF G n).id=f.id
    ·by_cases z3:f.ver<(atF G n).ver
     ·exact absurd ⟨n,by omega,z1,z2,z3⟩ h
     ·rw[decide_eq_false z3];simp
    ·rw[decide_eq_false z2];simp
def vwB(G:List FL)(f:FL):Bool:= !(!decide (f.kind=1) && decide (f.ver<nwF G f.id G.length))
theorem vwB_ref{G:List FL}{f:FL}(hv:0<=f.ver):(nwS G f G.length || decide (f.kind=1))=vwB G f:=by
 unfold vwB
 by_cases z:f.kind=1
 ·rw[decide_eq_true z];simp
 ·rw[decide_eq_false z];have:=nwF_lt (G:=G) (id:=f.id) hv (n:=G.length);rw[Bool.or_false,Bool.eq_iff_iff,wuh, ← this];simp
def wfc(G:List FL):List FL:=G.filter (vwB G)
def vwL(ok:FL->Bool)(g:Nat->FL)(n:Nat)(d:Int):List FL:=wfc (wa6 (knwL ok g n d))
def cfL(ok:FL->Bool)(g:Nat->FL)(n:Nat)(d:Int):List FL:=badL (knwL ok g n d)
def atB(L:List BK)(i:Nat):BK:=L.getD i ⟨0,0⟩
def lowB(bs:List BK):Nat->Int
 |0=>0
 |k+1=>(atB bs k).up
def bkOK(bs:List BK)(i:Nat):Bool:=decide (0<=(atB bs i).pr) && (decide ((atB bs i).pr<=1099511627776) && (bif decide (i+1=bs.length) then decide ((atB bs i).up=0) else decide (lowB bs i<(atB bs i).up) && decide ((atB bs i).up<=1099511627776)))
def bksB(bs:List BK):Nat->Bool
 |0=>true
 |k+1=>bksB bs k && bkOK bs k
def tfF(st:Int)(bs:List BK):Int:=bif !(decide (0<=st) && decide (st<=1099511627776)) then 140 else bif decide (bs.length<1) || decide (8<bs.length) then 141 else bif bksB bs bs.length then 0 else 141
def rtOK(t:RT):Bool:=wbh t.o t.p t.per && decide (tfF t.st t.bs=0)
def ctF(f:FL):Bool:=bif decide (f.kind=1) then decide (f.rs.length+f.ts.length=0) && (decide (f.ms.length<=400) && f.ms.all λm=>decide (msgF m=0))
 else bif decide (f.kind=2) then decide (f.ms.length+f.ts.length=0) && (decide (f.rs.length<=400) && f.rs.all rowF)
 else decide (f.ms.length+f.rs.length=0) && (decide (f.ts.length<=400) && f.ts.all rtOK)
def vinF(f:FL):Int:=bif !wa3 f.id then 150 else bif decide (f.ver<1) || decide (1000<f.ver) || (decide (f.kind=1) && !decide (f.ver=1)) then 151 else bif decide (f.day<0) || decide (182620<f.day) then 152
 else bif decide (f.kind<1) || decide (3<f.kind) then 153 else bif !ctF f then 154 else 0
def okV(f:FL):Bool:=decide (vinF f=0)
theorem wuf{f:FL}(h:okV f=true):wa3 f.id=true/\(1<=f.ver/\f.ver<=1000)/\(0<=f.day/\f.day<=182620)/\(1<=f.kind/\f.kind<=3)/\(f.kind=1->f.ver=1)/\ctF f=true:=by
 unfold okV vinF at h;rw[decide_eq_true_eq] at h
 cases h1:wa3 f.id with
 |false=>rw[h1] at h;exact absurd (show (150:Int)=0 from h) (by decide)
 |true=>
  rw[h1] at h
  cases h2:decide (f.ver<1) || decide (1000<f.ver) || (decide (f.kind=1) && !decide (f.ver=1)) with
  |true=>rw[h2] at h;exact absurd (show (151:Int)=0 from h) (by decide)
  |false=>
   rw[h2] at h
   cases h3:decide (f.day<0) || decide (182620<f.day) with
   |true=>rw[h3] at h;exact absurd (show (152:Int)=0 from h) (by decide)
   |false=>
    rw[h3] at h
    cases h4:decide (f.kind<1) || decide (3<f.kind) with
    |true=>rw[h4] at h;exact absurd (show (153:Int)=0 from h) (by decide)
    |false=>
     rw[h4] at h
     cases h5:ctF f with
     |false=>rw[h5] at h;exact absurd (show (154:Int)=0 from h) (by decide)
     |true=>
      simp only[Bool.or_eq_false_iff,Bool.and_eq_false_iff,decide_eq_false_iff_not,Bool.not_eq_false',decide_eq_true_eq] at h2 h3 h4;obtain⟨⟨a1,a2⟩,a3⟩:=h2;exact⟨rfl,⟨by omega,by omega⟩,⟨by omega,by omega⟩,⟨by omega,by omega⟩,λk=>a3.resolve_left (λz=>z k),rfl⟩
def we9:RT:=⟨[],[],0,0,[]⟩
def atT(L:List RT)(i:Nat):RT:=L.getD i we9
theorem atT_get{L:List RT}{i:Nat}(h:i<L.length):atT L i=L[i]:=by simp[atT,h]
theorem wxd{L:List RT}{i:Nat}(h:i<L.length):atT L i∈L:=by rw[atT_get h];exact List.getElem_mem h
def sameT(a b:RT):Bool:=decide (a.o=b.o) && (decide (a.p=b.p) && decide (a.per=b.per))
def devF(i:Int):List UInt8:=List.getD [[97],[98],[99]] i.toNat []
def whw:Spec
 |[.ptr 0 0],[.cells [.view sz n f,.int .i64 a] t]=>some (.str (devF (wac n (vInt f) a 3)),[(0,.cells [.view 1 n f,.q (a+1)] 27)],t=27/\sz=1/\f=wad (vInt f)/\(0<=a/\a<=4611686018427387000))
 |_,_=>none
structure VT.Made (x:VT):Prop where
 ok:visF x=true
 o:x.o.length<=2
def wn9:wcc
 |[.ptr 0 0],[.cells [.view sz n f,.int .i64 a] t],R=>t=27/\sz=1/\f=wad (vInt f)/\(0<=a/\a<=4611686018427386000)/\
   ∀(x:VT) (a':Int),x.Made->(a<=a'/\a'<=a+7)->
   R (.agg [.str x.o,.str x.p,.q x.per,.q x.day,.q x.st,.q x.pr,.str x.rep]) [(0,.cells [.view 1 n f,.q a'] 27)]
 |_,_,_=>False
structure MG.Made (m:MG):Prop where
 ok:msgF m=0
 dev:m.dev.length<=1
 o:m.v.o.length<=2
 o':m.d.o.length<=2
 dd:m.d.dev.length<=1
def wh1:wcc
 |[.ptr 0 0],[.cells [.view sz n f,.int .i64 a] t],R=>t=27/\sz=1/\f=wad (vInt f)/\(0<=a/\a<=4611686018427385000)/\
   ∀(m:MG) (a':Int),m.Made->(a<=a'/\a'<=a+10)->
   R (.agg [.str m.dev,.q m.seq,.q m.kind,.str m.v.o,.str m.v.p,.q m.v.per,.q m.v.day,.q m.v.st,.q m.v.pr,.str m.v.rep,.str m.d.o,.str m.d.p,.q m.d.per,.str m.d.dev,.q m.d.num]) [(0,.cells [.view 1 n f,.q a'] 27)]
 |_,_,_=>False
theorem idF4:∀i,i<4->¬ idF 4=idF (i:Nat):=by decide+kernel
theorem wlm:∀i,i<3->wa3 (List.getD [[97],[98],[99]] i [])=true/\(List.getD [[97],[98],[99]] i ([]:List UInt8)).length<=1:=by decide+kernel
def wel:Spec
 |[.str o,.str p,.int .i64 per],[]=>some (.bool (wbh o p per),[],o.length<4294967281)
 |_,_=>none
def wms:Spec
 |[.int .i64 p],[]=>some (.bool (decide (0<=p) && decide (p<=5999)),[],True)
 |_,_=>none
def wnu:Spec
 |[.agg [.str o,.str p,.int .i64 per,.str dev,.int .i64 num]],[]=>some (.bool (wbh o p per && (wa3 dev && numF num)),[],o.length<4294967281/\dev.length<4294967281)
 |_,_=>none
structure MgS where
 c:Nat
 g:Nat->MG
 a:Int
def MG.put(g:Nat->MG)(k:Nat)(r:MG)(i:Nat):MG:=if i<k then g i else r
def wm4(n:Nat)(v:Nat->Int)(N:Int)(i:MgS):St:=⟨[(0,.ptr 0 0),(5,.own 1 i.c),(9,.q N),(10,.q i.c)],
 [(0,.cells [.view 1 n (wad v),.q i.a] 27),(1,.row 40 15 i.c (waf i.g) false)],2,[]⟩
def wo5(n:Nat)(v:Nat->Int)(a N:Int):wao:=λst Q=>canonIs te 1 [0,5,9,10] (ownNil 5 40 15 st) (wm4 n v N ⟨0,λ_=>default,a⟩)/\(0<=N/\N<=100)/\(0<=a/\a<=4611686018427375000)/\
 ∀i:MgS,i.c=N.toNat->(a<=i.a/\i.a<=a+10 * i.c)->(∀j,j<i.c->(i.g j).Made)->Q (.exit 0) ⟨[(5,.own 1 i.c)],[(0,.cells [.view 1 n (wad v),.q i.a] 27),(1,.row 40 15 i.c (waf i.g) false)],2,[]⟩
def woe:wcc
 |[.ptr 0 0,.int .i64 most],[.cells [.view sz n f,.int .i64 a] t],R=>t=27/\sz=1/\f=wad (vInt f)/\(0<=a/\a<=4611686018427370000)/\(0<=most/\most<=90)/\
   ∀(c:Nat) (g:Nat->MG) (a':Int),c<=most.toNat->(a<=a'/\a'<=a+1000)->(∀j,j<c->(g j).Made)->
   R (.own 1 c) [(0,.cells [.view 1 n f,.q a'] 27),(1,.row 40 15 c (waf g) false)]
 |_,_,_=>False
def cutM(g:Nat->MG)(i:Nat):MG:=⟨(g i).dev.take 30,(g i).seq,(g i).kind,⟨(g i).v.o.take 30,(g i).v.p.take 30,(g i).v.per,(g i).v.day,(g i).v.st,(g i).v.pr,(g i).v.rep.take 30⟩,⟨(g i).d.o.take 30,(g i).d.p.take 30,(g i).d.per,(g i).d.dev.take 30,(g i).d.num⟩⟩
theorem wd7{α:Type}(L:List α)(d:α):lst (λi=>L.getD i d) L.length=L:=by
 apply List.ext_getElem?;intro i;unfold lst;rw[List.getElem?_map]
 rcases Nat.lt_or_ge i L.length with h | h
 ·rw[List.getElem?_range h,Option.map_some,List.getElem?_eq_getElem h];simp[h]
 ·rw[List.getElem?_eq_none (by simpa using h),List.getElem?_eq_none h];rfl
def was(g:Nat->BK)(i:Nat):List AV:=[.q (g i).up,.q (g i).pr]
def bkOf(f:Nat->List AV)(i:Nat):BK:=match f i with
 |[.int .i64 u,.int .i64 p]=>⟨u,p⟩
 |_=>⟨0,0⟩
def wag(g:Nat->RT)(i:Nat):List AV:=[.str (g i).o,.str (g i).p,.q (g i).per,.q (g i).st,.view 2 (g i).bs.length (was (atB (g i).bs))]
def rtOf(f:Nat->List AV)(i:Nat):RT:=match f i with
 |[.str o,.str p,.int .i64 per,.int .i64 st,.view _ n h]=>⟨o,p,per,st,lst (bkOf h) n⟩
 |_=>we9
def waa(g:Nat->FL)(i:Nat):List AV:=[.str (g i).id,.q (g i).ver,.q (g i).day,.q (g i).kind,.view 15 (g i).ms.length (waf (atM (g i).ms)),.view 5 (g i).rs.length (wah (atR (g i).rs)),.view 5 (g i).ts.length (wag (atT (g i).ts))]
def flV(id:List UInt8)(ver day kind:Int)(nm:Nat)(fm:Nat->List AV)(nr:Nat)(fr:Nat->List AV)(nt:Nat)(ft:Nat->List AV):FL:=⟨id,ver,day,kind,lst (mgOf fm) nm,lst (rwOf fr) nr,lst (rtOf ft) nt⟩
def flOf(f:Nat->List AV)(i:Nat):FL:=match f i with
 |[.str id,.int .i64 ver,.int .i64 day,.int .i64 kind,.view _ nm fm,.view _ nr fr,.view _ nt ft]=>flV id ver day kind nm fm nr fr nt ft
 |_=>wdg
theorem whi(L:List BK):lst (bkOf (was (atB L))) L.length=L:=wd7 L _
theorem wka(g:Nat->RT):rtOf (wag g)=g:=by
 funext i;show (⟨(g i).o,(g i).p,(g i).per,(g i).st,lst (bkOf (was (atB (g i).bs))) (g i).bs.length⟩:RT)=g i;rw[whi]
theorem wu5(L:List MG):lst (mgOf (waf (atM L))) L.length=L:=wd7 L _
theorem wts(L:List RW):lst (rwOf (wah (atR L))) L.length=L:=wd7 L _
theorem wt0(L:List RT):lst (rtOf (wag (atT L))) L.length=L:=by rw[wka];exact wd7 L _
theorem wch(f:FL):flV f.id f.ver f.day f.kind f.ms.length (waf (atM f.ms)) f.rs.length (wah (atR f.rs)) f.ts.length (wag (atT f.ts))=f:=by
 unfold flV;rw[wu5,wts,wt0]
theorem wcy(g:Nat->FL):flOf (waa g)=g:=by
 funext i;exact wch (g i)
structure FlC (nm:Nat) (fm:Nat->List AV) (nr:Nat) (fr:Nat->List AV) (nt:Nat) (ft:Nat->List AV):Prop where
 m:fm=waf (atM (lst (mgOf fm) nm))
 r:fr=wah (atR (lst (rwOf fr) nr))
 t:ft=wag (atT (lst (rtOf ft) nt))
theorem wcl(f:FL):FlC f.ms.length (waf (atM f.ms)) f.rs.length (wah (atR f.rs)) f.ts.length (wag (atT f.ts)):=⟨by rw[wu5],by rw[wts],by rw[wt0]⟩
def wny:Spec
 |[.view 2 n f],[]=>some (.view 2 n f,[],n<=100000/\∀i,i<n->nrefL (f i)=true)
 |_,_=>none
def wh0:Spec
 |[.view 15 n f],[]=>some (.view 15 n f,[],n<=100000/\∀i,i<n->nrefL (f i)=true)
 |_,_=>none
def why:Spec
 |[.view 5 n f],[]=>some (.view 5 n f,[],n<=100000/\∀i,i<n->nrefL (f i)=true)
 |_,_=>none
def whz:Spec
 |[.view 5 0 f],[]=>some (.view 5 0 f,[],True)
 |[.view 5 (n+1) f],[]=>some (.own 0 (n+1),[(0,.row 97 5 (n+1) f false)],n+1<=100000/\∀i,i<n+1->nrefL (f i)=true)
 |_,_=>none
def wbc(F:FL):List AV:=[.str F.id,.q F.ver,.q F.day,.q F.kind,.view 15 F.ms.length (waf (atM F.ms)),.view 5 F.rs.length (wah (atR F.rs)),.view 5 F.ts.length (wag (atT F.ts))]
def S_kc(F:FL)(k:Nat):St:=⟨[(1,.ptr 0 0),(2,.ptr 1 0),(17,.own 2 F.ts.length),(18,.q F.ts.length),(19,.q k)],
 [(0,.cells [.str F.id,.q F.ver,.q F.day,.q F.kind,.view 15 F.ms.length (waf (atM F.ms)),.view 5 F.rs.length (wah (atR F.rs)),.own 2 F.ts.length] 49),(1,.cells [.str [],.q 0,.q 0,.q 0,.nil,.nil,.nil] 49),
  (2,.row 97 5 F.ts.length (wag (atT F.ts)) false)],3,[]⟩
def L_kc(F:FL):wao:=λst Q=>canonIs te 0 [1,2,17,18,19] st (S_kc F 0)/\F.ts.length<=1000/\(∀t∈F.ts,t.bs.length<=1000)/\Q (.exit 0) ⟨[(1,.ptr 0 0),(2,.ptr 1 0)],[(0,.cells [.str F.id,.q F.ver,.q F.day,.q F.kind,.view 15 F.ms.length (waf (atM F.ms)),.view 5 F.rs.length (wah (atR F.rs)),.own 2 F.ts.length] 49),(1,.cells [.str [],.q 0,.q 0,.q 0,.nil,.nil,.nil] 49),
  (2,.row 97 5 F.ts.length (wag (atT F.ts)) false)],3,[]⟩
end Go.Eng
namespace Go.Eng
open Go.Lib
def digT(u:Nat):List UInt8:=if u=0 then [] else decDigits u
theorem w4x{u:Nat}(h:u≠0):digT u=digT (u / 10)++[UInt8.ofNat (48+u % 10)]:=by
 unfold digT;rw[if_neg h,decDigits]
 by_cases q:u<10
 ·rw[dif_pos q,if_pos (show u / 10=0 by omega),Nat.mod_eq_of_lt q];rfl
 ·rw[dif_neg q,if_neg (show ¬ u / 10=0 by omega)]
theorem wvj{n:Int}(h:n≠0):itoa n=bif decide (n<0) then 45::digT n.natAbs else digT n.natAbs:=by
 unfold itoa digT;rw[if_neg (show ¬ n.natAbs=0 by omega)]
 by_cases q:n<0
 ·rw[if_pos q,decide_eq_true q];rfl
 ·rw[if_neg q,decide_eq_false q,show n.natAbs=n.toNat by omega];rfl
theorem w3t:itoa 0=[48]:=by
 unfold itoa;rw[if_neg (by decide),decDigits];rfl
theorem w4w{m:Int}(h:m≠0):digT m.natAbs=digT (Int.tdiv m 10).natAbs++[UInt8.ofNat (48+(Int.tmod m 10).natAbs)]:=by
 have e1:(Int.tdiv m 10).natAbs=m.natAbs / 10:=by rw[Int.natAbs_tdiv];rfl
 have e2:(Int.tmod m 10).natAbs=m.natAbs % 10:=by rw[Int.natAbs_tmod];rfl
 rw[e1,e2];exact w4x (by omega)
theorem w3u (n : Int) (h : -9223372036854775808 ≤ n ∧ n ≤ 9223372036854775807) : (itoa n).length ≤ 20 := by
  have dl : ∀ (k u : Nat), u < 10 ^ (k + 1) → (decDigits u).length ≤ k + 1 := by
    intro k
    induction k with
    | zero => intro u hu; rw [decDigits, dif_pos (by simpa using hu)]; simp
    | succ k ih =>
      intro u hu
      rw [decDigits]
      by_cases q : u < 10
      · rw [dif_pos q]; simp
      · rw [dif_neg q, lA7]
        have := ih (u / 10) (by rw [Nat.pow_succ] at hu; omega)
        simp; omega
  unfold itoa
  by_cases q : n < 0
  · rw [if_pos q, List.length_cons]
    have := dl 18 n.natAbs (by have : (10 : Nat) ^ 19 = 10000000000000000000 := by decide
                               omega)
    omega
  · rw [if_neg q]
    have := dl 18 n.toNat (by have : (10 : Nat) ^ 19 = 10000000000000000000 := by decide
                              omega)
    omega
end Go.Eng
namespace Go.Eng
def whq:Spec
 |[.int .i64 n],[]=>some (.bool (decide (0<=n) && decide (n<=1099511627776)),[],True)
 |_,_=>none
def S_tv(st:Int)(bs:List BK)(k:Nat):St:=⟨[(1,.ptr 0 0),(3,.q (lowB bs k)),(22,.view 2 bs.length (was (atB bs))),(23,.q bs.length),(24,.q k)],[(0,.cells [.q st,.view 2 bs.length (was (atB bs))] 95)],1,[]⟩
def L_tv(st:Int)(bs:List BK):wao:=λS Q=>canonIs te 0 [1,3,22,23,24] S (S_tv st bs 0)/\bs.length<=8/\wab (bksB bs bs.length) (Q (.exit 0) ⟨[],[],0,[]⟩) (Q .ret ⟨[(2,.q 141)],[],0,[]⟩)
def S_tw(st:Int)(bs:List BK)(k:Nat):St:=⟨[(1,.ptr 0 0),(3,.q (lowB bs k)),(25,.view 2 bs.length (was (atB bs))),(26,.q bs.length),(27,.q k)],[(0,.cells [.q st,.view 2 bs.length (was (atB bs))] 95)],1,[]⟩
def L_tw(st:Int)(bs:List BK):wao:=λS Q=>canonIs te 0 [1,3,25,26,27] S (S_tw st bs 0)/\bs.length<=8/\wab (bksB bs bs.length) (Q (.exit 0) ⟨[],[],0,[]⟩) (Q .ret ⟨[(2,.q 141)],[],0,[]⟩)
def wf0:Spec
 |[.agg [.int .i64 st,.view 2 n f]],[]=>some (.q (tfF st (lst (bkOf f) n)),[],f=was (atB (lst (bkOf f) n)))
 |_,_=>none
def wmf:Spec
 |[.own 0 n],[.row _ 5 m f _]=>some (.q (svF (rwOf f) n),[],n=m/\n<=1000000/\(∀i,i<n->f i=wah (rwOf f) i)/\∀i,i<n->(rwOf f i).o.length<4294967281)
 |_,_=>none
def wf2:Spec
 |[.agg [.str o,.str p,.int .i64 per,.int .i64 st,.view 2 n f]],[]=>some (.bool (rtOK ⟨o,p,per,st,lst (bkOf f) n⟩),[],o.length<4294967281/\f=was (atB (lst (bkOf f) n)))
 |_,_=>none
def badM(m:MG):Bool:= !decide (msgF m=0)
def badT(t:RT):Bool:= !rtOK t
structure RT.Sm (t:RT):Prop where
 o:t.o.length<4294967281
structure FL.Sm (F:FL):Prop where
 id:F.id.length<4294967281
 m:F.ms.length<=1000/\∀m∈F.ms,m.Sm
 r:F.rs.length<=1000/\∀r∈F.rs,r.o.length<4294967281
 t:F.ts.length<=1000/\∀t∈F.ts,t.Sm
def S_k1:Spec
 |[.agg [.str dev,.int .i64 seq,.int .i64 kind,.str o,.str p,.int .i64 per,.int .i64 day,.int .i64 st,.int .i64 pr,.str rep,.str o',.str p',.int .i64 per',.str dev',.int .i64 num]],[]=>some (.bool (badM ⟨dev,seq,kind,⟨o,p,per,day,st,pr,rep⟩,⟨o',p',per',dev',num⟩⟩),[],dev.length<4294967281/\o.length<4294967281/\o'.length<4294967281/\dev'.length<4294967281)
 |_,_=>none
def S_k2:Spec
 |[.agg [.str o,.str p,.int .i64 per,.int .i64 st,.view 2 n f]],[]=>some (.bool (badT ⟨o,p,per,st,lst (bkOf f) n⟩),[],o.length<4294967281/\f=was (atB (lst (bkOf f) n)))
 |_,_=>none
def wnk:Spec
 |[.view 15 n f,.func 125 []],[]=>some (.q (ixB (λi=>badM (mgOf f i)) n),[],n<=1000000/\f=waf (mgOf f)/\∀i,i<n->(mgOf f i).Sm)
 |_,_=>none
def wni(g:Nat->MG)(n k:Nat):St:=⟨[(0,.view 15 n (waf g)),(1,.func 125 []),(7,.q n),(8,.q k)],[],0,[]⟩
def wpj(g:Nat->MG)(n:Nat):wao:=λst Q=>canonIs te 0 [0,1,7,8] st (wni g n 0)/\n<=1000000/\(∀i,i<n->(g i).Sm)/\
 wab (decide (fstB (λi=>badM (g i)) n<n)) (Q .ret ⟨[(4,.q (fstB (λi=>badM (g i)) n))],[],0,[]⟩) (Q (.exit 0) ⟨[],[],0,[]⟩)
def wn0:Spec
 |[.view 15 n f,.func 125 []],[]=>some (.bool (decide (0<=ixB (λi=>badM (mgOf f i)) n)),[],n<=1000000/\f=waf (mgOf f)/\∀i,i<n->(mgOf f i).Sm)
 |_,_=>none
def wnj:Spec
 |[.view 5 n f,.func 127 []],[]=>some (.q (ixB (λi=>badT (rtOf f i)) n),[],n<=1000000/\f=wag (rtOf f)/\∀i,i<n->(rtOf f i).Sm)
 |_,_=>none
def wnh(g:Nat->RT)(n k:Nat):St:=⟨[(0,.view 5 n (wag g)),(1,.func 127 []),(7,.q n),(8,.q k)],[],0,[]⟩
def wpi(g:Nat->RT)(n:Nat):wao:=λst Q=>canonIs te 0 [0,1,7,8] st (wnh g n 0)/\n<=1000000/\(∀i,i<n->(g i).Sm)/\
 wab (decide (fstB (λi=>badT (g i)) n<n)) (Q .ret ⟨[(4,.q (fstB (λi=>badT (g i)) n))],[],0,[]⟩) (Q (.exit 0) ⟨[],[],0,[]⟩)
def wnz:Spec
 |[.view 5 n f,.func 127 []],[]=>some (.bool (decide (0<=ixB (λi=>badT (rtOf f i)) n)),[],n<=1000000/\f=wag (rtOf f)/\∀i,i<n->(rtOf f i).Sm)
 |_,_=>none
def wnw:Spec
 |[.agg [.str id,.int .i64 ver,.int .i64 day,.int .i64 kind,.view 15 nm fm,.view 5 nr fr,.view 5 nt ft]],[]=>some (.bool (ctF (flV id ver day kind nm fm nr fr nt ft)),[],FlC nm fm nr fr nt ft/\(flV id ver day kind nm fm nr fr nt ft).Sm)
 |_,_=>none
def wei:Spec
 |[.agg [.str id,.int .i64 ver,.int .i64 day,.int .i64 kind,.view 15 nm fm,.view 5 nr fr,.view 5 nt ft]],[]=>some (.q (vinF (flV id ver day kind nm fm nr fr nt ft)),[],FlC nm fm nr fr nt ft/\(flV id ver day kind nm fm nr fr nt ft).Sm)
 |_,_=>none
def S_w1(F:FL)(k:Nat):St:=⟨[(1,.ptr 0 0),(95,.view 15 F.ms.length (waf (atM F.ms))),(96,.q F.ms.length),(97,.q k)],[(0,.cells [.str F.id,.q F.ver,.q F.day,.q F.kind,.view 15 F.ms.length (waf (atM F.ms)),.view 5 F.rs.length (wah (atR F.rs)),.view 5 F.ts.length (wag (atT F.ts))] 49)],1,[]⟩
def L_w1(F:FL):wao:=λst Q=>canonIs te 0 [1,95,96,97] st (S_w1 F 0)/\F.Sm/\wab (F.ms.all λm=>decide (msgF m=0)) (Q (.exit 0) ⟨[(1,.ptr 0 0)],[(0,.cells [.str F.id,.q F.ver,.q F.day,.q F.kind,.view 15 F.ms.length (waf (atM F.ms)),.view 5 F.rs.length (wah (atR F.rs)),.view 5 F.ts.length (wag (atT F.ts))] 49)],1,[]⟩) (Q .ret ⟨[(2,.q 154)],[],0,[]⟩)
def S_w2(F:FL)(k:Nat):St:=⟨[(1,.ptr 0 0),(106,.view 5 F.rs.length (wah (atR F.rs))),(107,.q F.rs.length),(108,.q k)],[(0,.cells [.str F.id,.q F.ver,.q F.day,.q F.kind,.view 15 F.ms.length (waf (atM F.ms)),.view 5 F.rs.length (wah (atR F.rs)),.view 5 F.ts.length (wag (atT F.ts))] 49)],1,[]⟩
def L_w2(F:FL):wao:=λst Q=>canonIs te 0 [1,106,107,108] st (S_w2 F 0)/\F.Sm/\wab (F.rs.all rowF) (Q (.exit 2) ⟨[(1,.ptr 0 0)],[(0,.cells [.str F.id,.q F.ver,.q F.day,.q F.kind,.view 15 F.ms.length (waf (atM F.ms)),.view 5 F.rs.length (wah (atR F.rs)),.view 5 F.ts.length (wag (atT F.ts))] 49)],1,[]⟩) (Q .ret ⟨[(2,.q 154)],[],0,[]⟩)
def S_w3(F:FL)(k:Nat):St:=⟨[(117,.view 5 F.ts.length (wag (atT F.ts))),(118,.q F.ts.length),(119,.q k)],[],0,[]⟩
def L_w3(F:FL):wao:=λst Q=>canonIs te 0 [117,118,119] st (S_w3 F 0)/\F.Sm/\wab (F.ts.all rtOK) (Q (.exit 4) ⟨[],[],0,[]⟩) (Q .ret ⟨[(2,.q 154)],[],0,[]⟩)
def txF(g:Nat->List UInt8):Nat->List UInt8
 |0=>[]
 |k+1=>txF g k++txtE (g k)
def nuF(g:Nat->Int):Nat->List UInt8
 |0=>[]
 |k+1=>nuF g k++numE (g k)
def wa0(g:Nat->List UInt8)(i:Nat):List AV:=[.str (g i)]
def stOf(f:Nat->List AV)(i:Nat):List UInt8:=wb4 ((f i).headD .any)
def weo:Spec
 |[.int .i64 n,.int .i64 10],[]=>some (.str (Go.Lib.itoa n),[],inR .i64 n)
 |_,_=>none
def wcu:Spec
 |[.int .i64 n],[]=>some (.str (Go.Lib.itoa n),[],inR .i64 n)
 |_,_=>none
def S_cc:Spec
 |[.ptr 0 0],[.cells [.nilptr,.nil] t]=>some (.tuple [],[(0,.cells [.ptr 0 0,.nil] 111)],t=111)
 |[.ptr 0 0],[.cells [.ptr 0 0,.own 1 n] t,.row t8 1 m f false]=>some (.tuple [],[(0,.cells [.ptr 0 0,.own 1 n] 111),(1,.row t8 1 m f false)],t=111)
 |_,_=>none
def S_ws:Spec
 |[.ptr 0 0,.str s],[.cells [.nilptr,.nil] t]=>some (.tuple [.q s.length,.nilIface],[(0,.cells [.ptr 0 0,.own 1 s.length] 111),(1,.row 5 1 s.length (strG s) false)],t=111/\s.length<=1099511627776)
 |[.ptr 0 0,.str s],[.cells [.ptr 0 0,.own 1 n] t,.row t8 1 m f false]=>some (.tuple [.q s.length,.nilIface],[(0,.cells [.ptr 0 0,.own 2 (waq m f++s).length] 111),(2,.row 5 1 (waq m f++s).length (strG (waq m f++s)) false)],
   t=111/\t8=5/\n=m/\f=strG (waq m f)/\(waq m f++s).length<=1099511627776)
 |_,_=>none
def wn3:Spec
 |[.ptr 0 0],[.cells [.ptr 0 0,.own 1 n] t,.row t8 1 m f false]=>some (.str (waq m f),[(0,.cells [.ptr 0 0,.own 1 n] 111)],t=111/\t8=5/\n=m/\f=strG (waq m f)/\0<n/\n<=1099511627776)
 |_,_=>none
def S_text:Spec
 |[.ptr 0 0,.own 1 n],[.cells [.nilptr,.nil] t,.row ts 1 n' h false]=>some (.tuple [],[(0,.cells [.ptr 0 0,.own 2 (txF (stOf h) n).length] 111),(1,.row 9 1 n' h false),(2,.row 5 1 (txF (stOf h) n).length (strG (txF (stOf h) n)) false)],
   t=111/\ts=9/\n=1/\n'=1/\h 0=wa0 (stOf h) 0/\(txF (stOf h) n).length<=1099511627776)
 |[.ptr 0 0,.own 1 n],[.cells [.ptr 0 0,.own 2 c] t,.row ts 1 n' h false,.row t8 1 m f false]=>some (.tuple [],[(0,.cells [.ptr 0 0,.own 3 (waq m f++txF (stOf h) n).length] 111),(1,.row 9 1 n' h false),(3,.row 5 1 (waq m f++txF (stOf h) n).length (strG (waq m f++txF (stOf h) n)) false)],
   t=111/\t8=5/\ts=9/\c=m/\n=n'/\(1<=n/\n<=3)/\f=strG (waq m f)/\(∀i,i<n->h i=wa0 (stOf h) i)/\(waq m f++txF (stOf h) n).length<=1099511627776)
 |_,_=>none
def wxm:Spec
 |[.ptr 0 0,.own 1 n],[.cells [.ptr 0 0,.own 2 c] t,.row ts 1 n' h false,.row t8 1 m f false]=>some (.tuple [],[(0,.cells [.ptr 0 0,.own 3 (waq m f++nuF (vInt h) n).length] 111),(1,.row 2 1 n' h false),(3,.row 5 1 (waq m f++nuF (vInt h) n).length (strG (waq m f++nuF (vInt h) n)) false)],
   t=111/\t8=5/\ts=2/\c=m/\n=n'/\(1<=n/\n<=4)/\f=strG (waq m f)/\(∀i,i<n->h i=wad (vInt h) i)/\(∀i,i<n->inR .i64 (vInt h i))/\(waq m f++nuF (vInt h) n).length<=1099511627776)
 |_,_=>none
def wbm:wcc
 |[.ptr 0 0,.own 1 n],[.cells [.nilptr,.nil] t,.row ts 1 n' h false],R=>(t=111/\ts=9/\n=1/\n'=1)/\h 0=wa0 (stOf h) 0/\(txF (stOf h) n).length<=1099511627776/\
   ∀L':List UInt8,L'=txF (stOf h) n->R (.tuple []) [(0,.cells [.ptr 0 0,.own 2 L'.length] 111),(1,.row 9 1 n' h false),(2,.row 5 1 L'.length (strG L') false)]
 |[.ptr 0 0,.own 1 n],[.cells [.ptr 0 0,.own 2 c] t,.row ts 1 n' h false,.row t8 1 m f false],R=>(t=111/\t8=5/\ts=9/\c=m/\n=n'/\(1<=n/\n<=3))/\∃L:List UInt8,(m=L.length/\f=strG L)/\
   (∀i,i<n->h i=wa0 (stOf h) i)/\(L++txF (stOf h) n).length<=1099511627776/\
   ∀L':List UInt8,L'=L++txF (stOf h) n->R (.tuple []) [(0,.cells [.ptr 0 0,.own 3 L'.length] 111),(1,.row 9 1 n' h false),(3,.row 5 1 L'.length (strG L') false)]
 |_,_,_=>False
def wbn:wcc
 |[.ptr 0 0,.own 1 n],[.cells [.ptr 0 0,.own 2 c] t,.row ts 1 n' h false,.row t8 1 m f false],R=>(t=111/\t8=5/\ts=2/\c=m/\n=n'/\(1<=n/\n<=4))/\∃L:List UInt8,(m=L.length/\f=strG L)/\
   (∀i,i<n->h i=wad (vInt h) i)/\(∀i,i<n->inR .i64 (vInt h i))/\(L++nuF (vInt h) n).length<=1099511627776/\
   ∀L':List UInt8,L'=L++nuF (vInt h) n->R (.tuple []) [(0,.cells [.ptr 0 0,.own 3 L'.length] 111),(1,.row 2 1 n' h false),(3,.row 5 1 L'.length (strG L') false)]
 |_,_,_=>False
structure DcS where
 out:List UInt8
 m:Int
def S_dc(n:Int)(i:DcS):St:=⟨[(0,.q n),(3,.str i.out),(4,.q i.m)],[],0,[]⟩
def L_dc(n:Int):wao:=λst Q=>canonIs te 0 [0,3,4] st (S_dc n ⟨[],n⟩)/\inR .i64 n/\Q (.exit 0) ⟨[(0,.q n),(3,.str (digT n.natAbs))],[],0,[]⟩
def wmd(g:Nat->List UInt8)(n k:Nat):St:=⟨[(3,.str (txF g k)),(6,.own 0 n),(7,.q n),(8,.q k)],[(0,.row 9 1 n (wa0 g) false)],1,[]⟩
def wor(g:Nat->List UInt8)(n:Nat):wao:=λst Q=>canonIs te 1 [3,6,7,8] st (wmd g n 0)/\n<=100/\(∀i,i<n->(g i).length<=1099511627776)/\
 Q (.exit 0) ⟨[(3,.str (txF g n))],[(0,.row 9 1 n (wa0 g) false)],1,[]⟩
def wdq:Spec
 |[.own 0 n],[.row ts 1 n' h false]=>some (.str (txF (stOf h) n),[(0,.row 9 1 n' h false)],ts=9/\n=n'/\n<=100/\(∀i,i<n->h i=wa0 (stOf h) i)/\∀i,i<n->(stOf h i).length<=1099511627776)
 |_,_=>none
def wmz(g:Nat->Int)(n k:Nat):St:=⟨[(3,.str (nuF g k)),(6,.own 0 n),(7,.q n),(8,.q k)],[(0,.row 2 1 n (wad g) false)],1,[]⟩
def wo1(g:Nat->Int)(n:Nat):wao:=λst Q=>canonIs te 1 [3,6,7,8] st (wmz g n 0)/\n<=100/\(∀i,i<n->inR .i64 (g i))/\
 Q (.exit 0) ⟨[(3,.str (nuF g n))],[(0,.row 2 1 n (wad g) false)],1,[]⟩
def wdr:Spec
 |[.own 0 n],[.row ts 1 n' h false]=>some (.str (nuF (vInt h) n),[(0,.row 2 1 n' h false)],ts=2/\n=n'/\n<=100/\(∀i,i<n->h i=wad (vInt h) i)/\∀i,i<n->inR .i64 (vInt h i))
 |_,_=>none
end Go.Eng
