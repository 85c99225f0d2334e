/- Tariffs, rates: the loops' states. -/
import Derived.Test.YtgcboligphndhaaGreatDoorBp
import Derived.Test.YtgcboligphndhaaGreatDoorBl
import Derived.Test.YtgcboligphndhaaGreatDoorBr
import Derived.Test.YtgcboligphndhaaGreatDoorBm
import Derived.Lib.ItoaNum
namespace Go.Eng
def wdj (n k:Int):Int:=n % 18446744073709551616 % k
def wlq:Spec
 |[.int .i64 n,.int .i64 k],[]=>some (.int .i64 (wdj n k),[],1≤k∧k≤1000000)
 |_,_=>none
def wbb (n:Nat) (v:Nat→Int) (a k:Int):Int:=wdj (bif decide (a<n) then v a.toNat else 0) k
def wgm:Spec
 |[.ptr 0 0,.int .i64 k],[.cells [.view sz n f,.int .i64 a] t]=>some (.int .i64 (wbb n (vInt f) a k),[(0,.cells [.view 1 n f,.int .i64 (a+1)] 27)],t=27∧sz=1∧f=waf (vInt f)∧(1≤k∧k≤1000000)∧(0≤a∧a≤4611686018427387904))
 |_,_=>none
def pw (V j:Nat):Nat:=V / 10 ^ j
def dgI (V k:Nat):Int:=48+((V / 10 ^ (6 - k) % 10:Nat):Int)
def wb0 (V:Nat) (k:Nat):List AV:=[.int .u8 (dgI V k)]
def idV (n:Int):Nat:=1000000+(wdj n 1000000).toNat
def id7 (n:Int):List UInt8:=waj 7 (wb0 (idV n))
def idF (n:Int):List UInt8:=id7 n++[UInt8.ofNat (48+(cdF (id7 n)).1).toNat]
def S_id:Spec
 |[.int .i64 n],[]=>some (.str (idF n),[],True)
 |_,_=>none
def wln (V:Nat) (j:Nat):St:=⟨[(3,.int .i64 (pw V j:Nat)),(4,.own 0 7),(5,.int .i64 (6 - (j:Int)))],[(0,.row 5 1 7 (fun k=>[.int .u8 (bif decide (7≤k+j) then dgI V k else 0)]) false)],1,[]⟩
def L_id (V:Nat):wau:=fun st Q=>canonIs te 0 [3,4,5] st (wln V 0)∧V<2000000∧
 Q (.exit 0) ⟨[(4,.own 0 7)],[(0,.row 5 1 7 (wb0 V) false)],1,[]⟩
theorem whz {k:Int} (h:1≤k) (n:Int):0≤wdj n k∧wdj n k<k:=by
 unfold wdj
 exact ⟨Int.emod_nonneg _ (by omega),Int.emod_lt_of_pos _ (by omega)⟩
theorem whg {k:Int} (h:1≤k) (n:Nat) (v:Nat→Int) (a:Int):0≤wbb n v a k∧wbb n v a k<k:=whz h _
theorem wtw (s:List UInt8):0≤(cdF s).1∧(cdF s).1≤9:=by
 unfold cdF
 split
 ·show 0≤(10 - wa3 s s.length % 10) % 10∧(10 - wa3 s s.length % 10) % 10≤9
  omega
 ·exact ⟨by decide,by decide⟩
theorem whs (n:Int):(id7 n).length=7:=by simp [id7,waj]
theorem wsi (n:Int):(idF n).length=8:=by rw [idF,List.length_append,whs];rfl
theorem wzp (V k:Nat):48≤dgI V k∧dgI V k≤57:=by
 unfold dgI
 have:=Nat.mod_lt (V / 10 ^ (6 - k)) (show 0<10 by omega)
 omega
theorem u8_to {n:Int} (h0:0≤n) (h1:n<256):((UInt8.ofNat n.toNat).toNat:Int)=n:=by
 rw [UInt8.toNat_ofNat']
 have:n.toNat % 2 ^ 8=n.toNat:=Nat.mod_eq_of_lt (by omega)
 omega
theorem id7_dig (n:Int):(id7 n).all wbv=true:=by
 unfold id7 waj
 rw [List.all_map,List.all_eq_true]
 intro k _
 have h:=wzp (idV n) k
 have e:=u8_to (n:=dgI (idV n) k) (by omega) (by omega)
 show wbv (UInt8.ofNat (dgI (idV n) k).toNat)=true
 unfold wbv
 rw [Bool.and_eq_true,decide_eq_true_eq,decide_eq_true_eq]
 omega
theorem wsh (n:Int):wbq (idF n)=true:=by
 have hc:=wtw (id7 n)
 have e:=u8_to (n:=48+(cdF (id7 n)).1) (by omega) (by omega)
 have hd:wby (idF n) 8 13=true:=by
  unfold wby
  rw [wsi,Bool.and_eq_true]
  refine ⟨rfl,?_⟩
  unfold idF
  rw [List.all_append,id7_dig,List.all_cons]
  unfold wbv
  rw [Bool.true_and,List.all_nil,Bool.and_true,Bool.and_eq_true,decide_eq_true_eq,decide_eq_true_eq]
  omega
 have ht:(idF n).take 7=id7 n:=by unfold idF;rw [← whs n];exact List.take_left
 have hg:(idF n).getD 7 0=UInt8.ofNat (48+(cdF (id7 n)).1).toNat:=by
  unfold idF
  rw [List.getD_eq_getElem?_getD,List.getElem?_append_right (by rw [whs];exact Nat.le_refl _),whs]
  rfl
 unfold wbq
 rw [hd,wsi]
 show decide ((cdF ((idF n).take 7)).1=(((idF n).getD 7 0).toNat:Int) - 48)=true
 rw [ht,hg,e,decide_eq_true_eq]
 omega
def wc3 (g:Nat→RW):Nat→Bool
 |0=>true
 |k+1=>wc3 g k && rowF (g k)
def svF (g:Nat→RW) (n:Nat):Int:=bif decide (24000<n) then 130 else bif wc3 g n then 0 else 131
def wkr:Spec
 |[.str s],[]=>some (.bool (wa7 s),[],s.length<4294967281)
 |_,_=>none
def wgk:Spec
 |[.agg [.str o,.str p,.int .i64 per,.int .i64 u,.int .i64 tv]],[]=>some (.bool (rowF ⟨o,p,per,u,tv⟩),[],o.length<4294967281)
 |_,_=>none
def wko:Spec
 |[.view 5 n f],[]=>some (.int .i64 (svF (rwOf f) n),[],n≤1000000∧f=wak (rwOf f)∧∀ i,i<n→(rwOf f i).o.length<4294967281)
 |_,_=>none
def S_sv (g:Nat→RW) (n k:Nat):St:=⟨[(8,.view 5 n (wak g)),(9,.int .i64 n),(10,.int .i64 k)],[],0,[]⟩
def L_sv (g:Nat→RW) (n:Nat):wau:=fun st Q=>canonIs te 0 [8,9,10] st (S_sv g n 0)∧n≤24000∧(∀ i,i<n→(g i).o.length<4294967281)∧
 waa (wc3 g n) (Q (.exit 0) ⟨[],[],0,[]⟩) (Q .ret ⟨[(2,.int .i64 131)],[],0,[]⟩)
def atR (L:List RW) (i:Nat):RW:=L.getD i default
structure IT where
 c:Nat
 h:Nat→RW
 c0:Nat
 left:List Nat
end Go.Eng
namespace Go.Eng
open Go.Lib
structure BK where
 up:Int
 pr:Int
structure RT where
 o:List UInt8
 p:List UInt8
 per:Int
 st:Int
 bs:List BK
structure FL where
 id:List UInt8
 ver:Int
 day:Int
 kind:Int
 ms:List MG
 rs:List RW
 ts:List RT
def numE (n:Int):List UInt8:=itoa n++[44]
def txtE (s:List UInt8):List UInt8:=itoa s.length++58::(s++[44])
def mgE (m:MG):List UInt8:=txtE m.dev++(numE m.seq++(numE m.kind++(txtE m.v.o++(txtE m.v.p++(numE m.v.per++(numE m.v.day++(numE m.v.st++(numE m.v.pr++(txtE m.v.rep++(txtE m.d.o++(txtE m.d.p++(numE m.d.per++(txtE m.d.dev++numE m.d.num)))))))))))))
def rwE (r:RW):List UInt8:=txtE r.o++(txtE r.p++(numE r.per++(numE r.u++numE r.tv)))
def bkE (b:BK):List UInt8:=numE b.up++numE b.pr
def rtE (t:RT):List UInt8:=txtE t.o++(txtE t.p++(numE t.per++(numE t.st++(numE t.bs.length++t.bs.flatMap bkE))))
def encF (f:FL):List UInt8:=txtE f.id++(numE f.ver++(numE f.kind++(numE f.ms.length++(f.ms.flatMap mgE++(numE f.rs.length++(f.rs.flatMap rwE++(numE f.ts.length++f.ts.flatMap rtE)))))))
theorem wo6:∀ (u:Nat) {b:UInt8},b∈decDigits u→48≤b.toNat∧b.toNat≤57:=by
 intro u
 induction u using Nat.strongRecOn with
 |_ u ih=>
  intro b h
  rw [decDigits] at h
  by_cases q:u<10
  ·rw [dif_pos q] at h
   have:=List.mem_singleton.1 h
   subst this
   rw [UInt8.toNat_ofNat']
   omega
  ·rw [dif_neg q] at h
   rcases List.mem_append.1 h with h | h
   ·exact ih (u / 10) (by omega) h
   ·have:=List.mem_singleton.1 h
    subst this
    rw [UInt8.toNat_ofNat']
    omega
theorem wyo {n:Int} {b:UInt8} (h:b∈itoa n):b.toNat=45∨(48≤b.toNat∧b.toNat≤57):=by
 unfold itoa at h
 by_cases q:n<0
 ·rw [if_pos q] at h
  rcases List.mem_cons.1 h with rfl | h
  ·exact .inl rfl
  ·exact .inr (wo6 _ h)
 ·rw [if_neg q] at h
  exact .inr (wo6 _ h)
theorem wji {n:Int}:(44:UInt8) ∉ itoa n∧(58:UInt8) ∉ itoa n:=by
 constructor<;>intro h<;>have:=wyo h<;>revert this<;>decide
def decVal (l:List UInt8):Nat:=l.foldl (fun a b=>a * 10+(b.toNat - 48)) 0
theorem wtn (u:Nat):decVal (decDigits u)=u:=by
 induction u using Nat.strongRecOn with
 |_ u ih=>
  rw [decDigits]
  by_cases q:u<10
  ·rw [dif_pos q]
   show 0 * 10+((UInt8.ofNat (48+u)).toNat - 48)=u
   rw [UInt8.toNat_ofNat']
   omega
  ·rw [dif_neg q]
   have h:=ih (u / 10) (by omega)
   unfold decVal at h ⊢
   rw [List.foldl_append,h]
   show u / 10 * 10+((UInt8.ofNat (48+u % 10)).toNat - 48)=u
   rw [UInt8.toNat_ofNat']
   omega
theorem wtm {a b:Nat} (h:decDigits a=decDigits b):a=b:=by rw [← wtn a,h,wtn]
theorem wsc {a b:Int} (h:itoa a=itoa b):a=b:=by
 have no:∀ {u v:Nat},45::decDigits u=decDigits v→False:=fun {u v} e=>by
  have:=wo6 v (show (45:UInt8)∈decDigits v by rw [← e];exact List.mem_cons_self)
  revert this;decide
 unfold itoa at h
 by_cases q:a<0
 ·by_cases r:b<0
  ·rw [if_pos q,if_pos r] at h
   have:=wtm (List.cons.inj h).2
   omega
  ·rw [if_pos q,if_neg r] at h
   exact (no h).elim
 ·by_cases r:b<0
  ·rw [if_neg q,if_pos r] at h
   exact (no h.symm).elim
  ·rw [if_neg q,if_neg r] at h
   have:=wtm h
   omega
theorem cutAt {x:UInt8}:∀ {p q r s:List UInt8},x ∉ p→x ∉ q→p++x::r=q++x::s→p=q∧r=s
 |[],[],_,_,_,_,h=>⟨rfl,(List.cons.inj h).2⟩
 |[],y::q,_,_,_,hq,h=>by
  have:=(List.cons.inj h).1
  subst this
  exact absurd List.mem_cons_self hq
 |y::p,[],_,_,hp,_,h=>by
  have:=(List.cons.inj h).1
  subst this
  exact absurd List.mem_cons_self hp
 |y::p,z::q,r,s,hp,hq,h=>by
  obtain ⟨e,h⟩:=List.cons.inj h
  obtain ⟨e1,e2⟩:=cutAt (fun k=>hp (List.mem_cons_of_mem _ k)) (fun k=>hq (List.mem_cons_of_mem _ k)) h
  exact ⟨by rw [e,e1],e2⟩
theorem wbu {a b:Int} {r s:List UInt8} (h:numE a++r=numE b++s):a=b∧r=s:=by
 unfold numE at h
 rw [List.append_assoc,List.append_assoc] at h
 obtain ⟨e1,e2⟩:=cutAt wji.1 wji.1 h
 exact ⟨wsc e1,e2⟩
theorem wcu {a b:List UInt8} {r s:List UInt8} (h:txtE a++r=txtE b++s):a=b∧r=s:=by
 unfold txtE at h
 rw [List.append_assoc,List.append_assoc,List.cons_append,List.cons_append] at h
 obtain ⟨e1,e2⟩:=cutAt wji.2 wji.2 h
 have hl:a.length=b.length:=by have:=wsc e1;omega
 rw [List.append_assoc,List.append_assoc] at e2
 obtain ⟨e3,e4⟩:=List.append_inj e2 hl
 exact ⟨e3,(List.cons.inj e4).2⟩
def ordF (a b:FL):Int:=orL [cmpS a.id b.id,cmpI a.ver b.ver,cmpI a.day b.day,cmpS (encF a) (encF b)]
theorem wej:PreC ordF:=(wga.comap FL.id).or ((wh7.comap FL.ver).or ((wh7.comap FL.day).or ((wga.comap encF).or .nil)))
theorem wq6 {a b:FL} (h:ordF a b=0):encF a=encF b∧a.day=b.day:=by
 simp only [ordF,wvt,wzx,wz0,show orL []=0 from rfl,and_true] at h
 exact ⟨h.2.2.2,h.2.2.1⟩
end Go.Eng
namespace Go.Eng
def wdv:FL:=⟨[],0,0,0,[],[],[]⟩
def atF (L:List FL) (i:Nat):FL:=L.getD i wdv
theorem wew {L:List FL} {i:Nat} (h:i<L.length):atF L i=L[i]:=by simp [atF,h]
theorem wev {L:List FL} {i:Nat} (h:i<L.length):atF L i∈L:=by rw [wew h];exact List.getElem_mem h
theorem wkc {L:List FL} (h:Asc ordF L) {i j:Nat} (hij:i<j) (hj:j<L.length):ordF (atF L i) (atF L j)<0:=by
 rw [wew (show i<L.length by omega),wew hj]
 exact List.pairwise_iff_getElem.1 h i j (by omega) hj hij
def wck (ok:FL→Bool) (g:Nat→FL) (t:List UInt8):Nat→Option Nat
 |0=>none
 |n+1=>bif ok (g n) && decide (encF (g n)=t) then (match wck ok g t n with
   |none=>some n
   |some j=>bif decide ((g n).day<(g j).day) then some n else some j) else wck ok g t n
structure Best (ok:FL→Bool) (g:Nat→FL) (t:List UInt8) (n j:Nat):Prop where
 lt:j<n
 good:ok (g j)=true
 enc:encF (g j)=t
 least:∀ k,k<n→ok (g k)=true→encF (g k)=t→(g j).day<(g k).day∨((g j).day=(g k).day∧j≤k)
theorem wib (ok:FL→Bool) (g:Nat→FL) (t:List UInt8):∀ n,(∀ j,wck ok g t n=some j→Best ok g t n j)∧(wck ok g t n=none→∀ k,k<n→ok (g k)=true→encF (g k)≠t)
 |0=>⟨(fun j h=>by cases h),fun _ k hk=>absurd hk (Nat.not_lt_zero k)⟩
 |n+1=>by
  obtain ⟨ih1,ih2⟩:=wib ok g t n
  rw [wck]
  cases q:ok (g n) && decide (encF (g n)=t) with
  |false=>
   have no:ok (g n)=true→encF (g n)=t→False:=fun a b=>by rw [a,decide_eq_true b] at q;cases q
   simp only [cond_false]
   refine ⟨fun j h=>?_,fun h k hk hok e=>?_⟩
   ·have b:=ih1 j h
    exact ⟨by have:=b.lt;omega,b.good,b.enc,fun k hk hok e=>by
     by_cases z:k=n
     ·subst z;exact (no hok e).elim
     ·exact b.least k (by omega) hok e⟩
   ·by_cases z:k=n
    ·subst z;exact no hok e
    ·exact ih2 h k (by omega) hok e
  |true=>
   rw [Bool.and_eq_true,decide_eq_true_eq] at q
   simp only [cond_true]
   cases b:wck ok g t n with
   |none=>
    refine ⟨fun j h=>?_,fun h=>by cases h⟩
    obtain rfl:=Option.some.inj h
    exact ⟨by omega,q.1,q.2,fun k hk hok e=>by
     by_cases z:k=n
     ·subst z;exact .inr ⟨rfl,Nat.le_refl _⟩
     ·exact absurd e (ih2 b k (by omega) hok)⟩
   |some i=>
    have bi:=ih1 i b
    have:=bi.lt
    by_cases d:(g n).day<(g i).day
    ·dsimp only
     rw [decide_eq_true d]
     refine ⟨fun j h=>?_,fun h=>by cases h⟩
     obtain rfl:=Option.some.inj h
     exact ⟨by omega,q.1,q.2,fun k hk hok e=>by
      by_cases z:k=n
      ·subst z;exact .inr ⟨rfl,Nat.le_refl _⟩
      ·have:=bi.least k (by omega) hok e
       omega⟩
    ·dsimp only
     rw [decide_eq_false d]
     refine ⟨fun j h=>?_,fun h=>by cases h⟩
     obtain rfl:=Option.some.inj h
     exact ⟨by omega,bi.good,bi.enc,fun k hk hok e=>by
      by_cases z:k=n
      ·subst z;omega
      ·exact bi.least k (by omega) hok e⟩
theorem Best.uniq {ok:FL→Bool} {g:Nat→FL} {t:List UInt8} {n i j:Nat} (a:Best ok g t n i) (b:Best ok g t n j):i=j:=by
 have h1:=a.least j b.lt b.good b.enc
 have h2:=b.least i a.lt a.good a.enc
 omega
def kpS (ok:FL→Bool) (g:Nat→FL) (i:Nat):Nat→Bool
 |0=>true
 |k+1=>kpS ok g i k && !(!decide (k=i) && (ok (g k) && (decide (encF (g k)=encF (g i)) && (decide ((g k).day<(g i).day) || (decide ((g k).day=(g i).day) && decide (k<i))))))
theorem wr9 {ok:FL→Bool} {g:Nat→FL} {i:Nat}:∀ {n},kpS ok g i n=true↔∀ k,k<n→k≠i→ok (g k)=true→encF (g k)=encF (g i)→¬ ((g k).day<(g i).day∨((g k).day=(g i).day∧k<i))
 |0=>by simp [kpS]
 |n+1=>by
  rw [kpS,Bool.and_eq_true,wr9 (n:=n)]
  constructor
  ·rintro ⟨h1,h2⟩ k hk hne hok e
   by_cases z:k=n
   ·subst z
    intro q
    rw [Bool.not_eq_true',decide_eq_false hne,hok,decide_eq_true e] at h2
    rcases q with q | ⟨q,r⟩
    ·rw [decide_eq_true q] at h2;simp at h2
    ·rw [decide_eq_true q,decide_eq_true r] at h2;simp at h2
   ·exact h1 k (by omega) hne hok e
  ·intro h
   refine ⟨fun k hk=>h k (by omega),?_⟩
   by_cases z:n=i
   ·simp [z]
   ·by_cases z2:ok (g n)=true
    ·by_cases z3:encF (g n)=encF (g i)
     ·have:=h n (by omega) z z2 z3
      rw [not_or,not_and] at this
      rw [decide_eq_false this.1]
      by_cases z4:(g n).day=(g i).day
      ·rw [decide_eq_false (this.2 z4)];simp
      ·rw [decide_eq_false z4];simp
     ·rw [decide_eq_false z3];simp
    ·rw [Bool.not_eq_true] at z2
     rw [z2];simp
theorem wsa {ok:FL→Bool} {g:Nat→FL} {n i:Nat} (hi:i<n) (hok:ok (g i)=true):kpS ok g i n=true↔Best ok g (encF (g i)) n i:=by
 rw [wr9]
 constructor
 ·intro h
  refine ⟨hi,hok,rfl,fun k hk hk2 e=>?_⟩
  by_cases z:k=i
  ·subst z;exact .inr ⟨rfl,Nat.le_refl _⟩
  ·have:=h k hk z hk2 e;omega
 ·intro b k hk hne hk2 e
  have:=b.least k hk hk2 e
  omega
def kept (ok:FL→Bool) (g:Nat→FL) (n i:Nat):Bool:=ok (g i) && kpS ok g i n
theorem wjh {ok:FL→Bool} {g:Nat→FL} {n i:Nat} (hi:i<n):kept ok g n i=true↔Best ok g (encF (g i)) n i:=by
 unfold kept
 rw [Bool.and_eq_true]
 constructor
 ·rintro ⟨a,b⟩;exact (wsa hi a).1 b
 ·intro b;exact ⟨b.good,(wsa hi b.good).2 b⟩
theorem wyl {ok:FL→Bool} {g:Nat→FL} {n i j:Nat} (hi:i<n) (hj:j<n) (a:kept ok g n i=true) (b:kept ok g n j=true) (e:encF (g i)=encF (g j)):i=j:=by
 have h1:=(wjh hi).1 a
 have h2:=(wjh hj).1 b
 rw [e] at h1
 exact h1.uniq h2
def dnF (L:List FL) (m:FL):Nat→Nat
 |0=>0
 |a+1=>bif decide (ordF m (atF L a)<0) then dnF L m a else a+1
theorem wo4 (L:List FL) (m:FL):∀ a,dnF L m a≤a
 |0=>Nat.le_refl _
 |a+1=>by
  rw [dnF]
  cases decide (ordF m (atF L a)<0) with
  |true=>have:=wo4 L m a;show dnF L m a≤a+1;omega
  |false=>exact Nat.le_refl _
theorem dnF_hi (L:List FL) (m:FL):∀ a i,dnF L m a≤i→i<a→ordF m (atF L i)<0
 |0,i,_,h=>absurd h (Nat.not_lt_zero _)
 |a+1,i,h1,h2=>by
  rw [dnF] at h1
  by_cases q:ordF m (atF L a)<0
  ·rw [decide_eq_true q] at h1
   by_cases e:i=a
   ·rw [e];exact q
   ·exact dnF_hi L m a i h1 (by omega)
  ·rw [decide_eq_false q] at h1
   have h1:a+1≤i:=h1
   omega
theorem dnF_lo (L:List FL) (m:FL):∀ a,dnF L m a=0∨¬ ordF m (atF L (dnF L m a - 1))<0
 |0=>.inl rfl
 |a+1=>by
  rw [dnF]
  by_cases q:ordF m (atF L a)<0
  ·rw [decide_eq_true q];exact dnF_lo L m a
  ·rw [decide_eq_false q];exact .inr q
def insF (L:List FL) (m:FL):List FL:=L.take (dnF L m L.length)++m::L.drop (dnF L m L.length)
theorem wyt {L:List FL} {m x:FL}:x∈insF L m↔x=m∨x∈L:=by
 unfold insF
 rw [List.mem_append,List.mem_cons]
 have:x∈L↔x∈L.take (dnF L m L.length)∨x∈L.drop (dnF L m L.length):=by
  rw [← List.mem_append,List.take_append_drop]
 rw [this]
 grind
theorem wyu {L:List FL} {m:FL} (h:Asc ordF L) (hn:∀ x∈L,encF x≠encF m):Asc ordF (insF L m):=by
 have hle:=wo4 L m L.length
 unfold insF
 refine Asc.insert (by rw [List.take_append_drop];exact h) (fun y hy=>?_) (fun y hy=>?_)
 ·obtain ⟨i,hi,rfl⟩:=List.mem_iff_getElem.1 hy
  rw [List.length_take] at hi
  rw [List.getElem_take, ← wew (show i<L.length by omega)]
  have hlo:=(dnF_lo L m L.length).resolve_left (by omega)
  generalize dnF L m L.length=a at *
  have ne:ordF m (atF L (a - 1))≠0:=fun z=>hn _ (wev (by omega)) (wq6 z).1.symm
  have k:=wej.neg m (atF L (a - 1))
  have k':=wej.neg (atF L (a - 1)) m
  have lt:ordF (atF L (a - 1)) m<0:=by omega
  by_cases z:i=a - 1
  ·rw [z];exact lt
  ·exact wej.lt_trans (wkc h (show i<a - 1 by omega) (by omega)) lt
 ·obtain ⟨i,hi,rfl⟩:=List.mem_iff_getElem.1 hy
  rw [List.length_drop] at hi
  rw [List.getElem_drop, ← wew (by omega)]
  exact dnF_hi L m L.length _ (by omega) (by omega)
def nrmK (ok:FL→Bool) (g:Nat→FL) (n:Nat):Nat→List FL
 |0=>[]
 |k+1=>bif kept ok g n k then insF (nrmK ok g n k) (g k) else nrmK ok g n k
theorem wi5 {ok:FL→Bool} {g:Nat→FL} {n:Nat} {x:FL}:∀ {k},x∈nrmK ok g n k↔∃ i,i<k∧kept ok g n i=true∧g i=x
 |0=>by simp [nrmK]
 |k+1=>by
  rw [nrmK]
  cases q:kept ok g n k with
  |true=>
   rw [cond_true,wyt,wi5 (k:=k)]
   constructor
   ·rintro (rfl | ⟨i,hi,h⟩)
    ·exact ⟨k,by omega,q,rfl⟩
    ·exact ⟨i,by omega,h⟩
   ·rintro ⟨i,hi,h1,h2⟩
    by_cases z:i=k
    ·subst z;exact .inl h2.symm
    ·exact .inr ⟨i,by omega,h1,h2⟩
  |false=>
   rw [cond_false,wi5 (k:=k)]
   constructor
   ·rintro ⟨i,hi,h⟩;exact ⟨i,by omega,h⟩
   ·rintro ⟨i,hi,h1,h2⟩
    by_cases z:i=k
    ·subst z;rw [q] at h1;cases h1
    ·exact ⟨i,by omega,h1,h2⟩
theorem whf {ok:FL→Bool} {g:Nat→FL} {n:Nat}:∀ {k},k≤n→Asc ordF (nrmK ok g n k)
 |0,_=>List.Pairwise.nil
 |k+1,hk=>by
  rw [nrmK]
  cases q:kept ok g n k with
  |false=>exact whf (by omega)
  |true=>
   refine wyu (whf (by omega)) fun x hx e=>?_
   obtain ⟨i,hi,h1,rfl⟩:=wi5.1 hx
   have:=wyl (show i<n by omega) (show k<n by omega) h1 q e
   omega
def nrmL (ok:FL→Bool) (g:Nat→FL) (n:Nat):List FL:=nrmK ok g n n
theorem wf3 {ok:FL→Bool} {g:Nat→FL} {n:Nat} {x:FL}:x∈nrmL ok g n↔∃ i,Best ok g (encF x) n i∧g i=x:=by
 unfold nrmL
 rw [wi5]
 constructor
 ·rintro ⟨i,hi,h,rfl⟩;exact ⟨i,(wjh hi).1 h,rfl⟩
 ·rintro ⟨i,h,rfl⟩;exact ⟨i,h.lt,(wjh h.lt).2 h,rfl⟩
theorem wv0 {ok:FL→Bool} {g:Nat→FL} {n:Nat} {L:List FL} (h:Asc ordF L) (hm:∀ x,x∈L↔∃ i,Best ok g (encF x) n i∧g i=x):L=nrmL ok g n:=
 Asc.uniq wej h (whf (Nat.le_refl n)) fun x=>(hm x).trans wf3.symm
theorem wrj {ok:FL→Bool} {g:Nat→FL} {n:Nat} {x y:FL} (hx:x∈nrmL ok g n) (hy:y∈nrmL ok g n) (e:encF x=encF y):x=y:=by
 obtain ⟨i,hi,rfl⟩:=wf3.1 hx
 obtain ⟨j,hj,rfl⟩:=wf3.1 hy
 rw [e] at hi
 rw [hi.uniq hj]
theorem nrm_ok {ok:FL→Bool} {g:Nat→FL} {n:Nat} {x:FL} (hx:x∈nrmL ok g n):ok x=true:=by
 obtain ⟨i,hi,rfl⟩:=wf3.1 hx
 exact hi.good
def waq (ok:FL→Bool) (g:Nat→FL):Nat→List (List UInt8)
 |0=>[]
 |k+1=>bif ok (g k) && !decide (encF (g k)∈waq ok g k) then waq ok g k++[encF (g k)] else waq ok g k
theorem wfh {ok:FL→Bool} {g:Nat→FL} {t:List UInt8}:∀ {k},t∈waq ok g k↔∃ i,i<k∧ok (g i)=true∧encF (g i)=t
 |0=>by simp [waq]
 |k+1=>by
  have ih:=wfh (ok:=ok) (g:=g) (t:=t) (k:=k)
  rw [waq]
  cases q:ok (g k) with
  |false=>
   rw [Bool.false_and,cond_false,ih]
   constructor
   ·rintro ⟨i,hi,h⟩;exact ⟨i,by omega,h⟩
   ·rintro ⟨i,hi,h1,h2⟩
    by_cases z:i=k
    ·subst z;rw [q] at h1;cases h1
    ·exact ⟨i,by omega,h1,h2⟩
  |true=>
   by_cases p:encF (g k)∈waq ok g k
   ·rw [decide_eq_true p]
    show t∈waq ok g k↔_
    rw [ih]
    constructor
    ·rintro ⟨i,hi,h⟩;exact ⟨i,by omega,h⟩
    ·rintro ⟨i,hi,h1,h2⟩
     by_cases z:i=k
     ·subst z;subst h2;exact ih.1 p
     ·exact ⟨i,by omega,h1,h2⟩
   ·rw [decide_eq_false p]
    show t∈waq ok g k++[encF (g k)]↔_
    rw [List.mem_append,List.mem_singleton,ih]
    constructor
    ·rintro (⟨i,hi,h⟩ | rfl)
     ·exact ⟨i,by omega,h⟩
     ·exact ⟨k,by omega,q,rfl⟩
    ·rintro ⟨i,hi,h1,h2⟩
     by_cases z:i=k
     ·subst z;exact .inr h2.symm
     ·exact .inl ⟨i,by omega,h1,h2⟩
theorem wfg {ok:FL→Bool} {g:Nat→FL}:∀ k,(waq ok g k).Nodup
 |0=>List.nodup_nil
 |k+1=>by
  rw [waq]
  cases q:ok (g k) && !decide (encF (g k)∈waq ok g k) with
  |false=>exact wfg k
  |true=>
   rw [Bool.and_eq_true,Bool.not_eq_true',decide_eq_false_iff_not] at q
   show (waq ok g k++[encF (g k)]).Nodup
   rw [List.nodup_append]
   refine ⟨wfg k,by simp,fun a ha b hb=>?_⟩
   rw [List.mem_singleton] at hb
   subst hb
   intro e
   subst e
   exact q.2 ha
def wa9 (ok:FL→Bool) (g:Nat→FL) (n:Nat) (t:List UInt8):FL:=match wck ok g t n with
 |some j=>g j
 |none=>wdv
theorem wfq {ok:FL→Bool} {g:Nat→FL} {n:Nat} {t:List UInt8} (h:t∈waq ok g n):∃ j,Best ok g t n j∧wa9 ok g n t=g j:=by
 obtain ⟨i,hi,h1,h2⟩:=wfh.1 h
 cases b:wck ok g t n with
 |none=>exact absurd h2 ((wib ok g t n).2 b i hi h1)
 |some j=>exact ⟨j,(wib ok g t n).1 j b,by unfold wa9;rw [b]⟩
theorem wv1 {ok:FL→Bool} {g:Nat→FL} {n:Nat} {K:List (List UInt8)} (hp:K.Perm (waq ok g n)) (hs:K.Pairwise fun a b=>¬ ordF (wa9 ok g n b) (wa9 ok g n a)<0):K.map (wa9 ok g n)=nrmL ok g n:=by
 have mem:∀ t,t∈K→t∈waq ok g n:=fun t h=>hp.mem_iff.1 h
 have enc:∀ t,t∈K→encF (wa9 ok g n t)=t:=fun t h=>by
  obtain ⟨j,b,e⟩:=wfq (mem t h)
  rw [e];exact b.enc
 apply wv0
 ·refine Asc.of_sorted (by rw [List.pairwise_map];exact hs) wej ?_
  rw [List.pairwise_map]
  have nd:K.Nodup:=hp.nodup_iff.2 (wfg n)
  refine nd.imp_of_mem fun {a b} ha hb hne z=>hne ?_
  have:=(wq6 z).1
  rw [enc a ha,enc b hb] at this
  exact this
 ·intro x
  rw [List.mem_map]
  constructor
  ·rintro ⟨t,ht,rfl⟩
   obtain ⟨j,b,e⟩:=wfq (mem t ht)
   rw [enc t ht]
   exact ⟨j,b,e.symm⟩
  ·rintro ⟨i,b,rfl⟩
   have hk:encF (g i)∈waq ok g n:=wfh.2 ⟨i,b.lt,b.good,rfl⟩
   obtain ⟨j,b',e⟩:=wfq hk
   exact ⟨encF (g i),hp.mem_iff.2 hk,by rw [e,b'.uniq b]⟩
theorem mgE_cut {a b:MG} {r s:List UInt8} (h:mgE a++r=mgE b++s):a=b∧r=s:=by
 obtain ⟨a1,a2,a3,⟨b1,b2,b3,b4,b5,b6,b7⟩,c1,c2,c3,c4,c5⟩:=a
 obtain ⟨a1',a2',a3',⟨b1',b2',b3',b4',b5',b6',b7'⟩,c1',c2',c3',c4',c5'⟩:=b
 unfold mgE at h
 simp only [List.append_assoc] at h
 obtain ⟨e1,h⟩:=wcu h
 obtain ⟨e2,h⟩:=wbu h
 obtain ⟨e3,h⟩:=wbu h
 obtain ⟨e4,h⟩:=wcu h
 obtain ⟨e5,h⟩:=wcu h
 obtain ⟨e6,h⟩:=wbu h
 obtain ⟨e7,h⟩:=wbu h
 obtain ⟨e8,h⟩:=wbu h
 obtain ⟨e9,h⟩:=wbu h
 obtain ⟨e10,h⟩:=wcu h
 obtain ⟨e11,h⟩:=wcu h
 obtain ⟨e12,h⟩:=wcu h
 obtain ⟨e13,h⟩:=wbu h
 obtain ⟨e14,h⟩:=wcu h
 obtain ⟨e15,hr⟩:=wbu h
 subst e1;subst e2;subst e3;subst e4;subst e5;subst e6;subst e7;subst e8;subst e9;subst e10;subst e11;subst e12;subst e13;subst e14;subst e15
 exact ⟨rfl,hr⟩
theorem rwE_cut {a b:RW} {r s:List UInt8} (h:rwE a++r=rwE b++s):a=b∧r=s:=by
 obtain ⟨a1,a2,a3,a4,a5⟩:=a
 obtain ⟨b1,b2,b3,b4,b5⟩:=b
 unfold rwE at h
 simp only [List.append_assoc] at h
 obtain ⟨e1,h⟩:=wcu h
 obtain ⟨e2,h⟩:=wcu h
 obtain ⟨e3,h⟩:=wbu h
 obtain ⟨e4,h⟩:=wbu h
 obtain ⟨e5,hr⟩:=wbu h
 subst e1;subst e2;subst e3;subst e4;subst e5
 exact ⟨rfl,hr⟩
theorem bkE_cut {a b:BK} {r s:List UInt8} (h:bkE a++r=bkE b++s):a=b∧r=s:=by
 obtain ⟨a1,a2⟩:=a
 obtain ⟨b1,b2⟩:=b
 unfold bkE at h
 simp only [List.append_assoc] at h
 obtain ⟨e1,h⟩:=wbu h
 obtain ⟨e2,hr⟩:=wbu h
 subst e1;subst e2
 exact ⟨rfl,hr⟩
theorem whl {α:Type} {e:α→List UInt8} (hc:∀ {a b:α} {r s:List UInt8},e a++r=e b++s→a=b∧r=s):∀ {l k:List α} {r s:List UInt8},l.length=k.length→l.flatMap e++r=k.flatMap e++s→l=k∧r=s
 |[],[],_,_,_,h=>⟨rfl,h⟩
 |[],_::_,_,_,hl,_=>by simp at hl
 |_::_,[],_,_,hl,_=>by simp at hl
 |x::l,y::k,r,s,hl,h=>by
  rw [List.flatMap_cons,List.flatMap_cons,List.append_assoc,List.append_assoc] at h
  obtain ⟨e1,h⟩:=hc h
  obtain ⟨e2,h⟩:=whl hc (by simpa using hl) h
  exact ⟨by rw [e1,e2],h⟩
theorem rtE_cut {a b:RT} {r s:List UInt8} (h:rtE a++r=rtE b++s):a=b∧r=s:=by
 obtain ⟨a1,a2,a3,a4,a5⟩:=a
 obtain ⟨b1,b2,b3,b4,b5⟩:=b
 unfold rtE at h
 simp only [List.append_assoc] at h
 obtain ⟨e1,h⟩:=wcu h
 obtain ⟨e2,h⟩:=wcu h
 obtain ⟨e3,h⟩:=wbu h
 obtain ⟨e4,h⟩:=wbu h
 obtain ⟨e5,h⟩:=wbu h
 obtain ⟨e6,hr⟩:=whl (fun h=>bkE_cut h) (by omega) h
 subst e1;subst e2;subst e3;subst e4;subst e6
 exact ⟨rfl,hr⟩
theorem wtg {f g:FL} (h:encF f=encF g) (hd:f.day=g.day):f=g:=by
 obtain ⟨a1,a2,a3,a4,a5,a6,a7⟩:=f
 obtain ⟨b1,b2,b3,b4,b5,b6,b7⟩:=g
 unfold encF at h
 dsimp only at h hd
 obtain ⟨e1,h⟩:=wcu h
 obtain ⟨e2,h⟩:=wbu h
 obtain ⟨e3,h⟩:=wbu h
 obtain ⟨e4,h⟩:=wbu h
 obtain ⟨e5,h⟩:=whl (fun h=>mgE_cut h) (by omega) h
 obtain ⟨e6,h⟩:=wbu h
 obtain ⟨e7,h⟩:=whl (fun h=>rwE_cut h) (by omega) h
 obtain ⟨e8,h⟩:=wbu h
 have h:a7.flatMap rtE++[]=b7.flatMap rtE++[]:=by rw [List.append_nil,List.append_nil];exact h
 obtain ⟨e9,_⟩:=whl (fun h=>rtE_cut h) (by omega) h
 subst e1;subst e2;subst e3;subst e5;subst e7;subst e9;subst hd
 rfl
theorem memL {α:Type} {g:Nat→α} {n:Nat} {x:α}:x∈lst g n↔∃ i,i<n∧g i=x:=by
 unfold lst
 rw [List.mem_map]
 constructor
 ·rintro ⟨i,hi,e⟩;exact ⟨i,List.mem_range.1 hi,e⟩
 ·rintro ⟨i,hi,e⟩;exact ⟨i,List.mem_range.2 hi,e⟩
theorem nrm_set {ok:FL→Bool} {g:Nat→FL} {n:Nat} {x:FL}:x∈nrmL ok g n↔x∈lst g n∧ok x=true∧∀ y,y∈lst g n→ok y=true→encF y=encF x→x.day≤y.day:=by
 rw [wf3]
 constructor
 ·rintro ⟨i,b,rfl⟩
  refine ⟨memL.2 ⟨i,b.lt,rfl⟩,b.good,fun y hy hok e=>?_⟩
  obtain ⟨k,hk,rfl⟩:=memL.1 hy
  have:=b.least k hk hok e
  omega
 ·rintro ⟨hx,hok,hl⟩
  obtain ⟨i,hi,rfl⟩:=memL.1 hx
  have hk:encF (g i)∈waq ok g n:=wfh.2 ⟨i,hi,hok,rfl⟩
  obtain ⟨j,b,_⟩:=wfq hk
  have h1:=b.least i hi hok rfl
  have h2:=hl (g j) (memL.2 ⟨j,b.lt,rfl⟩) b.good b.enc
  exact ⟨j,b,wtg b.enc (by omega)⟩
def knwL (ok:FL→Bool) (g:Nat→FL) (n:Nat) (d:Int):List FL:=(nrmL ok g n).filter fun f=>decide (f.day≤d)
def edM (f:FL):MG:=⟨f.id,f.ver,0,⟨[],[],0,0,0,0,[]⟩,⟨[],[],0,[],0⟩⟩
def wit (a b:FL):Bool:=decide (a.id=b.id) && decide (a.ver=b.ver)
theorem wg7 {a b:FL}:wit a b=true↔mk2 (edM a)=mk2 (edM b):=by simp [wit,mk2,edM]
def cfB (L:List FL) (i:Nat):Bool:=decide (1<numC (fun j=>edM (atF L j)) (mk2 (edM (atF L i))) L.length)
def conS (L:List FL) (i:Nat):Nat→Bool
 |0=>false
 |k+1=>conS L i k || (!decide (k=i) && wit (atF L k) (atF L i))
theorem wj0 {L:List FL} {i:Nat}:∀ {n},conS L i n=true↔∃ k,k<n∧k≠i∧wit (atF L k) (atF L i)=true
 |0=>by simp [conS]
 |n+1=>by
  rw [conS,Bool.or_eq_true,wj0 (n:=n),Bool.and_eq_true,Bool.not_eq_true',decide_eq_false_iff_not]
  constructor
  ·rintro (⟨k,hk,h⟩ | ⟨h1,h2⟩)
   ·exact ⟨k,by omega,h⟩
   ·exact ⟨n,by omega,h1,h2⟩
  ·rintro ⟨k,hk,h1,h2⟩
   by_cases z:k=n
   ·subst z;exact .inr ⟨h1,h2⟩
   ·exact .inl ⟨k,by omega,h1,h2⟩
theorem wto {L:List FL} {i:Nat} (hi:i<L.length):conS L i L.length=cfB L i:=by
 unfold cfB
 rw [Bool.eq_iff_iff,wj0,decide_eq_true_eq,wrg]
 constructor
 ·rintro ⟨k,hk,hne,e⟩
  have e:=wg7.1 e
  by_cases z:k<i
  ·exact ⟨k,i,z,hi,e,rfl⟩
  ·exact ⟨i,k,by omega,hk,rfl,e⟩
 ·rintro ⟨a,b,hab,hb,e1,e2⟩
  by_cases z:a=i
  ·exact ⟨b,hb,by omega,wg7.2 e2⟩
  ·exact ⟨a,by omega,z,wg7.2 e1⟩
def selK (q:Nat→Bool) (L:List FL):Nat→List FL
 |0=>[]
 |k+1=>bif q k then selK q L k++[atF L k] else selK q L k
theorem wfx {q:Nat→Bool} {L:List FL} {x:FL}:∀ {k},x∈selK q L k↔∃ i,i<k∧q i=true∧atF L i=x
 |0=>by simp [selK]
 |k+1=>by
  rw [selK]
  cases h:q k with
  |true=>
   rw [cond_true,List.mem_append,List.mem_singleton,wfx (k:=k)]
   constructor
   ·rintro (⟨i,hi,h1,h2⟩ | rfl)
    ·exact ⟨i,by omega,h1,h2⟩
    ·exact ⟨k,by omega,h,rfl⟩
   ·rintro ⟨i,hi,h1,h2⟩
    by_cases z:i=k
    ·subst z;exact .inr h2.symm
    ·exact .inl ⟨i,by omega,h1,h2⟩
  |false=>
   rw [cond_false,wfx (k:=k)]
   constructor
   ·rintro ⟨i,hi,h1,h2⟩;exact ⟨i,by omega,h1,h2⟩
   ·rintro ⟨i,hi,h1,h2⟩
    by_cases z:i=k
    ·subst z;rw [h] at h1;cases h1
    ·exact ⟨i,by omega,h1,h2⟩
theorem wiq (q:Nat→Bool) (L:List FL):∀ k,(selK q L k).length≤k
 |0=>Nat.le_refl _
 |k+1=>by
  have ih:=wiq q L k
  rw [selK]
  cases q k with
  |true=>rw [cond_true,List.length_append];show _+1≤_;omega
  |false=>rw [cond_false];omega
def badL (L:List FL):List FL:=selK (cfB L) L L.length
def wbh (L:List FL):List FL:=selK (fun i=> !cfB L i) L L.length
theorem wsm {L:List FL} {x:FL} (h:x∈wbh L):x∈L:=by
 obtain ⟨i,hi,_,rfl⟩:=wfx.1 h
 exact wev hi
def nwF (G:List FL) (id:List UInt8):Nat→Int
 |0=>0
 |k+1=>bif !decide ((atF G k).kind=1) && decide ((atF G k).id=id) then max (nwF G id k) (atF G k).ver else nwF G id k
theorem nwF_lt {G:List FL} {id:List UInt8} {v:Int} (hv:0≤v):∀ {n},v<nwF G id n↔∃ k,k<n∧(atF G k).kind≠1∧(atF G k).id=id∧v<(atF G k).ver
 |0=>by simp [nwF];omega
 |n+1=>by
  have ih:=nwF_lt (G:=G) (id:=id) hv (n:=n)
  rw [nwF]
  cases h: !decide ((atF G n).kind=1) && decide ((atF G n).id=id) with
  |true=>
   rw [Bool.and_eq_true,Bool.not_eq_true',decide_eq_false_iff_not,decide_eq_true_eq] at h
   rw [cond_true]
   have e:v<max (nwF G id n) (atF G n).ver↔v<nwF G id n∨v<(atF G n).ver:=by omega
   rw [e,ih]
   constructor
   ·rintro (⟨k,hk,q⟩ | q)
    ·exact ⟨k,by omega,q⟩
    ·exact ⟨n,by omega,h.1,h.2,q⟩
   ·rintro ⟨k,hk,q1,q2,q3⟩
    by_cases z:k=n
    ·subst z;exact .inr q3
    ·exact .inl ⟨k,by omega,q1,q2,q3⟩
  |false=>
   rw [cond_false,ih]
   constructor
   ·rintro ⟨k,hk,q⟩;exact ⟨k,by omega,q⟩
   ·rintro ⟨k,hk,q1,q2,q3⟩
    by_cases z:k=n
    ·subst z
     rw [decide_eq_false q1,decide_eq_true q2] at h
     cases h
    ·exact ⟨k,by omega,q1,q2,q3⟩
def vwB (G:List FL) (f:FL):Bool:= !(!decide (f.kind=1) && decide (f.ver<nwF G f.id G.length))
def wec (G:List FL):List FL:=G.filter (vwB G)
def vwL (ok:FL→Bool) (g:Nat→FL) (n:Nat) (d:Int):List FL:=wec (wbh (knwL ok g n d))
def atB (L:List BK) (i:Nat):BK:=L.getD i ⟨0,0⟩
def lowB (bs:List BK):Nat→Int
 |0=>0
 |k+1=>(atB bs k).up
def bkOK (bs:List BK) (i:Nat):Bool:=decide (0≤(atB bs i).pr) && (decide ((atB bs i).pr≤1099511627776) && (bif decide (i+1=bs.length) then decide ((atB bs i).up=0) else decide (lowB bs i<(atB bs i).up) && decide ((atB bs i).up≤1099511627776)))
def bksB (bs:List BK):Nat→Bool
 |0=>true
 |k+1=>bksB bs k && bkOK bs k
def tfF (st:Int) (bs:List BK):Int:=bif !(decide (0≤st) && decide (st≤1099511627776)) then 140 else bif decide (bs.length<1) || decide (8<bs.length) then 141 else bif bksB bs bs.length then 0 else 141
def rtOK (t:RT):Bool:=wb3 t.o t.p t.per && decide (tfF t.st t.bs=0)
def ctF (f:FL):Bool:=bif decide (f.kind=1) then decide (f.rs.length+f.ts.length=0) && (decide (f.ms.length≤400) && f.ms.all fun m=>decide (msgF m=0))
 else bif decide (f.kind=2) then decide (f.ms.length+f.ts.length=0) && (decide (f.rs.length≤400) && f.rs.all rowF)
 else decide (f.ms.length+f.rs.length=0) && (decide (f.ts.length≤400) && f.ts.all rtOK)
def vinF (f:FL):Int:=bif !wa7 f.id then 150 else bif decide (f.ver<1) || decide (1000<f.ver) || (decide (f.kind=1) && !decide (f.ver=1)) then 151 else bif decide (f.day<0) || decide (182620<f.day) then 152
 else bif decide (f.kind<1) || decide (3<f.kind) then 153 else bif !ctF f then 154 else 0
def okV (f:FL):Bool:=decide (vinF f=0)
theorem wq9 {f:FL} (h:okV f=true):wa7 f.id=true∧(1≤f.ver∧f.ver≤1000)∧(0≤f.day∧f.day≤182620)∧(1≤f.kind∧f.kind≤3)∧(f.kind=1→f.ver=1)∧ctF f=true:=by
 unfold okV vinF at h
 rw [decide_eq_true_eq] at h
 cases h1:wa7 f.id with
 |false=>rw [h1] at h;exact absurd (show (150:Int)=0 from h) (by decide)
 |true=>
  rw [h1] at h
  cases h2:decide (f.ver<1) || decide (1000<f.ver) || (decide (f.kind=1) && !decide (f.ver=1)) with
  |true=>rw [h2] at h;exact absurd (show (151:Int)=0 from h) (by decide)
  |false=>
   rw [h2] at h
   cases h3:decide (f.day<0) || decide (182620<f.day) with
   |true=>rw [h3] at h;exact absurd (show (152:Int)=0 from h) (by decide)
   |false=>
    rw [h3] at h
    cases h4:decide (f.kind<1) || decide (3<f.kind) with
    |true=>rw [h4] at h;exact absurd (show (153:Int)=0 from h) (by decide)
    |false=>
     rw [h4] at h
     cases h5:ctF f with
     |false=>rw [h5] at h;exact absurd (show (154:Int)=0 from h) (by decide)
     |true=>
      simp only [Bool.or_eq_false_iff,Bool.and_eq_false_iff,decide_eq_false_iff_not,Bool.not_eq_false',decide_eq_true_eq] at h2 h3 h4
      obtain ⟨⟨a1,a2⟩,a3⟩:=h2
      exact ⟨rfl,⟨by omega,by omega⟩,⟨by omega,by omega⟩,⟨by omega,by omega⟩,fun k=>a3.resolve_left (fun z=>z k),rfl⟩
def nwf (v r t:Int):FL:=⟨[102],v,r,2,[],[⟨[111,49],idF 0,1440,1,t⟩],[]⟩
theorem wek {v r t v' r' t':Int}:encF (nwf v r t)=encF (nwf v' r' t')↔v=v'∧t=t':=by
 constructor
 ·intro h
  have h:encF (nwf v 0 t)=encF (nwf v' 0 t'):=h
  have e:=wtg h rfl
  unfold nwf at e
  simp only [FL.mk.injEq,List.cons.injEq,RW.mk.injEq] at e
  exact ⟨e.2.1,e.2.2.2.2.2.1.1.2.2.2.2⟩
 ·rintro ⟨rfl,rfl⟩;rfl
theorem wnl {q:Nat→Bool} {L:List FL} (h:Asc ordF L):∀ {k},k≤L.length→Asc ordF (selK q L k)
 |0,_=>List.Pairwise.nil
 |k+1,hk=>by
  rw [selK]
  cases z:q k with
  |false=>exact wnl h (by omega)
  |true=>
   refine List.pairwise_append.2 ⟨wnl h (by omega),List.pairwise_singleton _ _,fun x hx y hy=>?_⟩
   obtain ⟨i,hi,_,rfl⟩:=wfx.1 hx
   rw [List.mem_singleton] at hy
   subst hy
   exact wkc h hi (by omega)
section
variable {V R T:Nat→Int} {n:Nat} {d:Int} (hok:∀ i,i<n→okV (nwf (V i) (R i) (T i))=true)
def nwP (V R T:Nat→Int) (n:Nat) (d v:Int):Prop:=(∃ i,i<n∧V i=v∧R i≤d)∧∀ i j,i<n→j<n→V i=v→V j=v→R i≤d→R j≤d→T i=T j
include hok
theorem whe {x:FL}:x∈knwL okV (fun i=>nwf (V i) (R i) (T i)) n d↔∃ i,i<n∧nwf (V i) (R i) (T i)=x∧R i≤d∧∀ j,j<n→V j=V i→T j=T i→R i≤R j:=by
 unfold knwL
 rw [List.mem_filter,nrm_set,decide_eq_true_eq]
 constructor
 ·rintro ⟨⟨h1,h2,h3⟩,h4⟩
  obtain ⟨i,hi,rfl⟩:=memL.1 h1
  exact ⟨i,hi,rfl,h4,fun j hj e1 e2=>h3 _ (memL.2 ⟨j,hj,rfl⟩) (hok j hj) (wek.2 ⟨e1,e2⟩)⟩
 ·rintro ⟨i,hi,rfl,h1,h2⟩
  refine ⟨⟨memL.2 ⟨i,hi,rfl⟩,hok i hi,fun y hy _ e=>?_⟩,h1⟩
  obtain ⟨j,hj,rfl⟩:=memL.1 hy
  obtain ⟨e1,e2⟩:=wek.1 e
  exact h2 j hj e1 e2
theorem wns {i:Nat} (hi:i<n) (hd:R i≤d):∃ j,j<n∧V j=V i∧T j=T i∧nwf (V j) (R j) (T j)∈knwL okV (fun i=>nwf (V i) (R i) (T i)) n d:=by
 have hk:encF (nwf (V i) (R i) (T i))∈waq okV (fun i=>nwf (V i) (R i) (T i)) n:=wfh.2 ⟨i,hi,hok i hi,rfl⟩
 obtain ⟨j,b,_⟩:=wfq hk
 obtain ⟨e1,e2⟩:=wek.1 b.enc
 have hle:=b.least i hi (hok i hi) rfl
 refine ⟨j,b.lt,e1,e2,(whe hok).2 ⟨j,b.lt,rfl,?_,fun k hk e3 e4=>?_⟩⟩
 ·have:(nwf (V j) (R j) (T j)).day≤(nwf (V i) (R i) (T i)).day:=by omega
  show R j≤d
  have:R j≤R i:=this
  omega
 ·have:=b.least k hk (hok k hk) (wek.2 ⟨by omega,by omega⟩)
  have:(nwf (V j) (R j) (T j)).day≤(nwf (V k) (R k) (T k)).day:=by omega
  exact this
theorem wnt {x:FL}:x∈wbh (knwL okV (fun i=>nwf (V i) (R i) (T i)) n d)↔x∈knwL okV (fun i=>nwf (V i) (R i) (T i)) n d∧nwP V R T n d x.ver:=by
 have asc:Asc ordF (knwL okV (fun i=>nwf (V i) (R i) (T i)) n d):=(whf (Nat.le_refl n)).filter _
 have one:∀ x y,x∈knwL okV (fun i=>nwf (V i) (R i) (T i)) n d→y∈knwL okV (fun i=>nwf (V i) (R i) (T i)) n d→encF x=encF y→x=y:=fun x y hx hy e=>
  wrj (List.mem_filter.1 hx).1 (List.mem_filter.1 hy).1 e
 have mem:=fun x=>whe hok (d:=d) (x:=x)
 have rep:=fun i (hi:i<n) (hd:R i≤d)=>wns hok (d:=d) hi hd
 generalize knwL okV (fun i=>nwf (V i) (R i) (T i)) n d=L at *
 constructor
 ·intro h
  obtain ⟨i,hi,hq,rfl⟩:=wfx.1 h
  have hx:=wev hi
  refine ⟨hx,?_⟩
  obtain ⟨a,ha,ea,hda,_⟩:=(mem _).1 hx
  have key:∀ b,b<n→V b=(atF L i).ver→R b≤d→T b=T a:=fun b hb hv hd=>by
   obtain ⟨j,hj,e1,e2,hm⟩:=rep b hb hd
   obtain ⟨k,hk,ek⟩:=List.mem_iff_getElem.1 hm
   rw [← wew hk] at ek
   have:k=i:=by
    by_cases z:k=i
    ·exact z
    ·rw [Bool.not_eq_true', ← wto hi] at hq
     have:conS L i L.length=true:=wj0.2 ⟨k,hk,z,by
      rw [wg7,ek, ← ea]
      rw [← ea] at hv
      show ([102],V j)=([102],V a)
      rw [e1,hv];rfl⟩
     rw [this] at hq;cases hq
   subst this
   rw [ek] at ea
   have:=(wek.1 (congrArg encF ea)).2
   omega
  rw [← ea]
  refine ⟨⟨a,ha,rfl,hda⟩,fun b c hb hc e1 e2 d1 d2=>?_⟩
  rw [key b hb (by rw [← ea];exact e1) d1,key c hc (by rw [← ea];exact e2) d2]
 ·rintro ⟨hx,⟨_,hp⟩⟩
  obtain ⟨i,hi,e⟩:=List.mem_iff_getElem.1 hx
  rw [← wew hi] at e
  subst e
  refine wfx.2 ⟨i,hi,?_,rfl⟩
  rw [Bool.not_eq_true', ← wto hi]
  cases z:conS L i L.length with
  |false=>rfl
  |true=>
   obtain ⟨k,hk,hne,e⟩:=wj0.1 z
   obtain ⟨a,ha,ea,hda,_⟩:=(mem _).1 hx
   obtain ⟨b,hb,eb,hdb,_⟩:=(mem _).1 (wev hk)
   have hv:V b=V a:=by
    have:=wg7.1 e
    rw [← ea, ← eb] at this
    exact (Prod.mk.inj this).2
   have ht:=hp a b ha hb (by rw [← ea];rfl) (by rw [← ea];exact hv) hda hdb
   have:=one _ _ (wev hk) hx (by rw [← ea, ← eb];exact wek.2 ⟨hv,ht.symm⟩)
   rcases Nat.lt_or_gt_of_ne hne with q | q
   ·have:=wkc asc q hi
    rw [‹atF L k=atF L i›,wej.self] at this;omega
   ·have:=wkc asc q hk
    rw [‹atF L k=atF L i›,wej.self] at this;omega
theorem wrb {x:FL}:x∈vwL okV (fun i=>nwf (V i) (R i) (T i)) n d↔x∈knwL okV (fun i=>nwf (V i) (R i) (T i)) n d∧nwP V R T n d x.ver∧∀ v,x.ver<v→¬ nwP V R T n d v:=by
 unfold vwL wec
 rw [List.mem_filter,wnt hok,and_assoc]
 refine and_congr_right fun hx=>and_congr_right fun hp=>?_
 obtain ⟨a,ha,ea,hda,_⟩:=(whe hok).1 hx
 have hv:0≤x.ver:=by
  have:=(wq9 (hok a ha)).2.1.1
  rw [ea] at this
  omega
 unfold vwB
 rw [Bool.not_eq_true',show decide (x.kind=1)=false by rw [← ea];rfl,Bool.not_false,Bool.true_and,decide_eq_false_iff_not,nwF_lt hv]
 constructor
 ·intro h v hlt hpv
  have hp2:=hpv
  obtain ⟨⟨i,hi,e,hd⟩,_⟩:=hpv
  obtain ⟨j,hj,e1,e2,hm⟩:=wns hok (d:=d) hi hd
  have hg:=(wnt hok (d:=d)).2 ⟨hm,by
   show nwP V R T n d (V j)
   rw [e1,e];exact hp2⟩
  obtain ⟨k,hk,ek⟩:=List.mem_iff_getElem.1 hg
  rw [← wew hk] at ek
  exact h ⟨k,hk,by rw [ek];show (2:Int)≠1;decide,by rw [ek, ← ea];rfl,by rw [ek];show x.ver<V j;omega⟩
 ·rintro h ⟨k,hk,_,_,hlt⟩
  exact h _ hlt ((wnt hok).1 (wev hk)).2
theorem nw_none (h:∀ v,¬ nwP V R T n d v):vwL okV (fun i=>nwf (V i) (R i) (T i)) n d=[]:=by
 rw [List.eq_nil_iff_forall_not_mem]
 intro x hx
 exact h _ ((wrb hok).1 hx).2.1
theorem nw_one {b:Int} (hb:nwP V R T n d b) (hm:∀ v,b<v→¬ nwP V R T n d v):∃ i,i<n∧V i=b∧R i≤d∧vwL okV (fun i=>nwf (V i) (R i) (T i)) n d=[nwf (V i) (R i) (T i)]:=by
 have hb2:=hb
 obtain ⟨⟨i,hi,e,hd⟩,ht⟩:=hb
 obtain ⟨j,hj,e1,e2,hx⟩:=wns hok (d:=d) hi hd
 obtain ⟨a,ha,ea,hda,_⟩:=(whe hok).1 hx
 have ev:V a=V j:=(wek.1 (congrArg encF ea)).1
 have hday:R a=R j:=congrArg FL.day ea
 refine ⟨j,hj,by omega,by omega,?_⟩
 have asc:Asc ordF (vwL okV (fun i=>nwf (V i) (R i) (T i)) n d):=(wnl ((whf (Nat.le_refl n)).filter _) (Nat.le_refl _)).filter _
 have mem:=fun x=>wrb hok (d:=d) (x:=x)
 have hv:nwf (V j) (R j) (T j)∈vwL okV (fun i=>nwf (V i) (R i) (T i)) n d:=(mem _).2 ⟨hx,by show nwP V R T n d (V j);rw [e1,e];exact hb2,fun v hlt=>hm v (by have:V j<v:=hlt;omega)⟩
 have all:∀ y,y∈vwL okV (fun i=>nwf (V i) (R i) (T i)) n d→y=nwf (V j) (R j) (T j):=fun y hy=>by
  obtain ⟨h1,h2,h3⟩:=(mem y).1 hy
  obtain ⟨c,hc,rfl,hdc,_⟩:=(whe hok).1 h1
  have hvc:V c=b:=by
   rcases Int.lt_trichotomy (V c) b with q | q | q
   ·exact absurd hb2 (h3 b q)
   ·exact q
   ·exact absurd h2 (hm _ q)
  have:=ht c j hc hj hvc (by omega) hdc (by omega)
  exact wrj (List.mem_filter.1 h1).1 (List.mem_filter.1 hx).1 (wek.2 ⟨by omega,this⟩)
 generalize vwL okV (fun i=>nwf (V i) (R i) (T i)) n d=L at *
 match L,asc,hv,all with
 |[],_,hv,_=>cases hv
 |[y],_,_,all=>rw [all y List.mem_cons_self]
 |y::z::l,asc,_,all=>
  have h1:=all y List.mem_cons_self
  have h2:=all z (List.mem_cons_of_mem _ List.mem_cons_self)
  have:=(List.pairwise_cons.1 asc).1 z List.mem_cons_self
  rw [h1,h2,wej.self] at this
  omega
end
def wif:RT:=⟨[],[],0,0,[]⟩
def atT (L:List RT) (i:Nat):RT:=L.getD i wif
theorem atT_get {L:List RT} {i:Nat} (h:i<L.length):atT L i=L[i]:=by simp [atT,h]
theorem wt7 {L:List RT} {i:Nat} (h:i<L.length):atT L i∈L:=by rw [atT_get h];exact List.getElem_mem h
def sameT (a b:RT):Bool:=decide (a.o=b.o) && (decide (a.p=b.p) && decide (a.per=b.per))
structure VT.Made (x:VT):Prop where
 ok:visF x=true
 o:x.o.length≤2
structure MG.Made (m:MG):Prop where
 ok:msgF m=0
 dev:m.dev.length≤1
 o:m.v.o.length≤2
 o':m.d.o.length≤2
 dd:m.d.dev.length≤1
structure RX where
 k:Nat
 L:List RW
structure MgS where
 c:Nat
 g:Nat→MG
 a:Int
def MG.put (g:Nat→MG) (k:Nat) (r:MG) (i:Nat):MG:=if i<k then g i else r
structure RE (f:Nat→List AV) (n:Nat):Prop where
 eq:∀ i,i<n→f i=wah (mgOf f) i
structure RM (f:Nat→List AV) (n:Nat):Prop where
 eq:∀ i,i<n→f i=wah (mgOf f) i
 sm:∀ i,i<n→(mgOf f i).Sm
theorem wd3 {α:Type} (L:List α) (d:α):lst (fun i=>L.getD i d) L.length=L:=by
 apply List.ext_getElem?
 intro i
 unfold lst
 rw [List.getElem?_map]
 rcases Nat.lt_or_ge i L.length with h | h
 ·rw [List.getElem?_range h,Option.map_some,List.getElem?_eq_getElem h]
  simp [h]
 ·rw [List.getElem?_eq_none (by simpa using h),List.getElem?_eq_none h];rfl
def wa6 (g:Nat→BK) (i:Nat):List AV:=[.int .i64 (g i).up,.int .i64 (g i).pr]
def bkOf (f:Nat→List AV) (i:Nat):BK:=match f i with
 |[.int .i64 u,.int .i64 p]=>⟨u,p⟩
 |_=>⟨0,0⟩
def wai (g:Nat→RT) (i:Nat):List AV:=[.str (g i).o,.str (g i).p,.int .i64 (g i).per,.int .i64 (g i).st,.view 2 (g i).bs.length (wa6 (atB (g i).bs))]
def rtOf (f:Nat→List AV) (i:Nat):RT:=match f i with
 |[.str o,.str p,.int .i64 per,.int .i64 st,.view _ n h]=>⟨o,p,per,st,lst (bkOf h) n⟩
 |_=>wif
def wab (g:Nat→FL) (i:Nat):List AV:=[.str (g i).id,.int .i64 (g i).ver,.int .i64 (g i).day,.int .i64 (g i).kind,.view 15 (g i).ms.length (wah (atM (g i).ms)),.view 5 (g i).rs.length (wak (atR (g i).rs)),.view 5 (g i).ts.length (wai (atT (g i).ts))]
def flV (id:List UInt8) (ver day kind:Int) (nm:Nat) (fm:Nat→List AV) (nr:Nat) (fr:Nat→List AV) (nt:Nat) (ft:Nat→List AV):FL:=⟨id,ver,day,kind,lst (mgOf fm) nm,lst (rwOf fr) nr,lst (rtOf ft) nt⟩
def flOf (f:Nat→List AV) (i:Nat):FL:=match f i with
 |[.str id,.int .i64 ver,.int .i64 day,.int .i64 kind,.view _ nm fm,.view _ nr fr,.view _ nt ft]=>flV id ver day kind nm fm nr fr nt ft
 |_=>wdv
theorem wj8 (L:List BK):lst (bkOf (wa6 (atB L))) L.length=L:=wd3 L _
theorem wiw (g:Nat→RT):rtOf (wai g)=g:=by
 funext i
 show (⟨(g i).o,(g i).p,(g i).per,(g i).st,lst (bkOf (wa6 (atB (g i).bs))) (g i).bs.length⟩:RT)=g i
 rw [wj8]
theorem wrx (L:List MG):lst (mgOf (wah (atM L))) L.length=L:=wd3 L _
theorem wqo (L:List RW):lst (rwOf (wak (atR L))) L.length=L:=wd3 L _
theorem wqv (L:List RT):lst (rtOf (wai (atT L))) L.length=L:=by rw [wiw];exact wd3 L _
theorem wd7 (f:FL):flV f.id f.ver f.day f.kind f.ms.length (wah (atM f.ms)) f.rs.length (wak (atR f.rs)) f.ts.length (wai (atT f.ts))=f:=by
 unfold flV
 rw [wrx,wqo,wqv]
theorem wcx (g:Nat→FL):flOf (wab g)=g:=by
 funext i
 exact wd7 (g i)
structure FlC (nm:Nat) (fm:Nat→List AV) (nr:Nat) (fr:Nat→List AV) (nt:Nat) (ft:Nat→List AV):Prop where
 m:fm=wah (atM (lst (mgOf fm) nm))
 r:fr=wak (atR (lst (rwOf fr) nr))
 t:ft=wai (atT (lst (rtOf ft) nt))
theorem wep (f:FL):FlC f.ms.length (wah (atM f.ms)) f.rs.length (wak (atR f.rs)) f.ts.length (wai (atT f.ts)):=⟨by rw [wrx],by rw [wqo],by rw [wqv]⟩
def wlx:Spec
 |[.view 2 n f],[]=>some (.view 2 n f,[],n≤100000∧∀ i,i<n→nrefL (f i)=true)
 |_,_=>none
def wgv:Spec
 |[.view 15 n f],[]=>some (.view 15 n f,[],n≤100000∧∀ i,i<n→nrefL (f i)=true)
 |_,_=>none
def wgt:Spec
 |[.view 5 n f],[]=>some (.view 5 n f,[],n≤100000∧∀ i,i<n→nrefL (f i)=true)
 |_,_=>none
def wgu:Spec
 |[.view 5 0 f],[]=>some (.view 5 0 f,[],True)
 |[.view 5 (n+1) f],[]=>some (.own 0 (n+1),[(0,.row 97 5 (n+1) f false)],n+1≤100000∧∀ i,i<n+1→nrefL (f i)=true)
 |_,_=>none
def wba (F:FL):List AV:=[.str F.id,.int .i64 F.ver,.int .i64 F.day,.int .i64 F.kind,.view 15 F.ms.length (wah (atM F.ms)),.view 5 F.rs.length (wak (atR F.rs)),.view 5 F.ts.length (wai (atT F.ts))]
def S_kc (F:FL) (k:Nat):St:=⟨[(1,.ptr 0 0),(2,.ptr 1 0),(17,.own 2 F.ts.length),(18,.int .i64 F.ts.length),(19,.int .i64 k)],
 [(0,.cells [.str F.id,.int .i64 F.ver,.int .i64 F.day,.int .i64 F.kind,.view 15 F.ms.length (wah (atM F.ms)),.view 5 F.rs.length (wak (atR F.rs)),.own 2 F.ts.length] 49),(1,.cells [.str [],.int .i64 0,.int .i64 0,.int .i64 0,.nil,.nil,.nil] 49),
  (2,.row 97 5 F.ts.length (wai (atT F.ts)) false)],3,[]⟩
def L_kc (F:FL):wau:=fun st Q=>canonIs te 0 [1,2,17,18,19] st (S_kc F 0)∧F.ts.length≤1000∧(∀ t∈F.ts,t.bs.length≤1000)∧Q (.exit 0) ⟨[(1,.ptr 0 0),(2,.ptr 1 0)],[(0,.cells [.str F.id,.int .i64 F.ver,.int .i64 F.day,.int .i64 F.kind,.view 15 F.ms.length (wah (atM F.ms)),.view 5 F.rs.length (wak (atR F.rs)),.own 2 F.ts.length] 49),(1,.cells [.str [],.int .i64 0,.int .i64 0,.int .i64 0,.nil,.nil,.nil] 49),
  (2,.row 97 5 F.ts.length (wai (atT F.ts)) false)],3,[]⟩
end Go.Eng
namespace Go.Eng
open Go.Lib
theorem wyp (n : Int) (h : -9223372036854775808 ≤ n ∧ n ≤ 9223372036854775807) : (itoa n).length ≤ 20 := by
  have dl : ∀ (k u : Nat), u < 10 ^ (k + 1) → (decDigits u).length ≤ k + 1 := by
    intro k
    induction k with
    | zero => intro u hu; rw [decDigits, dif_pos (by simpa using hu)]; simp
    | succ k ih =>
      intro u hu
      rw [decDigits]
      by_cases q : u < 10
      · rw [dif_pos q]; simp
      · rw [dif_neg q, List.length_append]
        have := ih (u / 10) (by rw [Nat.pow_succ] at hu; omega)
        simp; omega
  unfold itoa
  by_cases q : n < 0
  · rw [if_pos q, List.length_cons]
    have := dl 18 n.natAbs (by have : (10 : Nat) ^ 19 = 10000000000000000000 := by decide
                               omega)
    omega
  · rw [if_neg q]
    have := dl 18 n.toNat (by have : (10 : Nat) ^ 19 = 10000000000000000000 := by decide
                              omega)
    omega
end Go.Eng
namespace Go.Eng
def wgl:Spec
 |[.int .i64 n],[]=>some (.bool (decide (0≤n) && decide (n≤1099511627776)),[],True)
 |_,_=>none
def S_tv (st:Int) (bs:List BK) (k:Nat):St:=⟨[(1,.ptr 0 0),(3,.int .i64 (lowB bs k)),(22,.view 2 bs.length (wa6 (atB bs))),(23,.int .i64 bs.length),(24,.int .i64 k)],[(0,.cells [.int .i64 st,.view 2 bs.length (wa6 (atB bs))] 95)],1,[]⟩
def L_tv (st:Int) (bs:List BK):wau:=fun S Q=>canonIs te 0 [1,3,22,23,24] S (S_tv st bs 0)∧bs.length≤8∧waa (bksB bs bs.length) (Q (.exit 0) ⟨[],[],0,[]⟩) (Q .ret ⟨[(2,.int .i64 141)],[],0,[]⟩)
def wkm:Spec
 |[.agg [.int .i64 st,.view 2 n f]],[]=>some (.int .i64 (tfF st (lst (bkOf f) n)),[],f=wa6 (atB (lst (bkOf f) n)))
 |_,_=>none
def wkn:Spec
 |[.own 0 n],[.row _ 5 m f _]=>some (.int .i64 (svF (rwOf f) n),[],n=m∧n≤1000000∧(∀ i,i<n→f i=wak (rwOf f) i)∧∀ i,i<n→(rwOf f i).o.length<4294967281)
 |_,_=>none
def wkt:Spec
 |[.agg [.str o,.str p,.int .i64 per,.int .i64 st,.view 2 n f]],[]=>some (.bool (rtOK ⟨o,p,per,st,lst (bkOf f) n⟩),[],o.length<4294967281∧f=wa6 (atB (lst (bkOf f) n)))
 |_,_=>none
end Go.Eng
