/- Observations: plain lists. -/
import Derived.Test.YtmcdngcjakjnmaaGreatDoorJvt
namespace Go.Eng
theorem u8_to{n:Int}(h0:0<=n)(h1:n<256):((UInt8.ofNat n.toNat).toNat:Int)=n:=by
 rw[UInt8.toNat_ofNat'];have:n.toNat % 2 ^ 8=n.toNat:=Nat.mod_eq_of_lt (by omega);omega
theorem id7_dig(n:Int):(id7 n).all wbc=true:=by
 unfold id7 wbe;rw[List.all_map,List.all_eq_true];intro k _;have h:=w51 (idV n) k;have e:=u8_to (n:=dgI (idV n) k) (by omega) (by omega);show wbc (UInt8.ofNat (dgI (idV n) k).toNat)=true;unfold wbc;rw[bA7,decide_eq_true_eq,decide_eq_true_eq];omega
theorem wk6(n:Int):wba (idF n)=true:=by
 have hc:=ww1 (id7 n);have e:=u8_to (n:=48+(cdF (id7 n)).1) (by omega) (by omega);have hd:wbf (idF n) 8 13=true:=by
  unfold wbf;rw[wvl,bA7];refine⟨rfl,?_⟩;unfold idF;rw[List.all_append,id7_dig,List.all_cons];unfold wbc;rw[Bool.true_and,List.all_nil,Bool.and_true,bA7,decide_eq_true_eq,decide_eq_true_eq];omega
 have ht:(idF n).take 7=id7 n:=by unfold idF;rw[← wi0 n];exact List.take_left
 have hg:(idF n).getD 7 0=UInt8.ofNat (48+(cdF (id7 n)).1).toNat:=by
  unfold idF;rw[List.getD_eq_getElem?_getD,List.getElem?_append_right (by rw[wi0];exact lR7 _),wi0];rfl
 unfold wba;rw[hd,wvl];show decide ((cdF ((idF n).take 7)).1=(((idF n).getD 7 0).toNat:Int) - 48)=true;rw[ht,hg,e,decide_eq_true_eq];omega
def outF(i:Int):List UInt8:=List.getD [[111,49],[111,50],[112]] i.toNat []
def whq:Spec
 |[.ptr 0 0],[.cells [.view sz n f,.int .i64 a] t]=>some (.str (outF (wak n (vInt f) a 3)),[(0,.cells [.view 1 n f,.q (a+1)] 26)],t=26/\sz=1/\f=waf (vInt f)/\(0<=a/\a<=4611686018427387000))
 |_,_=>none
def whp:Spec
 |[.ptr 0 0],[.cells [.view sz n f,.int .i64 a] t]=>some (.str (idF (wak n (vInt f) a 4)),[(0,.cells [.view 1 n f,.q (a+1)] 26)],t=26/\sz=1/\f=waf (vInt f)/\(0<=a/\a<=4611686018427387000))
 |_,_=>none
def whe:Spec
 |[.str o,.str p,.int .i64 per],[]=>some (.bool (wbz o p per),[],o.length<9223372036854775808)
 |_,_=>none
def wmx:Spec
 |[.int .i64 p],[]=>some (.bool (decide (0<=p) && decide (p<=5999)),[],True)
 |_,_=>none
def wn3:Spec
 |[.agg [.str o,.str p,.int .i64 per,.str dev,.int .i64 num]],[]=>some (.bool (wbz o p per && (wa3 dev && numF num)),[],o.length<9223372036854775808/\dev.length<9223372036854775808)
 |_,_=>none
def wmh:Spec
 |[.str a,.str b],[]=>some (.q (cmpS a b),[],True)
 |_,_=>none
def wm2:Spec
 |[.int .i64 a,.int .i64 b],[]=>some (.q (cmpI a b),[],True)
 |_,_=>none
def whi:Spec
 |[.agg [.str dev,.int .i64 seq,.int .i64 _,.str _,.str _,.int .i64 _,.int .i64 _,.int .i64 _,.int .i64 _,.str _,.str _,.str _,.int .i64 _,.str _,.int .i64 _],.agg [.str dev2,.int .i64 seq2,.int .i64 _,.str _,.str _,.int .i64 _,.int .i64 _,.int .i64 _,.int .i64 _,.str _,.str _,.str _,.int .i64 _,.str _,.int .i64 _]],[]=>
   some (.bool (decide (dev=dev2) && decide (seq=seq2)),[],True)
 |_,_=>none
def wh1:Spec
 |[.agg [.str o,.str p,.int .i64 per,.int .i64 _,.int .i64 _,.int .i64 _,.str _],.str o',.str p',.int .i64 per'],[]=>some (.bool (decide (o=o') && (decide (p=p') && decide (per=per'))),[],True)
 |_,_=>none
def devF(i:Int):List UInt8:=List.getD [[97],[98],[99]] i.toNat []
def wn2:Spec
 |[.ptr 0 0],[.cells [.view sz n f,.int .i64 a] t]=>some (.str (devF (wak n (vInt f) a 3)),[(0,.cells [.view 1 n f,.q (a+1)] 26)],t=26/\sz=1/\f=waf (vInt f)/\(0<=a/\a<=4611686018427387000))
 |_,_=>none
structure VT.Made (x:VT):Prop where
 ok:visF x=true
 o:x.o.length<=2
def wok:wcl
 |[.ptr 0 0],[.cells [.view sz n f,.int .i64 a] t],R=>t=26/\sz=1/\f=waf (vInt f)/\(0<=a/\a<=4611686018427386000)/\
   ∀(x:VT) (a':Int),x.Made->(a<=a'/\a'<=a+7)->
   R (.agg [.str x.o,.str x.p,.q x.per,.q x.day,.q x.st,.q x.pr,.str x.rep]) [(0,.cells [.view 1 n f,.q a'] 26)]
 |_,_,_=>False
structure MG.Made (m:MG):Prop where
 ok:msgF m=0
 dev:m.dev.length<=1
 o:m.v.o.length<=2
 o':m.d.o.length<=2
 dd:m.d.dev.length<=1
def wh3:wcl
 |[.ptr 0 0],[.cells [.view sz n f,.int .i64 a] t],R=>t=26/\sz=1/\f=waf (vInt f)/\(0<=a/\a<=4611686018427385000)/\
   ∀(m:MG) (a':Int),m.Made->(a<=a'/\a'<=a+10)->
   R (.agg [.str m.dev,.q m.seq,.q m.kind,.str m.v.o,.str m.v.p,.q m.v.per,.q m.v.day,.q m.v.st,.q m.v.pr,.str m.v.rep,.str m.d.o,.str m.d.p,.q m.d.per,.str m.d.dev,.q m.d.num]) [(0,.cells [.view 1 n f,.q a'] 26)]
 |_,_,_=>False
theorem idF4:∀i,i<4->¬ idF 4=idF (i:Nat):=by decide+kernel
theorem wwq:∀i,i<3->wa3 (List.getD [[97],[98],[99]] i [])=true/\(List.getD [[97],[98],[99]] i ([]:List UInt8)).length<=1:=by decide+kernel
structure MgS where
 c:Nat
 g:Nat->MG
 a:Int
def MG.put(g:Nat->MG)(k:Nat)(r:MG)(i:Nat):MG:=if i<k then g i else r
def wm6(n:Nat)(v:Nat->Int)(N:Int)(i:MgS):St:=⟨[(0,.ptr 0 0),(5,.own 1 i.c),(9,.q N),(10,.q i.c)],
 [(0,.cells [.view 1 n (waf v),.q i.a] 26),(1,.row 47 15 i.c (waa i.g) false)],2,[]⟩
def wpc(n:Nat)(v:Nat->Int)(a N:Int):wap:=λst Q=>canonIs te 1 [0,5,9,10] (ownNil 5 47 15 st) (wm6 n v N ⟨0,λ_=>default,a⟩)/\(0<=N/\N<=100)/\(0<=a/\a<=4611686018427375000)/\
 ∀i:MgS,i.c=N.toNat->(a<=i.a/\i.a<=a+10 * i.c)->(∀j,j<i.c->(i.g j).Made)->Q (.exit 0) ⟨[(5,.own 1 i.c)],[(0,.cells [.view 1 n (waf v),.q i.a] 26),(1,.row 47 15 i.c (waa i.g) false)],2,[]⟩
def R_msgs:wcl
 |[.ptr 0 0,.int .i64 most],[.cells [.view sz n f,.int .i64 a] t],R=>t=26/\sz=1/\f=waf (vInt f)/\(0<=a/\a<=4611686018427370000)/\(0<=most/\most<=90)/\
   ∀(c:Nat) (g:Nat->MG) (a':Int),c<=most.toNat->(a<=a'/\a'<=a+1000)->(∀j,j<c->(g j).Made)->
   R (.own 1 c) [(0,.cells [.view 1 n f,.q a'] 26),(1,.row 47 15 c (waa g) false)]
 |_,_,_=>False
structure RM (f:Nat->List AV) (n:Nat):Prop where
 eq:∀i,i<n->f i=waa (mgOf f) i
 sm:∀i,i<n->(mgOf f i).Sm
def S_mrgV:Spec
 |[.view 15 n f,.view 15 m h],[]=>some (.view 15 (mrgL (mgOf f) n (mgOf h) m).length (waa (atM (mrgL (mgOf f) n (mgOf h) m))),[],
   n<=100000/\m<=100000/\f=waa (mgOf f)/\h=waa (mgOf h)/\(∀i,i<n->(mgOf f i).Sm)/\∀i,i<m->(mgOf h i).Sm)
 |_,_=>none
def dnM(L:List MG)(m:MG):Nat->Nat
 |0=>0
 |a+1=>bif decide (ordM m (atM L a)<0) then dnM L m a else a+1
def catM(g:Nat->MG)(n:Nat)(h:Nat->MG)(i:Nat):MG:=if i<n then g i else h (i - n)
def mfL(c:Nat->MG)(k:Nat):List MG:=mrgF (lst c k)
def S_rm(c:Nat->MG)(N k:Nat):St:=⟨[(5,.own 0 (mfL c k).length),(14,.own 1 N),(15,.q N),(16,.q k)],[(0,.row 47 15 (mfL c k).length (waa (atM (mfL c k))) false),(1,.row 47 15 N (waa c) false)],2,[]⟩
def L_rm(c:Nat->MG)(N:Nat):wap:=λst Q=>canonIs te 0 [5,14,15,16] (ownNil 5 47 15 st) (S_rm c N 0)/\N<=200000/\(∀i,i<N->(c i).Sm)/\
 Q (.exit 0) ⟨[(5,.own 0 (mfL c N).length)],[(0,.row 47 15 (mfL c N).length (waa (atM (mfL c N))) false)],1,[]⟩
def wjh(L:List MG)(m:MG)(c:Nat->MG)(N k a:Nat):St:=⟨[(5,.own 0 L.length),(7,.ptr 1 0),(8,.q a),(14,.own 2 N),(15,.q N),(16,.q k)],
 [(0,.row 47 15 L.length (waa (atM L)) false),(1,.cells [.str m.dev,.q m.seq,.q m.kind,.str m.v.o,.str m.v.p,.q m.v.per,.q m.v.day,.q m.v.st,.q m.v.pr,.str m.v.rep,.str m.d.o,.str m.d.p,.q m.d.per,.str m.d.dev,.q m.d.num] 47),(2,.row 47 15 N (waa c) false)],3,[]⟩
def wo5(L:List MG)(m:MG)(c:Nat->MG)(N k:Nat):wap:=λst Q=>canonIs te 0 [5,7,8,14,15,16] st (wjh L m c N k L.length)/\L.length<=200000/\
 Q (.exit 2) (wjh L m c N k (dnM L m L.length))
def wm7:Spec
 |[.view 15 n f,.nil],[]=>some (.view 15 (mrgL (mgOf f) n noM 0).length (waa (atM (mrgL (mgOf f) n noM 0))),[],n<=100000/\f=waa (mgOf f)/\∀i,i<n->(mgOf f i).Sm)
 |_,_=>none
def wch(g:Nat->List UInt8×Int)(i:Nat):List AV:=[.str (g i).1,.q (g i).2]
def atK(L:List (List UInt8×Int))(i:Nat):List UInt8×Int:=L.getD i ([],0)
def smK(x y:List UInt8×Int):Bool:=decide (x.1=y.1) && decide (x.2=y.2)
theorem smK_iff{x y:List UInt8×Int}:smK x y=true↔x=y:=by
 obtain⟨a,b⟩:=x;obtain⟨c,d⟩:=y;simp[smK]
def clnP(M:List MG):Nat->List (List UInt8×Int)
 |0=>[]
 |k+1=>bif decide (1<numC (atM M) (mk2 (atM M k)) M.length) && (decide ((clnP M k).length=0) || !smK (atK (clnP M k) ((clnP M k).length - 1)) (mk2 (atM M k))) then clnP M k++[mk2 (atM M k)] else clnP M k
theorem ww8{L:List (List UInt8×Int)}{i:Nat}(h:i<L.length):atK L i∈L:=by
 unfold atK;simp only[List.getD_eq_getElem?_getD,List.getElem?_eq_getElem h,Option.getD_some];exact List.getElem_mem h
theorem w66(L:List (List UInt8×Int))(x:List UInt8×Int):atK (L++[x]) ((L++[x]).length - 1)=x:=by
 unfold atK;simp
theorem w6g{M:List MG}{k:Nat}(h:1<numC (atM M) (mk2 (atM M k)) M.length):0<(clnP M (k+1)).length/\atK (clnP M (k+1)) ((clnP M (k+1)).length - 1)=mk2 (atM M k):=by
 rw[clnP,decide_eq_true h,Bool.true_and]
 cases q:decide ((clnP M k).length=0) || !smK (atK (clnP M k) ((clnP M k).length - 1)) (mk2 (atM M k)) with
 |true=>exact⟨by simp,w66 _ _⟩
 |false=>
  rw[Bool.or_eq_false_iff,decide_eq_false_iff_not,Bool.not_eq_false'] at q;exact⟨by simp only[cond_false];omega,smK_iff.1 q.2⟩
def S_cl(M:List MG)(k:Nat):St:=⟨[(3,.view 15 M.length (waa (atM M))),(4,.own 0 (clnK M k).length),(9,.q M.length),(10,.q k)],[(0,.row 47 15 (clnK M k).length (waa (atM (clnK M k))) false)],1,[]⟩
def L_cl(M:List MG):wap:=λst Q=>canonIs te 0 [3,4,9,10] (ownNil 4 47 15 st) (S_cl M 0)/\M.length<=100000/\
 Q (.exit 0) ⟨[(4,.own 0 (clnK M M.length).length)],[(0,.row 47 15 (clnK M M.length).length (waa (atM (clnK M M.length))) false)],1,[]⟩
def wc8(g:Nat->MG)(n:Nat)(o p:List UInt8)(per:Int):List MG:=canL o p per (atM (wae g n)) (wae g n).length
def wn9:Spec
 |[.view 15 n f,.str o,.str p,.int .i64 per],[]=>some (.view 15 (wc8 (mgOf f) n o p per).length (waa (atM (wc8 (mgOf f) n o p per))),[],n<=100000/\f=waa (mgOf f)/\∀i,i<n->(mgOf f i).Sm)
 |_,_=>none
def wcc(g:Nat->MG)(n:Nat):List (List UInt8×Int):=clnP (mrgL g n noM 0) (mrgL g n noM 0).length
theorem wlw(M:List MG):∀k,(clnP M k).length<=k
 |0=>lR7 _
 |k+1=>by
  have ih:=wlw M k;rw[clnP]
  cases decide (1<numC (atM M) (mk2 (atM M k)) M.length) && (decide ((clnP M k).length=0) || !smK (atK (clnP M k) ((clnP M k).length - 1)) (mk2 (atM M k))) with
  |true=>rw[cond_true,lA7];show _+1<=_;omega
  |false=>rw[cond_false];omega
structure SL where
 o:List UInt8
 p:List UInt8
 per:Int
 deriving DecidableEq,Inhabited
def ordS(a b:SL):Int:=orL [cmpS a.o b.o,cmpS a.p b.p,cmpI a.per b.per]
theorem wb0:PreC ordS:=(wd0.comap SL.o).or ((wd0.comap SL.p).or ((wd2.comap SL.per).or .nil))
theorem wij{a b:SL}:ordS a b=0↔a=b:=by
 simp only[ordS,wqj,wdl,wr4,show orL []=0 from rfl,and_true]
 constructor
 ·rintro⟨h1,h2,h3⟩
  cases a;cases b;simp only at h1 h2 h3;subst h1;subst h2;subst h3;rfl
 ·rintro rfl;simp
def whr(m:MG):SL:=bif decide (m.kind=2) then ⟨m.d.o,m.d.p,m.d.per⟩ else ⟨m.v.o,m.v.p,m.v.per⟩
def vsl(v:VT):SL:=⟨v.o,v.p,v.per⟩
theorem wjw{α:Type}{p:List α->Prop}(l:List α)(nil:p [])(snoc:∀(l:List α) (a:α),p l->p (l++[a])):p l:=by
 have:∀(r:List α),p r.reverse:=λr=>by
  induction r with
  |nil=>exact nil
  |cons a r ih=>rw[List.reverse_cons];exact snoc _ a ih
 have h:=this l.reverse
 rwa [List.reverse_reverse] at h
def putB:List (SL×List MG)->SL->MG->List (SL×List MG)
 |[],s,m=>[(s,[m])]
 |x::B,s,m=>bif decide (x.1=s) then (x.1,x.2++[m])::B else x::putB B s m
def wal(l:List MG):List (SL×List MG):=l.foldl (λB m=>putB B (whr m) m) []
def getB:List (SL×List MG)->SL->List MG
 |[],_=>[]
 |x::B,s=>bif decide (x.1=s) then x.2 else getB B s
theorem w5a(B:List (SL×List MG))(s t:SL)(m:MG):getB (putB B s m) t=bif decide (s=t) then getB B t++[m] else getB B t:=by
 induction B with
 |nil=>
  by_cases h:s=t
  ·subst h;simp[putB,getB]
  ·simp[putB,getB,h]
 |cons x B ih=>
  rw[putB]
  by_cases h:x.1=s
  ·rw[decide_eq_true h]
   by_cases h':s=t
   ·simp[getB,h,h']
   ·have:¬ x.1=t:=λq=>h' (h ▸ q);simp[getB,this,h']
  ·rw[decide_eq_false h]
   by_cases h':x.1=t
   ·have:¬ s=t:=λq=>h (h'.trans q.symm);simp[getB,h',this]
   ·simp[getB,h',ih]
theorem wq9(B:List (SL×List MG))(s:SL)(m:MG):(putB B s m).map Prod.fst=bif decide (s∈B.map Prod.fst) then B.map Prod.fst else B.map Prod.fst++[s]:=by
 induction B with
 |nil=>simp[putB]
 |cons x B ih=>
  rw[putB]
  by_cases h:x.1=s
  ·rw[decide_eq_true h];simp[h]
  ·rw[decide_eq_false h,cond_false,List.map_cons,ih];have h':¬ s=x.1:=λq=>h q.symm
   by_cases q:s∈B.map Prod.fst
   ·have q2:s∈(x::B).map Prod.fst:=List.mem_cons_of_mem _ q;rw[decide_eq_true q,decide_eq_true q2];rfl
   ·have q2:s ∉ (x::B).map Prod.fst:=by
     rw[List.map_cons,List.mem_cons];exact λe=>e.elim h' q
    rw[decide_eq_false q,decide_eq_false q2];rfl
theorem wjf(l:List MG)(m:MG):wal (l++[m])=putB (wal l) (whr m) m:=by simp[wal]
theorem wlb(s:SL)(l:List MG):getB (wal l) s=l.filter λm=>decide (whr m=s):=by
 induction l using wjw with
 |nil=>rfl
 |snoc l m ih=>
  rw[wjf,w5a,ih,List.filter_append]
  by_cases h:whr m=s
  ·simp[h]
  ·simp[h]
theorem wra(s:SL)(l:List MG):s∈(wal l).map Prod.fst↔∃m∈l,whr m=s:=by
 induction l using wjw with
 |nil=>simp[wal]
 |snoc l m ih=>
  rw[wjf,wq9]
  by_cases h:whr m∈(wal l).map Prod.fst
  ·rw[decide_eq_true h,cond_true,ih]
   constructor
   ·rintro⟨x,hx,e⟩;exact⟨x,List.mem_append_left _ hx,e⟩
   ·rintro⟨x,hx,e⟩
    rcases List.mem_append.1 hx with hx | hx
    ·exact⟨x,hx,e⟩
    ·rw[List.mem_singleton.1 hx] at e;exact ih.1 (e ▸ h)
  ·rw[decide_eq_false h,cond_false,List.mem_append,ih,List.mem_singleton]
   constructor
   ·rintro(⟨x,hx,e⟩ | e)
    ·exact⟨x,List.mem_append_left _ hx,e⟩
    ·exact⟨m,List.mem_append_right _ (List.mem_singleton.2 rfl),e.symm⟩
   ·rintro⟨x,hx,e⟩
    rcases List.mem_append.1 hx with hx | hx
    ·exact .inl ⟨x,hx,e⟩
    ·exact .inr (by rw[← e,List.mem_singleton.1 hx])
theorem wkh(l:List MG):((wal l).map Prod.fst).Nodup:=by
 induction l using wjw with
 |nil=>simp[wal]
 |snoc l m ih=>
  rw[wjf,wq9]
  by_cases h:whr m∈(wal l).map Prod.fst
  ·rw[decide_eq_true h];exact ih
  ·rw[decide_eq_false h,cond_false,List.nodup_append];refine⟨ih,by simp,λa ha b hb e=>h ?_⟩;rw[List.mem_singleton.1 hb] at e;exact e ▸ ha
theorem getB_at{B:List (SL×List MG)}(hn:(B.map Prod.fst).Nodup){x:SL×List MG}(h:x∈B):getB B x.1=x.2:=by
 induction B with
 |nil=>cases h
 |cons y B ih=>
  rw[List.map_cons,List.nodup_cons] at hn
  rcases List.mem_cons.1 h with rfl | h
  ·simp[getB]
  ·have:¬ y.1=x.1:=λq=>hn.1 (q ▸ List.mem_map_of_mem h);rw[getB,decide_eq_false this];exact ih hn.2 h
theorem ww5{l:List MG}{x:SL×List MG}(h:x∈wal l):x.2=l.filter λm=>decide (whr m=x.1):=by rw[← wlb,getB_at (wkh l) h]
theorem ww4(l:List MG):(wal l).length<=l.length:=by
 induction l using wjw with
 |nil=>simp[wal]
 |snoc l m ih=>
  have h:=congrArg List.length (wq9 (wal l) (whr m) m);rw[List.length_map] at h;rw[wjf,lA7,h]
  cases decide (whr m∈(wal l).map Prod.fst) with
  |true=>rw[cond_true,List.length_map];simp;omega
  |false=>rw[cond_false,lA7,List.length_map];simpa using ih
def insS:List SL->SL->List SL
 |[],m=>[m]
 |x::l,m=>bif decide (ordS m x<0) then m::x::l else bif decide (ordS m x=0) then x::l else x::insS l m
theorem wix:∀ {l:List SL} {m y:SL},y∈insS l m↔y=m∨y∈l
 |[],m,y=>by simp[insS]
 |x::l,m,y=>by
  rw[insS]
  by_cases h:ordS m x<0
  ·rw[decide_eq_true h];simp
  ·rw[decide_eq_false h]
   by_cases h':ordS m x=0
   ·rw[decide_eq_true h'];have:=wij.1 h';subst this;simp
   ·rw[decide_eq_false h'];simp only[cond_false,List.mem_cons,wix (l:=l)];grind
theorem wk4:∀ {l:List SL} (m:SL),Asc ordS l->Asc ordS (insS l m)
 |[],m,_=>by simp[insS,Asc]
 |x::l,m,h=>by
  obtain⟨h1,h2⟩:=List.pairwise_cons.1 h;rw[insS]
  by_cases q:ordS m x<0
  ·rw[decide_eq_true q];refine List.pairwise_cons.2 ⟨λy hy=>?_,h⟩
   rcases List.mem_cons.1 hy with rfl | hy
   ·exact q
   ·exact wb0.lt_trans q (h1 y hy)
  ·rw[decide_eq_false q]
   by_cases q':ordS m x=0
   ·rw[decide_eq_true q'];exact h
   ·rw[decide_eq_false q'];refine List.pairwise_cons.2 ⟨λy hy=>?_,wk4 m h2⟩
    rcases wix.1 hy with rfl | hy
    ·have:=wb0.neg x y;have:=wb0.neg y x;omega
    ·exact h1 y hy
theorem wrh:∀(l:List SL) (m:SL),(insS l m).length<=l.length+1
 |[],m=>by simp[insS]
 |x::l,m=>by
  rw[insS]
  cases decide (ordS m x<0) with
  |true=>simp
  |false=>
   cases decide (ordS m x=0) with
   |true=>simp
   |false=>have:=wrh l m;simpa using this
theorem wg4:∀(l acc:List SL),Asc ordS acc->Asc ordS (l.foldl insS acc)/\∀y,y∈l.foldl insS acc↔y∈acc∨y∈l
 |[],acc,h=>⟨h,λy=>by simp⟩
 |x::l,acc,h=>by
  obtain⟨h1,h2⟩:=wg4 l (insS acc x) (wk4 x h);refine⟨h1,λy=>?_⟩;rw[List.foldl_cons,h2,wix,List.mem_cons];grind
theorem wlf:∀(l acc:List SL),(l.foldl insS acc).length<=acc.length+l.length
 |[],acc=>by simp
 |x::l,acc=>by
  rw[List.foldl_cons,List.length_cons];have:=wlf l (insS acc x);have:=wrh acc x;omega
def isV(m:MG):Bool:=decide (m.kind=1)
def visL(R:List MG):List SL:=((R.filter isV).map λm=>vsl m.v).foldl insS []
theorem wdd(R:List MG):Asc ordS (visL R):=(wg4 _ [] .nil).1
theorem wgk{R:List MG}{s:SL}:s∈visL R↔∃m∈R,m.kind=1/\vsl m.v=s:=by
 unfold visL;rw[(wg4 _ [] .nil).2];simp[isV,and_assoc]
theorem wdm(R:List MG):(visL R).length<=R.length:=by
 have:=wlf ((R.filter isV).map λm=>vsl m.v) [];have h2:=List.length_filter_le isV R;unfold visL;simp at this;omega
theorem wxy{R:List MG}{L:List SL}(h:Asc ordS L)(hm:∀s,s∈L↔∃m∈R,m.kind=1/\vsl m.v=s):L=visL R:=
 Asc.uniq wb0 h (wdd R) λs=>by rw[hm,wgk]
def hasV(l:List MG):Bool:=l.any isV
theorem wvo{R:List MG}{x:SL×List MG}(h:x∈wal R):hasV x.2=true↔x.1∈visL R:=by
 rw[wgk,hasV,List.any_eq_true,ww5 h]
 constructor
 ·rintro⟨m,hm,hk⟩;obtain⟨h1,h2⟩:=List.mem_filter.1 hm;have hk:m.kind=1:=of_decide_eq_true hk;have h2:whr m=x.1:=of_decide_eq_true h2;refine⟨m,h1,hk,?_⟩;rw[← h2,whr,decide_eq_false (by omega)];rfl
 ·rintro⟨m,h1,hk,h2⟩;refine⟨m,List.mem_filter.2 ⟨h1,decide_eq_true ?_⟩,decide_eq_true hk⟩;rw[← h2,whr,decide_eq_false (by omega)];rfl
theorem wxz{R:List MG}{L:List SL}{E:List (SL×List MG)}(hE:E.Perm (wal R))(hL:L.Perm ((E.filter λx=>hasV x.2).map Prod.fst))(hs:L.Pairwise λx y=>¬ ordS y x<0):L=visL R:=by
 have hn:L.Nodup:=by
  rw[hL.nodup_iff];have:(E.map Prod.fst).Nodup:=by rw[(hE.map _).nodup_iff];exact wkh R
  exact this.sublist ((List.filter_sublist).map _)
 refine wxy (Asc.of_sorted hs wb0 (hn.imp λh q=>h (wij.1 q))) λs=>?_;rw[hL.mem_iff,List.mem_map]
 constructor
 ·rintro⟨x,hx,rfl⟩;obtain⟨h1,h2⟩:=List.mem_filter.1 hx;exact wgk.1 ((wvo (hE.mem_iff.1 h1)).1 h2)
 ·intro h;have hk:s∈(wal R).map Prod.fst:=by
   obtain⟨m,hm,hk,e⟩:=h;refine(wra s R).2 ⟨m,hm,?_⟩;rw[← e,whr,decide_eq_false (by omega)];rfl
  obtain⟨x,hx,rfl⟩:=List.mem_map.1 hk;exact⟨x,List.mem_filter.2 ⟨hE.mem_iff.2 hx,(wvo hx).2 (wgk.2 h)⟩,rfl⟩
def resB(R:List MG)(s:SL):VT×Int:=resR s.o s.p s.per R (canL s.o s.p s.per (atM R) R.length)
theorem res_all(g:Nat->MG)(n:Nat)(s:SL):resF g n s.o s.p s.per=resB (wae g n) s:=rfl
def canS(o p:List UInt8)(per:Int)(L:List MG):List MG:=(L.filter (selF o p per)).foldl stpC []
theorem wr8(o p:List UInt8)(per:Int)(g:Nat->MG):∀n,canL o p per g n=canS o p per (lst g n)
 |0=>rfl
 |n+1=>by
  unfold canS;rw[canL,wdr,List.filter_append,List.foldl_append,wr8 o p per g n]
  cases h:selF o p per (g n) with
  |true=>simp[h,canS]
  |false=>simp[h,canS]
def dcS(o p:List UInt8)(per:Int)(C:List MG)(L:List MG):VT×Int:=
 L.foldl (λq m=>bif wca o p per q.2 m && decide (fstB (λi=>namF m.d (atM C i)) C.length<C.length) then ((atM C (fstB (λi=>namF m.d (atM C i)) C.length)).v,m.seq) else q) (wcu, -1)
theorem wr3(o p:List UInt8)(per:Int)(C:List MG)(g:Nat->MG):∀n,dcF o p per C g n=dcS o p per C (lst g n)
 |0=>rfl
 |n+1=>by
  unfold dcS;rw[dcF,wdr,List.foldl_append,wr3 o p per C g n];rfl
theorem w5i{α β:Type}(f:β->α->β)(q:α->Bool)(l:List α):∀b,(∀b x,x∈l->q x=false->f b x=b)->(l.filter q).foldl f b=l.foldl f b:=by
 induction l with
 |nil=>intro b _;rfl
 |cons x l ih=>
  intro b h
  cases hq:q x with
  |true=>
   rw[List.filter_cons_of_pos hq,List.foldl_cons,List.foldl_cons];exact ih _ λb y hy=>h b y (List.mem_cons_of_mem _ hy)
  |false=>
   rw[List.filter_cons_of_neg (by simp[hq]),List.foldl_cons,h b x (List.mem_cons_self) hq];exact ih _ λb y hy=>h b y (List.mem_cons_of_mem _ hy)
theorem wta{s:SL}{m:MG}(h:selF s.o s.p s.per m=true):whr m=s/\vsl m.v=s/\m.kind=1:=by
 simp only[selF,bA7,decide_eq_true_eq] at h;obtain⟨h1,h2,h3,h4⟩:=h;have:vsl m.v=s:=by rw[vsl,h2,h3,h4]
 refine⟨?_,this,h1⟩;rw[whr,decide_eq_false (by omega)];exact this
theorem w53{s:SL}{q:Int}{m:MG}(h:wca s.o s.p s.per q m=true):whr m=s:=by
 simp only[wca,bA7,decide_eq_true_eq] at h;obtain⟨h1,h2,h3,h4,_⟩:=h;rw[whr,decide_eq_true h1,h2,h3,h4];rfl
theorem wzh(R:List MG)(s:SL):resB (R.filter λm=>decide (whr m=s)) s=resB R s:=by
 unfold resB;have hc:canL s.o s.p s.per (atM (R.filter λm=>decide (whr m=s))) (R.filter λm=>decide (whr m=s)).length=canL s.o s.p s.per (atM R) R.length:=by
  rw[wr8,wr8,wds,wds,canS,canS,List.filter_filter];congr 1;refine List.filter_congr λm _=>?_
  cases h:selF s.o s.p s.per m with
  |true=>rw[Bool.true_and,decide_eq_true (wta h).1]
  |false=>rfl
 rw[hc];unfold resR;have hd:∀C,dcF s.o s.p s.per C (atM (R.filter λm=>decide (whr m=s))) (R.filter λm=>decide (whr m=s)).length=dcF s.o s.p s.per C (atM R) R.length:=λC=>by
  rw[wr3,wr3,wds,wds,dcS,dcS];refine w5i _ _ _ _ λb m _ h=>?_;have:wca s.o s.p s.per b.2 m=false:=by
   cases h':wca s.o s.p s.per b.2 m with
   |false=>rfl
   |true=>rw[decide_eq_true (w53 h')] at h;cases h
  rw[this];rfl
 rw[hd]
structure RightL (R:List MG):Prop where
 mark:Asc wc5 R
 ord:Asc ordM R
 ok:∀m∈R,msgF m=0
theorem wtu(g:Nat->MG)(n:Nat):RightL (wae g n):=
 ⟨wtt g n,(wiq _).filter _,λ_ h=>wtv h⟩
theorem RightL.filter{R:List MG}(h:RightL R)(q:MG->Bool):RightL (R.filter q):=⟨h.mark.filter q,h.ord.filter q,λm hm=>h.ok m (List.mem_filter.1 hm).1⟩
theorem RightL.self{R:List MG}(h:RightL R):wae (atM R) R.length=R:=by
 have e:mrgL (atM R) R.length noM 0=R:=by
  unfold mrgL;rw[lst_atL];refine(wup h.ord λm=>?_).symm;exact⟨λhm=>⟨hm,h.ok m hm⟩,λhm=>hm.1⟩
 unfold wae;rw[e];refine List.filter_eq_self.2 λm _=>?_;rw[Bool.not_eq_true',decide_eq_false_iff_not,win];rintro⟨i,j,hij,hj,e1,e2⟩;have h1:=wl6 h.mark hij hj;have h2:=wkq.2 (e1.trans e2.symm);omega
theorem wzf{R:List MG}(h:RightL R)(s:SL):resF (atM (getB (wal R) s)) (getB (wal R) s).length s.o s.p s.per=resB R s:=by
 rw[wlb,res_all,(h.filter _).self,wzh]
theorem wjd{o p:List UInt8}{per:Int}{g:Nat->MG}{m:MG}:∀ {n:Nat},m∈canL o p per g n->selF o p per m=true/\m∈lst g n
 |0,h=>by simp[canL] at h
 |n+1,h=>by
  rw[canL] at h;rw[wdr]
  cases q:selF o p per (g n) with
  |false=>
   rw[q,cond_false] at h;exact⟨(wjd h).1,List.mem_append_left _ (wjd h).2⟩
  |true=>
   rw[q,cond_true] at h;have:m∈canL o p per g n∨m=g n:=by
    unfold stpC at h
    cases q2:decide (0<(canL o p per g n).length) && decide ((atM (canL o p per g n) ((canL o p per g n).length - 1)).dev=(g n).dev) with
    |true=>
     rw[q2,cond_true,List.mem_append,List.mem_singleton] at h;exact h.imp (λh=>List.mem_of_mem_take h) id
    |false=>
     rw[q2,cond_false,List.mem_append,List.mem_singleton] at h;exact h
   rcases this with h | rfl
   ·exact⟨(wjd h).1,List.mem_append_left _ (wjd h).2⟩
   ·exact⟨q,List.mem_append_right _ (List.mem_singleton.2 rfl)⟩
theorem wzg(o p:List UInt8)(per:Int)(R C:List MG):(resR o p per R C).2=0/\C=[]/\(resR o p per R C).1=wcu∨(resR o p per R C).2=1/\C≠[]/\(∃m∈C,(resR o p per R C).1=m.v)∨(resR o p per R C).2=2/\C≠[]:=by
 unfold resR
 by_cases h:C.length=0
 ·rw[decide_eq_true h];exact .inl ⟨rfl,List.length_eq_zero_iff.1 h,rfl⟩
 ·have hne:C≠[]:=λe=>h (by rw[e];rfl);have h0:atM C 0∈C:=wgb (by omega);rw[decide_eq_false h]
  by_cases h2:0<=ixB (λi=>difF (atM C 0).v (atM C i)) C.length
  ·rw[decide_eq_true h2]
   by_cases h3:(dcF o p per C (atM R) R.length).2<0
   ·rw[decide_eq_true h3];exact .inr (.inr ⟨rfl,hne⟩)
   ·rw[decide_eq_false h3];refine .inr (.inl ⟨rfl,hne,?_⟩);have key:∀k,(dcF o p per C (atM R) k).2<0∨∃m∈C,(dcF o p per C (atM R) k).1=m.v:=by
     intro k
     induction k with
     |zero=>exact .inl (by show (-1:Int)<0;omega)
     |succ k ih=>
      rw[dcF]
      by_cases q:fstB (λi=>namF (atM R k).d (atM C i)) C.length<C.length
      ·cases q2:wca o p per (dcF o p per C (atM R) k).2 (atM R k) with
       |true=>rw[decide_eq_true q];exact .inr ⟨_,wgb q,rfl⟩
       |false=>exact ih
      ·rw[decide_eq_false q,Bool.and_false];exact ih
    exact(key R.length).resolve_left h3
  ·rw[decide_eq_false h2];exact .inr (.inl ⟨rfl,hne,atM C 0,h0,rfl⟩)
theorem wty{R:List MG}{s:SL}(h:(resB R s).2=1):∃m∈R,m.kind=1/\m.v=(resB R s).1/\vsl m.v=s:=by
 rcases wzg s.o s.p s.per R (canL s.o s.p s.per (atM R) R.length) with q | q | q
 ·exact absurd (q.1.symm.trans h) (by decide)
 ·obtain⟨_,_,m,hm,e⟩:=q;obtain⟨h1,h2⟩:=wjd hm;rw[wds] at h2;obtain⟨_,w2,w3⟩:=wta h1;exact⟨m,h2,w3,e.symm,w2⟩
 ·exact absurd (q.1.symm.trans h) (by decide)
theorem wdg{R:List MG}{s:SL}(h:(resB R s).2=1):vsl (resB R s).1=s/\s∈visL R:=by
 obtain⟨m,hm,hk,e,e2⟩:=wty h;exact⟨e ▸ e2,wgk.2 ⟨m,hm,hk,e2⟩⟩
def atS(L:List SL)(i:Nat):SL:=L.getD i default
def atX(L:List VT)(i:Nat):VT:=L.getD i default
theorem wga{L:List SL}{i:Nat}(h:i<L.length):atS L i=L[i]:=by simp[atS,h]
theorem wfa{L:List SL}{i:Nat}(h:i<L.length):atS L i∈L:=by rw[wga h];exact List.getElem_mem h
theorem wgu{L:List SL}{x:SL}(h:x∈L):∃i,i<L.length/\atS L i=x:=by
 obtain⟨i,hi,e⟩:=List.getElem_of_mem h;exact⟨i,hi,(wga hi).trans e⟩
theorem wgv(L:List SL):lst (atS L) L.length=L:=by
 refine List.ext_getElem (by simp[lst]) λi h1 h2=>?_;simp[lst,wga h2]
theorem we9{L:List VT}{i:Nat}(h:i<L.length):atX L i=L[i]:=by simp[atX,h]
theorem wl5{L:List VT}{i:Nat}(h:i<L.length):atX L i∈L:=by rw[we9 h];exact List.getElem_mem h
theorem wkr(L:List VT):lst (atX L) L.length=L:=by
 refine List.ext_getElem (by simp[lst]) λi h1 h2=>?_;simp[lst,we9 h2]
theorem whc{L:List SL}(h:Asc ordS L){i j:Nat}(hij:i<j)(hj:j<L.length):ordS (atS L i) (atS L j)<0:=by
 rw[wga (by omega),wga hj];exact List.pairwise_iff_getElem.1 h i j (by omega) hj hij
theorem wka{a b:SL}(ho:a.o=b.o)(hp:a.p=b.p):ordS a b<0↔a.per<b.per:=by
 have h1:cmpS a.o b.o=0:=wdl.2 ho;have h2:cmpS a.p b.p=0:=wdl.2 hp;have h3:=wd1 a.per b.per;have e:ordS a b=cmpI a.per b.per:=by
  unfold ordS;rw[h1,h2];simp only[orL,decide_true,cond_true]
  by_cases q:cmpI a.per b.per=0
  ·rw[q];rfl
  ·rw[decide_eq_false q];rfl
 rw[e];omega
def keyB(o p:List UInt8)(s:SL):Bool:=decide (s.o=o) && decide (s.p=p)
def slkB(R:List MG)(o p:List UInt8)(s:SL):Bool:=keyB o p s && decide ((resB R s).2=1)
def serK(R:List MG)(o p:List UInt8)(V:List SL):Nat->List VT
 |0=>[]
 |k+1=>bif slkB R o p (atS V k) then serK R o p V k++[(resB R (atS V k)).1] else serK R o p V k
def serL(R:List MG)(o p:List UInt8):List VT:=serK R o p (visL R) (visL R).length
theorem wp8(R:List MG)(o p:List UInt8)(V:List SL):∀k,(serK R o p V k).length<=k
 |0=>lR7 _
 |k+1=>by
  have ih:=wp8 R o p V k;rw[serK]
  cases slkB R o p (atS V k) with
  |true=>rw[cond_true,lA7];show _+1<=_;omega
  |false=>rw[cond_false];omega
theorem ws9(R:List MG)(o p:List UInt8)(V:List SL):∀k,serK R o p V k=((lst (atS V) k).filter (slkB R o p)).map λs=>(resB R s).1
 |0=>rfl
 |k+1=>by
  have e:lst (atS V) (k+1)=lst (atS V) k++[atS V k]:=by simp[lst,List.range_succ]
  rw[serK,e,List.filter_append,List.map_append, ← ws9 R o p V k]
  cases h:slkB R o p (atS V k) with
  |true=>simp[h]
  |false=>simp[h]
theorem ws8(R:List MG)(o p:List UInt8):serL R o p=((visL R).filter (slkB R o p)).map λs=>(resB R s).1:=by rw[serL,ws9,wgv]
theorem wjx{R:List MG}{o p:List UInt8}{s:SL}:slkB R o p s=true↔s.o=o/\s.p=p/\(resB R s).2=1:=by simp[slkB,keyB,and_assoc]
theorem wjz{R:List MG}{o p:List UInt8}{v:VT}:v∈serL R o p↔v.o=o/\v.p=p/\resB R (vsl v)=(v,1):=by
 rw[ws8,List.mem_map]
 constructor
 ·rintro⟨s,hs,rfl⟩;obtain⟨h1,h2⟩:=List.mem_filter.1 hs;obtain⟨e1,e2,e3⟩:=wjx.1 h2;obtain⟨w1,w2⟩:=wdg e3;have w3:(resB R s).1.o=s.o:=congrArg SL.o w1;have w4:(resB R s).1.p=s.p:=congrArg SL.p w1;refine⟨w3.trans e1,w4.trans e2,?_⟩;rw[w1];exact Prod.ext rfl e3
 ·rintro⟨e1,e2,e3⟩;have h1:(resB R (vsl v)).2=1:=by rw[e3]
  refine⟨vsl v,List.mem_filter.2 ⟨(wdg h1).2,wjx.2 ⟨e1,e2,h1⟩⟩,by rw[e3]⟩
theorem wyu(R:List MG)(o p:List UInt8):(serL R o p).Pairwise λa b=>a.per<b.per:=by
 rw[ws8,List.pairwise_map];refine((wdd R).filter (slkB R o p)).imp_of_mem ?_;intro a b ha hb h;obtain⟨_,h1⟩:=List.mem_filter.1 ha;obtain⟨_,h2⟩:=List.mem_filter.1 hb;obtain⟨e1,e2,e3⟩:=wjx.1 h1;obtain⟨d1,d2,d3⟩:=wjx.1 h2;have w1:(resB R a).1.per=a.per:=congrArg SL.per (wdg e3).1;have w2:(resB R b).1.per=b.per:=congrArg SL.per (wdg d3).1;rw[w1,w2];exact(wka (e1.trans d1.symm) (e2.trans d2.symm)).1 h
theorem wyt(R:List MG)(o p:List UInt8):(serL R o p).length<=R.length:=Nat.le_trans (wp8 _ _ _ _ _) (wdm R)
def finB(v:VT):Bool:=decide (v.st=4) || decide (v.st=5)
def getA{κ α:Type}[DecidableEq κ]:List (κ×α)->κ->Option α
 |[],_=>none
 |x::B,s=>bif decide (x.1=s) then some x.2 else getA B s
def setA{κ α:Type}[DecidableEq κ]:List (κ×α)->κ->α->List (κ×α)
 |[],s,c=>[(s,c)]
 |x::B,s,c=>bif decide (x.1=s) then (s,c)::B else x::setA B s c
section
variable {κ α:Type} [DecidableEq κ]
theorem wgz(B:List (κ×α))(s t:κ)(c:α):getA (setA B s c) t=bif decide (s=t) then some c else getA B t:=by
 induction B with
 |nil=>simp[setA,getA]
 |cons x B ih=>
  rw[setA]
  by_cases h:x.1=s
  ·rw[decide_eq_true h]
   by_cases h':s=t
   ·simp[getA,h']
   ·have:¬ x.1=t:=λq=>h' (h ▸ q);simp[getA,this,h']
  ·rw[decide_eq_false h]
   by_cases h':x.1=t
   ·have:¬ s=t:=λq=>h (h'.trans q.symm);simp[getA,h',this]
   ·simp[getA,h',ih]
theorem wlc{B:List (κ×α)}{s:κ}:getA B s=none↔s ∉ B.map Prod.fst:=by
 induction B with
 |nil=>simp[getA]
 |cons x B ih=>
  rw[getA]
  by_cases h:x.1=s
  ·simp[h]
  ·have h':¬ s=x.1:=λq=>h q.symm;rw[decide_eq_false h,cond_false,ih,List.map_cons,List.mem_cons];simp[h']
theorem wyr{B:List (κ×α)}{s:κ}{c:α}(h:s ∉ B.map Prod.fst):setA B s c=B++[(s,c)]:=by
 induction B with
 |nil=>rfl
 |cons x B ih=>
  rw[List.map_cons,List.mem_cons,not_or] at h;rw[setA,decide_eq_false (λq=>h.1 q.symm),cond_false,ih h.2];rfl
theorem ws7(B:List (κ×α))(s:κ)(c:α):(setA B s c).map Prod.fst=bif decide (s∈B.map Prod.fst) then B.map Prod.fst else B.map Prod.fst++[s]:=by
 induction B with
 |nil=>simp[setA]
 |cons x B ih=>
  rw[setA]
  by_cases h:x.1=s
  ·rw[decide_eq_true h];simp[h]
  ·rw[decide_eq_false h,cond_false,List.map_cons,ih];have h':¬ s=x.1:=λq=>h q.symm
   by_cases q:s∈B.map Prod.fst
   ·have q2:s∈(x::B).map Prod.fst:=List.mem_cons_of_mem _ q;rw[decide_eq_true q,decide_eq_true q2];rfl
   ·have q2:s ∉ (x::B).map Prod.fst:=by
     rw[List.map_cons,List.mem_cons];exact λe=>e.elim h' q
    rw[decide_eq_false q,decide_eq_false q2];rfl
theorem wic{B:List (κ×α)}(h:(B.map Prod.fst).Nodup)(s:κ)(c:α):((setA B s c).map Prod.fst).Nodup:=by
 rw[ws7]
 by_cases q:s∈B.map Prod.fst
 ·rw[decide_eq_true q];exact h
 ·rw[decide_eq_false q,cond_false,List.nodup_append];refine⟨h,by simp,λa ha b hb e=>q ?_⟩;rw[List.mem_singleton.1 hb] at e;exact e ▸ ha
theorem wys(B:List (κ×α))(s:κ)(c:α):(setA B s c).length<=B.length+1:=by
 have h:=congrArg List.length (ws7 B s c);rw[List.length_map] at h;rw[h]
 cases decide (s∈B.map Prod.fst) with
 |true=>rw[cond_true,List.length_map];omega
 |false=>rw[cond_false,lA7,List.length_map];exact lR7 _
theorem getA_at{B:List (κ×α)}(hn:(B.map Prod.fst).Nodup){x:κ×α}(h:x∈B):getA B x.1=some x.2:=by
 induction B with
 |nil=>cases h
 |cons y B ih=>
  rw[List.map_cons,List.nodup_cons] at hn
  rcases List.mem_cons.1 h with rfl | h
  ·simp[getA]
  ·have:¬ y.1=x.1:=λq=>hn.1 (q ▸ List.mem_map_of_mem h);rw[getA,decide_eq_false this];exact ih hn.2 h
theorem wvx{B:List (κ×α)}{s:κ}{c:α}(h:getA B s=some c):(s,c)∈B:=by
 induction B with
 |nil=>cases h
 |cons x B ih=>
  rw[getA] at h
  by_cases q:x.1=s
  ·rw[decide_eq_true q,cond_true] at h;have e:x=(s,c):=Prod.ext q (oJ7 h);rw[e];exact List.mem_cons_self
  ·rw[decide_eq_false q,cond_false] at h;exact List.mem_cons_of_mem _ (ih h)
end
def verB(R:List MG)(s:SL):Bool:=decide ((resB R s).2=1)
def priB(v:VT):Bool:=decide (v.st=1) || decide (v.st=2)
def finS(R:List MG)(s:SL):Bool:=verB R s && finB (resB R s).1
def endB(R:List MG)(t:SL):Bool:=(visL R).any λu=>keyB t.o t.p u && (decide (u.per<t.per) && finS R u)
def prB(R:List MG)(t:SL):Bool:=verB R t && (!endB R t && priB (resB R t).1)
def repB(R:List MG)(t:SL):Bool:=verB R t && (!endB R t && decide ((resB R t).1.st=5))
def repL(R:List MG):List VT:=((visL R).filter (repB R)).map λs=>(resB R s).1
def rsl(v:VT):SL:=⟨v.o,v.rep,v.per⟩
theorem w4n{o p:List UInt8}{s:SL}:keyB o p s=true↔s.o=o/\s.p=p:=by simp[keyB]
theorem wf6{R:List MG}{t:SL}:endB R t=true↔∃u∈visL R,u.o=t.o/\u.p=t.p/\u.per<t.per/\finS R u=true:=by
 rw[endB,List.any_eq_true];simp[w4n,and_assoc]
theorem fir_ex(R:List MG):∀(i:Nat),i<(visL R).length->finS R (atS (visL R) i)=true->
  ∃u∈visL R,u.o=(atS (visL R) i).o/\u.p=(atS (visL R) i).p/\u.per<=(atS (visL R) i).per/\finS R u=true/\endB R u=false:=by
 intro i
 induction i using Nat.strongRecOn with
 |_ i ih=>
  intro hi hf
  cases he:endB R (atS (visL R) i) with
  |false=>exact⟨_,wfa hi,rfl,rfl,Int.le_refl _,hf,he⟩
  |true=>
   obtain⟨u,hu,h1,h2,h3,h4⟩:=wf6.1 he;obtain⟨j,hj,rfl⟩:=wgu hu;have hlt:j<i:=by
    rcases Nat.lt_trichotomy j i with q | q | q
    ·exact q
    ·subst q;omega
    ·have:=(wka h1.symm h2.symm).1 (whc (wdd R) q hj);omega
   obtain⟨w,hw,w1,w2,w3,w4⟩:=ih j hlt hj h4;exact⟨w,hw,w1.trans h1,w2.trans h2,by omega,w4⟩
theorem wrz{R:List MG}{t:SL}(h:endB R t=true):∃u∈visL R,u.o=t.o/\u.p=t.p/\u.per<t.per/\finS R u=true/\endB R u=false:=by
 obtain⟨u,hu,h1,h2,h3,h4⟩:=wf6.1 h;obtain⟨j,hj,rfl⟩:=wgu hu;obtain⟨w,hw,w1,w2,w3,w4⟩:=fir_ex R j hj h4;exact⟨w,hw,w1.trans h1,w2.trans h2,by omega,w4⟩
structure OB where
 e:List ((List UInt8×List UInt8)×Int)
 p:List (SL×Int)
 r:List VT
def stO(R:List MG)(x:OB)(s:SL):OB:=bif (getA x.e (s.o,s.p)).isSome || !verB R s then x else
 bif finB (resB R s).1 then ⟨setA x.e (s.o,s.p) s.per,x.p,bif decide ((resB R s).1.st=5) then x.r++[(resB R s).1] else x.r⟩
 else bif priB (resB R s).1 then ⟨x.e,setA x.p s (resB R s).1.pr,x.r⟩ else x
def ob1(R:List MG)(V:List SL):Nat->OB
 |0=>⟨[],[],[]⟩
 |k+1=>stO R (ob1 R V k) (atS V k)
theorem we2{α:Type}(g:Nat->α)(n:Nat):lst g (n+1)=lst g n++[g n]:=by simp[lst,List.range_succ]
theorem wu4{V:List SL}{k:Nat}{u:SL}:u∈lst (atS V) k↔∃i,i<k/\atS V i=u:=by simp[lst]
theorem w5o{v:VT}(h:finB v=true):priB v=false:=by
 rcases Bool.or_eq_true_iff.1 h with h | h
 ·have:v.st=4:=of_decide_eq_true h;unfold priB;rw[this];rfl
 ·have:v.st=5:=of_decide_eq_true h;unfold priB;rw[this];rfl
structure Ob1 (R:List MG) (k:Nat):Prop where
 e:∀o p c,getA (ob1 R (visL R) k).e (o,p)=some c↔∃u∈lst (atS (visL R)) k,u.o=o/\u.p=p/\finS R u=true/\endB R u=false/\c=u.per
 p:(ob1 R (visL R) k).p=((lst (atS (visL R)) k).filter (prB R)).map λs=>(s,(resB R s).1.pr)
 r:(ob1 R (visL R) k).r=((lst (atS (visL R)) k).filter (repB R)).map λs=>(resB R s).1
theorem wim(R:List MG):∀k,k<=(visL R).length->Ob1 R k
 |0,_=>⟨λo p c=>by simp[ob1,getA,lst],rfl,rfl⟩
 |k+1,hk=>by
  have ih:=wim R k (by omega);have ihe:=ih.e;have ihp:=ih.p;have ihr:=ih.r;have hs:=wfa (show k<(visL R).length by omega);have low:∀u,u∈lst (atS (visL R)) k->u∈visL R/\ordS u (atS (visL R) k)<0:=λu hu=>by
   obtain⟨i,hi,rfl⟩:=wu4.1 hu;exact⟨wfa (by omega),whc (wdd R) hi (by omega)⟩
  have key:(getA (ob1 R (visL R) k).e ((atS (visL R) k).o,(atS (visL R) k).p)).isSome=endB R (atS (visL R) k):=by
   rw[Bool.eq_iff_iff,Option.isSome_iff_exists]
   constructor
   ·rintro⟨c,hc⟩;obtain⟨u,hu,h1,h2,h3,_⟩:=(ihe _ _ _).1 hc;obtain⟨w1,w2⟩:=low u hu;exact wf6.2 ⟨u,w1,h1,h2,(wka h1 h2).1 w2,h3⟩
   ·intro h;obtain⟨u,hu,h1,h2,h3,h4,h5⟩:=wrz h;obtain⟨j,hj,rfl⟩:=wgu hu;have hlt:j<k:=by
     rcases Nat.lt_trichotomy j k with q | q | q
     ·exact q
     ·subst q;omega
     ·have:=(wka h1.symm h2.symm).1 (whc (wdd R) q hj);omega
    exact⟨_,(ihe _ _ _).2 ⟨_,wu4.2 ⟨j,hlt,rfl⟩,h1,h2,h4,h5,rfl⟩⟩
  have hnew:atS (visL R) k ∉ (ob1 R (visL R) k).p.map Prod.fst:=by
   rw[ihp,List.map_map];intro h;obtain⟨u,hu,e⟩:=List.mem_map.1 h;have e:u=atS (visL R) k:=e;have:=(low u (List.mem_filter.1 hu).1).2;rw[e,wb0.self] at this;omega
  have ob:ob1 R (visL R) (k+1)=stO R (ob1 R (visL R) k) (atS (visL R) k):=rfl;have ls:=we2 (atS (visL R)) k;generalize hx:ob1 R (visL R) k=x at *;generalize hsl:atS (visL R) k=s at *;have more:finS R s=true/\endB R s=false∨(finS R s=false∨endB R s=true):=by
   cases finS R s<;>cases endB R s<;>simp
  have keepE:(finS R s=false∨endB R s=true)->∀o p c,getA x.e (o,p)=some c↔∃u∈lst (atS (visL R)) (k+1),u.o=o/\u.p=p/\finS R u=true/\endB R u=false/\c=u.per:=λhn o p c=>by
   rw[ihe,ls]
   constructor
   ·rintro⟨u,hu,h⟩;exact⟨u,List.mem_append_left _ hu,h⟩
   ·rintro⟨u,hu,h⟩
    rcases List.mem_append.1 hu with hu | hu
    ·exact⟨u,hu,h⟩
    ·rw[List.mem_singleton.1 hu] at h
     rcases hn with hn | hn
     ·rw[hn] at h;exact absurd h.2.2.1 (by simp)
     ·rw[hn] at h;exact absurd h.2.2.2.1 (by simp)
  have keepP:prB R s=false->x.p=((lst (atS (visL R)) (k+1)).filter (prB R)).map λs=>(s,(resB R s).1.pr):=λh=>by
   rw[ihp,ls,List.filter_append,List.filter_cons_of_neg (by simp[h])];simp
  have keepR:repB R s=false->x.r=((lst (atS (visL R)) (k+1)).filter (repB R)).map λs=>(resB R s).1:=λh=>by
   rw[ihr,ls,List.filter_append,List.filter_cons_of_neg (by simp[h])];simp
  cases hv:verB R s with
  |false=>
   have h1:finS R s=false:=by unfold finS;rw[hv];rfl
   have h2:prB R s=false:=by unfold prB;rw[hv];rfl
   have h3:repB R s=false:=by unfold repB;rw[hv];rfl
   have e:ob1 R (visL R) (k+1)=x:=by rw[ob];unfold stO;rw[hv,Bool.not_false,Bool.or_true];rfl
   exact⟨by rw[e];exact keepE (.inl h1),by rw[e];exact keepP h2,by rw[e];exact keepR h3⟩
  |true=>
   cases he:endB R s with
   |true=>
    have h2:prB R s=false:=by unfold prB;rw[he];simp
    have h3:repB R s=false:=by unfold repB;rw[he];simp
    have e:ob1 R (visL R) (k+1)=x:=by rw[ob];unfold stO;rw[key,he];rfl
    exact⟨by rw[e];exact keepE (.inr he),by rw[e];exact keepP h2,by rw[e];exact keepR h3⟩
   |false=>
    rw[he] at key
    cases hf:finB (resB R s).1 with
    |true=>
     have h1:finS R s=true:=by unfold finS;rw[hv,hf];rfl
     have h2:prB R s=false:=by unfold prB;rw[w5o hf];simp
     have h3:repB R s=decide ((resB R s).1.st=5):=by unfold repB;rw[hv,he];rfl
     have e:ob1 R (visL R) (k+1)=⟨setA x.e (s.o,s.p) s.per,x.p,bif decide ((resB R s).1.st=5) then x.r++[(resB R s).1] else x.r⟩:=by rw[ob];unfold stO;rw[key,hv,hf];rfl
     refine⟨λo p c=>?_,by rw[e];exact keepP h2,?_⟩
     ·rw[e];show getA (setA x.e (s.o,s.p) s.per) (o,p)=some c↔_;rw[wgz]
      by_cases q:(s.o,s.p)=(o,p)
      ·rw[decide_eq_true q,cond_true];injection q with q1 q2
       constructor
       ·intro hc;exact⟨s,by rw[ls];simp,q1,q2,h1,he,(oJ7 hc).symm⟩
       ·rintro⟨u,hu,u1,u2,u3,u4,rfl⟩;rw[ls] at hu
        rcases List.mem_append.1 hu with hu | hu
        ·have:=(ihe u.o u.p u.per).2 ⟨u,hu,rfl,rfl,u3,u4,rfl⟩;rw[u1,u2, ← q1, ← q2] at this;rw[this] at key;cases key
        ·rw[List.mem_singleton.1 hu]
      ·rw[decide_eq_false q,cond_false,ihe,ls]
       constructor
       ·rintro⟨u,hu,h⟩;exact⟨u,List.mem_append_left _ hu,h⟩
       ·rintro⟨u,hu,h⟩
        rcases List.mem_append.1 hu with hu | hu
        ·exact⟨u,hu,h⟩
        ·rw[List.mem_singleton.1 hu] at h;exact absurd (Prod.ext h.1 h.2.1) q
     ·rw[e,ls,List.filter_append];show (bif decide ((resB R s).1.st=5) then x.r++[(resB R s).1] else x.r)=_
      cases h5:decide ((resB R s).1.st=5) with
      |true=>rw[h5] at h3;rw[List.filter_cons_of_pos h3,ihr];simp
      |false=>rw[h5] at h3;rw[List.filter_cons_of_neg (by simp[h3]),ihr];simp
    |false=>
     have h1:finS R s=false:=by unfold finS;rw[hf];simp
     have n5:(resB R s).1.st≠5:=λq=>by rw[finB,q] at hf;cases hf
     have h3:repB R s=false:=by unfold repB;rw[decide_eq_false n5];simp
     have h2:prB R s=priB (resB R s).1:=by unfold prB;rw[hv,he];rfl
     have e:ob1 R (visL R) (k+1)=bif priB (resB R s).1 then ⟨x.e,setA x.p s (resB R s).1.pr,x.r⟩ else x:=by rw[ob];unfold stO;rw[key,hv,hf];rfl
     cases hp:priB (resB R s).1 with
     |true=>
      rw[hp,cond_true] at e;rw[hp] at h2;refine⟨by rw[e];exact keepE (.inl h1),?_,by rw[e];exact keepR h3⟩;rw[e,ls,List.filter_append,List.filter_cons_of_pos h2];show setA x.p s (resB R s).1.pr=_;rw[wyr hnew,ihp];simp
     |false=>
      rw[hp,cond_false] at e;rw[hp] at h2;exact⟨by rw[e];exact keepE (.inl h1),by rw[e];exact keepP h2,by rw[e];exact keepR h3⟩
def obE(R:List MG):List ((List UInt8×List UInt8)×Int):=(ob1 R (visL R) (visL R).length).e
theorem ob1_p(R:List MG):(ob1 R (visL R) (visL R).length).p=((visL R).filter (prB R)).map λs=>(s,(resB R s).1.pr):=by rw[(wim R _ (lR7 _)).p,wgv]
theorem ob1_r(R:List MG):(ob1 R (visL R) (visL R).length).r=repL R:=by rw[(wim R _ (lR7 _)).r,wgv];rfl
def ovrB(E:List ((List UInt8×List UInt8)×Int))(s:SL):Bool:=match getA E (s.o,s.p) with
 |some c=>decide (c<s.per)
 |none=>false
theorem ovr_end(R:List MG)(s:SL):ovrB (obE R) s=endB R s:=by
 have h:=(wim R _ (lR7 _)).e s.o s.p;rw[wgv] at h;rw[Bool.eq_iff_iff];unfold ovrB
 constructor
 ·intro q
  cases g:getA (obE R) (s.o,s.p) with
  |none=>rw[g] at q;cases q
  |some c=>
   rw[g] at q;obtain⟨u,hu,h1,h2,h3,h4,rfl⟩:=(h c).1 g;exact wf6.2 ⟨u,hu,h1,h2,of_decide_eq_true q,h3⟩
 ·intro q;obtain⟨u,hu,h1,h2,h3,h4,h5⟩:=wrz q;have g:getA (obE R) (s.o,s.p)=some u.per:=(h u.per).2 ⟨u,hu,h1,h2,h4,h5,rfl⟩;rw[g];exact decide_eq_true h3
end Go.Eng
