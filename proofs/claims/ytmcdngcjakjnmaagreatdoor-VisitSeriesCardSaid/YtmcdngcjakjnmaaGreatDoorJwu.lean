/- Cloned, and lists of marks: the loops' states. -/
import Derived.Test.YtmcdngcjakjnmaaGreatDoorJwt
namespace Go.Eng
structure SL where
 o:List UInt8
 p:List UInt8
 per:Int
 deriving DecidableEq,Inhabited
def ordS(a b:SL):Int:=orL [cmpS a.o b.o,cmpS a.p b.p,cmpI a.per b.per]
theorem wby:PreC ordS:=(wdq.comap SL.o).or ((wdq.comap SL.p).or ((wds.comap SL.per).or .nil))
theorem whw{a b:SL}:ordS a b=0↔a=b:=by
 simp only[ordS,wpb,wdc,wqu,show orL []=0 from rfl,and_true]
 constructor
 ·rintro⟨h1,h2,h3⟩
  cases a;cases b;simp only at h1 h2 h3;subst h1;subst h2;subst h3;rfl
 ·rintro rfl;simp
def whr(m:MG):SL:=bif decide (m.kind=2) then ⟨m.d.o,m.d.p,m.d.per⟩ else ⟨m.v.o,m.v.p,m.v.per⟩
def vsl(v:VT):SL:=⟨v.o,v.p,v.per⟩
theorem wi6{α:Type}{p:List α->Prop}(l:List α)(nil:p [])(snoc:∀(l:List α) (a:α),p l->p (l++[a])):p l:=by
 have:∀(r:List α),p r.reverse:=λr=>by
  induction r with
  |nil=>exact nil
  |cons a r ih=>rw[List.reverse_cons];exact snoc _ a ih
 have h:=this l.reverse
 rwa [List.reverse_reverse] at h
def putB:List (SL×List MG)->SL->MG->List (SL×List MG)
 |[],s,m=>[(s,[m])]
 |x::B,s,m=>bif decide (x.1=s) then (x.1,x.2++[m])::B else x::putB B s m
def wai(l:List MG):List (SL×List MG):=l.foldl (λB m=>putB B (whr m) m) []
def getB:List (SL×List MG)->SL->List MG
 |[],_=>[]
 |x::B,s=>bif decide (x.1=s) then x.2 else getB B s
theorem w3c(B:List (SL×List MG))(s t:SL)(m:MG):getB (putB B s m) t=bif decide (s=t) then getB B t++[m] else getB B t:=by
 induction B with
 |nil=>
  by_cases h:s=t
  ·subst h;simp[putB,getB]
  ·simp[putB,getB,h]
 |cons x B ih=>
  rw[putB]
  by_cases h:x.1=s
  ·rw[decide_eq_true h]
   by_cases h':s=t
   ·simp[getB,h,h']
   ·have:¬ x.1=t:=λq=>h' (h ▸ q);simp[getB,this,h']
  ·rw[decide_eq_false h]
   by_cases h':x.1=t
   ·have:¬ s=t:=λq=>h (h'.trans q.symm);simp[getB,h',this]
   ·simp[getB,h',ih]
theorem wpy(B:List (SL×List MG))(s:SL)(m:MG):(putB B s m).map Prod.fst=bif decide (s∈B.map Prod.fst) then B.map Prod.fst else B.map Prod.fst++[s]:=by
 induction B with
 |nil=>simp[putB]
 |cons x B ih=>
  rw[putB]
  by_cases h:x.1=s
  ·rw[decide_eq_true h];simp[h]
  ·rw[decide_eq_false h,cond_false,List.map_cons,ih];have h':¬ s=x.1:=λq=>h q.symm
   by_cases q:s∈B.map Prod.fst
   ·have q2:s∈(x::B).map Prod.fst:=List.mem_cons_of_mem _ q;rw[decide_eq_true q,decide_eq_true q2];rfl
   ·have q2:s ∉ (x::B).map Prod.fst:=by
     rw[List.map_cons,List.mem_cons];exact λe=>e.elim h' q
    rw[decide_eq_false q,decide_eq_false q2];rfl
theorem wiq(l:List MG)(m:MG):wai (l++[m])=putB (wai l) (whr m) m:=by simp[wai]
theorem wkh(s:SL)(l:List MG):getB (wai l) s=l.filter λm=>decide (whr m=s):=by
 induction l using wi6 with
 |nil=>rfl
 |snoc l m ih=>
  rw[wiq,w3c,ih,List.filter_append]
  by_cases h:whr m=s
  ·simp[h]
  ·simp[h]
theorem wpz(s:SL)(l:List MG):s∈(wai l).map Prod.fst↔∃m∈l,whr m=s:=by
 induction l using wi6 with
 |nil=>simp[wai]
 |snoc l m ih=>
  rw[wiq,wpy]
  by_cases h:whr m∈(wai l).map Prod.fst
  ·rw[decide_eq_true h,cond_true,ih]
   constructor
   ·rintro⟨x,hx,e⟩;exact⟨x,List.mem_append_left _ hx,e⟩
   ·rintro⟨x,hx,e⟩
    rcases List.mem_append.1 hx with hx | hx
    ·exact⟨x,hx,e⟩
    ·rw[List.mem_singleton.1 hx] at e;exact ih.1 (e ▸ h)
  ·rw[decide_eq_false h,cond_false,List.mem_append,ih,List.mem_singleton]
   constructor
   ·rintro(⟨x,hx,e⟩ | e)
    ·exact⟨x,List.mem_append_left _ hx,e⟩
    ·exact⟨m,List.mem_append_right _ (List.mem_singleton.2 rfl),e.symm⟩
   ·rintro⟨x,hx,e⟩
    rcases List.mem_append.1 hx with hx | hx
    ·exact .inl ⟨x,hx,e⟩
    ·exact .inr (by rw[← e,List.mem_singleton.1 hx])
theorem wjo(l:List MG):((wai l).map Prod.fst).Nodup:=by
 induction l using wi6 with
 |nil=>simp[wai]
 |snoc l m ih=>
  rw[wiq,wpy]
  by_cases h:whr m∈(wai l).map Prod.fst
  ·rw[decide_eq_true h];exact ih
  ·rw[decide_eq_false h,cond_false,List.nodup_append];refine⟨ih,by simp,λa ha b hb e=>h ?_⟩;rw[List.mem_singleton.1 hb] at e;exact e ▸ ha
theorem getB_at{B:List (SL×List MG)}(hn:(B.map Prod.fst).Nodup){x:SL×List MG}(h:x∈B):getB B x.1=x.2:=by
 induction B with
 |nil=>cases h
 |cons y B ih=>
  rw[List.map_cons,List.nodup_cons] at hn
  rcases List.mem_cons.1 h with rfl | h
  ·simp[getB]
  ·have:¬ y.1=x.1:=λq=>hn.1 (q ▸ List.mem_map_of_mem h);rw[getB,decide_eq_false this];exact ih hn.2 h
theorem wvq{l:List MG}{x:SL×List MG}(h:x∈wai l):x.2=l.filter λm=>decide (whr m=x.1):=by rw[← wkh,getB_at (wjo l) h]
theorem wvp(l:List MG):(wai l).length<=l.length:=by
 induction l using wi6 with
 |nil=>simp[wai]
 |snoc l m ih=>
  have h:=congrArg List.length (wpy (wai l) (whr m) m);rw[List.length_map] at h;rw[wiq,lA7,h]
  cases decide (whr m∈(wai l).map Prod.fst) with
  |true=>rw[cond_true,List.length_map];simp;omega
  |false=>rw[cond_false,lA7,List.length_map];simpa using ih
def insS:List SL->SL->List SL
 |[],m=>[m]
 |x::l,m=>bif decide (ordS m x<0) then m::x::l else bif decide (ordS m x=0) then x::l else x::insS l m
theorem wkb:∀ {l:List SL} {m y:SL},y∈insS l m↔y=m∨y∈l
 |[],m,y=>by simp[insS]
 |x::l,m,y=>by
  rw[insS]
  by_cases h:ordS m x<0
  ·rw[decide_eq_true h];simp
  ·rw[decide_eq_false h]
   by_cases h':ordS m x=0
   ·rw[decide_eq_true h'];have:=whw.1 h';subst this;simp
   ·rw[decide_eq_false h'];simp only[cond_false,List.mem_cons,wkb (l:=l)];grind
theorem wp8:∀ {l:List SL} (m:SL),Asc ordS l->Asc ordS (insS l m)
 |[],m,_=>by simp[insS,Asc]
 |x::l,m,h=>by
  obtain⟨h1,h2⟩:=List.pairwise_cons.1 h;rw[insS]
  by_cases q:ordS m x<0
  ·rw[decide_eq_true q];refine List.pairwise_cons.2 ⟨λy hy=>?_,h⟩
   rcases List.mem_cons.1 hy with rfl | hy
   ·exact q
   ·exact wby.lt_trans q (h1 y hy)
  ·rw[decide_eq_false q]
   by_cases q':ordS m x=0
   ·rw[decide_eq_true q'];exact h
   ·rw[decide_eq_false q'];refine List.pairwise_cons.2 ⟨λy hy=>?_,wp8 m h2⟩
    rcases wkb.1 hy with rfl | hy
    ·have:=wby.neg x y;have:=wby.neg y x;omega
    ·exact h1 y hy
theorem wt2:∀(l:List SL) (m:SL),(insS l m).length<=l.length+1
 |[],m=>by simp[insS]
 |x::l,m=>by
  rw[insS]
  cases decide (ordS m x<0) with
  |true=>simp
  |false=>
   cases decide (ordS m x=0) with
   |true=>simp
   |false=>have:=wt2 l m;simpa using this
theorem wgm:∀(l acc:List SL),Asc ordS acc->Asc ordS (l.foldl insS acc)/\∀y,y∈l.foldl insS acc↔y∈acc∨y∈l
 |[],acc,h=>⟨h,λy=>by simp⟩
 |x::l,acc,h=>by
  obtain⟨h1,h2⟩:=wgm l (insS acc x) (wp8 x h);refine⟨h1,λy=>?_⟩;rw[List.foldl_cons,h2,wkb,List.mem_cons];grind
theorem wqi:∀(l acc:List SL),(l.foldl insS acc).length<=acc.length+l.length
 |[],acc=>by simp
 |x::l,acc=>by
  rw[List.foldl_cons,List.length_cons];have:=wqi l (insS acc x);have:=wt2 acc x;omega
def isV(m:MG):Bool:=decide (m.kind=1)
def visL(R:List MG):List SL:=((R.filter isV).map λm=>vsl m.v).foldl insS []
theorem wd5(R:List MG):Asc ordS (visL R):=(wgm _ [] .nil).1
theorem wf7{R:List MG}{s:SL}:s∈visL R↔∃m∈R,m.kind=1/\vsl m.v=s:=by
 unfold visL;rw[(wgm _ [] .nil).2];simp[isV,and_assoc]
theorem wfe(R:List MG):(visL R).length<=R.length:=by
 have:=wqi ((R.filter isV).map λm=>vsl m.v) [];have h2:=List.length_filter_le isV R;unfold visL;simp at this;omega
theorem wwj{R:List MG}{L:List SL}(h:Asc ordS L)(hm:∀s,s∈L↔∃m∈R,m.kind=1/\vsl m.v=s):L=visL R:=
 Asc.uniq wby h (wd5 R) λs=>by rw[hm,wf7]
def hasV(l:List MG):Bool:=l.any isV
theorem wt9{R:List MG}{x:SL×List MG}(h:x∈wai R):hasV x.2=true↔x.1∈visL R:=by
 rw[wf7,hasV,List.any_eq_true,wvq h]
 constructor
 ·rintro⟨m,hm,hk⟩;obtain⟨h1,h2⟩:=List.mem_filter.1 hm;have hk:m.kind=1:=of_decide_eq_true hk;have h2:whr m=x.1:=of_decide_eq_true h2;refine⟨m,h1,hk,?_⟩;rw[← h2,whr,decide_eq_false (by omega)];rfl
 ·rintro⟨m,h1,hk,h2⟩;refine⟨m,List.mem_filter.2 ⟨h1,decide_eq_true ?_⟩,decide_eq_true hk⟩;rw[← h2,whr,decide_eq_false (by omega)];rfl
theorem wwk{R:List MG}{L:List SL}{E:List (SL×List MG)}(hE:E.Perm (wai R))(hL:L.Perm ((E.filter λx=>hasV x.2).map Prod.fst))(hs:L.Pairwise λx y=>¬ ordS y x<0):L=visL R:=by
 have hn:L.Nodup:=by
  rw[hL.nodup_iff];have:(E.map Prod.fst).Nodup:=by rw[(hE.map _).nodup_iff];exact wjo R
  exact this.sublist ((List.filter_sublist).map _)
 refine wwj (Asc.of_sorted hs wby (hn.imp λh q=>h (whw.1 q))) λs=>?_;rw[hL.mem_iff,List.mem_map]
 constructor
 ·rintro⟨x,hx,rfl⟩;obtain⟨h1,h2⟩:=List.mem_filter.1 hx;exact wf7.1 ((wt9 (hE.mem_iff.1 h1)).1 h2)
 ·intro h;have hk:s∈(wai R).map Prod.fst:=by
   obtain⟨m,hm,hk,e⟩:=h;refine(wpz s R).2 ⟨m,hm,?_⟩;rw[← e,whr,decide_eq_false (by omega)];rfl
  obtain⟨x,hx,rfl⟩:=List.mem_map.1 hk;exact⟨x,List.mem_filter.2 ⟨hE.mem_iff.2 hx,(wt9 hx).2 (wf7.2 h)⟩,rfl⟩
def resB(R:List MG)(s:SL):VT×Int:=resR s.o s.p s.per R (canL s.o s.p s.per (atM R) R.length)
theorem res_all(g:Nat->MG)(n:Nat)(s:SL):resF g n s.o s.p s.per=resB (wad g n) s:=rfl
def canS(o p:List UInt8)(per:Int)(L:List MG):List MG:=(L.filter (selF o p per)).foldl stpC []
theorem wqy(o p:List UInt8)(per:Int)(g:Nat->MG):∀n,canL o p per g n=canS o p per (lst g n)
 |0=>rfl
 |n+1=>by
  unfold canS;rw[canL,wdh,List.filter_append,List.foldl_append,wqy o p per g n]
  cases h:selF o p per (g n) with
  |true=>simp[h,canS]
  |false=>simp[h,canS]
def dcS(o p:List UInt8)(per:Int)(C:List MG)(L:List MG):VT×Int:=
 L.foldl (λq m=>bif wb6 o p per q.2 m && decide (fstB (λi=>namF m.d (atM C i)) C.length<C.length) then ((atM C (fstB (λi=>namF m.d (atM C i)) C.length)).v,m.seq) else q) (wco, -1)
theorem wqt(o p:List UInt8)(per:Int)(C:List MG)(g:Nat->MG):∀n,dcF o p per C g n=dcS o p per C (lst g n)
 |0=>rfl
 |n+1=>by
  unfold dcS;rw[dcF,wdh,List.foldl_append,wqt o p per C g n];rfl
theorem w3k{α β:Type}(f:β->α->β)(q:α->Bool)(l:List α):∀b,(∀b x,x∈l->q x=false->f b x=b)->(l.filter q).foldl f b=l.foldl f b:=by
 induction l with
 |nil=>intro b _;rfl
 |cons x l ih=>
  intro b h
  cases hq:q x with
  |true=>
   rw[List.filter_cons_of_pos hq,List.foldl_cons,List.foldl_cons];exact ih _ λb y hy=>h b y (List.mem_cons_of_mem _ hy)
  |false=>
   rw[List.filter_cons_of_neg (by simp[hq]),List.foldl_cons,h b x (List.mem_cons_self) hq];exact ih _ λb y hy=>h b y (List.mem_cons_of_mem _ hy)
theorem wry{s:SL}{m:MG}(h:selF s.o s.p s.per m=true):whr m=s/\vsl m.v=s/\m.kind=1:=by
 simp only[selF,bA7,decide_eq_true_eq] at h;obtain⟨h1,h2,h3,h4⟩:=h;have:vsl m.v=s:=by rw[vsl,h2,h3,h4]
 refine⟨?_,this,h1⟩;rw[whr,decide_eq_false (by omega)];exact this
theorem w31{s:SL}{q:Int}{m:MG}(h:wb6 s.o s.p s.per q m=true):whr m=s:=by
 simp only[wb6,bA7,decide_eq_true_eq] at h;obtain⟨h1,h2,h3,h4,_⟩:=h;rw[whr,decide_eq_true h1,h2,h3,h4];rfl
theorem wx3(R:List MG)(s:SL):resB (R.filter λm=>decide (whr m=s)) s=resB R s:=by
 unfold resB;have hc:canL s.o s.p s.per (atM (R.filter λm=>decide (whr m=s))) (R.filter λm=>decide (whr m=s)).length=canL s.o s.p s.per (atM R) R.length:=by
  rw[wqy,wqy,wdi,wdi,canS,canS,List.filter_filter];congr 1;refine List.filter_congr λm _=>?_
  cases h:selF s.o s.p s.per m with
  |true=>rw[Bool.true_and,decide_eq_true (wry h).1]
  |false=>rfl
 rw[hc];unfold resR;have hd:∀C,dcF s.o s.p s.per C (atM (R.filter λm=>decide (whr m=s))) (R.filter λm=>decide (whr m=s)).length=dcF s.o s.p s.per C (atM R) R.length:=λC=>by
  rw[wqt,wqt,wdi,wdi,dcS,dcS];refine w3k _ _ _ _ λb m _ h=>?_;have:wb6 s.o s.p s.per b.2 m=false:=by
   cases h':wb6 s.o s.p s.per b.2 m with
   |false=>rfl
   |true=>rw[decide_eq_true (w31 h')] at h;cases h
  rw[this];rfl
 rw[hd]
structure RightL (R:List MG):Prop where
 mark:Asc wcy R
 ord:Asc ordM R
 ok:∀m∈R,msgF m=0
theorem wxw(g:Nat->MG)(n:Nat):RightL (wad g n):=
 ⟨wsg g n,(wh2 _).filter _,λ_ h=>wsh h⟩
theorem RightL.filter{R:List MG}(h:RightL R)(q:MG->Bool):RightL (R.filter q):=⟨h.mark.filter q,h.ord.filter q,λm hm=>h.ok m (List.mem_filter.1 hm).1⟩
theorem RightL.self{R:List MG}(h:RightL R):wad (atM R) R.length=R:=by
 have e:mrgL (atM R) R.length noM 0=R:=by
  unfold mrgL;rw[lst_atL];refine(wtb h.ord λm=>?_).symm;exact⟨λhm=>⟨hm,h.ok m hm⟩,λhm=>hm.1⟩
 unfold wad;rw[e];refine List.filter_eq_self.2 λm _=>?_;rw[Bool.not_eq_true',decide_eq_false_iff_not,why];rintro⟨i,j,hij,hj,e1,e2⟩;have h1:=wlb h.mark hij hj;have h2:=wjy.2 (e1.trans e2.symm);omega
theorem wx1{R:List MG}(h:RightL R)(s:SL):resF (atM (getB (wai R) s)) (getB (wai R) s).length s.o s.p s.per=resB R s:=by
 rw[wkh,res_all,(h.filter _).self,wx3]
theorem wio{o p:List UInt8}{per:Int}{g:Nat->MG}{m:MG}:∀ {n:Nat},m∈canL o p per g n->selF o p per m=true/\m∈lst g n
 |0,h=>by simp[canL] at h
 |n+1,h=>by
  rw[canL] at h;rw[wdh]
  cases q:selF o p per (g n) with
  |false=>
   rw[q,cond_false] at h;exact⟨(wio h).1,List.mem_append_left _ (wio h).2⟩
  |true=>
   rw[q,cond_true] at h;have:m∈canL o p per g n∨m=g n:=by
    unfold stpC at h
    cases q2:decide (0<(canL o p per g n).length) && decide ((atM (canL o p per g n) ((canL o p per g n).length - 1)).dev=(g n).dev) with
    |true=>
     rw[q2,cond_true,List.mem_append,List.mem_singleton] at h;exact h.imp (λh=>List.mem_of_mem_take h) id
    |false=>
     rw[q2,cond_false,List.mem_append,List.mem_singleton] at h;exact h
   rcases this with h | rfl
   ·exact⟨(wio h).1,List.mem_append_left _ (wio h).2⟩
   ·exact⟨q,List.mem_append_right _ (List.mem_singleton.2 rfl)⟩
theorem wx2(o p:List UInt8)(per:Int)(R C:List MG):(resR o p per R C).2=0/\C=[]/\(resR o p per R C).1=wco∨(resR o p per R C).2=1/\C≠[]/\(∃m∈C,(resR o p per R C).1=m.v)∨(resR o p per R C).2=2/\C≠[]:=by
 unfold resR
 by_cases h:C.length=0
 ·rw[decide_eq_true h];exact .inl ⟨rfl,List.length_eq_zero_iff.1 h,rfl⟩
 ·have hne:C≠[]:=λe=>h (by rw[e];rfl);have h0:atM C 0∈C:=wfy (by omega);rw[decide_eq_false h]
  by_cases h2:0<=ixB (λi=>difF (atM C 0).v (atM C i)) C.length
  ·rw[decide_eq_true h2]
   by_cases h3:(dcF o p per C (atM R) R.length).2<0
   ·rw[decide_eq_true h3];exact .inr (.inr ⟨rfl,hne⟩)
   ·rw[decide_eq_false h3];refine .inr (.inl ⟨rfl,hne,?_⟩);have key:∀k,(dcF o p per C (atM R) k).2<0∨∃m∈C,(dcF o p per C (atM R) k).1=m.v:=by
     intro k
     induction k with
     |zero=>exact .inl (by show (-1:Int)<0;omega)
     |succ k ih=>
      rw[dcF]
      by_cases q:fstB (λi=>namF (atM R k).d (atM C i)) C.length<C.length
      ·cases q2:wb6 o p per (dcF o p per C (atM R) k).2 (atM R k) with
       |true=>rw[decide_eq_true q];exact .inr ⟨_,wfy q,rfl⟩
       |false=>exact ih
      ·rw[decide_eq_false q,Bool.and_false];exact ih
    exact(key R.length).resolve_left h3
  ·rw[decide_eq_false h2];exact .inr (.inl ⟨rfl,hne,atM C 0,h0,rfl⟩)
theorem wsj{R:List MG}{s:SL}(h:(resB R s).2=1):∃m∈R,m.kind=1/\m.v=(resB R s).1/\vsl m.v=s:=by
 rcases wx2 s.o s.p s.per R (canL s.o s.p s.per (atM R) R.length) with q | q | q
 ·exact absurd (q.1.symm.trans h) (by decide)
 ·obtain⟨_,_,m,hm,e⟩:=q;obtain⟨h1,h2⟩:=wio hm;rw[wdi] at h2;obtain⟨_,w2,w3⟩:=wry h1;exact⟨m,h2,w3,e.symm,w2⟩
 ·exact absurd (q.1.symm.trans h) (by decide)
theorem wsi{R:List MG}{s:SL}(h:(resB R s).2=1):vsl (resB R s).1=s/\s∈visL R:=by
 obtain⟨m,hm,hk,e,e2⟩:=wsj h;exact⟨e ▸ e2,wf7.2 ⟨m,hm,hk,e2⟩⟩
def atS(L:List SL)(i:Nat):SL:=L.getD i default
def atX(L:List VT)(i:Nat):VT:=L.getD i default
theorem wfx{L:List SL}{i:Nat}(h:i<L.length):atS L i=L[i]:=by simp[atS,h]
theorem wey{L:List SL}{i:Nat}(h:i<L.length):atS L i∈L:=by rw[wfx h];exact List.getElem_mem h
theorem wju{L:List SL}{x:SL}(h:x∈L):∃i,i<L.length/\atS L i=x:=by
 obtain⟨i,hi,e⟩:=List.getElem_of_mem h;exact⟨i,hi,(wfx hi).trans e⟩
theorem wjz(L:List SL):lst (atS L) L.length=L:=by
 refine List.ext_getElem (by simp[lst]) λi h1 h2=>?_;simp[lst,wfx h2]
theorem atX_get{L:List VT}{i:Nat}(h:i<L.length):atX L i=L[i]:=by simp[atX,h]
theorem lst_atX(L:List VT):lst (atX L) L.length=L:=by
 refine List.ext_getElem (by simp[lst]) λi h1 h2=>?_;simp[lst,atX_get h2]
theorem wgu{L:List SL}(h:Asc ordS L){i j:Nat}(hij:i<j)(hj:j<L.length):ordS (atS L i) (atS L j)<0:=by
 rw[wfx (by omega),wfx hj];exact List.pairwise_iff_getElem.1 h i j (by omega) hj hij
theorem wo9{a b:SL}(ho:a.o=b.o)(hp:a.p=b.p):ordS a b<0↔a.per<b.per:=by
 have h1:cmpS a.o b.o=0:=wdc.2 ho;have h2:cmpS a.p b.p=0:=wdc.2 hp;have h3:=wdr a.per b.per;have e:ordS a b=cmpI a.per b.per:=by
  unfold ordS;rw[h1,h2];simp only[orL,decide_true,cond_true]
  by_cases q:cmpI a.per b.per=0
  ·rw[q];rfl
  ·rw[decide_eq_false q];rfl
 rw[e];omega
def keyB(o p:List UInt8)(s:SL):Bool:=decide (s.o=o) && decide (s.p=p)
def slkB(R:List MG)(o p:List UInt8)(s:SL):Bool:=keyB o p s && decide ((resB R s).2=1)
def serK(R:List MG)(o p:List UInt8)(V:List SL):Nat->List VT
 |0=>[]
 |k+1=>bif slkB R o p (atS V k) then serK R o p V k++[(resB R (atS V k)).1] else serK R o p V k
def serL(R:List MG)(o p:List UInt8):List VT:=serK R o p (visL R) (visL R).length
theorem wi8(R:List MG)(o p:List UInt8)(V:List SL):∀k,(serK R o p V k).length<=k
 |0=>lR7 _
 |k+1=>by
  have ih:=wi8 R o p V k;rw[serK]
  cases slkB R o p (atS V k) with
  |true=>rw[cond_true,lA7];show _+1<=_;omega
  |false=>rw[cond_false];omega
theorem wxb{R:List MG}{o p:List UInt8}{s:SL}:slkB R o p s=true↔s.o=o/\s.p=p/\(resB R s).2=1:=by simp[slkB,keyB,and_assoc]
theorem wrx(R:List MG)(o p:List UInt8):(serL R o p).length<=R.length:=Nat.le_trans (wi8 _ _ _ _ _) (wfe R)
def finB(v:VT):Bool:=decide (v.st=4) || decide (v.st=5)
def getA{κ α:Type}[DecidableEq κ]:List (κ×α)->κ->Option α
 |[],_=>none
 |x::B,s=>bif decide (x.1=s) then some x.2 else getA B s
def setA{κ α:Type}[DecidableEq κ]:List (κ×α)->κ->α->List (κ×α)
 |[],s,c=>[(s,c)]
 |x::B,s,c=>bif decide (x.1=s) then (s,c)::B else x::setA B s c
section
variable {κ α:Type} [DecidableEq κ]
theorem wgi(B:List (κ×α))(s t:κ)(c:α):getA (setA B s c) t=bif decide (s=t) then some c else getA B t:=by
 induction B with
 |nil=>simp[setA,getA]
 |cons x B ih=>
  rw[setA]
  by_cases h:x.1=s
  ·rw[decide_eq_true h]
   by_cases h':s=t
   ·simp[getA,h']
   ·have:¬ x.1=t:=λq=>h' (h ▸ q);simp[getA,this,h']
  ·rw[decide_eq_false h]
   by_cases h':x.1=t
   ·have:¬ s=t:=λq=>h (h'.trans q.symm);simp[getA,h',this]
   ·simp[getA,h',ih]
theorem wki{B:List (κ×α)}{s:κ}:getA B s=none↔s ∉ B.map Prod.fst:=by
 induction B with
 |nil=>simp[getA]
 |cons x B ih=>
  rw[getA]
  by_cases h:x.1=s
  ·simp[h]
  ·have h':¬ s=x.1:=λq=>h q.symm;rw[decide_eq_false h,cond_false,ih,List.map_cons,List.mem_cons];simp[h']
theorem wxf{B:List (κ×α)}{s:κ}{c:α}(h:s ∉ B.map Prod.fst):setA B s c=B++[(s,c)]:=by
 induction B with
 |nil=>rfl
 |cons x B ih=>
  rw[List.map_cons,List.mem_cons,not_or] at h;rw[setA,decide_eq_false (λq=>h.1 q.symm),cond_false,ih h.2];rfl
theorem wrw(B:List (κ×α))(s:κ)(c:α):(setA B s c).map Prod.fst=bif decide (s∈B.map Prod.fst) then B.map Prod.fst else B.map Prod.fst++[s]:=by
 induction B with
 |nil=>simp[setA]
 |cons x B ih=>
  rw[setA]
  by_cases h:x.1=s
  ·rw[decide_eq_true h];simp[h]
  ·rw[decide_eq_false h,cond_false,List.map_cons,ih];have h':¬ s=x.1:=λq=>h q.symm
   by_cases q:s∈B.map Prod.fst
   ·have q2:s∈(x::B).map Prod.fst:=List.mem_cons_of_mem _ q;rw[decide_eq_true q,decide_eq_true q2];rfl
   ·have q2:s ∉ (x::B).map Prod.fst:=by
     rw[List.map_cons,List.mem_cons];exact λe=>e.elim h' q
    rw[decide_eq_false q,decide_eq_false q2];rfl
theorem whp{B:List (κ×α)}(h:(B.map Prod.fst).Nodup)(s:κ)(c:α):((setA B s c).map Prod.fst).Nodup:=by
 rw[wrw]
 by_cases q:s∈B.map Prod.fst
 ·rw[decide_eq_true q];exact h
 ·rw[decide_eq_false q,cond_false,List.nodup_append];refine⟨h,by simp,λa ha b hb e=>q ?_⟩;rw[List.mem_singleton.1 hb] at e;exact e ▸ ha
theorem wxg(B:List (κ×α))(s:κ)(c:α):(setA B s c).length<=B.length+1:=by
 have h:=congrArg List.length (wrw B s c);rw[List.length_map] at h;rw[h]
 cases decide (s∈B.map Prod.fst) with
 |true=>rw[cond_true,List.length_map];omega
 |false=>rw[cond_false,lA7,List.length_map];exact lR7 _
theorem getA_at{B:List (κ×α)}(hn:(B.map Prod.fst).Nodup){x:κ×α}(h:x∈B):getA B x.1=some x.2:=by
 induction B with
 |nil=>cases h
 |cons y B ih=>
  rw[List.map_cons,List.nodup_cons] at hn
  rcases List.mem_cons.1 h with rfl | h
  ·simp[getA]
  ·have:¬ y.1=x.1:=λq=>hn.1 (q ▸ List.mem_map_of_mem h);rw[getA,decide_eq_false this];exact ih hn.2 h
theorem wuj{B:List (κ×α)}{s:κ}{c:α}(h:getA B s=some c):(s,c)∈B:=by
 induction B with
 |nil=>cases h
 |cons x B ih=>
  rw[getA] at h
  by_cases q:x.1=s
  ·rw[decide_eq_true q,cond_true] at h;have e:x=(s,c):=Prod.ext q (oJ7 h);rw[e];exact List.mem_cons_self
  ·rw[decide_eq_false q,cond_false] at h;exact List.mem_cons_of_mem _ (ih h)
end
def verB(R:List MG)(s:SL):Bool:=decide ((resB R s).2=1)
def priB(v:VT):Bool:=decide (v.st=1) || decide (v.st=2)
def finS(R:List MG)(s:SL):Bool:=verB R s && finB (resB R s).1
def endB(R:List MG)(t:SL):Bool:=(visL R).any λu=>keyB t.o t.p u && (decide (u.per<t.per) && finS R u)
def prB(R:List MG)(t:SL):Bool:=verB R t && (!endB R t && priB (resB R t).1)
def repB(R:List MG)(t:SL):Bool:=verB R t && (!endB R t && decide ((resB R t).1.st=5))
def repL(R:List MG):List VT:=((visL R).filter (repB R)).map λs=>(resB R s).1
def rsl(v:VT):SL:=⟨v.o,v.rep,v.per⟩
theorem w2r{o p:List UInt8}{s:SL}:keyB o p s=true↔s.o=o/\s.p=p:=by simp[keyB]
theorem wkv{R:List MG}{t:SL}:endB R t=true↔∃u∈visL R,u.o=t.o/\u.p=t.p/\u.per<t.per/\finS R u=true:=by
 rw[endB,List.any_eq_true];simp[w2r,and_assoc]
theorem fir_ex(R:List MG):∀(i:Nat),i<(visL R).length->finS R (atS (visL R) i)=true->
  ∃u∈visL R,u.o=(atS (visL R) i).o/\u.p=(atS (visL R) i).p/\u.per<=(atS (visL R) i).per/\finS R u=true/\endB R u=false:=by
 intro i
 induction i using Nat.strongRecOn with
 |_ i ih=>
  intro hi hf
  cases he:endB R (atS (visL R) i) with
  |false=>exact⟨_,wey hi,rfl,rfl,Int.le_refl _,hf,he⟩
  |true=>
   obtain⟨u,hu,h1,h2,h3,h4⟩:=wkv.1 he;obtain⟨j,hj,rfl⟩:=wju hu;have hlt:j<i:=by
    rcases Nat.lt_trichotomy j i with q | q | q
    ·exact q
    ·subst q;omega
    ·have:=(wo9 h1.symm h2.symm).1 (wgu (wd5 R) q hj);omega
   obtain⟨w,hw,w1,w2,w3,w4⟩:=ih j hlt hj h4;exact⟨w,hw,w1.trans h1,w2.trans h2,by omega,w4⟩
theorem wu7{R:List MG}{t:SL}(h:endB R t=true):∃u∈visL R,u.o=t.o/\u.p=t.p/\u.per<t.per/\finS R u=true/\endB R u=false:=by
 obtain⟨u,hu,h1,h2,h3,h4⟩:=wkv.1 h;obtain⟨j,hj,rfl⟩:=wju hu;obtain⟨w,hw,w1,w2,w3,w4⟩:=fir_ex R j hj h4;exact⟨w,hw,w1.trans h1,w2.trans h2,by omega,w4⟩
structure OB where
 e:List ((List UInt8×List UInt8)×Int)
 p:List (SL×Int)
 r:List VT
def stO(R:List MG)(x:OB)(s:SL):OB:=bif (getA x.e (s.o,s.p)).isSome || !verB R s then x else
 bif finB (resB R s).1 then ⟨setA x.e (s.o,s.p) s.per,x.p,bif decide ((resB R s).1.st=5) then x.r++[(resB R s).1] else x.r⟩
 else bif priB (resB R s).1 then ⟨x.e,setA x.p s (resB R s).1.pr,x.r⟩ else x
def ob1(R:List MG)(V:List SL):Nat->OB
 |0=>⟨[],[],[]⟩
 |k+1=>stO R (ob1 R V k) (atS V k)
theorem wge{α:Type}(g:Nat->α)(n:Nat):lst g (n+1)=lst g n++[g n]:=by simp[lst,List.range_succ]
theorem wtq{V:List SL}{k:Nat}{u:SL}:u∈lst (atS V) k↔∃i,i<k/\atS V i=u:=by simp[lst]
theorem w3q{v:VT}(h:finB v=true):priB v=false:=by
 rcases Bool.or_eq_true_iff.1 h with h | h
 ·have:v.st=4:=of_decide_eq_true h;unfold priB;rw[this];rfl
 ·have:v.st=5:=of_decide_eq_true h;unfold priB;rw[this];rfl
structure Ob1 (R:List MG) (k:Nat):Prop where
 e:∀o p c,getA (ob1 R (visL R) k).e (o,p)=some c↔∃u∈lst (atS (visL R)) k,u.o=o/\u.p=p/\finS R u=true/\endB R u=false/\c=u.per
 p:(ob1 R (visL R) k).p=((lst (atS (visL R)) k).filter (prB R)).map λs=>(s,(resB R s).1.pr)
 r:(ob1 R (visL R) k).r=((lst (atS (visL R)) k).filter (repB R)).map λs=>(resB R s).1
theorem whx(R:List MG):∀k,k<=(visL R).length->Ob1 R k
 |0,_=>⟨λo p c=>by simp[ob1,getA,lst],rfl,rfl⟩
 |k+1,hk=>by
  have ih:=whx R k (by omega);have ihe:=ih.e;have ihp:=ih.p;have ihr:=ih.r;have hs:=wey (show k<(visL R).length by omega);have low:∀u,u∈lst (atS (visL R)) k->u∈visL R/\ordS u (atS (visL R) k)<0:=λu hu=>by
   obtain⟨i,hi,rfl⟩:=wtq.1 hu;exact⟨wey (by omega),wgu (wd5 R) hi (by omega)⟩
  have key:(getA (ob1 R (visL R) k).e ((atS (visL R) k).o,(atS (visL R) k).p)).isSome=endB R (atS (visL R) k):=by
   rw[Bool.eq_iff_iff,Option.isSome_iff_exists]
   constructor
   ·rintro⟨c,hc⟩;obtain⟨u,hu,h1,h2,h3,_⟩:=(ihe _ _ _).1 hc;obtain⟨w1,w2⟩:=low u hu;exact wkv.2 ⟨u,w1,h1,h2,(wo9 h1 h2).1 w2,h3⟩
   ·intro h;obtain⟨u,hu,h1,h2,h3,h4,h5⟩:=wu7 h;obtain⟨j,hj,rfl⟩:=wju hu;have hlt:j<k:=by
     rcases Nat.lt_trichotomy j k with q | q | q
     ·exact q
     ·subst q;omega
     ·have:=(wo9 h1.symm h2.symm).1 (wgu (wd5 R) q hj);omega
    exact⟨_,(ihe _ _ _).2 ⟨_,wtq.2 ⟨j,hlt,rfl⟩,h1,h2,h4,h5,rfl⟩⟩
  have hnew:atS (visL R) k ∉ (ob1 R (visL R) k).p.map Prod.fst:=by
   rw[ihp,List.map_map];intro h;obtain⟨u,hu,e⟩:=List.mem_map.1 h;have e:u=atS (visL R) k:=e;have:=(low u (List.mem_filter.1 hu).1).2;rw[e,wby.self] at this;omega
  have ob:ob1 R (visL R) (k+1)=stO R (ob1 R (visL R) k) (atS (visL R) k):=rfl;have ls:=wge (atS (visL R)) k;generalize hx:ob1 R (visL R) k=x at *;generalize hsl:atS (visL R) k=s at *;have more:finS R s=true/\endB R s=false∨(finS R s=false∨endB R s=true):=by
   cases finS R s<;>cases endB R s<;>simp
  have keepE:(finS R s=false∨endB R s=true)->∀o p c,getA x.e (o,p)=some c↔∃u∈lst (atS (visL R)) (k+1),u.o=o/\u.p=p/\finS R u=true/\endB R u=false/\c=u.per:=λhn o p c=>by
   rw[ihe,ls]
   constructor
   ·rintro⟨u,hu,h⟩;exact⟨u,List.mem_append_left _ hu,h⟩
   ·rintro⟨u,hu,h⟩
    rcases List.mem_append.1 hu with hu | hu
    ·exact⟨u,hu,h⟩
    ·rw[List.mem_singleton.1 hu] at h
     rcases hn with hn | hn
     ·rw[hn] at h;exact absurd h.2.2.1 (by simp)
     ·rw[hn] at h;exact absurd h.2.2.2.1 (by simp)
  have keepP:prB R s=false->x.p=((lst (atS (visL R)) (k+1)).filter (prB R)).map λs=>(s,(resB R s).1.pr):=λh=>by
   rw[ihp,ls,List.filter_append,List.filter_cons_of_neg (by simp[h])];simp
  have keepR:repB R s=false->x.r=((lst (atS (visL R)) (k+1)).filter (repB R)).map λs=>(resB R s).1:=λh=>by
   rw[ihr,ls,List.filter_append,List.filter_cons_of_neg (by simp[h])];simp
  cases hv:verB R s with
  |false=>
   have h1:finS R s=false:=by unfold finS;rw[hv];rfl
   have h2:prB R s=false:=by unfold prB;rw[hv];rfl
   have h3:repB R s=false:=by unfold repB;rw[hv];rfl
   have e:ob1 R (visL R) (k+1)=x:=by rw[ob];unfold stO;rw[hv,Bool.not_false,Bool.or_true];rfl
   exact⟨by rw[e];exact keepE (.inl h1),by rw[e];exact keepP h2,by rw[e];exact keepR h3⟩
  |true=>
   cases he:endB R s with
   |true=>
    have h2:prB R s=false:=by unfold prB;rw[he];simp
    have h3:repB R s=false:=by unfold repB;rw[he];simp
    have e:ob1 R (visL R) (k+1)=x:=by rw[ob];unfold stO;rw[key,he];rfl
    exact⟨by rw[e];exact keepE (.inr he),by rw[e];exact keepP h2,by rw[e];exact keepR h3⟩
   |false=>
    rw[he] at key
    cases hf:finB (resB R s).1 with
    |true=>
     have h1:finS R s=true:=by unfold finS;rw[hv,hf];rfl
     have h2:prB R s=false:=by unfold prB;rw[w3q hf];simp
     have h3:repB R s=decide ((resB R s).1.st=5):=by unfold repB;rw[hv,he];rfl
     have e:ob1 R (visL R) (k+1)=⟨setA x.e (s.o,s.p) s.per,x.p,bif decide ((resB R s).1.st=5) then x.r++[(resB R s).1] else x.r⟩:=by rw[ob];unfold stO;rw[key,hv,hf];rfl
     refine⟨λo p c=>?_,by rw[e];exact keepP h2,?_⟩
     ·rw[e];show getA (setA x.e (s.o,s.p) s.per) (o,p)=some c↔_;rw[wgi]
      by_cases q:(s.o,s.p)=(o,p)
      ·rw[decide_eq_true q,cond_true];injection q with q1 q2
       constructor
       ·intro hc;exact⟨s,by rw[ls];simp,q1,q2,h1,he,(oJ7 hc).symm⟩
       ·rintro⟨u,hu,u1,u2,u3,u4,rfl⟩;rw[ls] at hu
        rcases List.mem_append.1 hu with hu | hu
        ·have:=(ihe u.o u.p u.per).2 ⟨u,hu,rfl,rfl,u3,u4,rfl⟩;rw[u1,u2, ← q1, ← q2] at this;rw[this] at key;cases key
        ·rw[List.mem_singleton.1 hu]
      ·rw[decide_eq_false q,cond_false,ihe,ls]
       constructor
       ·rintro⟨u,hu,h⟩;exact⟨u,List.mem_append_left _ hu,h⟩
       ·rintro⟨u,hu,h⟩
        rcases List.mem_append.1 hu with hu | hu
        ·exact⟨u,hu,h⟩
        ·rw[List.mem_singleton.1 hu] at h;exact absurd (Prod.ext h.1 h.2.1) q
     ·rw[e,ls,List.filter_append];show (bif decide ((resB R s).1.st=5) then x.r++[(resB R s).1] else x.r)=_
      cases h5:decide ((resB R s).1.st=5) with
      |true=>rw[h5] at h3;rw[List.filter_cons_of_pos h3,ihr];simp
      |false=>rw[h5] at h3;rw[List.filter_cons_of_neg (by simp[h3]),ihr];simp
    |false=>
     have h1:finS R s=false:=by unfold finS;rw[hf];simp
     have n5:(resB R s).1.st≠5:=λq=>by rw[finB,q] at hf;cases hf
     have h3:repB R s=false:=by unfold repB;rw[decide_eq_false n5];simp
     have h2:prB R s=priB (resB R s).1:=by unfold prB;rw[hv,he];rfl
     have e:ob1 R (visL R) (k+1)=bif priB (resB R s).1 then ⟨x.e,setA x.p s (resB R s).1.pr,x.r⟩ else x:=by rw[ob];unfold stO;rw[key,hv,hf];rfl
     cases hp:priB (resB R s).1 with
     |true=>
      rw[hp,cond_true] at e;rw[hp] at h2;refine⟨by rw[e];exact keepE (.inl h1),?_,by rw[e];exact keepR h3⟩;rw[e,ls,List.filter_append,List.filter_cons_of_pos h2];show setA x.p s (resB R s).1.pr=_;rw[wxf hnew,ihp];simp
     |false=>
      rw[hp,cond_false] at e;rw[hp] at h2;exact⟨by rw[e];exact keepE (.inl h1),by rw[e];exact keepP h2,by rw[e];exact keepR h3⟩
def obE(R:List MG):List ((List UInt8×List UInt8)×Int):=(ob1 R (visL R) (visL R).length).e
theorem ob1_p(R:List MG):(ob1 R (visL R) (visL R).length).p=((visL R).filter (prB R)).map λs=>(s,(resB R s).1.pr):=by rw[(whx R _ (lR7 _)).p,wjz]
theorem ob1_r(R:List MG):(ob1 R (visL R) (visL R).length).r=repL R:=by rw[(whx R _ (lR7 _)).r,wjz];rfl
def ovrB(E:List ((List UInt8×List UInt8)×Int))(s:SL):Bool:=match getA E (s.o,s.p) with
 |some c=>decide (c<s.per)
 |none=>false
theorem ovr_end(R:List MG)(s:SL):ovrB (obE R) s=endB R s:=by
 have h:=(whx R _ (lR7 _)).e s.o s.p;rw[wjz] at h;rw[Bool.eq_iff_iff];unfold ovrB
 constructor
 ·intro q
  cases g:getA (obE R) (s.o,s.p) with
  |none=>rw[g] at q;cases q
  |some c=>
   rw[g] at q;obtain⟨u,hu,h1,h2,h3,h4,rfl⟩:=(h c).1 g;exact wkv.2 ⟨u,hu,h1,h2,of_decide_eq_true q,h3⟩
 ·intro q;obtain⟨u,hu,h1,h2,h3,h4,h5⟩:=wu7 q;have g:getA (obE R) (s.o,s.p)=some u.per:=(h u.per).2 ⟨u,hu,h1,h2,h4,h5,rfl⟩;rw[g];exact decide_eq_true h3
def IsGiv(G:VT->Prop)(r:Int):Prop:=(∀v,¬ G v)/\r=0∨(∃v,G v/\(∀w,G w->w.pr=v.pr)/\r=v.pr)∨(∃v w,G v/\G w/\v.pr≠w.pr)/\r=0
def allQ(c:Int)(l:List VT):Bool:=l.all λw=>decide (w.pr=c)
def givL:List VT->Int
 |[]=>0
 |v::l=>bif allQ v.pr l then v.pr else 0
theorem wua(l:List VT):IsGiv (λv=>v∈l) (givL l):=by
 cases l with
 |nil=>exact .inl ⟨λv=>by simp,rfl⟩
 |cons v l=>
  rw[givL]
  cases h:allQ v.pr l with
  |true=>
   refine .inr (.inl ⟨v,List.mem_cons_self,λw hw=>?_,rfl⟩)
   rcases List.mem_cons.1 hw with rfl | hw
   ·rfl
   ·exact of_decide_eq_true (List.all_eq_true.1 h w hw)
  |false=>
   obtain⟨w,hw,q⟩:=List.all_eq_false.1 h;exact .inr (.inr ⟨⟨w,v,List.mem_cons_of_mem _ hw,List.mem_cons_self,λe=>q (decide_eq_true e)⟩,rfl⟩)
def isR(t:SL)(v:VT):Bool:=decide (rsl v=t)
def givS(R:List MG)(t:SL):Int:=givL ((repL R).filter (isR t))
def obP(R:List MG)(t:SL):Int:=bif decide (t∈visL R) then (bif prB R t then (resB R t).1.pr else 0) else bif endB R t then 0 else givS R t
def obU(R:List MG):List SL:=((repL R).map rsl).foldl insS (visL R)
def obL(R:List MG):List SL:=(obU R).filter λt=>decide (0<obP R t)
theorem obU_asc(R:List MG):Asc ordS (obU R):=(wgm _ _ (wd5 R)).1
theorem wsz{R:List MG}{t:SL}:t∈obU R↔t∈visL R∨∃v∈repL R,rsl v=t:=by
 rw[obU,(wgm _ _ (wd5 R)).2,List.mem_map]
theorem ws1(R:List MG):Asc ordS (obL R):=(obU_asc R).filter _
theorem wjm{R:List MG}{t:SL}:t∈obL R↔t∈obU R/\0<obP R t:=by
 rw[obL,List.mem_filter,decide_eq_true_eq]
theorem wx4{R:List MG}{v:VT}:v∈repL R↔resB R (vsl v)=(v,1)/\endB R (vsl v)=false/\v.st=5:=by
 rw[repL,List.mem_map]
 constructor
 ·rintro⟨s,hs,rfl⟩;obtain⟨h1,h2⟩:=List.mem_filter.1 hs;unfold repB at h2;rw[bA7,bA7,Bool.not_eq_true',decide_eq_true_eq] at h2;obtain⟨e1,e2,e3⟩:=h2;have e1:(resB R s).2=1:=of_decide_eq_true e1;have w:=(wsi e1).1;rw[w];exact⟨Prod.ext rfl e1,e2,e3⟩
 ·rintro⟨h1,h2,h3⟩;have e1:(resB R (vsl v)).2=1:=by rw[h1]
  refine⟨vsl v,List.mem_filter.2 ⟨(wsi e1).2,?_⟩,by rw[h1]⟩;unfold repB verB;rw[h1,h2];simp[h3]
theorem wo4{R:List MG}(hR:RightL R){s:SL}(h:(resB R s).2=1):visF (resB R s).1=true:=by
 obtain⟨m,hm,hk,e,_⟩:=wsj h;have h0:=hR.ok m hm;rw[← e]
 cases hv:visF m.v with
 |true=>rfl
 |false=>
  unfold msgF at h0;rw[hv] at h0
  cases h1:wa6 m.dev<;>cases h2:numF m.seq<;>rw[h1] at h0<;>rw[h2] at h0<;>simp[hk] at h0
theorem wor{v:VT}(h:visF v=true)(hs:v.st=1∨v.st=2∨v.st=5):1<=v.pr/\v.pr<=1099511627776:=by
 unfold visF at h;rw[bA7] at h;obtain⟨_,h⟩:=h
 rcases hs with q | q | q
 ·rw[q] at h;simp at h;exact⟨h.1.1,h.1.2⟩
 ·rw[q] at h;simp at h;exact⟨h.1.1,h.1.2⟩
 ·rw[q] at h;simp at h;exact⟨h.1.1.1,h.1.1.2⟩
theorem wsl{R:List MG}(hR:RightL R){v:VT}(h:v∈repL R):1<=v.pr/\v.pr<=1099511627776:=by
 obtain⟨h1,_,h3⟩:=wx4.1 h;have:=wo4 hR (s:=vsl v) (by rw[h1]);rw[h1] at this;exact wor this (.inr (.inr h3))
structure OW where
 p:List (SL×Int)
 w:List (SL×Bool)
def difA(p:List (SL×Int))(s:SL)(c:Int):Bool:=match getA p s with
 |some x=> !decide (x=c)
 |none=>false
def stW(V:List SL)(E:List ((List UInt8×List UInt8)×Int))(x:OW)(v:VT):OW:=
 bif decide (rsl v∈V) || ovrB E (rsl v) then x else ⟨setA x.p (rsl v) v.pr,bif difA x.p (rsl v) v.pr then setA x.w (rsl v) true else x.w⟩
def ob2(V:List SL)(E:List ((List UInt8×List UInt8)×Int))(p0:List (SL×Int))(l:List VT):Nat->OW
 |0=>⟨p0,[]⟩
 |k+1=>stW V E (ob2 V E p0 l k) (atX l k)
def obW(R:List MG)(k:Nat):OW:=ob2 (visL R) (obE R) (ob1 R (visL R) (visL R).length).p (repL R) k
def wrgB(w:List (SL×Bool))(s:SL):Bool:=match getA w s with
 |some b=>b
 |none=>false
theorem w2l{α:Type}(l:List α)(a:α):(l++[a]).getLast?=some a:=by simp
def grpR(R:List MG)(t:SL)(k:Nat):List VT:=(lst (atX (repL R)) k).filter (isR t)
theorem w3a(R:List MG)(t:SL)(k:Nat):grpR R t (k+1)=bif isR t (atX (repL R) k) then grpR R t k++[atX (repL R) k] else grpR R t k:=by
 unfold grpR;rw[wge,List.filter_append]
 cases h:isR t (atX (repL R) k) with
 |true=>simp[h]
 |false=>simp[h]
structure Ob2 (R:List MG) (k:Nat):Prop where
 nd:((obW R k).p.map Prod.fst).Nodup
 wn:∀x∈(obW R k).w,x.2=true
 old:∀t,t∈visL R∨endB R t=true->getA (obW R k).p t=getA (obW R 0).p t/\getA (obW R k).w t=none
 new:∀t,t ∉ visL R->endB R t=false->getA (obW R k).p t=(grpR R t k).getLast?.map VT.pr/\(wrgB (obW R k).w t=false↔∀v∈grpR R t k,∀w∈grpR R t k,v.pr=w.pr)
theorem obW_0(R:List MG):(obW R 0).p=((visL R).filter (prB R)).map λs=>(s,(resB R s).1.pr):=ob1_p R
theorem wjl(R:List MG):(obW R 0).p.map Prod.fst=(visL R).filter (prB R):=by
 rw[obW_0,List.map_map];exact(List.map_congr_left λ_ _=>rfl).trans (List.map_id _)
theorem wvv{L:List SL}(h:Asc ordS L):L.Nodup:=h.imp λh e=>by rw[e,wby.self] at h;omega
theorem wfg(R:List MG):∀k,Ob2 R k
 |0=>by
  refine⟨?_,λx hx=>(by cases hx),λt _=>⟨rfl,rfl⟩,λt h1 h2=>⟨?_,?_⟩⟩
  ·rw[wjl];exact wvv ((wd5 R).filter _)
  ·have:getA (obW R 0).p t=none:=wki.2 (by rw[wjl];exact λh=>h1 (List.mem_filter.1 h).1);rw[this];rfl
  ·exact⟨λ_ v hv=>(by cases hv),λ_=>rfl⟩
 |k+1=>by
  have ih:=wfg R k;have st:obW R (k+1)=stW (visL R) (obE R) (obW R k) (atX (repL R) k):=rfl;have gs:=λt=>w3a R t k;have inde:=ih.nd;have iwn:=ih.wn;have iold:=ih.old;have inew:=ih.new;generalize hx:obW R k=x at *;generalize atX (repL R) k=v at *;unfold stW at st;rw[ovr_end] at st
  by_cases q:rsl v∈visL R∨endB R (rsl v)=true
  ·have e:obW R (k+1)=x:=by
    rw[st]
    rcases q with q | q
    ·rw[decide_eq_true q];rfl
    ·rw[q,Bool.or_true];rfl
   rw[← e] at inde iwn iold inew;refine⟨inde,iwn,iold,λt h1 h2=>?_⟩;have hne:isR t v=false:=decide_eq_false λh=>by
    rw[h] at q
    rcases q with q | q
    ·exact h1 q
    ·rw[h2] at q;cases q
   rw[gs,hne];exact inew t h1 h2
  ·rw[not_or] at q;have q2:endB R (rsl v)=false:=by simpa using q.2
   rw[decide_eq_false q.1,q2,Bool.or_false,cond_false] at st;have other:∀t,rsl v≠t->getA (obW R (k+1)).p t=getA x.p t/\getA (obW R (k+1)).w t=getA x.w t:=λt ht=>by
    rw[st]
    constructor
    ·show getA (setA x.p (rsl v) v.pr) t=_;rw[wgi,decide_eq_false ht];rfl
    ·show getA (bif difA x.p (rsl v) v.pr then setA x.w (rsl v) true else x.w) t=_
     cases difA x.p (rsl v) v.pr with
     |true=>rw[cond_true,wgi,decide_eq_false ht];rfl
     |false=>rfl
   refine⟨?_,?_,λt ht=>?_,λt h1 h2=>?_⟩
   ·rw[st];exact whp inde _ _
   ·rw[st];show ∀y∈(bif difA x.p (rsl v) v.pr then setA x.w (rsl v) true else x.w),y.2=true
    cases difA x.p (rsl v) v.pr with
    |false=>exact iwn
    |true=>
     rw[cond_true];have:∀B:List (SL×Bool),(∀y∈B,y.2=true)->∀y∈setA B (rsl v) true,y.2=true:=λB=>by
      induction B with
      |nil=>intro _ y hy;rw[setA,List.mem_singleton] at hy;rw[hy]
      |cons z B ihB=>
       intro h y hy;rw[setA] at hy
       cases hz:decide (z.1=rsl v) with
       |true=>
        rw[hz,cond_true] at hy
        rcases List.mem_cons.1 hy with rfl | hy
        ·rfl
        ·exact h y (List.mem_cons_of_mem _ hy)
       |false=>
        rw[hz,cond_false] at hy
        rcases List.mem_cons.1 hy with rfl | hy
        ·exact h _ List.mem_cons_self
        ·exact ihB (λy hy=>h y (List.mem_cons_of_mem _ hy)) y hy
     exact this _ iwn
   ·have hne:rsl v≠t:=λe=>by
     rw[← e] at ht
     rcases ht with ht | ht
     ·exact q.1 ht
     ·rw[q2] at ht;cases ht
    obtain⟨o1,o2⟩:=other t hne;obtain⟨i1,i2⟩:=iold t ht;exact⟨o1.trans i1,o2.trans i2⟩
   ·by_cases e:rsl v=t
    ·subst e;have hr:isR (rsl v) v=true:=decide_eq_true rfl;obtain⟨i1,i2⟩:=inew _ h1 h2;rw[gs,hr,cond_true];have d1:difA x.p (rsl v) v.pr=true↔∃w∈(grpR R (rsl v) k).getLast?,w.pr≠v.pr:=by
      unfold difA;rw[i1]
      cases (grpR R (rsl v) k).getLast? with
      |none=>simp
      |some w=>simp
     refine⟨?_,?_⟩
     ·rw[st,w2l];show getA (setA x.p (rsl v) v.pr) (rsl v)=_;rw[wgi,decide_eq_true rfl];rfl
     ·rw[st];show wrgB (bif difA x.p (rsl v) v.pr then setA x.w (rsl v) true else x.w) (rsl v)=false↔_
      cases hd:difA x.p (rsl v) v.pr with
      |true=>
       rw[cond_true];have:wrgB (setA x.w (rsl v) true) (rsl v)=true:=by unfold wrgB;rw[wgi,decide_eq_true rfl];rfl
       rw[this];obtain⟨w,hw,hne⟩:=d1.1 hd;refine⟨λh=>(by cases h),λh=>absurd (h w ?_ v ?_) hne⟩
       ·exact List.mem_append_left _ (List.mem_of_getLast? hw)
       ·exact List.mem_append_right _ (List.mem_singleton.2 rfl)
      |false=>
       rw[cond_false,i2];have hn:∀w,(grpR R (rsl v) k).getLast?=some w->w.pr=v.pr:=λw hw=>by
        by_cases hh:w.pr=v.pr
        ·exact hh
        ·rw[d1.2 ⟨w,hw,hh⟩] at hd;cases hd
       constructor
       ·intro h;have all:∀a∈grpR R (rsl v) k,a.pr=v.pr:=λa ha=>by
         cases hl:(grpR R (rsl v) k).getLast? with
         |none=>rw[List.getLast?_eq_none_iff.1 hl] at ha;cases ha
         |some w=>rw[h a ha w (List.mem_of_getLast? hl),hn w hl]
        have all2:∀a∈grpR R (rsl v) k++[v],a.pr=v.pr:=λa ha=>by
         rcases List.mem_append.1 ha with ha | ha
         ·exact all a ha
         ·rw[List.mem_singleton.1 ha]
        exact λa ha b hb=>(all2 a ha).trans (all2 b hb).symm
       ·intro h a ha b hb;exact h a (List.mem_append_left _ ha) b (List.mem_append_left _ hb)
    ·have hr:isR t v=false:=decide_eq_false e;obtain⟨o1,o2⟩:=other t e;obtain⟨i1,i2⟩:=inew t h1 h2;rw[gs,hr,cond_false];refine⟨o1.trans i1,?_⟩;rw[← i2];unfold wrgB;rw[o2]
def obN(R:List MG):OW:=obW R (repL R).length
theorem w3b(R:List MG)(t:SL):grpR R t (repL R).length=(repL R).filter (isR t):=by rw[grpR,lst_atX]
theorem obN_at{R:List MG}(hR:RightL R)(t:SL):(0<obP R t/\t∈obU R↔(getA (obN R).p t).isSome=true/\wrgB (obN R).w t=false)/\((getA (obN R).p t).isSome=true->wrgB (obN R).w t=false->getA (obN R).p t=some (obP R t)):=by
 have h:=wfg R (repL R).length;have hold:=h.old t;have hnew:=h.new t;change _->getA (obN R).p t=_/\getA (obN R).w t=_ at hold;change _->_->getA (obN R).p t=_/\(wrgB (obN R).w t=false↔_) at hnew;rw[w3b] at hnew
 by_cases hv:t∈visL R
 ·obtain⟨h1,h2⟩:=hold (.inl hv);have hw:wrgB (obN R).w t=false:=by unfold wrgB;rw[h2]
  have hu:t∈obU R:=wsz.2 (.inl hv)
  cases hp:prB R t with
  |true=>
   have hm:(t,(resB R t).1.pr)∈(obW R 0).p:=by rw[obW_0];exact List.mem_map.2 ⟨t,List.mem_filter.2 ⟨hv,hp⟩,rfl⟩
   have hg:getA (obW R 0).p t=some (resB R t).1.pr:=getA_at (wfg R 0).nd hm;have hO:obP R t=(resB R t).1.pr:=by unfold obP;rw[decide_eq_true hv,hp];rfl
   have hpos:1<=(resB R t).1.pr:=by
    unfold prB verB priB at hp;rw[bA7,bA7,decide_eq_true_eq,Bool.or_eq_true,decide_eq_true_eq,decide_eq_true_eq] at hp;exact(wor (wo4 hR hp.1) (hp.2.2.elim .inl λh=>.inr (.inl h))).1
   rw[h1,hg,hw,hO];exact⟨⟨λ_=>⟨rfl,rfl⟩,λ_=>⟨by omega,hu⟩⟩,λ_ _=>rfl⟩
  |false=>
   have hg:getA (obW R 0).p t=none:=wki.2 (by rw[wjl];exact λh=>by rw[(List.mem_filter.1 h).2] at hp;cases hp);have hO:obP R t=0:=by unfold obP;rw[decide_eq_true hv,hp];rfl
   rw[h1,hg,hO];exact⟨⟨λh=>absurd h.1 (by decide),λh=>absurd h.1 (by simp)⟩,λh=>absurd h (by simp)⟩
 ·cases he:endB R t with
  |true=>
   obtain⟨h1,h2⟩:=hold (.inr he);have hg:getA (obW R 0).p t=none:=wki.2 (by rw[wjl];exact λh=>hv (List.mem_filter.1 h).1);have hO:obP R t=0:=by unfold obP;rw[decide_eq_false hv,he];rfl
   rw[h1,hg,hO];exact⟨⟨λh=>absurd h.1 (by decide),λh=>absurd h.1 (by simp)⟩,λh=>absurd h (by simp)⟩
  |false=>
   obtain⟨h1,h2⟩:=hnew hv he;have hO:obP R t=givS R t:=by unfold obP;rw[decide_eq_false hv,he];rfl
   have hG:=wua ((repL R).filter (isR t));have mem:∀ {v},v∈(repL R).filter (isR t)->v∈repL R/\rsl v=t:=λhv=>⟨(List.mem_filter.1 hv).1,of_decide_eq_true (List.mem_filter.1 hv).2⟩;have hU:t∈obU R↔(repL R).filter (isR t)≠[]:=by
    rw[wsz]
    constructor
    ·rintro(h | ⟨v,h,e⟩)
     ·exact absurd h hv
     ·exact List.ne_nil_of_mem (List.mem_filter.2 ⟨h,decide_eq_true e⟩)
    ·intro h;obtain⟨v,hm⟩:=List.exists_mem_of_ne_nil _ h;exact .inr ⟨v,mem hm⟩
   rw[hO,hU,h2,h1];unfold givS;generalize (repL R).filter (isR t)=G at *
   rcases hG with⟨g1,g2⟩ | ⟨v,g1,g2,g3⟩ | ⟨⟨v,w,g1,g2,g3⟩,g4⟩
   ·have:G=[]:=List.eq_nil_iff_forall_not_mem.2 g1;subst this;rw[g2];exact⟨⟨λh=>absurd h.1 (by decide),λh=>absurd h.1 (by simp)⟩,λh=>absurd h (by simp)⟩
   ·have hp:=(wsl hR (mem g1).1).1;have hall:∀a∈G,∀b∈G,a.pr=b.pr:=λa ha b hb=>(g2 a ha).trans (g2 b hb).symm;have hne:G≠[]:=List.ne_nil_of_mem g1
    cases hl:G.getLast? with
    |none=>exact absurd (List.getLast?_eq_none_iff.1 hl) hne
    |some u=>
     have:u.pr=v.pr:=g2 u (List.mem_of_getLast? hl);rw[g3];refine⟨⟨λ_=>⟨rfl,hall⟩,λ_=>⟨by omega,hne⟩⟩,λ_ _=>?_⟩;show some u.pr=some v.pr;rw[this]
   ·rw[g4];exact⟨⟨λh=>absurd h.1 (by decide),λh=>absurd (h.2 v g1 w g2) g3⟩,λ_ h=>absurd (h v g1 w g2) g3⟩
theorem wyn{R:List MG}(hR:RightL R){E:List (SL×Int)}{L:List SL}(hE:E.Perm (obN R).p)(hL:L.Perm ((E.map Prod.fst).filter λt=> !wrgB (obN R).w t))(hs:L.Pairwise λx y=>¬ ordS y x<0):L=obL R:=by
 have hnd:=(wfg R (repL R).length).nd;have hEk:(E.map Prod.fst).Perm ((obN R).p.map Prod.fst):=hE.map _;have hn:L.Nodup:=by
  rw[hL.nodup_iff];exact(hEk.nodup_iff.2 hnd).sublist List.filter_sublist
 refine Asc.uniq wby (Asc.of_sorted hs wby (hn.imp λh q=>h (whw.1 q))) (ws1 R) λt=>?_;rw[hL.mem_iff,List.mem_filter,hEk.mem_iff,wjm,and_comm (a:=t∈obU R),(obN_at hR t).1,Bool.not_eq_true'];refine and_congr_left λ_=>?_
 cases hg:getA (obN R).p t with
 |none=>simpa using wki.1 hg
 |some c=>simpa using⟨c,wuj hg⟩
theorem ws0{R:List MG}(hR:RightL R){t:SL}(h:t∈obL R):getA (obN R).p t=some (obP R t):=by
 obtain⟨h1,h2⟩:=obN_at hR t;have:=h1.1 ⟨(wjm.1 h).2,(wjm.1 h).1⟩;exact h2 this.1 this.2
theorem ws3{α:Type}[DecidableEq α]:∀ {l m:List α},l.Nodup->(∀x∈l,x∈m)->l.length<=m.length
 |[],m,_,_=>zL7 _
 |a::l,m,hn,h=>by
  obtain⟨h1,h2⟩:=List.nodup_cons.1 hn;have ha:=h a List.mem_cons_self;have:=ws3 (l:=l) (m:=m.erase a) h2 λx hx=>(List.mem_erase_of_ne (λe=>h1 (by rw[← e];exact hx))).2 (h x (List.mem_cons_of_mem _ hx));rw[List.length_erase_of_mem ha] at this;have:=List.length_pos_of_mem ha;rw[List.length_cons];omega
def slC(s:SL):List AV:=[.str s.o,.str s.p,.q s.per]
def wam(g:Nat->SL)(i:Nat):List AV:=[.str (g i).o,.str (g i).p,.q (g i).per]
def slOf(f:Nat->List AV)(i:Nat):SL:=match f i with
 |[.str o,.str p,.int .i64 per]=>⟨o,p,per⟩
 |_=>default
def vtC(v:VT):List AV:=[.str v.o,.str v.p,.q v.per,.q v.day,.q v.st,.q v.pr,.str v.rep]
def wau(g:Nat->VT)(i:Nat):List AV:=[.str (g i).o,.str (g i).p,.q (g i).per,.q (g i).day,.q (g i).st,.q (g i).pr,.str (g i).rep]
def vtOf(f:Nat->List AV)(i:Nat):VT:=match f i with
 |[.str o,.str p,.int .i64 per,.int .i64 day,.int .i64 st,.int .i64 pr,.str rep]=>⟨o,p,per,day,st,pr,rep⟩
 |_=>default
def wgv:Spec
 |[.agg [.str dev,.int .i64 seq,.int .i64 kind,.str o,.str p,.int .i64 per,.int .i64 day,.int .i64 st,.int .i64 pr,.str rep,.str o',.str p',.int .i64 per',.str dev',.int .i64 num]],[]=>
   some (.agg [.str (whr ⟨dev,seq,kind,⟨o,p,per,day,st,pr,rep⟩,⟨o',p',per',dev',num⟩⟩).o,.str (whr ⟨dev,seq,kind,⟨o,p,per,day,st,pr,rep⟩,⟨o',p',per',dev',num⟩⟩).p,.q (whr ⟨dev,seq,kind,⟨o,p,per,day,st,pr,rep⟩,⟨o',p',per',dev',num⟩⟩).per],[],True)
 |_,_=>none
def wg7:Spec
 |[.agg [.str _,.int .i64 _,.int .i64 kind,.str _,.str _,.int .i64 _,.int .i64 _,.int .i64 _,.int .i64 _,.str _,.str _,.str _,.int .i64 _,.str _,.int .i64 _]],[]=>some (.bool (decide (kind=1)),[],True)
 |_,_=>none
def wmo:Spec
 |[.view 15 n f,.func 78 []],[]=>some (.q (ixB (λi=>isV (mgOf f i)) n),[],n<=1000000/\f=waa (mgOf f))
 |_,_=>none
def wmn(g:Nat->MG)(n k:Nat):St:=⟨[(0,.view 15 n (waa g)),(1,.func 78 []),(7,.q n),(8,.q k)],[],0,[]⟩
def wod(g:Nat->MG)(n:Nat):wan:=λst Q=>canonIs te 0 [0,1,7,8] st (wmn g n 0)/\n<=1000000/\
 wab (decide (fstB (λi=>isV (g i)) n<n)) (Q .ret ⟨[(4,.q (fstB (λi=>isV (g i)) n))],[],0,[]⟩) (Q (.exit 0) ⟨[],[],0,[]⟩)
def wm5:Spec
 |[.view 15 n f,.func 78 []],[]=>some (.bool (decide (0<=ixB (λi=>isV (mgOf f i)) n)),[],n<=1000000/\f=waa (mgOf f))
 |_,_=>none
def wgy:Spec
 |[.agg [.str o,.str p,.int .i64 per],.agg [.str o',.str p',.int .i64 per']],[]=>some (.q (ordS ⟨o,p,per⟩ ⟨o',p',per'⟩),[],True)
 |_,_=>none
def whg:wdd
 |[.own 0 n,.func 42 []],[.row t 3 m f fr],R=>t=78/\fr=false/\n=m/\n<=1000000/\f=wam (slOf f)/\
   ∀h:Nat->SL,(lst h n).Perm (lst (slOf f) n)->(∀i j,i<j->j<n->¬ ordS (h j) (h i)<0)->R (.tuple []) [(0,.row 78 3 n (wam h) false)]
 |_,_,_=>False
def wm1:Spec
 |[.agg [.str o,.str p,.int .i64 per,.int .i64 day,.int .i64 st,.int .i64 pr,.str rep]],[]=>some (.bool (finB ⟨o,p,per,day,st,pr,rep⟩),[],True)
 |_,_=>none
def S_cn(M:List MG)(k:Nat):St:=⟨[(4,.map 0),(5,.own 1 (clnP M k).length),(13,.own 2 M.length),(14,.q M.length),(15,.q k)],
 [(0,.amap (entM (cntL (atM M) M.length))),(1,.row 103 2 (clnP M k).length (wcc (atK (clnP M k))) false),(2,.row 47 15 M.length (waa (atM M)) false)],3,[]⟩
def L_cn(M:List MG):wan:=λst Q=>canonIs te 0 [4,5,13,14,15] (ownNil 5 103 2 st) (S_cn M 0)/\M.length<=100000/\
 Q (.exit 0) ⟨[(5,.own 0 (clnP M M.length).length)],[(0,.row 103 2 (clnP M M.length).length (wcc (atK (clnP M M.length))) false)],1,[]⟩
def wm4:Spec
 |[.view 15 n f],[]=>some (.view 2 (wb7 (mgOf f) n).length (wcc (atK (wb7 (mgOf f) n))),[],n<=100000/\f=waa (mgOf f)/\∀i,i<n->(mgOf f i).Sm)
 |_,_=>none
end Go.Eng
