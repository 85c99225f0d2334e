/- Rows that lie outside the state: told apart, kept by what the entry says, taken in and put away. -/
import Derived.Test.YtmcdngcjakjnmaaGreatDoorJvu
namespace Go.Eng
def wjk(G:VT->Prop)(r:Int):Prop:=(∀v,¬ G v)/\r=0∨(∃v,G v/\(∀w,G w->w.pr=v.pr)/\r=v.pr)∨(∃v w,G v/\G w/\v.pr≠w.pr)/\r=0
theorem wjk.uniq{G H:VT->Prop}{r r':Int}(h:wjk G r)(h':wjk H r')(e:∀v,G v↔H v):r=r':=by
 have e:G=H:=funext λv=>propext (e v);subst e
 rcases h with⟨h1,h2⟩ | ⟨v,h1,h2,h3⟩ | ⟨⟨v,w,h1,h2,h3⟩,h4⟩<;>rcases h' with⟨g1,g2⟩ | ⟨v',g1,g2,g3⟩ | ⟨⟨v',w',g1,g2,g3⟩,g4⟩
 ·omega
 ·exact absurd g1 (h1 _)
 ·omega
 ·exact absurd h1 (g1 _)
 ·have:=h2 _ g1;omega
 ·exact absurd ((h2 _ g1).trans (h2 _ g2).symm) g3
 ·omega
 ·exact absurd ((g2 _ h1).trans (g2 _ h2).symm) h3
 ·omega
def allQ(c:Int)(l:List VT):Bool:=l.all λw=>decide (w.pr=c)
def givL:List VT->Int
 |[]=>0
 |v::l=>bif allQ v.pr l then v.pr else 0
theorem wrp(l:List VT):wjk (λv=>v∈l) (givL l):=by
 cases l with
 |nil=>exact .inl ⟨λv=>by simp,rfl⟩
 |cons v l=>
  rw[givL]
  cases h:allQ v.pr l with
  |true=>
   refine .inr (.inl ⟨v,List.mem_cons_self,λw hw=>?_,rfl⟩)
   rcases List.mem_cons.1 hw with rfl | hw
   ·rfl
   ·exact of_decide_eq_true (List.all_eq_true.1 h w hw)
  |false=>
   obtain⟨w,hw,q⟩:=List.all_eq_false.1 h;exact .inr (.inr ⟨⟨w,v,List.mem_cons_of_mem _ hw,List.mem_cons_self,λe=>q (decide_eq_true e)⟩,rfl⟩)
def isR(t:SL)(v:VT):Bool:=decide (rsl v=t)
def givS(R:List MG)(t:SL):Int:=givL ((repL R).filter (isR t))
def obP(R:List MG)(t:SL):Int:=bif decide (t∈visL R) then (bif prB R t then (resB R t).1.pr else 0) else bif endB R t then 0 else givS R t
def obU(R:List MG):List SL:=((repL R).map rsl).foldl insS (visL R)
def obL(R:List MG):List SL:=(obU R).filter λt=>decide (0<obP R t)
theorem wud(R:List MG):Asc ordS (obU R):=(wg4 _ _ (wdd R)).1
theorem wql{R:List MG}{t:SL}:t∈obU R↔t∈visL R∨∃v∈repL R,rsl v=t:=by
 rw[obU,(wg4 _ _ (wdd R)).2,List.mem_map]
theorem wuf(R:List MG):Asc ordS (obL R):=(wud R).filter _
theorem wkf{R:List MG}{t:SL}:t∈obL R↔t∈obU R/\0<obP R t:=by
 rw[obL,List.mem_filter,decide_eq_true_eq]
theorem wig{R:List MG}{v:VT}:v∈repL R↔resB R (vsl v)=(v,1)/\endB R (vsl v)=false/\v.st=5:=by
 rw[repL,List.mem_map]
 constructor
 ·rintro⟨s,hs,rfl⟩;obtain⟨h1,h2⟩:=List.mem_filter.1 hs;unfold repB at h2;rw[bA7,bA7,Bool.not_eq_true',decide_eq_true_eq] at h2;obtain⟨e1,e2,e3⟩:=h2;have e1:(resB R s).2=1:=of_decide_eq_true e1;have w:=(wdg e1).1;rw[w];exact⟨Prod.ext rfl e1,e2,e3⟩
 ·rintro⟨h1,h2,h3⟩;have e1:(resB R (vsl v)).2=1:=by rw[h1]
  refine⟨vsl v,List.mem_filter.2 ⟨(wdg e1).2,?_⟩,by rw[h1]⟩;unfold repB verB;rw[h1,h2];simp[h3]
theorem wqc{R:List MG}(hR:RightL R){s:SL}(h:(resB R s).2=1):visF (resB R s).1=true:=by
 obtain⟨m,hm,hk,e,_⟩:=wty h;have h0:=hR.ok m hm;rw[← e]
 cases hv:visF m.v with
 |true=>rfl
 |false=>
  unfold msgF at h0;rw[hv] at h0
  cases h1:wa3 m.dev<;>cases h2:numF m.seq<;>rw[h1] at h0<;>rw[h2] at h0<;>simp[hk] at h0
theorem wpw{v:VT}(h:visF v=true)(hs:v.st=1∨v.st=2∨v.st=5):1<=v.pr/\v.pr<=1099511627776:=by
 unfold visF at h;rw[bA7] at h;obtain⟨_,h⟩:=h
 rcases hs with q | q | q
 ·rw[q] at h;simp at h;exact⟨h.1.1,h.1.2⟩
 ·rw[q] at h;simp at h;exact⟨h.1.1,h.1.2⟩
 ·rw[q] at h;simp at h;exact⟨h.1.1.1,h.1.1.2⟩
theorem wqe{R:List MG}(hR:RightL R){v:VT}(h:v∈repL R):1<=v.pr/\v.pr<=1099511627776:=by
 obtain⟨h1,_,h3⟩:=wig.1 h;have:=wqc hR (s:=vsl v) (by rw[h1]);rw[h1] at this;exact wpw this (.inr (.inr h3))
structure OW where
 p:List (SL×Int)
 w:List (SL×Bool)
def difA(p:List (SL×Int))(s:SL)(c:Int):Bool:=match getA p s with
 |some x=> !decide (x=c)
 |none=>false
def stW(V:List SL)(E:List ((List UInt8×List UInt8)×Int))(x:OW)(v:VT):OW:=
 bif decide (rsl v∈V) || ovrB E (rsl v) then x else ⟨setA x.p (rsl v) v.pr,bif difA x.p (rsl v) v.pr then setA x.w (rsl v) true else x.w⟩
def ob2(V:List SL)(E:List ((List UInt8×List UInt8)×Int))(p0:List (SL×Int))(l:List VT):Nat->OW
 |0=>⟨p0,[]⟩
 |k+1=>stW V E (ob2 V E p0 l k) (atX l k)
def obW(R:List MG)(k:Nat):OW:=ob2 (visL R) (obE R) (ob1 R (visL R) (visL R).length).p (repL R) k
def wrgB(w:List (SL×Bool))(s:SL):Bool:=match getA w s with
 |some b=>b
 |none=>false
theorem w4f{α:Type}(l:List α)(a:α):(l++[a]).getLast?=some a:=by simp
def grpR(R:List MG)(t:SL)(k:Nat):List VT:=(lst (atX (repL R)) k).filter (isR t)
theorem w47(R:List MG)(t:SL)(k:Nat):grpR R t (k+1)=bif isR t (atX (repL R) k) then grpR R t k++[atX (repL R) k] else grpR R t k:=by
 unfold grpR;rw[we2,List.filter_append]
 cases h:isR t (atX (repL R) k) with
 |true=>simp[h]
 |false=>simp[h]
structure Ob2 (R:List MG) (k:Nat):Prop where
 nd:((obW R k).p.map Prod.fst).Nodup
 wn:∀x∈(obW R k).w,x.2=true
 old:∀t,t∈visL R∨endB R t=true->getA (obW R k).p t=getA (obW R 0).p t/\getA (obW R k).w t=none
 new:∀t,t ∉ visL R->endB R t=false->getA (obW R k).p t=(grpR R t k).getLast?.map VT.pr/\(wrgB (obW R k).w t=false↔∀v∈grpR R t k,∀w∈grpR R t k,v.pr=w.pr)
theorem obW_0(R:List MG):(obW R 0).p=((visL R).filter (prB R)).map λs=>(s,(resB R s).1.pr):=ob1_p R
theorem wkd(R:List MG):(obW R 0).p.map Prod.fst=(visL R).filter (prB R):=by
 rw[obW_0,List.map_map];exact(List.map_congr_left λ_ _=>rfl).trans (List.map_id _)
theorem wxa{L:List SL}(h:Asc ordS L):L.Nodup:=h.imp λh e=>by rw[e,wb0.self] at h;omega
theorem wfs(R:List MG):∀k,Ob2 R k
 |0=>by
  refine⟨?_,λx hx=>(by cases hx),λt _=>⟨rfl,rfl⟩,λt h1 h2=>⟨?_,?_⟩⟩
  ·rw[wkd];exact wxa ((wdd R).filter _)
  ·have:getA (obW R 0).p t=none:=wlc.2 (by rw[wkd];exact λh=>h1 (List.mem_filter.1 h).1);rw[this];rfl
  ·exact⟨λ_ v hv=>(by cases hv),λ_=>rfl⟩
 |k+1=>by
  have ih:=wfs R k;have st:obW R (k+1)=stW (visL R) (obE R) (obW R k) (atX (repL R) k):=rfl;have gs:=λt=>w47 R t k;have inde:=ih.nd;have iwn:=ih.wn;have iold:=ih.old;have inew:=ih.new;generalize hx:obW R k=x at *;generalize atX (repL R) k=v at *;unfold stW at st;rw[ovr_end] at st
  by_cases q:rsl v∈visL R∨endB R (rsl v)=true
  ·have e:obW R (k+1)=x:=by
    rw[st]
    rcases q with q | q
    ·rw[decide_eq_true q];rfl
    ·rw[q,Bool.or_true];rfl
   rw[← e] at inde iwn iold inew;refine⟨inde,iwn,iold,λt h1 h2=>?_⟩;have hne:isR t v=false:=decide_eq_false λh=>by
    rw[h] at q
    rcases q with q | q
    ·exact h1 q
    ·rw[h2] at q;cases q
   rw[gs,hne];exact inew t h1 h2
  ·rw[not_or] at q;have q2:endB R (rsl v)=false:=by simpa using q.2
   rw[decide_eq_false q.1,q2,Bool.or_false,cond_false] at st;have other:∀t,rsl v≠t->getA (obW R (k+1)).p t=getA x.p t/\getA (obW R (k+1)).w t=getA x.w t:=λt ht=>by
    rw[st]
    constructor
    ·show getA (setA x.p (rsl v) v.pr) t=_;rw[wgz,decide_eq_false ht];rfl
    ·show getA (bif difA x.p (rsl v) v.pr then setA x.w (rsl v) true else x.w) t=_
     cases difA x.p (rsl v) v.pr with
     |true=>rw[cond_true,wgz,decide_eq_false ht];rfl
     |false=>rfl
   refine⟨?_,?_,λt ht=>?_,λt h1 h2=>?_⟩
   ·rw[st];exact wic inde _ _
   ·rw[st];show ∀y∈(bif difA x.p (rsl v) v.pr then setA x.w (rsl v) true else x.w),y.2=true
    cases difA x.p (rsl v) v.pr with
    |false=>exact iwn
    |true=>
     rw[cond_true];have:∀B:List (SL×Bool),(∀y∈B,y.2=true)->∀y∈setA B (rsl v) true,y.2=true:=λB=>by
      induction B with
      |nil=>intro _ y hy;rw[setA,List.mem_singleton] at hy;rw[hy]
      |cons z B ihB=>
       intro h y hy;rw[setA] at hy
       cases hz:decide (z.1=rsl v) with
       |true=>
        rw[hz,cond_true] at hy
        rcases List.mem_cons.1 hy with rfl | hy
        ·rfl
        ·exact h y (List.mem_cons_of_mem _ hy)
       |false=>
        rw[hz,cond_false] at hy
        rcases List.mem_cons.1 hy with rfl | hy
        ·exact h _ List.mem_cons_self
        ·exact ihB (λy hy=>h y (List.mem_cons_of_mem _ hy)) y hy
     exact this _ iwn
   ·have hne:rsl v≠t:=λe=>by
     rw[← e] at ht
     rcases ht with ht | ht
     ·exact q.1 ht
     ·rw[q2] at ht;cases ht
    obtain⟨o1,o2⟩:=other t hne;obtain⟨i1,i2⟩:=iold t ht;exact⟨o1.trans i1,o2.trans i2⟩
   ·by_cases e:rsl v=t
    ·subst e;have hr:isR (rsl v) v=true:=decide_eq_true rfl;obtain⟨i1,i2⟩:=inew _ h1 h2;rw[gs,hr,cond_true];have d1:difA x.p (rsl v) v.pr=true↔∃w∈(grpR R (rsl v) k).getLast?,w.pr≠v.pr:=by
      unfold difA;rw[i1]
      cases (grpR R (rsl v) k).getLast? with
      |none=>simp
      |some w=>simp
     refine⟨?_,?_⟩
     ·rw[st,w4f];show getA (setA x.p (rsl v) v.pr) (rsl v)=_;rw[wgz,decide_eq_true rfl];rfl
     ·rw[st];show wrgB (bif difA x.p (rsl v) v.pr then setA x.w (rsl v) true else x.w) (rsl v)=false↔_
      cases hd:difA x.p (rsl v) v.pr with
      |true=>
       rw[cond_true];have:wrgB (setA x.w (rsl v) true) (rsl v)=true:=by unfold wrgB;rw[wgz,decide_eq_true rfl];rfl
       rw[this];obtain⟨w,hw,hne⟩:=d1.1 hd;refine⟨λh=>(by cases h),λh=>absurd (h w ?_ v ?_) hne⟩
       ·exact List.mem_append_left _ (List.mem_of_getLast? hw)
       ·exact List.mem_append_right _ (List.mem_singleton.2 rfl)
      |false=>
       rw[cond_false,i2];have hn:∀w,(grpR R (rsl v) k).getLast?=some w->w.pr=v.pr:=λw hw=>by
        by_cases hh:w.pr=v.pr
        ·exact hh
        ·rw[d1.2 ⟨w,hw,hh⟩] at hd;cases hd
       constructor
       ·intro h;have all:∀a∈grpR R (rsl v) k,a.pr=v.pr:=λa ha=>by
         cases hl:(grpR R (rsl v) k).getLast? with
         |none=>rw[List.getLast?_eq_none_iff.1 hl] at ha;cases ha
         |some w=>rw[h a ha w (List.mem_of_getLast? hl),hn w hl]
        have all2:∀a∈grpR R (rsl v) k++[v],a.pr=v.pr:=λa ha=>by
         rcases List.mem_append.1 ha with ha | ha
         ·exact all a ha
         ·rw[List.mem_singleton.1 ha]
        exact λa ha b hb=>(all2 a ha).trans (all2 b hb).symm
       ·intro h a ha b hb;exact h a (List.mem_append_left _ ha) b (List.mem_append_left _ hb)
    ·have hr:isR t v=false:=decide_eq_false e;obtain⟨o1,o2⟩:=other t e;obtain⟨i1,i2⟩:=inew t h1 h2;rw[gs,hr,cond_false];refine⟨o1.trans i1,?_⟩;rw[← i2];unfold wrgB;rw[o2]
def obN(R:List MG):OW:=obW R (repL R).length
theorem w48(R:List MG)(t:SL):grpR R t (repL R).length=(repL R).filter (isR t):=by rw[grpR,wkr]
theorem obN_at{R:List MG}(hR:RightL R)(t:SL):(0<obP R t/\t∈obU R↔(getA (obN R).p t).isSome=true/\wrgB (obN R).w t=false)/\((getA (obN R).p t).isSome=true->wrgB (obN R).w t=false->getA (obN R).p t=some (obP R t)):=by
 have h:=wfs R (repL R).length;have hold:=h.old t;have hnew:=h.new t;change _->getA (obN R).p t=_/\getA (obN R).w t=_ at hold;change _->_->getA (obN R).p t=_/\(wrgB (obN R).w t=false↔_) at hnew;rw[w48] at hnew
 by_cases hv:t∈visL R
 ·obtain⟨h1,h2⟩:=hold (.inl hv);have hw:wrgB (obN R).w t=false:=by unfold wrgB;rw[h2]
  have hu:t∈obU R:=wql.2 (.inl hv)
  cases hp:prB R t with
  |true=>
   have hm:(t,(resB R t).1.pr)∈(obW R 0).p:=by rw[obW_0];exact List.mem_map.2 ⟨t,List.mem_filter.2 ⟨hv,hp⟩,rfl⟩
   have hg:getA (obW R 0).p t=some (resB R t).1.pr:=getA_at (wfs R 0).nd hm;have hO:obP R t=(resB R t).1.pr:=by unfold obP;rw[decide_eq_true hv,hp];rfl
   have hpos:1<=(resB R t).1.pr:=by
    unfold prB verB priB at hp;rw[bA7,bA7,decide_eq_true_eq,Bool.or_eq_true,decide_eq_true_eq,decide_eq_true_eq] at hp;exact(wpw (wqc hR hp.1) (hp.2.2.elim .inl λh=>.inr (.inl h))).1
   rw[h1,hg,hw,hO];exact⟨⟨λ_=>⟨rfl,rfl⟩,λ_=>⟨by omega,hu⟩⟩,λ_ _=>rfl⟩
  |false=>
   have hg:getA (obW R 0).p t=none:=wlc.2 (by rw[wkd];exact λh=>by rw[(List.mem_filter.1 h).2] at hp;cases hp);have hO:obP R t=0:=by unfold obP;rw[decide_eq_true hv,hp];rfl
   rw[h1,hg,hO];exact⟨⟨λh=>absurd h.1 (by decide),λh=>absurd h.1 (by simp)⟩,λh=>absurd h (by simp)⟩
 ·cases he:endB R t with
  |true=>
   obtain⟨h1,h2⟩:=hold (.inr he);have hg:getA (obW R 0).p t=none:=wlc.2 (by rw[wkd];exact λh=>hv (List.mem_filter.1 h).1);have hO:obP R t=0:=by unfold obP;rw[decide_eq_false hv,he];rfl
   rw[h1,hg,hO];exact⟨⟨λh=>absurd h.1 (by decide),λh=>absurd h.1 (by simp)⟩,λh=>absurd h (by simp)⟩
  |false=>
   obtain⟨h1,h2⟩:=hnew hv he;have hO:obP R t=givS R t:=by unfold obP;rw[decide_eq_false hv,he];rfl
   have hG:=wrp ((repL R).filter (isR t));have mem:∀ {v},v∈(repL R).filter (isR t)->v∈repL R/\rsl v=t:=λhv=>⟨(List.mem_filter.1 hv).1,of_decide_eq_true (List.mem_filter.1 hv).2⟩;have hU:t∈obU R↔(repL R).filter (isR t)≠[]:=by
    rw[wql]
    constructor
    ·rintro(h | ⟨v,h,e⟩)
     ·exact absurd h hv
     ·exact List.ne_nil_of_mem (List.mem_filter.2 ⟨h,decide_eq_true e⟩)
    ·intro h;obtain⟨v,hm⟩:=List.exists_mem_of_ne_nil _ h;exact .inr ⟨v,mem hm⟩
   rw[hO,hU,h2,h1];unfold givS;generalize (repL R).filter (isR t)=G at *
   rcases hG with⟨g1,g2⟩ | ⟨v,g1,g2,g3⟩ | ⟨⟨v,w,g1,g2,g3⟩,g4⟩
   ·have:G=[]:=List.eq_nil_iff_forall_not_mem.2 g1;subst this;rw[g2];exact⟨⟨λh=>absurd h.1 (by decide),λh=>absurd h.1 (by simp)⟩,λh=>absurd h (by simp)⟩
   ·have hp:=(wqe hR (mem g1).1).1;have hall:∀a∈G,∀b∈G,a.pr=b.pr:=λa ha b hb=>(g2 a ha).trans (g2 b hb).symm;have hne:G≠[]:=List.ne_nil_of_mem g1
    cases hl:G.getLast? with
    |none=>exact absurd (List.getLast?_eq_none_iff.1 hl) hne
    |some u=>
     have:u.pr=v.pr:=g2 u (List.mem_of_getLast? hl);rw[g3];refine⟨⟨λ_=>⟨rfl,hall⟩,λ_=>⟨by omega,hne⟩⟩,λ_ _=>?_⟩;show some u.pr=some v.pr;rw[this]
   ·rw[g4];exact⟨⟨λh=>absurd h.1 (by decide),λh=>absurd (h.2 v g1 w g2) g3⟩,λ_ h=>absurd (h v g1 w g2) g3⟩
theorem wz0{R:List MG}(hR:RightL R){E:List (SL×Int)}{L:List SL}(hE:E.Perm (obN R).p)(hL:L.Perm ((E.map Prod.fst).filter λt=> !wrgB (obN R).w t))(hs:L.Pairwise λx y=>¬ ordS y x<0):L=obL R:=by
 have hnd:=(wfs R (repL R).length).nd;have hEk:(E.map Prod.fst).Perm ((obN R).p.map Prod.fst):=hE.map _;have hn:L.Nodup:=by
  rw[hL.nodup_iff];exact(hEk.nodup_iff.2 hnd).sublist List.filter_sublist
 refine Asc.uniq wb0 (Asc.of_sorted hs wb0 (hn.imp λh q=>h (wij.1 q))) (wuf R) λt=>?_;rw[hL.mem_iff,List.mem_filter,hEk.mem_iff,wkf,and_comm (a:=t∈obU R),(obN_at hR t).1,Bool.not_eq_true'];refine and_congr_left λ_=>?_
 cases hg:getA (obN R).p t with
 |none=>simpa using wlc.1 hg
 |some c=>simpa using⟨c,wvx hg⟩
theorem wue{R:List MG}(hR:RightL R){t:SL}(h:t∈obL R):getA (obN R).p t=some (obP R t):=by
 obtain⟨h1,h2⟩:=obN_at hR t;have:=h1.1 ⟨(wkf.1 h).2,(wkf.1 h).1⟩;exact h2 this.1 this.2
structure OR where
 v:List VT
 s:List SL
def frsS(V:List SL)(k:Nat):Bool:=decide (0<k) && (decide ((atS V (k - 1)).o=(atS V k).o) && decide ((atS V (k - 1)).p=(atS V k).p))
def lasF(l:List VT):Nat:=fstB (λi=>finB (atX l i)) l.length
def stR(R:List MG)(V:List SL)(x:OR)(k:Nat):OR:=bif frsS V k then x else
 bif decide (lasF (serL R (atS V k).o (atS V k).p)<(serL R (atS V k).o (atS V k).p).length) then
   ⟨x.v++[atX (serL R (atS V k).o (atS V k).p) (lasF (serL R (atS V k).o (atS V k).p))],
    bif decide ((atX (serL R (atS V k).o (atS V k).p) (lasF (serL R (atS V k).o (atS V k).p))).st=5) then insS x.s (rsl (atX (serL R (atS V k).o (atS V k).p) (lasF (serL R (atS V k).o (atS V k).p)))) else x.s⟩
 else x
def ob3(R:List MG)(V:List SL):Nat->OR
 |0=>⟨[],V⟩
 |k+1=>stR R V (ob3 R V k) k
theorem w4h{R:List MG}{o p:List UInt8}{v:VT}:(lasF (serL R o p)<(serL R o p).length/\atX (serL R o p) (lasF (serL R o p))=v)↔v∈serL R o p/\finB v=true/\endB R (vsl v)=false:=by
 have hasc:=wyu R o p;have hmem:=λv=>wjz (R:=R) (o:=o) (p:=p) (v:=v);obtain⟨f1,f2⟩:=wg0 (λi=>finB (atX (serL R o p) i)) (serL R o p).length;change ∀j,j<lasF (serL R o p)->_ at f1;change lasF (serL R o p)<_->finB (atX (serL R o p) (lasF (serL R o p)))=true at f2;have idx:∀ {i j},i<(serL R o p).length->j<(serL R o p).length->(atX (serL R o p) i).per<(atX (serL R o p) j).per->i<j:=λ{i j} hi hj h=>by
  rcases Nat.lt_trichotomy i j with q | q | q
  ·exact q
  ·subst q;omega
  ·have:=List.pairwise_iff_getElem.1 hasc j i hj hi q;rw[← we9 hi, ← we9 hj] at this;omega
 have mix:∀ {v:VT},v∈serL R o p->∃i,i<(serL R o p).length/\atX (serL R o p) i=v:=λ{v} h=>by
  obtain⟨i,hi,e⟩:=List.getElem_of_mem h;exact⟨i,hi,(we9 hi).trans e⟩
 generalize hn:lasF (serL R o p)=n at *
 constructor
 ·rintro⟨hlt,rfl⟩;have hm:=wl5 hlt;refine⟨hm,f2 hlt,?_⟩
  cases he:endB R (vsl (atX (serL R o p) n)) with
  |false=>rfl
  |true=>
   obtain⟨u,hu,u1,u2,u3,u4⟩:=wf6.1 he;obtain⟨e1,e2,e3⟩:=(hmem _).1 hm;unfold finS at u4;rw[bA7] at u4;have hver:(resB R u).2=1:=of_decide_eq_true u4.1;have hsl:=(wdg hver).1;have hin:(resB R u).1∈serL R o p:=by
    refine(hmem _).2 ⟨?_,?_,?_⟩
    ·exact(congrArg SL.o hsl).trans (u1.trans e1)
    ·exact(congrArg SL.p hsl).trans (u2.trans e2)
    ·rw[hsl];exact Prod.ext rfl hver
   obtain⟨j,hj,ej⟩:=mix hin;have hper:(atX (serL R o p) j).per<(atX (serL R o p) n).per:=by
    rw[ej];have:(resB R u).1.per=u.per:=congrArg SL.per hsl;have:(vsl (atX (serL R o p) n)).per=(atX (serL R o p) n).per:=rfl;omega
   have:=f1 j (idx hj hlt hper);rw[ej] at this;rw[this] at u4;exact absurd u4.2 (by simp)
 ·rintro⟨hm,hf,he⟩;obtain⟨i,hi,rfl⟩:=mix hm;have hle:n<=i:=by
   rcases Nat.lt_or_ge i n with q | q
   ·rw[f1 i q] at hf;cases hf
   ·exact q
  have hlt:n<(serL R o p).length:=by omega
  refine⟨hlt,?_⟩
  rcases Nat.lt_or_ge n i with q | q
  ·have hper:=List.pairwise_iff_getElem.1 hasc n i hlt hi q;rw[← we9 hi, ← we9 hlt] at hper;obtain⟨e1,e2,e3⟩:=(hmem _).1 hm;obtain⟨d1,d2,d3⟩:=(hmem _).1 (wl5 hlt);have hv1:(resB R (vsl (atX (serL R o p) n))).2=1:=by rw[d3]
   have:endB R (vsl (atX (serL R o p) i))=true:=by
    refine wf6.2 ⟨vsl (atX (serL R o p) n),(wdg hv1).2,d1.trans e1.symm,d2.trans e2.symm,hper,?_⟩;unfold finS verB;rw[d3];exact f2 hlt
   rw[this] at he;cases he
  ·have:n=i:=by omega
   rw[this]
structure Ob3 (R:List MG) (k:Nat):Prop where
 v:∀v,v∈(ob3 R (visL R) k).v↔(∃i,i<k/\frsS (visL R) i=false/\v.o=(atS (visL R) i).o/\v.p=(atS (visL R) i).p)/\resB R (vsl v)=(v,1)/\finB v=true/\endB R (vsl v)=false
 a:Asc ordS (ob3 R (visL R) k).s
 s:∀t,t∈(ob3 R (visL R) k).s↔t∈visL R∨∃v∈(ob3 R (visL R) k).v,v.st=5/\rsl v=t
theorem wil(R:List MG):∀k,Ob3 R k
 |0=>⟨λv=>by simp[ob3],wdd R,λt=>by simp[ob3]⟩
 |k+1=>by
  have ih:=wil R k;have iv:=ih.v;have ia:=ih.a;have is:=ih.s;have st:ob3 R (visL R) (k+1)=stR R (visL R) (ob3 R (visL R) k) k:=rfl;have hl:=λv=>w4h (R:=R) (o:=(atS (visL R) k).o) (p:=(atS (visL R) k).p) (v:=v);generalize hx:ob3 R (visL R) k=x at *;unfold stR at st;have skip:(∀v,((frsS (visL R) k=false/\v.o=(atS (visL R) k).o/\v.p=(atS (visL R) k).p)/\resB R (vsl v)=(v,1)/\finB v=true/\endB R (vsl v)=false)->False)->ob3 R (visL R) (k+1)=x->Ob3 R (k+1):=λhno e=>by
   refine⟨λv=>?_,by rw[e];exact ia,λt=>by rw[e];exact is t⟩;rw[e,iv];refine and_congr_left λhh=>⟨λ⟨i,hi,h⟩=>⟨i,by omega,h⟩,λ⟨i,hi,h⟩=>?_⟩
   by_cases q:i=k
   ·subst q;exact absurd ⟨h,hh⟩ (hno v)
   ·exact⟨i,by omega,h⟩
  cases hf:frsS (visL R) k with
  |true=>
   rw[hf,cond_true] at st;exact skip (λv h=>by rw[hf] at h;exact absurd h.1.1 (by simp)) st
  |false=>
   rw[hf,cond_false] at st;generalize hS:serL R (atS (visL R) k).o (atS (visL R) k).p=S at *
   by_cases hlt:lasF S<S.length
   ·rw[decide_eq_true hlt,cond_true] at st;generalize hw:atX S (lasF S)=w at *;obtain⟨w1,w2,w3⟩:=(hl w).1 ⟨hlt,rfl⟩;rw[← hS] at w1;obtain⟨e1,e2,e3⟩:=wjz.1 w1;have hv:∀v,v∈(ob3 R (visL R) (k+1)).v↔v∈x.v∨v=w:=λv=>by
     rw[st];show v∈x.v++[w]↔_;rw[List.mem_append,List.mem_singleton]
    refine⟨λv=>?_,?_,λt=>?_⟩
    ·rw[hv,iv]
     constructor
     ·rintro(⟨⟨i,hi,h⟩,hh⟩ | rfl)
      ·exact⟨⟨i,by omega,h⟩,hh⟩
      ·exact⟨⟨k,by omega,hf,e1,e2⟩,e3,w2,w3⟩
     ·rintro⟨⟨i,hi,h1,h2,h3⟩,hh⟩
      by_cases q:i=k
      ·subst q;have hin:v∈S:=by rw[← hS];exact wjz.2 ⟨h2,h3,hh.1⟩
       have:=(hl v).2 ⟨hin,hh.2⟩;exact .inr this.2.symm
      ·exact .inl ⟨⟨i,by omega,h1,h2,h3⟩,hh⟩
    ·rw[st];show Asc ordS (bif decide (w.st=5) then insS x.s (rsl w) else x.s)
     cases decide (w.st=5) with
     |true=>exact wk4 _ ia
     |false=>exact ia
    ·have hs:t∈(ob3 R (visL R) (k+1)).s↔t∈x.s∨(w.st=5/\rsl w=t):=by
      rw[st];show t∈(bif decide (w.st=5) then insS x.s (rsl w) else x.s)↔_
      by_cases h5:w.st=5
      ·rw[decide_eq_true h5,cond_true,wix]
       constructor
       ·rintro(e | e)
        ·exact .inr ⟨h5,e.symm⟩
        ·exact .inl e
       ·rintro(e | e)
        ·exact .inr e
        ·exact .inl e.2.symm
      ·rw[decide_eq_false h5,cond_false];exact⟨.inl,λh=>h.resolve_right λq=>h5 q.1⟩
     rw[hs,is,or_assoc];refine or_congr Iff.rfl ⟨?_,?_⟩
     ·rintro(⟨v,h1,h2⟩ | h)
      ·exact⟨v,(hv v).2 (.inl h1),h2⟩
      ·exact⟨w,(hv w).2 (.inr rfl),h⟩
     ·rintro⟨v,h1,h2⟩
      rcases(hv v).1 h1 with h | rfl
      ·exact .inl ⟨v,h,h2⟩
      ·exact .inr h2
   ·rw[decide_eq_false hlt,cond_false] at st;refine skip (λv h=>hlt ?_) st;have hin:v∈S:=by rw[← hS];exact wjz.2 ⟨h.1.2.1,h.1.2.2,h.2.1⟩
    exact((hl v).2 ⟨hin,h.2.2⟩).1
theorem frs_ex(V:List SL):∀i,i<V.length->∃j,j<=i/\frsS V j=false/\(atS V j).o=(atS V i).o/\(atS V j).p=(atS V i).p
 |0,_=>⟨0,lR7 _,rfl,rfl,rfl⟩
 |i+1,hi=>by
  cases h:frsS V (i+1) with
  |false=>exact⟨i+1,lR7 _,h,rfl,rfl⟩
  |true=>
   unfold frsS at h;simp only[bA7,Nat.add_sub_cancel,decide_eq_true_eq] at h;obtain⟨j,hj,h1,h2,h3⟩:=frs_ex V i (by omega);exact⟨j,by omega,h1,h2.trans h.2.1,h3.trans h.2.2⟩
def ovL(R:List MG):List VT:=(ob3 R (visL R) (visL R).length).v
theorem wgr{R:List MG}{v:VT}:v∈ovL R↔resB R (vsl v)=(v,1)/\finB v=true/\endB R (vsl v)=false:=by
 rw[ovL,(wil R _).v];refine⟨λh=>h.2,λh=>⟨?_,h⟩⟩;have h1:(resB R (vsl v)).2=1:=by rw[h.1]
 obtain⟨i,hi,e⟩:=wgu (wdg h1).2;obtain⟨j,hj,h1,h2,h3⟩:=frs_ex (visL R) i hi;refine⟨j,by omega,h1,?_,?_⟩
 ·rw[h2,e];rfl
 ·rw[h3,e];rfl
theorem ob3_s(R:List MG):(ob3 R (visL R) (visL R).length).s=obU R:=by
 refine Asc.uniq wb0 (wil R _).a (wud R) λt=>?_;rw[(wil R _).s,wql];refine or_congr Iff.rfl ⟨?_,?_⟩
 ·rintro⟨v,h1,h2,h3⟩;obtain⟨e1,e2,e3⟩:=wgr.1 h1;exact⟨v,wig.2 ⟨e1,e3,h2⟩,h3⟩
 ·rintro⟨v,h1,h2⟩;obtain⟨e1,e2,e3⟩:=wig.1 h1;exact⟨v,wgr.2 ⟨e1,by unfold finB;rw[e3];rfl,e2⟩,e3,h2⟩
def enR(l:List VT)(s:SL):Bool:=l.any λv=>decide (v.o=s.o) && (decide (v.p=s.p) && decide (v.per<s.per))
theorem enR_eq(R:List MG)(s:SL):enR (ovL R) s=endB R s:=by
 rw[Bool.eq_iff_iff,enR,List.any_eq_true]
 constructor
 ·rintro⟨v,h1,h2⟩;obtain⟨e1,e2,e3⟩:=wgr.1 h1;rw[bA7,bA7,decide_eq_true_eq,decide_eq_true_eq,decide_eq_true_eq] at h2;have hv:(resB R (vsl v)).2=1:=by rw[e1]
  refine wf6.2 ⟨vsl v,(wdg hv).2,h2.1,h2.2.1,h2.2.2,?_⟩;unfold finS verB;rw[e1];exact e2
 ·intro h;obtain⟨u,hu,h1,h2,h3,h4,h5⟩:=wrz h;unfold finS at h4;rw[bA7] at h4;have hv:(resB R u).2=1:=of_decide_eq_true h4.1;have hsl:=(wdg hv).1;refine⟨(resB R u).1,wgr.2 ⟨by rw[hsl];exact Prod.ext rfl hv,h4.2,by rw[hsl];exact h5⟩,?_⟩;rw[bA7,bA7,decide_eq_true_eq,decide_eq_true_eq,decide_eq_true_eq];have q1:(resB R u).1.o=u.o:=congrArg SL.o hsl;have q2:(resB R u).1.p=u.p:=congrArg SL.p hsl;have q3:(resB R u).1.per=u.per:=congrArg SL.per hsl;exact⟨q1.trans h1,q2.trans h2,by omega⟩
def gvB(s:SL)(v:VT):Bool:=decide (v.o=s.o) && (decide (v.per=s.per) && (decide (v.st=5) && decide (v.rep=s.p)))
def gvK(l:List VT)(s:SL):Nat->Option Int
 |0=>some 0
 |k+1=>match gvK l s k with
  |none=>none
  |some out=>bif gvB s (atX l k) then (bif !decide (out=0) && !decide (out=(atX l k).pr) then none else some (atX l k).pr) else some out
theorem gvK_is{l:List VT}{s:SL}(hpos:∀v∈l,gvB s v=true->1<=v.pr):∀k,k<=l.length->match gvK l s k with
  |none=>∃v w,(v∈l/\gvB s v=true)/\(w∈l/\gvB s w=true)/\v.pr≠w.pr
  |some out=>(out=0/\∀v∈lst (atX l) k,gvB s v=false)∨(∃v∈l,gvB s v=true/\out=v.pr/\∀w∈lst (atX l) k,gvB s w=true->w.pr=out)
 |0,_=>.inl ⟨rfl,λv hv=>by simp[lst] at hv⟩
 |k+1,hk=>by
  have ih:=gvK_is hpos k (by omega);rw[gvK]
  cases hg:gvK l s k with
  |none=>rw[hg] at ih;exact ih
  |some out=>
   rw[hg] at ih;have hm:=wl5 (show k<l.length by omega);rw[we2]
   cases hb:gvB s (atX l k) with
   |false=>
    simp only[cond_false]
    rcases ih with⟨h1,h2⟩ | ⟨v,h1,h2,h3,h4⟩
    ·refine .inl ⟨h1,λv hv=>?_⟩
     rcases List.mem_append.1 hv with hv | hv
     ·exact h2 v hv
     ·rw[List.mem_singleton.1 hv];exact hb
    ·refine .inr ⟨v,h1,h2,h3,λw hw hh=>?_⟩
     rcases List.mem_append.1 hw with hw | hw
     ·exact h4 w hw hh
     ·rw[List.mem_singleton.1 hw,hb] at hh;cases hh
   |true=>
    simp only[cond_true]
    by_cases q:out=0
    ·rw[decide_eq_true q];simp only[Bool.not_true,Bool.false_and,cond_false]
     rcases ih with⟨h1,h2⟩ | ⟨v,h1,h2,h3,h4⟩
     ·refine .inr ⟨_,hm,hb,rfl,λw hw hh=>?_⟩
      rcases List.mem_append.1 hw with hw | hw
      ·rw[h2 w hw] at hh;cases hh
      ·rw[List.mem_singleton.1 hw]
     ·have:=hpos v h1 h2;omega
    ·rcases ih with⟨h1,h2⟩ | ⟨v,h1,h2,h3,h4⟩
     ·exact absurd h1 q
     ·by_cases q2:out=(atX l k).pr
      ·rw[decide_eq_true q2];simp only[Bool.not_true,Bool.and_false,cond_false];refine .inr ⟨_,hm,hb,rfl,λw hw hh=>?_⟩
       rcases List.mem_append.1 hw with hw | hw
       ·rw[h4 w hw hh,q2]
       ·rw[List.mem_singleton.1 hw]
      ·rw[decide_eq_false q,decide_eq_false q2];simp only[Bool.not_false,Bool.true_and,cond_true];exact⟨v,atX l k,⟨h1,h2⟩,⟨hm,hb⟩,λe=>q2 (h3.trans e)⟩
def gvR(l:List VT)(s:SL):Int:=(gvK l s l.length).getD 0
theorem gvR_eq{R:List MG}(hR:RightL R)(s:SL):gvR (ovL R) s=givS R s:=by
 have hpos:∀v∈ovL R,gvB s v=true->1<=v.pr:=λv hv hb=>by
  obtain⟨e1,e2,e3⟩:=wgr.1 hv;unfold gvB at hb;simp only[bA7,decide_eq_true_eq] at hb;exact(wqe hR (wig.2 ⟨e1,e3,hb.2.2.1⟩)).1
 refine wjk.uniq (G:=λv=>v∈ovL R/\gvB s v=true) ?_ (wrp ((repL R).filter (isR s))) λv=>?_
 ·have h:=gvK_is hpos _ (lR7 _);unfold gvR;rw[wkr] at h
  cases hg:gvK (ovL R) s (ovL R).length with
  |none=>rw[hg] at h;exact .inr (.inr ⟨h,rfl⟩)
  |some out=>
   rw[hg] at h
   rcases h with⟨h1,h2⟩ | ⟨v,h1,h2,h3,h4⟩
   ·exact .inl ⟨λv hv=>absurd (hv.2.symm.trans (h2 v hv.1)) (by simp),h1⟩
   ·exact .inr (.inl ⟨v,⟨h1,h2⟩,λw hw=>(h4 w hw.1 hw.2).trans h3,h3⟩)
 ·rw[wgr,List.mem_filter,wig];unfold gvB isR;simp only[bA7,decide_eq_true_eq]
  constructor
  ·rintro⟨⟨h1,h2,h3⟩,h4,h5,h6,h7⟩;exact⟨⟨h1,h3,h6⟩,by unfold rsl;rw[h4,h5,h7]⟩
  ·rintro⟨⟨h1,h2,h3⟩,h4⟩;refine⟨⟨h1,by unfold finB;rw[h3];rfl,h2⟩,?_,?_,h3,?_⟩
   ·rw[← h4];rfl
   ·rw[← h4];rfl
   ·rw[← h4];rfl
def obQ(R:List MG)(t:SL):Int:=bif decide (t∈visL R) then (bif verB R t && (!enR (ovL R) t && priB (resB R t).1) then (resB R t).1.pr else 0) else bif enR (ovL R) t then 0 else gvR (ovL R) t
theorem obQ_eq{R:List MG}(hR:RightL R)(t:SL):obQ R t=obP R t:=by
 unfold obQ obP prB;rw[enR_eq,gvR_eq hR]
theorem wuh{α:Type}[DecidableEq α]:∀ {l m:List α},l.Nodup->(∀x∈l,x∈m)->l.length<=m.length
 |[],m,_,_=>zL7 _
 |a::l,m,hn,h=>by
  obtain⟨h1,h2⟩:=List.nodup_cons.1 hn;have ha:=h a List.mem_cons_self;have:=wuh (l:=l) (m:=m.erase a) h2 λx hx=>(List.mem_erase_of_ne (λe=>h1 (by rw[← e];exact hx))).2 (h x (List.mem_cons_of_mem _ hx));rw[List.length_erase_of_mem ha] at this;have:=List.length_pos_of_mem ha;rw[List.length_cons];omega
def slC(s:SL):List AV:=[.str s.o,.str s.p,.q s.per]
def wau(g:Nat->SL)(i:Nat):List AV:=[.str (g i).o,.str (g i).p,.q (g i).per]
def slOf(f:Nat->List AV)(i:Nat):SL:=match f i with
 |[.str o,.str p,.int .i64 per]=>⟨o,p,per⟩
 |_=>default
def vtC(v:VT):List AV:=[.str v.o,.str v.p,.q v.per,.q v.day,.q v.st,.q v.pr,.str v.rep]
def wam(g:Nat->VT)(i:Nat):List AV:=[.str (g i).o,.str (g i).p,.q (g i).per,.q (g i).day,.q (g i).st,.q (g i).pr,.str (g i).rep]
def vtOf(f:Nat->List AV)(i:Nat):VT:=match f i with
 |[.str o,.str p,.int .i64 per,.int .i64 day,.int .i64 st,.int .i64 pr,.str rep]=>⟨o,p,per,day,st,pr,rep⟩
 |_=>default
def wen:Spec
 |[.agg [.str dev,.int .i64 seq,.int .i64 kind,.str o,.str p,.int .i64 per,.int .i64 day,.int .i64 st,.int .i64 pr,.str rep,.str o',.str p',.int .i64 per',.str dev',.int .i64 num]],[]=>
   some (.agg [.str (whr ⟨dev,seq,kind,⟨o,p,per,day,st,pr,rep⟩,⟨o',p',per',dev',num⟩⟩).o,.str (whr ⟨dev,seq,kind,⟨o,p,per,day,st,pr,rep⟩,⟨o',p',per',dev',num⟩⟩).p,.q (whr ⟨dev,seq,kind,⟨o,p,per,day,st,pr,rep⟩,⟨o',p',per',dev',num⟩⟩).per],[],True)
 |_,_=>none
def whs:Spec
 |[.agg [.str _,.int .i64 _,.int .i64 kind,.str _,.str _,.int .i64 _,.int .i64 _,.int .i64 _,.int .i64 _,.str _,.str _,.str _,.int .i64 _,.str _,.int .i64 _]],[]=>some (.bool (decide (kind=1)),[],True)
 |_,_=>none
def wnk:Spec
 |[.view 15 n f,.func 78 []],[]=>some (.q (ixB (λi=>isV (mgOf f i)) n),[],n<=1000000/\f=waa (mgOf f))
 |_,_=>none
def wnj(g:Nat->MG)(n k:Nat):St:=⟨[(0,.view 15 n (waa g)),(1,.func 78 []),(7,.q n),(8,.q k)],[],0,[]⟩
def wpi(g:Nat->MG)(n:Nat):wap:=λst Q=>canonIs te 0 [0,1,7,8] st (wnj g n 0)/\n<=1000000/\
 wab (decide (fstB (λi=>isV (g i)) n<n)) (Q .ret ⟨[(4,.q (fstB (λi=>isV (g i)) n))],[],0,[]⟩) (Q (.exit 0) ⟨[],[],0,[]⟩)
def wn6:Spec
 |[.view 15 n f,.func 78 []],[]=>some (.bool (decide (0<=ixB (λi=>isV (mgOf f i)) n)),[],n<=1000000/\f=waa (mgOf f))
 |_,_=>none
def whg:Spec
 |[.agg [.str o,.str p,.int .i64 per],.agg [.str o',.str p',.int .i64 per']],[]=>some (.q (ordS ⟨o,p,per⟩ ⟨o',p',per'⟩),[],True)
 |_,_=>none
def wh2:wcl
 |[.own 0 n,.func 42 []],[.row t 3 m f fr],R=>t=78/\fr=false/\n=m/\n<=1000000/\f=wau (slOf f)/\
   ∀h:Nat->SL,(lst h n).Perm (lst (slOf f) n)->(∀i j,i<j->j<n->¬ ordS (h j) (h i)<0)->R (.tuple []) [(0,.row 78 3 n (wau h) false)]
 |_,_,_=>False
def wnz:Spec
 |[.agg [.str o,.str p,.int .i64 per,.int .i64 day,.int .i64 st,.int .i64 pr,.str rep]],[]=>some (.bool (finB ⟨o,p,per,day,st,pr,rep⟩),[],True)
 |_,_=>none
def S_cn(M:List MG)(k:Nat):St:=⟨[(4,.map 0),(5,.own 1 (clnP M k).length),(13,.own 2 M.length),(14,.q M.length),(15,.q k)],
 [(0,.amap (entM (cntL (atM M) M.length))),(1,.row 103 2 (clnP M k).length (wch (atK (clnP M k))) false),(2,.row 47 15 M.length (waa (atM M)) false)],3,[]⟩
def L_cn(M:List MG):wap:=λst Q=>canonIs te 0 [4,5,13,14,15] (ownNil 5 103 2 st) (S_cn M 0)/\M.length<=100000/\
 Q (.exit 0) ⟨[(5,.own 0 (clnP M M.length).length)],[(0,.row 103 2 (clnP M M.length).length (wch (atK (clnP M M.length))) false)],1,[]⟩
def wn5:Spec
 |[.view 15 n f],[]=>some (.view 2 (wcc (mgOf f) n).length (wch (atK (wcc (mgOf f) n))),[],n<=100000/\f=waa (mgOf f)/\∀i,i<n->(mgOf f i).Sm)
 |_,_=>none
end Go.Eng
namespace Go.Eng
open Go.RowKit
def allP{α:Type}(p:α->Prop):List α->Prop
 |[]=>True
 |[x]=>p x
 |x::l=>p x/\allP p l
theorem wxc{α:Type}{p:α->Prop}:∀ {l:List α},allP p l->∀x∈l,p x
 |[],_,x,hx=>by cases hx
 |[y],h,x,hx=>by obtain rfl:=List.mem_singleton.1 hx;exact h
 |y::z::l,h,x,hx=>by
  obtain⟨h1,h2⟩:=h
  rcases List.mem_cons.1 hx with rfl | hx
  ·exact h1
  ·exact wxc h2 x hx
def wf7(done:List Nat):List Edge->Bool
 |[]=>true
 |e::l=>match Region.binds .any e with
  |true=>match hasN done e.on with
   |true=>wf7 done l
   |false=>false
  |false=>wf7 done l
def rdyL(done:List Nat):Nat->List Oper->List (Nat×Oper)
 |_,[]=>[]
 |i,o::l=>match hasN done i with
  |true=>rdyL done (i+1) l
  |false=>match wf7 done o.after.toList with
   |true=>(i,o)::rdyL done (i+1) l
   |false=>rdyL done (i+1) l
theorem wr2{done:List Nat}:∀ {l:List Edge},wf7 done l=true↔∀e∈l,Region.binds .any e=true->e.on∈done
 |[]=>by simp[wf7]
 |e::l=>by
  unfold wf7;have ih:=wr2 (done:=done) (l:=l)
  cases hb:Region.binds .any e with
  |true=>
   cases hh:hasN done e.on with
   |true=>
    dsimp only
    rw[ih]
    constructor
    ·intro h e' he hb'
     rcases List.mem_cons.1 he with rfl | he
     ·exact(wbj _ _).1 hh
     ·exact h e' he hb'
    ·exact λh e' he hb'=>h e' (List.mem_cons_of_mem _ he) hb'
   |false=>
    dsimp only
    refine⟨λh=>(by cases h),λh=>?_⟩;rw[(wbj _ _).2 (h e (List.mem_cons_self ..) hb)] at hh;cases hh
  |false=>
   dsimp only
   rw[ih]
   constructor
   ·intro h e' he hb'
    rcases List.mem_cons.1 he with rfl | he
    ·rw[hb] at hb';cases hb'
    ·exact h e' he hb'
   ·exact λh e' he hb'=>h e' (List.mem_cons_of_mem _ he) hb'
theorem wj7{done:List Nat}:∀ {l:List Oper} {j i:Nat} {o:Oper},(i,o)∈rdyL done j l↔∃i',i=j+i'/\l[i']?=some o/\i ∉ done/\∀e∈o.after.toList,Region.binds .any e=true->e.on∈done
 |[],j,i,o=>by simp[rdyL]
 |o'::l,j,i,o=>by
  have ih:=wj7 (done:=done) (l:=l) (j:=j+1) (i:=i) (o:=o);have tail:(∃i',i=j+1+i'/\l[i']?=some o/\i ∉ done/\∀e∈o.after.toList,Region.binds .any e=true->e.on∈done)->∃i',i=j+i'/\(o'::l)[i']?=some o/\i ∉ done/\∀e∈o.after.toList,Region.binds .any e=true->e.on∈done:=by
   rintro⟨i',h1,h2,h3⟩;exact⟨i'+1,by omega,by simpa using h2,h3⟩
  have back:(∃i',i=j+i'/\(o'::l)[i']?=some o/\i ∉ done/\∀e∈o.after.toList,Region.binds .any e=true->e.on∈done)->(i=j/\o=o'/\j ∉ done/\∀e∈o'.after.toList,Region.binds .any e=true->e.on∈done)∨∃i',i=j+1+i'/\l[i']?=some o/\i ∉ done/\∀e∈o.after.toList,Region.binds .any e=true->e.on∈done:=by
   rintro⟨i',h1,h2,h3,h4⟩
   cases i' with
   |zero=>
    simp only[List.getElem?_cons_zero,sI7] at h2;subst h2;obtain rfl:i=j:=by omega
    exact .inl ⟨rfl,rfl,h3,h4⟩
   |succ i'=>exact .inr ⟨i',by omega,by simpa using h2,h3,h4⟩
  unfold rdyL
  cases hh:hasN done j with
  |true=>
   dsimp only
   rw[ih];refine⟨tail,λh=>?_⟩
   rcases back h with⟨_,_,h3,_⟩ | h
   ·exact absurd ((wbj _ _).1 hh) h3
   ·exact h
  |false=>
   cases hd:wf7 done o'.after.toList with
   |true=>
    dsimp only
    rw[List.mem_cons,ih,pI7]
    constructor
    ·rintro(⟨rfl,rfl⟩ | h)
     ·refine⟨0,rfl,rfl,λq=>?_,wr2.1 hd⟩;rw[(wbj _ _).2 q] at hh;cases hh
     ·exact tail h
    ·intro h
     rcases back h with⟨h1,h2,_⟩ | h
     ·exact .inl ⟨h1,h2⟩
     ·exact .inr h
   |false=>
    dsimp only
    rw[ih];refine⟨tail,λh=>?_⟩
    rcases back h with⟨_,_,_,h4⟩ | h
    ·rw[wr2.2 h4] at hd;cases hd
    ·exact h
def wee(G:Env)(opl:List Oper)(Q:St->Prop):Nat->List Nat->KT
 |0,done,T,O,nx=>match rdyL done 0 opl with
  |[]=>Q ⟨T,O,nx,[]⟩
  |_::_=>False
 |fuel+1,done,T,O,nx=>match rdyL done 0 opl with
  |[]=>Q ⟨T,O,nx,[]⟩
  |p0::l=>allP (λp:Nat×Oper=>match p.2.guard with
   |none=>wp1 G p.2 T O nx (wee G opl Q fuel (p.1::done))
   |some _=>False) (p0::l)
def onlyN(K:St->Prop)(Q:Exit->St->Prop):Exit->St->Prop
 |.normal,s=>K s
 |e,s=>Q e s
theorem wp_both{P:Program}{o:Oper}{a:Act}{w:World}{K K':Act->World->Prop}{Q Q':Exit->Act->World->Prop}(h:∀a w,K a w->K' a w)(hq:∀e a w,e≠ .normal->Q e a w->Q' e a w)(hh:o.wp P a w K Q):o.wp P a w K' Q':=by
 unfold Oper.wp at *;generalize (execOp a.eval o).run P w=r at *
 cases r with
 |ok n w'=>
   cases n<;>simp only[Oper.upon] at hh ⊢ <;>
     first
       |exact h _ _ hh
       |exact hh.elim
       |exact Calls.mono hh (λe w'' he=>by
           cases e with
           |returned v=>exact h _ _ he
           |panicked c=>exact hq _ _ _ (by simp) he
           |outgrown=>obtain⟨a',w3,h3⟩:=he;exact⟨a',w3,hq _ _ _ (by simp) h3⟩)
       |exact Rows.mono hh (λ_ _ he=>h _ _ he)
 |halt x w'=>cases x<;>simp only[Oper.upon] at hh ⊢ <;>first | exact hq _ _ _ (by simp) hh | exact hh.elim
theorem wj6{opl:List Oper}{done:List Nat}{listed:Array Bool}(hsz:listed.size=opl.length)(hl:∀i,listed.getD i false=true↔i∈done)(i:Nat):i∈Region.ready .any opl.toArray listed↔∃o,opl[i]?=some o/\(i,o)∈rdyL done 0 opl:=by
 rw[mem_ready];have e:∀o,opl[i]?=some o->(listed.getD i true=false↔i ∉ done):=λo ho=>by
  have hi:i<listed.size:=by rw[hsz];exact(List.getElem?_eq_some_iff.1 ho).1
  rw[wk9 hi true false, ← hl]
  cases listed.getD i false<;>simp
 constructor
 ·rintro⟨h0,o,ho,h⟩;have ho:opl[i]?=some o:=by simpa using ho
  exact⟨o,ho,wj7.2 ⟨i,by omega,ho,(e o ho).1 h0,λx hx hb=>(hl _).1 (h x (by simpa using hx) hb)⟩⟩
 ·rintro⟨o,ho,h⟩;obtain⟨i',h1,h2,h3,h4⟩:=wj7.1 h;exact⟨(e o ho).2 h3,o,by simpa using ho,λx hx hb=>(hl _).2 (h4 x (by simpa using hx) hb)⟩
theorem wsk{C:Ctx}{G:Env}(hG:EnvOK C G){m:Nat}{opl:List Oper}{Q:Exit->St->Prop}{E:Ent}(hE:E.m=m):∀(fuel:Nat) (done:List Nat) (listed:Array Bool) (T:List (Nat×AV)) (O:List (Nat×AObj)) (nx:Nat) (bs:Nat->Option Hd) (a:Act) (w:World),
  listed.size=opl.length->(∀i,listed.getD i false=true↔i∈done)->wee G opl (Q .normal) fuel done T O nx->RepS C E G.N ⟨T,O,nx,[]⟩ bs a w->wpAny C.P .any opl.toArray (QC C E G.N Q) fuel listed a w
 |0,done,listed,T,O,nx,bs,a,w,hsz,hl,h,hr=>by
  unfold wee at h;unfold wpAny;split at h
  ·rename_i hr0;refine⟨List.eq_nil_iff_forall_not_mem.2 λi hi=>?_,_,bs,h,hr⟩;obtain⟨o,_,ho⟩:=(wj6 hsz hl i).1 hi;rw[hr0] at ho;cases ho
  ·exact h.elim
 |fuel+1,done,listed,T,O,nx,bs,a,w,hsz,hl,h,hr=>by
  unfold wee at h;unfold wpAny;split at h
  ·rename_i hr0;refine⟨λ_=>⟨_,bs,h,hr⟩,λi hi=>?_⟩;obtain⟨o,_,ho⟩:=(wj6 hsz hl i).1 hi;rw[hr0] at ho;cases ho
  ·rename_i p0 l hr0;refine⟨λq=>?_,λi hi=>?_⟩
   ·obtain⟨i0,o0⟩:=p0;have hm:(i0,o0)∈rdyL done 0 opl:=by rw[hr0];exact List.mem_cons_self ..
    obtain⟨i',h1,h2,_⟩:=wj7.1 hm;obtain rfl:i0=i':=by omega
    have:=(wj6 hsz hl i0).2 ⟨o0,h2,hm⟩;rw[q] at this;cases this
   obtain⟨o,ho,hm⟩:=(wj6 hsz hl i).1 hi;rw[hr0] at hm;have hp:=wxc h _ hm;dsimp only at hp;have hilt:i<listed.size:=by rw[hsz];exact(List.getElem?_eq_some_iff.1 ho).1
   have hsz':(listed.setIfInBounds i true).size=opl.length:=by simp[hsz]
   have hl':∀j,(listed.setIfInBounds i true).getD j false=true↔j∈i::done:=λj=>by
    by_cases e:i=j
    ·subst e;simp[Array.getD,hilt]
    ·rw[getD_set_ne _ e,hl,List.mem_cons];exact⟨.inr,λh=>h.resolve_left λq=>e q.symm⟩
   split at hp
   ·rename_i hg;have:=wpv (m:=m) (ops:=opl.toArray) (rest:=[]) (Q:=onlyN (λs=>wee G opl (Q .normal) fuel (i::done) s.T s.O s.nx) Q) hG hg hp (λT' O' nx' hK=>by
     intro E' hE' bs' a' w' hr';exact⟨⟨T',O',nx',[]⟩,bs',hK,hr'⟩) E hE bs a w hr
    have fin:∀a' w',QC C E G.N (onlyN (λs=>wee G opl (Q .normal) fuel (i::done) s.T s.O s.nx) Q) .normal a' w'->wpAny C.P .any opl.toArray (QC C E G.N Q) fuel (listed.setIfInBounds i true) a' w':=by
     rintro a' w' ⟨⟨T',O',nx',d'⟩,bs',hK,hr'⟩;exact wsk hG hE fuel _ _ T' O' nx' bs' a' w' hsz' hl' hK hr'
    have other:∀e a' w',e≠Exit.normal->QC C E G.N (onlyN (λs=>wee G opl (Q .normal) fuel (i::done) s.T s.O s.nx) Q) e a' w'->QC C E G.N Q e a' w':=by
     rintro e a' w' hne ⟨s,bs',hs,hr'⟩;refine⟨s,bs',?_,hr'⟩
     cases e with
     |normal=>exact absurd rfl hne
     |_=>exact hs
    unfold wpOp;have ho':opl.toArray[i]?=some o:=by simpa using ho
    rw[ho'];unfold wpList at this;dsimp only
    split
    ·rename_i hw;rw[if_pos hw] at this
     rcases this with h | ⟨h1,a',w',h2⟩
     ·exact .inl (wp_both fin other h)
     ·exact .inr ⟨h1,a',w',other _ _ _ (by simp) h2⟩
    ·rename_i hw;rw[if_neg hw] at this;exact fin _ _ this
   ·exact hp.elim
theorem AWP.each{C:Ctx}{G:Env}(hG:EnvOK C G){m id:Nat}{opl:List Oper}{Q:Exit->St->Prop}{T0:List (Nat×AV)}{O0:List (Nat×AObj)}{nx:Nat}{dec:List Nat}
  (h:wee G opl (Q .normal) opl.length [] T0 O0 nx):AWP C m G.N (.region id opl.toArray true) Q ⟨T0,O0,nx,dec⟩:=by
 intro E hE bs a w hr;have hS:Step w (MB E (lk O0) bs) bs { w with drawn:=w.drawn+1 } (MB E (lk O0) bs) bs/\WRep C E (lk O0) bs { w with drawn:=w.drawn+1 }:=by
  refine hr.1.2.next (λ_=>False) (λ_ _ h=>h) (λ_ _ _ h=>.inl h) (λ_ h=>h.elim) (λ_ _ _=>rfl) (lR7 _) (λ_ h=>.inl h) (λ_ _ _ h=>.inl ⟨h,λ_ _ _ h=>h⟩) hr.1.2.sep ?_ rfl ⟨rfl,λ_=>Nat.le_succ _⟩ rfl;intro r t sz n f b c ho hb;have:=hr.1.2.frz r t sz n f b c ho hb;exact⟨λh=>this (.inr h),λh=>this (.inl h)⟩
 exact wp_region_any C.mixed (wsk hG hE _ [] _ T0 O0 nx bs a _ (by simp) (λi=>by simp[Array.getD]) (by simpa using h) ⟨⟨hr.1.1.step hS.1,hS.2⟩,hr.2.1,hr.2.2⟩)
def regE(G:Env)(x:Code)(Fe:List Nat)(Q:Exit->St->Prop)(s:St):Prop:=match x with
 |.region _ ops true=>wee G ops.toList (Eng.canQ G.te G.m Fe [] Q .normal) ops.toList.length [] s.T s.O s.nx
 |_=>False
theorem wah.regE{C:Ctx}{te:TE}(hte:Prg C te){m N:Nat}{x:Code}{s S:St}{Q:Exit->St->Prop}(calls:List (Nat×CSpec))(fuel:Nat)(hc:wcn C calls)(F Fe:List Nat)
  (h0:canonIs te m F s S) (h:Eng.regE ⟨te,calls,[],m,N,fuel⟩ x Fe Q S) (hS:wbv S.O True):AWP C m N x Q s:=by
 have hG:EnvOK C ⟨te,calls,[],m,N,fuel⟩:=⟨hte.ok,hte.one,hc⟩;have h1:AWP C m N x (Eng.canQ te m Fe [] Q) S:=by
  unfold Eng.regE at h;split at h
  ·rename_i id ops;have:=AWP.each (m:=m) (id:=id) (dec:=S.dec) hG h;simpa using this
  ·exact h.elim
 exact AWP.canonIs F h0 h1.canQ hS
end Go.Eng
namespace Go.Eng
abbrev FE:=Value×Nat×(Nat->List AV)
def blkV:Value->Option Nat
 |.slice (some ad) _ _=>some ad.block
 |_=>none
structure FRow (w:World) (t:TypeId) (sz:Nat) (x:FE) (b c:Nat) (vs:Array Value):Prop where
 val:x.1= .slice (some ⟨b,0,none⟩) x.2.1 c
 heap:w.heap[b]?=some (.cells vs t (0,0))
 le:x.2.1<=c
 max:c<=maxLen
 size:vs.size=c * sz
 len:∀i,i<x.2.1->(x.2.2 i).length=sz
 one:∀i,i<x.2.1->∀j,j<sz->∀v:Value,vs[i * sz+j]?=some v->v.oneCell'=true
 vals:∀i,i<x.2.1->∀(j:Nat) v u,j<sz->vs[i * sz+j]?=some v->(x.2.2 i)[j]?=some u->∀(w':World) (M:Nat->Prop) (bs:Nat->Option Hd),V w' M bs v u
structure FamL (w:World) (B:Nat->Prop) (t:TypeId) (sz:Nat) (F:List FE):Prop where
 row:∀(i:Nat) x,F[i]?=some x->∃b c vs,FRow w t sz x b c vs/\B b
 sep:∀(i j:Nat) x y b,F[i]?=some x->F[j]?=some y->blkV x.1=some b->blkV y.1=some b->i=j
structure Ref (C:Ctx) (E E':Ent) (B:Nat->Prop):Prop where
 m:E'.m=E.m
 bs0:E'.bs0=E.bs0
 outer:∀b,E'.outer b↔E.outer b∨B b
 size:E.w0.heap.size<=E'.w0.heap.size
 keep:∀b,b<E.w0.heap.size->¬ E.mut0 b->E'.w0.heap[b]?=E.w0.heap[b]?
 mt:∀b,E'.mut0 b->E.mut0 b∨E.w0.heap.size<=b
 own:∀b,B b->¬ E.outer b/\C.gsz<=b/\b<E'.w0.heap.size/\¬ E'.mut0 b/\(E.mut0 b∨E.w0.heap.size<=b)
 os:E'.w0.os=E.w0.os
 tape:TL C.cnt E'.w0 E.w0
 output:E'.w0.output=E.w0.output
 outlt:∀b,E.outer b->b<E.w0.heap.size
 gle:C.gsz<=E.w0.heap.size
def RXR(C:Ctx)(E:Ent)(N:Nat)(t:TypeId)(sz:Nat)(F:List FE)(s:St)(bs:Nat->Option Hd)(a:Act)(w:World):Prop:=
 ∃E' B,Ref C E E' B/\RepS C E' N s bs a w/\FamL E'.w0 B t sz F
def reE(E:Ent)(B:Nat->Prop)(w:World)(O:Nat->Option AObj)(bs:Nat->Option Hd):Ent:=⟨w,E.m,E.bs0,mutB O bs,λb=>E.outer b∨B b⟩
section
variable {C:Ctx} {E E':Ent} {B B2:Nat->Prop} {O O2:Nat->Option AObj} {bs bs2:Nat->Option Hd} {w:World}
theorem Ref.self(C:Ctx){E:Ent}{O:Nat->Option AObj}{bs:Nat->Option Hd}{w:World}(h:WRep C E O bs w):Ref C E E λ_=>False:=
 ⟨rfl,rfl,λ_b=>(or_false _).to_iff.symm,lR7 _,λ_ _ _=>rfl,λ_b h=>.inl h,λ_b h=>h.elim,rfl,⟨rfl,λ_=>lR7 _⟩,rfl,h.outlt,h.gle⟩
theorem Ref.heap(hR:Ref C E E' B)(hW:WRep C E' O bs w){b:Nat}(hb:b<E.w0.heap.size)(hm:¬ E.mut0 b):w.heap[b]?=E.w0.heap[b]?:=by
 have h1:¬ E'.mut0 b:=λh=>(hR.mt b h).elim hm (λq=>by omega);rw[hW.keep b (Nat.lt_of_lt_of_le hb hR.size) h1,hR.keep b hb hm]
theorem Ref.fam(hR:Ref C E E' B)(hW:WRep C E' O bs w){b:Nat}(hb:B b):w.heap[b]?=E'.w0.heap[b]?:=
 hW.keep b (hR.own b hb).2.2.1 (hR.own b hb).2.2.2.1
theorem Ref.notmut(hR:Ref C E E' B)(hW:WRep C E' O bs w){b:Nat}(hb:B b):¬ mutB O bs b:=λh=>hW.out b h ((hR.outer b).2 (.inr hb))
theorem Ref.re(hR:Ref C E E' B)(hW:WRep C E' O bs w)
  (hobj:∀r o,O2 r=some o->wdc w (MB (reE E B2 w O2 bs2) O2 bs2) bs2 r o)
  (hsep:∀r r' o o' b c c',O2 r=some o->O2 r'=some o'->o.mut=true->o'.mut=true->bs2 r=some (.blk b c)->bs2 r'=some (.blk b c')->r=r')
  (hdis:∀b,mutB O2 bs2 b->¬ E.outer b/\¬ B2 b)
  (hfrz:∀r t sz n f b c,O2 r=some (.row t sz n f true)->bs2 r=some (.blk b c)->¬ MB (reE E B2 w O2 bs2) O2 bs2 b)
  (hown:∀b,mutB O2 bs2 b∨B2 b->C.gsz<=b/\b<w.heap.size/\(E.mut0 b∨E.w0.heap.size<=b))
  (hB:∀b,B2 b->¬ E.outer b) (hbs:∀r b c,bs2 r=some (.blk b c)->b<w.heap.size) (hpre:∀r h,r<E.m->E.bs0 r=some h->bs2 r=some h):
  WRep C (reE E B2 w O2 bs2) O2 bs2 w/\Ref C E (reE E B2 w O2 bs2) B2:=by
 have hsz:E.w0.heap.size<=w.heap.size:=Nat.le_trans hR.size hW.size;have hhigh:∀b,E.outer b->C.gsz<=b:=λb hb=>hW.high b (.inl ((hR.outer b).2 (.inl hb)));refine⟨?_,?_⟩
 ·exact {
   obj:=hobj
   sep:=hsep
   out:=λb hb h=>h.elim (hdis b hb).1 (hdis b hb).2
   frz:=hfrz
   high:=λb hb=>by
    rcases hb with(hb | hb) | hb
    ·exact hhigh b hb
    ·exact(hown b (.inr hb)).1
    ·exact(hown b (.inl hb)).1
   lt:=hbs
   outlt:=λb hb=>by
    rcases hb with hb | hb
    ·exact Nat.lt_of_lt_of_le (hR.outlt b hb) hsz
    ·exact(hown b (.inr hb)).2.1
   keep:=λ_ _ _=>rfl
   old:=λb hb=>.inl hb
   size:=lR7 _
   pre:=hpre
   os:=rfl
   tape:=⟨rfl,λ_=>lR7 _⟩
   output:=rfl
   laid:=hW.laid
   gle:=Nat.le_trans hR.gle hsz }
 ·exact⟨rfl,rfl,λb=>Iff.rfl,hsz,λb hb hm=>hR.heap hW hb hm,λb hb=>(hown b (.inl hb)).2.2,
   λb hb=>⟨hB b hb,(hown b (.inr hb)).1,(hown b (.inr hb)).2.1,λh=>(hdis b h).2 hb,(hown b (.inr hb)).2.2⟩,
   hW.os.trans hR.os,hW.tape.trans hR.tape,hW.output.trans hR.output,hR.outlt,hR.gle⟩
theorem Ref.ownB(hR:Ref C E E' B)(hW:WRep C E' O bs w){b:Nat}(hb:mutB O bs b):C.gsz<=b/\b<w.heap.size/\(E.mut0 b∨E.w0.heap.size<=b)/\¬ E.outer b/\¬ B b:=by
 have h2:=hW.out b hb;refine⟨hW.high b (.inr hb),?_,?_,λh=>h2 ((hR.outer b).2 (.inl h)),λh=>h2 ((hR.outer b).2 (.inr h))⟩
 ·obtain⟨r,o,c,_,_,h3⟩:=hb;exact hW.lt r b c h3
 ·rcases hW.old b hb with h | h
  ·exact hR.mt b h
  ·exact .inr (Nat.le_trans hR.size h)
end
end Go.Eng
