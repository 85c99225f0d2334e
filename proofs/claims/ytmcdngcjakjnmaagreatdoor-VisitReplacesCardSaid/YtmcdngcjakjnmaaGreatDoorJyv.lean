/- Code run while rows lie outside the state. -/
import Derived.Test.YtmcdngcjakjnmaaGreatDoorJyu
namespace Go.Eng
theorem wjt{α:Type}[DecidableEq α]:∀ {l m:List α},l.Nodup->(∀x∈l,x∈m)->l.length<=m.length
 |[],m,_,_=>zL7 _
 |a::l,m,hn,h=>by
  obtain⟨h1,h2⟩:=List.nodup_cons.1 hn;have ha:=h a List.mem_cons_self;have:=wjt (l:=l) (m:=m.erase a) h2 λx hx=>(List.mem_erase_of_ne (λe=>h1 (by rw[← e];exact hx))).2 (h x (List.mem_cons_of_mem _ hx));rw[List.length_erase_of_mem ha] at this;have:=List.length_pos_of_mem ha;rw[List.length_cons];omega
def lstS(out:List (List UInt8)):List UInt8:=out.getD (out.length - 1) []
def repV(R:List MG)(o:List UInt8)(out:List (List UInt8)):VT:=atX (serL R o (lstS out)) (lasF (serL R o (lstS out)))
def goR(R:List MG)(o:List UInt8)(out:List (List UInt8)):Bool:=decide (lasF (serL R o (lstS out))<(serL R o (lstS out)).length) && (decide ((repV R o out).st=5) && !decide ((repV R o out).rep∈out))
def rpK(R:List MG)(o p:List UInt8):Nat->List (List UInt8)
 |0=>[p]
 |k+1=>bif goR R o (rpK R o p k) then rpK R o p k++[(repV R o (rpK R o p k)).rep] else rpK R o p k
def rplL(R:List MG)(o p:List UInt8):List (List UInt8):=rpK R o p R.length
structure RpK (R:List MG) (o p:List UInt8) (out:List (List UInt8)):Prop where
 nd:out.Nodup
 hd:∃tl,out=p::tl/\∀x∈tl,∃m∈R,m.kind=1/\m.v.st=5/\m.v.rep=x
theorem wfk(R:List MG)(o p:List UInt8):∀k,RpK R o p (rpK R o p k)
 |0=>⟨by simp[rpK],[],rfl,by simp⟩
 |k+1=>by
  have ih:=wfk R o p k;rw[rpK]
  cases hg:goR R o (rpK R o p k) with
  |false=>exact ih
  |true=>
   rw[cond_true];generalize rpK R o p k=out at *;unfold goR at hg;simp only[bA7,decide_eq_true_eq,Bool.not_eq_true',decide_eq_false_iff_not] at hg;obtain⟨h1,h2,h3⟩:=hg;obtain⟨tl,e,ht⟩:=ih.hd;refine⟨?_,tl++[(repV R o out).rep],by rw[e];simp,λx hx=>?_⟩
   ·rw[List.nodup_append];exact⟨ih.nd,by simp,λa ha b hb q=>h3 (by rw[← List.mem_singleton.1 hb, ← q];exact ha)⟩
   ·rcases List.mem_append.1 hx with hx | hx
    ·exact ht x hx
    ·have hm:repV R o out∈serL R o (lstS out):=atX_mem h1;obtain⟨_,_,e3⟩:=wx8.1 hm;obtain⟨m,hm,hk,e4,_⟩:=wpt (R:=R) (s:=vsl (repV R o out)) (by rw[e3]);rw[e3] at e4;have e4:m.v=repV R o out:=e4;exact⟨m,hm,hk,by rw[e4];exact h2,by rw[e4];exact(List.mem_singleton.1 hx).symm⟩
theorem RpK.len{R:List MG}{o p:List UInt8}{out:List (List UInt8)}(h:RpK R o p out):out.length<=R.length+1:=by
 obtain⟨tl,e,ht⟩:=h.hd;have hn:=h.nd;rw[e] at hn ⊢;have:tl.length<=(R.map λm=>m.v.rep).length:=wjt (List.nodup_cons.1 hn).2 λx hx=>by
  obtain⟨m,hm,_,_,rfl⟩:=ht x hx;exact List.mem_map.2 ⟨m,hm,rfl⟩
 rw[List.length_map] at this;rw[List.length_cons];omega
theorem wpq(R:List MG)(o p:List UInt8):∀k,goR R o (rpK R o p k)=true->(rpK R o p k).length=k+1
 |0,_=>rfl
 |k+1,h=>by
  cases hg:goR R o (rpK R o p k) with
  |false=>
   have e:rpK R o p (k+1)=rpK R o p k:=by rw[rpK,hg];rfl
   rw[e,hg] at h;cases h
  |true=>
   have e:rpK R o p (k+1)=rpK R o p k++[(repV R o (rpK R o p k)).rep]:=by rw[rpK,hg];rfl
   rw[e,lA7,wpq R o p k hg];rfl
theorem rpK_lt{R:List MG}{o p:List UInt8}{k:Nat}(h:goR R o (rpK R o p k)=true):k<R.length:=by
 have h1:=(wfk R o p (k+1)).len;have e:rpK R o p (k+1)=rpK R o p k++[(repV R o (rpK R o p k)).rep]:=by rw[rpK,h];rfl
 rw[e,lA7,wpq R o p k h] at h1;simp at h1;omega
theorem ws2{R:List MG}{o p:List UInt8}{k:Nat}(h:goR R o (rpK R o p k)=false):∀d,rpK R o p (k+d)=rpK R o p k
 |0=>rfl
 |d+1=>by
  have ih:=ws2 h d;rw[show k+(d+1)=k+d+1 from rfl,rpK,ih,h];rfl
theorem ws3{R:List MG}{o p:List UInt8}{k:Nat}(hk:k<=R.length)(h:goR R o (rpK R o p k)=false):rpK R o p k=rplL R o p:=by
 have:=ws2 h (R.length - k);rw[show k+(R.length - k)=R.length by omega] at this;exact this.symm
theorem rplL_le{R:List MG}{o p:List UInt8}{A:List (List UInt8)}(hp:p∈A)(h:∀m∈R,m.kind=1->m.v.st=5->m.v.rep∈A):(rplL R o p).length<=A.length:=by
 have hk:=wfk R o p R.length;refine wjt hk.nd λx hx=>?_;obtain⟨tl,e,ht⟩:=hk.hd;have hx:x∈rpK R o p R.length:=hx;rw[e] at hx
 rcases List.mem_cons.1 hx with rfl | hx
 ·exact hp
 ·obtain⟨m,hm,h1,h2,rfl⟩:=ht x hx;exact h m hm h1 h2
theorem rplL_hd(R:List MG)(o p:List UInt8):∃tl,rplL R o p=p::tl:=by
 obtain⟨tl,e,_⟩:=(wfk R o p R.length).hd;exact⟨tl,e⟩
def slC(s:SL):List AV:=[.str s.o,.str s.p,.q s.per]
def wam(g:Nat->SL)(i:Nat):List AV:=[.str (g i).o,.str (g i).p,.q (g i).per]
def slOf(f:Nat->List AV)(i:Nat):SL:=match f i with
 |[.str o,.str p,.int .i64 per]=>⟨o,p,per⟩
 |_=>default
def vtC(v:VT):List AV:=[.str v.o,.str v.p,.q v.per,.q v.day,.q v.st,.q v.pr,.str v.rep]
def waw(g:Nat->VT)(i:Nat):List AV:=[.str (g i).o,.str (g i).p,.q (g i).per,.q (g i).day,.q (g i).st,.q (g i).pr,.str (g i).rep]
def vtOf(f:Nat->List AV)(i:Nat):VT:=match f i with
 |[.str o,.str p,.int .i64 per,.int .i64 day,.int .i64 st,.int .i64 pr,.str rep]=>⟨o,p,per,day,st,pr,rep⟩
 |_=>default
def wgy:Spec
 |[.agg [.str dev,.int .i64 seq,.int .i64 kind,.str o,.str p,.int .i64 per,.int .i64 day,.int .i64 st,.int .i64 pr,.str rep,.str o',.str p',.int .i64 per',.str dev',.int .i64 num]],[]=>
   some (.agg [.str (whr ⟨dev,seq,kind,⟨o,p,per,day,st,pr,rep⟩,⟨o',p',per',dev',num⟩⟩).o,.str (whr ⟨dev,seq,kind,⟨o,p,per,day,st,pr,rep⟩,⟨o',p',per',dev',num⟩⟩).p,.q (whr ⟨dev,seq,kind,⟨o,p,per,day,st,pr,rep⟩,⟨o',p',per',dev',num⟩⟩).per],[],True)
 |_,_=>none
def wha:Spec
 |[.agg [.str _,.int .i64 _,.int .i64 kind,.str _,.str _,.int .i64 _,.int .i64 _,.int .i64 _,.int .i64 _,.str _,.str _,.str _,.int .i64 _,.str _,.int .i64 _]],[]=>some (.bool (decide (kind=1)),[],True)
 |_,_=>none
def wm2:Spec
 |[.view 15 n f,.func 78 []],[]=>some (.q (ixB (λi=>isV (mgOf f i)) n),[],n<=1000000/\f=waa (mgOf f))
 |_,_=>none
def wm1(g:Nat->MG)(n k:Nat):St:=⟨[(0,.view 15 n (waa g)),(1,.func 78 []),(7,.q n),(8,.q k)],[],0,[]⟩
def woz(g:Nat->MG)(n:Nat):wan:=λst Q=>canonIs te 0 [0,1,7,8] st (wm1 g n 0)/\n<=1000000/\
 wab (decide (fstB (λi=>isV (g i)) n<n)) (Q .ret ⟨[(4,.q (fstB (λi=>isV (g i)) n))],[],0,[]⟩) (Q (.exit 0) ⟨[],[],0,[]⟩)
def wnm:Spec
 |[.view 15 n f,.func 78 []],[]=>some (.bool (decide (0<=ixB (λi=>isV (mgOf f i)) n)),[],n<=1000000/\f=waa (mgOf f))
 |_,_=>none
def wg1:Spec
 |[.agg [.str o,.str p,.int .i64 per],.agg [.str o',.str p',.int .i64 per']],[]=>some (.q (ordS ⟨o,p,per⟩ ⟨o',p',per'⟩),[],True)
 |_,_=>none
def whj:wde
 |[.own 0 n,.func 42 []],[.row t 3 m f fr],R=>t=78/\fr=false/\n=m/\n<=1000000/\f=wam (slOf f)/\
   ∀h:Nat->SL,(lst h n).Perm (lst (slOf f) n)->(∀i j,i<j->j<n->¬ ordS (h j) (h i)<0)->R (.tuple []) [(0,.row 78 3 n (wam h) false)]
 |_,_,_=>False
def wfd:Spec
 |[.agg [.str o,.str p,.int .i64 per,.int .i64 day,.int .i64 st,.int .i64 pr,.str rep]],[]=>some (.bool (finB ⟨o,p,per,day,st,pr,rep⟩),[],True)
 |_,_=>none
def wmx:Spec
 |[.view 7 n f,.func 40 []],[]=>some (.q (ixB (λi=>finB (vtOf f i)) n),[],n<=1000000/\f=waw (vtOf f))
 |_,_=>none
def wmw(g:Nat->VT)(n k:Nat):St:=⟨[(0,.view 7 n (waw g)),(1,.func 40 []),(7,.q n),(8,.q k)],[],0,[]⟩
def wov(g:Nat->VT)(n:Nat):wan:=λst Q=>canonIs te 0 [0,1,7,8] st (wmw g n 0)/\n<=1000000/\
 wab (decide (fstB (λi=>finB (g i)) n<n)) (Q .ret ⟨[(4,.q (fstB (λi=>finB (g i)) n))],[],0,[]⟩) (Q (.exit 0) ⟨[],[],0,[]⟩)
def S_cn(M:List MG)(k:Nat):St:=⟨[(4,.map 0),(5,.own 1 (clnP M k).length),(13,.own 2 M.length),(14,.q M.length),(15,.q k)],
 [(0,.amap (entM (cntL (atM M) M.length))),(1,.row 103 2 (clnP M k).length (wce (atK (clnP M k))) false),(2,.row 47 15 M.length (waa (atM M)) false)],3,[]⟩
def L_cn(M:List MG):wan:=λst Q=>canonIs te 0 [4,5,13,14,15] (ownNil 5 103 2 st) (S_cn M 0)/\M.length<=100000/\
 Q (.exit 0) ⟨[(5,.own 0 (clnP M M.length).length)],[(0,.row 103 2 (clnP M M.length).length (wce (atK (clnP M M.length))) false)],1,[]⟩
def wnl:Spec
 |[.view 15 n f],[]=>some (.view 2 (wb8 (mgOf f) n).length (wce (atK (wb8 (mgOf f) n))),[],n<=100000/\f=waa (mgOf f)/\∀i,i<n->(mgOf f i).Sm)
 |_,_=>none
end Go.Eng
namespace Go.Eng
open Go.RowKit
def allP{α:Type}(p:α->Prop):List α->Prop
 |[]=>True
 |[x]=>p x
 |x::l=>p x/\allP p l
theorem wwq{α:Type}{p:α->Prop}:∀ {l:List α},allP p l->∀x∈l,p x
 |[],_,x,hx=>by cases hx
 |[y],h,x,hx=>by obtain rfl:=List.mem_singleton.1 hx;exact h
 |y::z::l,h,x,hx=>by
  obtain⟨h1,h2⟩:=h
  rcases List.mem_cons.1 hx with rfl | hx
  ·exact h1
  ·exact wwq h2 x hx
def wfz(done:List Nat):List Edge->Bool
 |[]=>true
 |e::l=>match Region.binds .any e with
  |true=>match hasN done e.on with
   |true=>wfz done l
   |false=>false
  |false=>wfz done l
def rdyL(done:List Nat):Nat->List Oper->List (Nat×Oper)
 |_,[]=>[]
 |i,o::l=>match hasN done i with
  |true=>rdyL done (i+1) l
  |false=>match wfz done o.after.toList with
   |true=>(i,o)::rdyL done (i+1) l
   |false=>rdyL done (i+1) l
theorem wrh{done:List Nat}:∀ {l:List Edge},wfz done l=true↔∀e∈l,Region.binds .any e=true->e.on∈done
 |[]=>by simp[wfz]
 |e::l=>by
  unfold wfz;have ih:=wrh (done:=done) (l:=l)
  cases hb:Region.binds .any e with
  |true=>
   cases hh:hasN done e.on with
   |true=>
    dsimp only
    rw[ih]
    constructor
    ·intro h e' he hb'
     rcases List.mem_cons.1 he with rfl | he
     ·exact(wbh _ _).1 hh
     ·exact h e' he hb'
    ·exact λh e' he hb'=>h e' (List.mem_cons_of_mem _ he) hb'
   |false=>
    dsimp only
    refine⟨λh=>(by cases h),λh=>?_⟩;rw[(wbh _ _).2 (h e (List.mem_cons_self ..) hb)] at hh;cases hh
  |false=>
   dsimp only
   rw[ih]
   constructor
   ·intro h e' he hb'
    rcases List.mem_cons.1 he with rfl | he
    ·rw[hb] at hb';cases hb'
    ·exact h e' he hb'
   ·exact λh e' he hb'=>h e' (List.mem_cons_of_mem _ he) hb'
theorem wjm{done:List Nat}:∀ {l:List Oper} {j i:Nat} {o:Oper},(i,o)∈rdyL done j l↔∃i',i=j+i'/\l[i']?=some o/\i ∉ done/\∀e∈o.after.toList,Region.binds .any e=true->e.on∈done
 |[],j,i,o=>by simp[rdyL]
 |o'::l,j,i,o=>by
  have ih:=wjm (done:=done) (l:=l) (j:=j+1) (i:=i) (o:=o);have tail:(∃i',i=j+1+i'/\l[i']?=some o/\i ∉ done/\∀e∈o.after.toList,Region.binds .any e=true->e.on∈done)->∃i',i=j+i'/\(o'::l)[i']?=some o/\i ∉ done/\∀e∈o.after.toList,Region.binds .any e=true->e.on∈done:=by
   rintro⟨i',h1,h2,h3⟩;exact⟨i'+1,by omega,by simpa using h2,h3⟩
  have back:(∃i',i=j+i'/\(o'::l)[i']?=some o/\i ∉ done/\∀e∈o.after.toList,Region.binds .any e=true->e.on∈done)->(i=j/\o=o'/\j ∉ done/\∀e∈o'.after.toList,Region.binds .any e=true->e.on∈done)∨∃i',i=j+1+i'/\l[i']?=some o/\i ∉ done/\∀e∈o.after.toList,Region.binds .any e=true->e.on∈done:=by
   rintro⟨i',h1,h2,h3,h4⟩
   cases i' with
   |zero=>
    simp only[List.getElem?_cons_zero,sI7] at h2;subst h2;obtain rfl:i=j:=by omega
    exact .inl ⟨rfl,rfl,h3,h4⟩
   |succ i'=>exact .inr ⟨i',by omega,by simpa using h2,h3,h4⟩
  unfold rdyL
  cases hh:hasN done j with
  |true=>
   dsimp only
   rw[ih];refine⟨tail,λh=>?_⟩
   rcases back h with⟨_,_,h3,_⟩ | h
   ·exact absurd ((wbh _ _).1 hh) h3
   ·exact h
  |false=>
   cases hd:wfz done o'.after.toList with
   |true=>
    dsimp only
    rw[List.mem_cons,ih,pI7]
    constructor
    ·rintro(⟨rfl,rfl⟩ | h)
     ·refine⟨0,rfl,rfl,λq=>?_,wrh.1 hd⟩;rw[(wbh _ _).2 q] at hh;cases hh
     ·exact tail h
    ·intro h
     rcases back h with⟨h1,h2,_⟩ | h
     ·exact .inl ⟨h1,h2⟩
     ·exact .inr h
   |false=>
    dsimp only
    rw[ih];refine⟨tail,λh=>?_⟩
    rcases back h with⟨_,_,_,h4⟩ | h
    ·rw[wrh.2 h4] at hd;cases hd
    ·exact h
def wd6(G:Env)(opl:List Oper)(Q:St->Prop):Nat->List Nat->KT
 |0,done,T,O,nx=>match rdyL done 0 opl with
  |[]=>Q ⟨T,O,nx,[]⟩
  |_::_=>False
 |fuel+1,done,T,O,nx=>match rdyL done 0 opl with
  |[]=>Q ⟨T,O,nx,[]⟩
  |p0::l=>allP (λp:Nat×Oper=>match p.2.guard with
   |none=>wp1 G p.2 T O nx (wd6 G opl Q fuel (p.1::done))
   |some _=>False) (p0::l)
def onlyN(K:St->Prop)(Q:Exit->St->Prop):Exit->St->Prop
 |.normal,s=>K s
 |e,s=>Q e s
theorem wp_both{P:Program}{o:Oper}{a:Act}{w:World}{K K':Act->World->Prop}{Q Q':Exit->Act->World->Prop}(h:∀a w,K a w->K' a w)(hq:∀e a w,e≠ .normal->Q e a w->Q' e a w)(hh:o.wp P a w K Q):o.wp P a w K' Q':=by
 unfold Oper.wp at *;generalize (execOp a.eval o).run P w=r at *
 cases r with
 |ok n w'=>
   cases n<;>simp only[Oper.upon] at hh ⊢ <;>
     first
       |exact h _ _ hh
       |exact hh.elim
       |exact Calls.mono hh (λe w'' he=>by
           cases e with
           |returned v=>exact h _ _ he
           |panicked c=>exact hq _ _ _ (by simp) he
           |outgrown=>obtain⟨a',w3,h3⟩:=he;exact⟨a',w3,hq _ _ _ (by simp) h3⟩)
       |exact Rows.mono hh (λ_ _ he=>h _ _ he)
 |halt x w'=>cases x<;>simp only[Oper.upon] at hh ⊢ <;>first | exact hq _ _ _ (by simp) hh | exact hh.elim
theorem wjl{opl:List Oper}{done:List Nat}{listed:Array Bool}(hsz:listed.size=opl.length)(hl:∀i,listed.getD i false=true↔i∈done)(i:Nat):i∈Region.ready .any opl.toArray listed↔∃o,opl[i]?=some o/\(i,o)∈rdyL done 0 opl:=by
 rw[mem_ready];have e:∀o,opl[i]?=some o->(listed.getD i true=false↔i ∉ done):=λo ho=>by
  have hi:i<listed.size:=by rw[hsz];exact(List.getElem?_eq_some_iff.1 ho).1
  rw[wkn hi true false, ← hl]
  cases listed.getD i false<;>simp
 constructor
 ·rintro⟨h0,o,ho,h⟩;have ho:opl[i]?=some o:=by simpa using ho
  exact⟨o,ho,wjm.2 ⟨i,by omega,ho,(e o ho).1 h0,λx hx hb=>(hl _).1 (h x (by simpa using hx) hb)⟩⟩
 ·rintro⟨o,ho,h⟩;obtain⟨i',h1,h2,h3,h4⟩:=wjm.1 h;exact⟨(e o ho).2 h3,o,by simpa using ho,λx hx hb=>(hl _).2 (h4 x (by simpa using hx) hb)⟩
theorem wr0{C:Ctx}{G:Env}(hG:EnvOK C G){m:Nat}{opl:List Oper}{Q:Exit->St->Prop}{E:Ent}(hE:E.m=m):∀(fuel:Nat) (done:List Nat) (listed:Array Bool) (T:List (Nat×AV)) (O:List (Nat×AObj)) (nx:Nat) (bs:Nat->Option Hd) (a:Act) (w:World),
  listed.size=opl.length->(∀i,listed.getD i false=true↔i∈done)->wd6 G opl (Q .normal) fuel done T O nx->RepS C E G.N ⟨T,O,nx,[]⟩ bs a w->wpAny C.P .any opl.toArray (QC C E G.N Q) fuel listed a w
 |0,done,listed,T,O,nx,bs,a,w,hsz,hl,h,hr=>by
  unfold wd6 at h;unfold wpAny;split at h
  ·rename_i hr0;refine⟨List.eq_nil_iff_forall_not_mem.2 λi hi=>?_,_,bs,h,hr⟩;obtain⟨o,_,ho⟩:=(wjl hsz hl i).1 hi;rw[hr0] at ho;cases ho
  ·exact h.elim
 |fuel+1,done,listed,T,O,nx,bs,a,w,hsz,hl,h,hr=>by
  unfold wd6 at h;unfold wpAny;split at h
  ·rename_i hr0;refine⟨λ_=>⟨_,bs,h,hr⟩,λi hi=>?_⟩;obtain⟨o,_,ho⟩:=(wjl hsz hl i).1 hi;rw[hr0] at ho;cases ho
  ·rename_i p0 l hr0;refine⟨λq=>?_,λi hi=>?_⟩
   ·obtain⟨i0,o0⟩:=p0;have hm:(i0,o0)∈rdyL done 0 opl:=by rw[hr0];exact List.mem_cons_self ..
    obtain⟨i',h1,h2,_⟩:=wjm.1 hm;obtain rfl:i0=i':=by omega
    have:=(wjl hsz hl i0).2 ⟨o0,h2,hm⟩;rw[q] at this;cases this
   obtain⟨o,ho,hm⟩:=(wjl hsz hl i).1 hi;rw[hr0] at hm;have hp:=wwq h _ hm;dsimp only at hp;have hilt:i<listed.size:=by rw[hsz];exact(List.getElem?_eq_some_iff.1 ho).1
   have hsz':(listed.setIfInBounds i true).size=opl.length:=by simp[hsz]
   have hl':∀j,(listed.setIfInBounds i true).getD j false=true↔j∈i::done:=λj=>by
    by_cases e:i=j
    ·subst e;simp[Array.getD,hilt]
    ·rw[getD_set_ne _ e,hl,List.mem_cons];exact⟨.inr,λh=>h.resolve_left λq=>e q.symm⟩
   split at hp
   ·rename_i hg;have:=wpd (m:=m) (ops:=opl.toArray) (rest:=[]) (Q:=onlyN (λs=>wd6 G opl (Q .normal) fuel (i::done) s.T s.O s.nx) Q) hG hg hp (λT' O' nx' hK=>by
     intro E' hE' bs' a' w' hr';exact⟨⟨T',O',nx',[]⟩,bs',hK,hr'⟩) E hE bs a w hr
    have fin:∀a' w',QC C E G.N (onlyN (λs=>wd6 G opl (Q .normal) fuel (i::done) s.T s.O s.nx) Q) .normal a' w'->wpAny C.P .any opl.toArray (QC C E G.N Q) fuel (listed.setIfInBounds i true) a' w':=by
     rintro a' w' ⟨⟨T',O',nx',d'⟩,bs',hK,hr'⟩;exact wr0 hG hE fuel _ _ T' O' nx' bs' a' w' hsz' hl' hK hr'
    have other:∀e a' w',e≠Exit.normal->QC C E G.N (onlyN (λs=>wd6 G opl (Q .normal) fuel (i::done) s.T s.O s.nx) Q) e a' w'->QC C E G.N Q e a' w':=by
     rintro e a' w' hne ⟨s,bs',hs,hr'⟩;refine⟨s,bs',?_,hr'⟩
     cases e with
     |normal=>exact absurd rfl hne
     |_=>exact hs
    unfold wpOp;have ho':opl.toArray[i]?=some o:=by simpa using ho
    rw[ho'];unfold wpList at this;dsimp only
    split
    ·rename_i hw;rw[if_pos hw] at this
     rcases this with h | ⟨h1,a',w',h2⟩
     ·exact .inl (wp_both fin other h)
     ·exact .inr ⟨h1,a',w',other _ _ _ (by simp) h2⟩
    ·rename_i hw;rw[if_neg hw] at this;exact fin _ _ this
   ·exact hp.elim
theorem AWP.each{C:Ctx}{G:Env}(hG:EnvOK C G){m id:Nat}{opl:List Oper}{Q:Exit->St->Prop}{T0:List (Nat×AV)}{O0:List (Nat×AObj)}{nx:Nat}{dec:List Nat}
  (h:wd6 G opl (Q .normal) opl.length [] T0 O0 nx):AWP C m G.N (.region id opl.toArray true) Q ⟨T0,O0,nx,dec⟩:=by
 intro E hE bs a w hr;have hS:Step w (MB E (lk O0) bs) bs { w with drawn:=w.drawn+1 } (MB E (lk O0) bs) bs/\WRep C E (lk O0) bs { w with drawn:=w.drawn+1 }:=by
  refine hr.1.2.next (λ_=>False) (λ_ _ h=>h) (λ_ _ _ h=>.inl h) (λ_ h=>h.elim) (λ_ _ _=>rfl) (lR7 _) (λ_ h=>.inl h) (λ_ _ _ h=>.inl ⟨h,λ_ _ _ h=>h⟩) hr.1.2.sep ?_ rfl ⟨rfl,λ_=>Nat.le_succ _⟩ rfl;intro r t sz n f b c ho hb;have:=hr.1.2.frz r t sz n f b c ho hb;exact⟨λh=>this (.inr h),λh=>this (.inl h)⟩
 exact wp_region_any C.mixed (wr0 hG hE _ [] _ T0 O0 nx bs a _ (by simp) (λi=>by simp[Array.getD]) (by simpa using h) ⟨⟨hr.1.1.step hS.1,hS.2⟩,hr.2.1,hr.2.2⟩)
def regE(G:Env)(x:Code)(Fe:List Nat)(Q:Exit->St->Prop)(s:St):Prop:=match x with
 |.region _ ops true=>wd6 G ops.toList (Eng.canQ G.te G.m Fe [] Q .normal) ops.toList.length [] s.T s.O s.nx
 |_=>False
theorem waf.regE{C:Ctx}{te:TE}(hte:Prg C te){m N:Nat}{x:Code}{s S:St}{Q:Exit->St->Prop}(calls:List (Nat×CSpec))(fuel:Nat)(hc:wcj C calls)(F Fe:List Nat)
  (h0:canonIs te m F s S) (h:Eng.regE ⟨te,calls,[],m,N,fuel⟩ x Fe Q S) (hS:wbu S.O True):AWP C m N x Q s:=by
 have hG:EnvOK C ⟨te,calls,[],m,N,fuel⟩:=⟨hte.ok,hte.one,hc⟩;have h1:AWP C m N x (Eng.canQ te m Fe [] Q) S:=by
  unfold Eng.regE at h;split at h
  ·rename_i id ops;have:=AWP.each (m:=m) (id:=id) (dec:=S.dec) hG h;simpa using this
  ·exact h.elim
 exact AWP.canonIs F h0 h1.canQ hS
end Go.Eng
namespace Go.Eng
abbrev FE:=Value×Nat×(Nat->List AV)
def blkV:Value->Option Nat
 |.slice (some ad) _ _=>some ad.block
 |_=>none
structure FRow (w:World) (t:TypeId) (sz:Nat) (x:FE) (b c:Nat) (vs:Array Value):Prop where
 val:x.1= .slice (some ⟨b,0,none⟩) x.2.1 c
 heap:w.heap[b]?=some (.cells vs t (0,0))
 le:x.2.1<=c
 max:c<=maxLen
 size:vs.size=c * sz
 len:∀i,i<x.2.1->(x.2.2 i).length=sz
 one:∀i,i<x.2.1->∀j,j<sz->∀v:Value,vs[i * sz+j]?=some v->v.oneCell'=true
 vals:∀i,i<x.2.1->∀(j:Nat) v u,j<sz->vs[i * sz+j]?=some v->(x.2.2 i)[j]?=some u->∀(w':World) (M:Nat->Prop) (bs:Nat->Option Hd),V w' M bs v u
structure FamL (w:World) (B:Nat->Prop) (t:TypeId) (sz:Nat) (F:List FE):Prop where
 row:∀(i:Nat) x,F[i]?=some x->∃b c vs,FRow w t sz x b c vs/\B b
 sep:∀(i j:Nat) x y b,F[i]?=some x->F[j]?=some y->blkV x.1=some b->blkV y.1=some b->i=j
structure Ref (C:Ctx) (E E':Ent) (B:Nat->Prop):Prop where
 m:E'.m=E.m
 bs0:E'.bs0=E.bs0
 outer:∀b,E'.outer b↔E.outer b∨B b
 size:E.w0.heap.size<=E'.w0.heap.size
 keep:∀b,b<E.w0.heap.size->¬ E.mut0 b->E'.w0.heap[b]?=E.w0.heap[b]?
 mt:∀b,E'.mut0 b->E.mut0 b∨E.w0.heap.size<=b
 own:∀b,B b->¬ E.outer b/\C.gsz<=b/\b<E'.w0.heap.size/\¬ E'.mut0 b/\(E.mut0 b∨E.w0.heap.size<=b)
 os:E'.w0.os=E.w0.os
 tape:TL C.cnt E'.w0 E.w0
 output:E'.w0.output=E.w0.output
 outlt:∀b,E.outer b->b<E.w0.heap.size
 gle:C.gsz<=E.w0.heap.size
def RXR(C:Ctx)(E:Ent)(N:Nat)(t:TypeId)(sz:Nat)(F:List FE)(s:St)(bs:Nat->Option Hd)(a:Act)(w:World):Prop:=
 ∃E' B,Ref C E E' B/\RepS C E' N s bs a w/\FamL E'.w0 B t sz F
def reE(E:Ent)(B:Nat->Prop)(w:World)(O:Nat->Option AObj)(bs:Nat->Option Hd):Ent:=⟨w,E.m,E.bs0,mutB O bs,λb=>E.outer b∨B b⟩
section
variable {C:Ctx} {E E':Ent} {B B2:Nat->Prop} {O O2:Nat->Option AObj} {bs bs2:Nat->Option Hd} {w:World}
theorem Ref.self(C:Ctx){E:Ent}{O:Nat->Option AObj}{bs:Nat->Option Hd}{w:World}(h:WRep C E O bs w):Ref C E E λ_=>False:=
 ⟨rfl,rfl,λ_b=>(or_false _).to_iff.symm,lR7 _,λ_ _ _=>rfl,λ_b h=>.inl h,λ_b h=>h.elim,rfl,⟨rfl,λ_=>lR7 _⟩,rfl,h.outlt,h.gle⟩
theorem Ref.heap(hR:Ref C E E' B)(hW:WRep C E' O bs w){b:Nat}(hb:b<E.w0.heap.size)(hm:¬ E.mut0 b):w.heap[b]?=E.w0.heap[b]?:=by
 have h1:¬ E'.mut0 b:=λh=>(hR.mt b h).elim hm (λq=>by omega);rw[hW.keep b (Nat.lt_of_lt_of_le hb hR.size) h1,hR.keep b hb hm]
theorem Ref.fam(hR:Ref C E E' B)(hW:WRep C E' O bs w){b:Nat}(hb:B b):w.heap[b]?=E'.w0.heap[b]?:=
 hW.keep b (hR.own b hb).2.2.1 (hR.own b hb).2.2.2.1
theorem Ref.notmut(hR:Ref C E E' B)(hW:WRep C E' O bs w){b:Nat}(hb:B b):¬ mutB O bs b:=λh=>hW.out b h ((hR.outer b).2 (.inr hb))
theorem Ref.re(hR:Ref C E E' B)(hW:WRep C E' O bs w)
  (hobj:∀r o,O2 r=some o->wc7 w (MB (reE E B2 w O2 bs2) O2 bs2) bs2 r o)
  (hsep:∀r r' o o' b c c',O2 r=some o->O2 r'=some o'->o.mut=true->o'.mut=true->bs2 r=some (.blk b c)->bs2 r'=some (.blk b c')->r=r')
  (hdis:∀b,mutB O2 bs2 b->¬ E.outer b/\¬ B2 b)
  (hfrz:∀r t sz n f b c,O2 r=some (.row t sz n f true)->bs2 r=some (.blk b c)->¬ MB (reE E B2 w O2 bs2) O2 bs2 b)
  (hown:∀b,mutB O2 bs2 b∨B2 b->C.gsz<=b/\b<w.heap.size/\(E.mut0 b∨E.w0.heap.size<=b))
  (hB:∀b,B2 b->¬ E.outer b) (hbs:∀r b c,bs2 r=some (.blk b c)->b<w.heap.size) (hpre:∀r h,r<E.m->E.bs0 r=some h->bs2 r=some h):
  WRep C (reE E B2 w O2 bs2) O2 bs2 w/\Ref C E (reE E B2 w O2 bs2) B2:=by
 have hsz:E.w0.heap.size<=w.heap.size:=Nat.le_trans hR.size hW.size;have hhigh:∀b,E.outer b->C.gsz<=b:=λb hb=>hW.high b (.inl ((hR.outer b).2 (.inl hb)));refine⟨?_,?_⟩
 ·exact {
   obj:=hobj
   sep:=hsep
   out:=λb hb h=>h.elim (hdis b hb).1 (hdis b hb).2
   frz:=hfrz
   high:=λb hb=>by
    rcases hb with(hb | hb) | hb
    ·exact hhigh b hb
    ·exact(hown b (.inr hb)).1
    ·exact(hown b (.inl hb)).1
   lt:=hbs
   outlt:=λb hb=>by
    rcases hb with hb | hb
    ·exact Nat.lt_of_lt_of_le (hR.outlt b hb) hsz
    ·exact(hown b (.inr hb)).2.1
   keep:=λ_ _ _=>rfl
   old:=λb hb=>.inl hb
   size:=lR7 _
   pre:=hpre
   os:=rfl
   tape:=⟨rfl,λ_=>lR7 _⟩
   output:=rfl
   laid:=hW.laid
   gle:=Nat.le_trans hR.gle hsz }
 ·exact⟨rfl,rfl,λb=>Iff.rfl,hsz,λb hb hm=>hR.heap hW hb hm,λb hb=>(hown b (.inl hb)).2.2,
   λb hb=>⟨hB b hb,(hown b (.inr hb)).1,(hown b (.inr hb)).2.1,λh=>(hdis b h).2 hb,(hown b (.inr hb)).2.2⟩,
   hW.os.trans hR.os,hW.tape.trans hR.tape,hW.output.trans hR.output,hR.outlt,hR.gle⟩
theorem Ref.ownB(hR:Ref C E E' B)(hW:WRep C E' O bs w){b:Nat}(hb:mutB O bs b):C.gsz<=b/\b<w.heap.size/\(E.mut0 b∨E.w0.heap.size<=b)/\¬ E.outer b/\¬ B b:=by
 have h2:=hW.out b hb;refine⟨hW.high b (.inr hb),?_,?_,λh=>h2 ((hR.outer b).2 (.inl h)),λh=>h2 ((hR.outer b).2 (.inr h))⟩
 ·obtain⟨r,o,c,_,_,h3⟩:=hb;exact hW.lt r b c h3
 ·rcases hW.old b hb with h | h
  ·exact hR.mt b h
  ·exact .inr (Nat.le_trans hR.size h)
end
def flatA:AV->Bool
 |.any=>true
 |.bool _=>true
 |.int _ _=>true
 |.str _=>true
 |_=>false
def flatL(l:List AV):Bool:=l.all flatA
theorem V.flat{w w':World}{M M':Nat->Prop}{bs bs':Nat->Option Hd}{v:Value}{u:AV}(h:V w M bs v u)(hf:flatA u=true):V w' M' bs' v u:=by
 cases u with
 |any=>exact .any
 |bool b=>cases h;exact .bool
 |int k n=>cases h;exact .int
 |str s=>cases h with | str h=>exact .str h
 |_=>cases hf
theorem w4t{l:List AV}(h:flatL l=true){j:Nat}{u:AV}(hj:l[j]?=some u):flatA u=true:=List.all_eq_true.1 h u (List.mem_of_getElem? hj)
section
variable {C:Ctx} {E:Ent} {N:Nat} {t:TypeId} {sz:Nat} {s:St} {bs:Nat->Option Hd} {a:Act} {w:World}
theorem RXR.start(t:TypeId)(sz:Nat)(h:RepS C E N s bs a w):RXR C E N t sz [] s bs a w:=
 ⟨E,λ_=>False,Ref.self C h.1.2,h,⟨λi x hx=>by simp at hx,λi j x y b hx=>by simp at hx⟩⟩
theorem FRow.move{w w':World}{t:TypeId}{sz:Nat}{x:FE}{b c:Nat}{vs:Array Value}(h:FRow w t sz x b c vs)(he:w'.heap[b]?=w.heap[b]?):FRow w' t sz x b c vs:=
 ⟨h.val,he.trans h.heap,h.le,h.max,h.size,h.len,h.one,h.vals⟩
theorem FRow.blk{w:World}{t:TypeId}{sz:Nat}{x:FE}{b c:Nat}{vs:Array Value}(h:FRow w t sz x b c vs):blkV x.1=some b:=by rw[h.val];rfl
theorem FRow.obj{w:World}{t:TypeId}{sz:Nat}{x:FE}{b c:Nat}{vs:Array Value}(h:FRow w t sz x b c vs){M:Nat->Prop}{bs:Nat->Option Hd}{r:Nat}(hb:bs r=some (.blk b c)):wc7 w M bs r (.row t sz x.2.1 x.2.2 false):=
 .inr ⟨b,c,vs,hb,h.heap,h.le,h.max,h.size,h.len,h.one,λi hi j v u hj hv hu=>h.vals i hi j v u hj hv hu w M bs⟩
theorem wq0{α:Type}{F1 F2:List α}{x y:α}{i:Nat}(h:(F1++F2)[i]?=some y):∃k,(F1++x::F2)[k]?=some y/\k≠F1.length/\(i=if k<F1.length then k else k - 1):=by
 by_cases q:i<F1.length
 ·rw[List.getElem?_append_left q] at h;exact⟨i,by rw[List.getElem?_append_left q];exact h,by omega,by rw[if_pos q]⟩
 ·rw[List.getElem?_append_right (by omega)] at h;refine⟨i+1,?_,by omega,by rw[if_neg (by omega)];rfl⟩;rw[List.getElem?_append_right (by omega),show i+1 - F1.length=(i - F1.length)+1 by omega,List.getElem?_cons_succ];exact h
theorem wkk{α:Type}{F1 F2:List α}{x y:α}{i:Nat}(h:(F1++x::F2)[i]?=some y)(hi:i≠F1.length):∃k,(F1++F2)[k]?=some y/\(i=if k<F1.length then k else k+1):=by
 by_cases q:i<F1.length
 ·rw[List.getElem?_append_left q] at h;exact⟨i,by rw[List.getElem?_append_left q];exact h,by rw[if_pos q]⟩
 ·rw[List.getElem?_append_right (by omega),show i - F1.length=(i - 1 - F1.length)+1 by omega,List.getElem?_cons_succ] at h;refine⟨i - 1,by rw[List.getElem?_append_right (by omega)];exact h,by rw[if_neg (by omega)];omega⟩
theorem RXR.focus{F1 F2:List FE}{x:FE}(h:RXR C E N t sz (F1++x::F2) s bs a w){r:Nat}{es:List (AV×Value)}{j i0:Nat}(hO:lk s.O r=some (.rmap es j none))(he:∀p,es[i0]?=some p->p.2=x.1):
  ∃bs',RXR C E N t sz (F1++F2) ⟨s.T,(r,.rmap es i0 (some (.own s.nx x.2.1)))::(s.nx,.row t sz x.2.1 x.2.2 false)::rm r s.O,s.nx+1,[]⟩ bs' a w:=by
 obtain⟨E',B,hR,⟨⟨hF,hW⟩,hnx,hm⟩,hFam⟩:=h;obtain⟨b0,c0,vs,hrow,hB0⟩:=hFam.row F1.length x (by rw[List.getElem?_append_right (lR7 _),Nat.sub_self];rfl);have hnew:=hnx s.nx (lR7 _);have hrn:r≠s.nx:=λe=>by rw[e,hnew.1] at hO;cases hO
 have hrow':FRow w t sz x b0 c0 vs:=hrow.move (hR.fam hW hB0)
 let bs2:Nat->Option Hd:=up bs s.nx (.blk b0 c0)
 let O2:Nat->Option AObj:=lk ((r,.rmap es i0 (some (.own s.nx x.2.1)))::(s.nx,.row t sz x.2.1 x.2.2 false)::rm r s.O)
 have hO2:∀k o,O2 k=some o->(k=r/\o= .rmap es i0 (some (.own s.nx x.2.1)))∨(k=s.nx/\o= .row t sz x.2.1 x.2.2 false)∨(k≠r/\k≠s.nx/\lk s.O k=some o):=λk o ho=>by
  have ho:lk ((r,.rmap es i0 (some (.own s.nx x.2.1)))::(s.nx,.row t sz x.2.1 x.2.2 false)::rm r s.O) k=some o:=ho;rw[way,way] at ho;split at ho
  ·rename_i e;exact .inl ⟨e.symm,(oJ7 ho).symm⟩
  ·rename_i e;split at ho
   ·rename_i e2;exact .inr (.inl ⟨e2.symm,(oJ7 ho).symm⟩)
   ·rename_i e2;have:=(wda r s.O k o ho);exact .inr (.inr ⟨λq=>e q.symm,λq=>e2 q.symm,this.2⟩)
 have hbs2:∀k,k≠s.nx->bs2 k=bs k:=λk hk=>wao _ _ _ (λe=>hk e.symm);have hbsn:bs2 s.nx=some (.blk b0 c0):=war _ _ _;have hmem:∀k o b c,O2 k=some o->o.mut=true->bs2 k=some (.blk b c)->(k=s.nx/\b=b0)∨(k≠s.nx/\∃o',lk s.O k=some o'/\o'.mut=true/\bs k=some (.blk b c)):=λk o b c ho hmu hb=>by
  rcases hO2 k o ho with⟨rfl,rfl⟩ | ⟨rfl,rfl⟩ | ⟨h1,h2,h3⟩
  ·exact .inr ⟨hrn,_,hO,rfl,by rw[← hbs2 k hrn];exact hb⟩
  ·rw[hbsn] at hb;injection hb with hb;injection hb with hb _;exact .inl ⟨rfl,hb.symm⟩
  ·exact .inr ⟨h2,o,h3,hmu,by rw[← hbs2 k h2];exact hb⟩
 have hmut:∀b,mutB O2 bs2 b->mutB (lk s.O) bs b∨b=b0:=λb ⟨k,o,c,h1,h2,h3⟩=>by
  rcases hmem k o b c h1 h2 h3 with⟨_,e⟩ | ⟨_,o',q1,q2,q3⟩
  ·exact .inr e
  ·exact .inl ⟨k,o',c,q1,q2,q3⟩
 have h0:=hR.own b0 hB0;have h0n:=hR.notmut hW hB0;have hS:Step w (MB E' (lk s.O) bs) bs w (MB (reE E (λb=>B b/\b≠b0) w O2 bs2) O2 bs2) bs2:=by
  refine⟨λk hd hk=>?_,λb _ hM=>?_,λ_ _ _=>rfl,lR7 _⟩
  ·have:k≠s.nx:=λe=>by rw[e,hnew.2] at hk;cases hk
   rw[hbs2 k this];exact hk
  ·rintro((hb | hb) | hb)
   ·exact hM (.inl ((hR.outer b).2 (.inl hb)))
   ·exact hM (.inl ((hR.outer b).2 (.inr hb.1)))
   ·rcases hmut b hb with hb | hb
    ·exact hM (.inr hb)
    ·exact hM (.inl ((hR.outer b).2 (.inr (hb ▸ hB0))))
 obtain⟨hW2,hR2⟩:=hR.re (B2:=λb=>B b/\b≠b0) (O2:=O2) (bs2:=bs2) hW
  (λk o ho=>by
   rcases hO2 k o ho with⟨rfl,rfl⟩ | ⟨rfl,rfl⟩ | ⟨h1,h2,h3⟩
   ·obtain⟨b,c,ents,clock,k1,k2,k3,k4⟩:=hW.obj k _ hO;refine⟨b,c,ents,clock,(hbs2 k hrn).trans k1,k2,⟨k3.1,λi e p hi hp=>?_⟩,k4⟩;obtain⟨q1,_,q3⟩:=k3.2 i e p hi hp;refine⟨q1.step_ hS.far hS.heap hS.size nob (λ_ _ hh=>hh),λu hu hi0=>?_,λ_=>q3 (.inl rfl)⟩;obtain rfl:=oJ7 hu;rw[q3 (.inl rfl),he p (hi0 ▸ hp),hrow.val];exact .own hbsn hrow.le hrow.max
   ·exact hrow'.obj hbsn
   ·exact(hW.obj k o h3).step hS λ_ _ _=>rfl)
  (λk k' o o' b c c' g1 g2 m1 m2 b1 b2=>by
   rcases hmem k o b c g1 m1 b1 with⟨e1,d1⟩ | ⟨e1,o1,q1,q2,q3⟩<;>rcases hmem k' o' b c' g2 m2 b2 with⟨e2,d2⟩ | ⟨e2,o2,r1,r2,r3⟩
   ·rw[e1,e2]
   ·exact absurd ⟨k',o2,c',r1,r2,d1 ▸ r3⟩ h0n
   ·exact absurd ⟨k,o1,c,q1,q2,d2 ▸ q3⟩ h0n
   ·exact hW.sep k k' o1 o2 b c c' q1 r1 q2 r2 q3 r3)
  (λb hb=>by
   rcases hmut b hb with hb | hb
   ·have:=hR.ownB hW hb;exact⟨this.2.2.2.1,λq=>this.2.2.2.2 q.1⟩
   ·exact⟨hb ▸ h0.1,λq=>q.2 hb⟩)
  (λk t' sz' n' f' b c g1 g2=>by
   rcases hO2 k _ g1 with⟨rfl,e⟩ | ⟨rfl,e⟩ | ⟨h1,h2,h3⟩
   ·cases e
   ·cases e
   ·have hb:=(hbs2 k h2).symm.trans g2;exact hS.far b (hW.lt k b c hb) (hW.frz k t' sz' n' f' b c h3 hb))
  (λb hb=>by
   rcases hb with hb | hb
   ·rcases hmut b hb with hb | hb
    ·have:=hR.ownB hW hb;exact⟨this.1,this.2.1,this.2.2.1⟩
    ·rw[hb];exact⟨h0.2.1,Nat.lt_of_lt_of_le h0.2.2.1 hW.size,h0.2.2.2.2⟩
   ·have:=hR.own b hb.1;exact⟨this.2.1,Nat.lt_of_lt_of_le this.2.2.1 hW.size,this.2.2.2.2⟩)
  (λb hb=>(hR.own b hb.1).1)
  (λk b c hb=>by
   by_cases e:k=s.nx
   ·rw[e,hbsn] at hb;injection hb with hb;injection hb with hb _;rw[← hb];exact Nat.lt_of_lt_of_le h0.2.2.1 hW.size
   ·rw[hbs2 k e] at hb;exact hW.lt k b c hb)
  (λk hd hk hb=>by
   have hk':k≠s.nx:=by have:=hR.m;omega
   rw[hbs2 k hk'];exact hW.pre k hd (by rw[hR.m];exact hk) (by rw[hR.bs0];exact hb))
 refine⟨bs2,_,_,hR2,⟨⟨hF.step hS,hW2⟩,λk hk=>⟨?_,?_⟩,?_⟩,?_,?_⟩
 ·have hk:s.nx+1<=k:=hk
  cases hx:O2 k with
  |none=>exact hx
  |some o=>
   rcases hO2 k o hx with⟨rfl,_⟩ | ⟨rfl,_⟩ | ⟨_,_,h3⟩
   ·rw[(hnx k (by omega)).1] at hO;cases hO
   ·omega
   ·rw[(hnx k (by omega)).1] at h3;cases h3
 ·have hk:s.nx+1<=k:=hk;rw[hbs2 k (by omega)];exact(hnx k (by omega)).2
 ·show E.m<=s.nx+1;have:=hR.m;omega
 ·intro i y hy;obtain⟨k,hk,hne,_⟩:=wq0 (x:=x) hy;obtain⟨b,c,vs',q1,q2⟩:=hFam.row k y hk;refine⟨b,c,vs',q1.move (hR.fam hW q2),q2,λe=>hne ?_⟩;exact hFam.sep k F1.length y x b hk (by rw[List.getElem?_append_right (lR7 _),Nat.sub_self];rfl) q1.blk (by rw[hrow.blk,e])
 ·intro i i' y y' b hy hy' e1 e2;obtain⟨k,hk,hne,hi⟩:=wq0 (x:=x) hy;obtain⟨k',hk',hne',hi'⟩:=wq0 (x:=x) hy';have:=hFam.sep k k' y y' b hk hk' e1 e2;subst this;rw[hi,hi']
theorem RXR.unfocus{F1 F2:List FE}(h:RXR C E N t sz (F1++F2) s bs a w){r q n i0:Nat}{f:Nat->List AV}{es:List (AV×Value)}(hrq:r≠q)(hO:lk s.O r=some (.rmap es i0 (some (.own q n))))(hq:lk s.O q=some (.row t sz n f false))
  (hn:0<n) (hf:∀i,i<n->flatL (f i)=true) (hi0:i0<es.length):
  ∃v:Value,RXR C E N t sz (F1++(v,n,f)::F2) ⟨s.T,(r,.rmap (es.set i0 ((es[i0]).1,v)) i0 none)::rm r (rm q s.O),s.nx,[]⟩ bs a w:=by
 obtain⟨E',B,hR,⟨⟨hF,hW⟩,hnx,hm⟩,hFam⟩:=h;obtain⟨bm,cm,ents,clock,m1,m2,m3,m4⟩:=hW.obj r _ hO;have hlt0:i0<ents.size:=by rw[m3.1];exact hi0
 have hent:ents[i0]?=some ents[i0]:=Array.getElem?_eq_getElem hlt0;have hes:es[i0]?=some es[i0]:=List.getElem?_eq_getElem hi0;have hv:=(m3.2 i0 _ _ hent hes).2.1 _ rfl rfl;generalize hval:(ents[i0]).val=v at hv;obtain⟨b5,c5,vs,hrow,hb5⟩:∃b c vs,FRow w t sz (v,n,f) b c vs/\bs q=some (.blk b c):=by
  rcases hW.obj q _ hq with⟨h1,h2⟩ | ⟨b,c,vs,h1,h2,h3,h4,h5,h6,h7,h8⟩
  ·omega
  ·cases hv with
   |own hb hn' hcm=>
    rw[h1] at hb;injection hb with hb;injection hb with e1 e2;subst e1;subst e2;exact⟨b,c,vs,⟨rfl,h2,h3,h4,h5,h6,h7,λi hi j v u hj hv hu w' M bs'=>(h8 i hi j v u hj hv hu).flat (w4t (hf i hi) hu)⟩,h1⟩
   |ownnil hb hn'=>omega
 let O2:Nat->Option AObj:=lk ((r,.rmap (es.set i0 ((es[i0]).1,v)) i0 none)::rm r (rm q s.O))
 have hO2:∀k o,O2 k=some o->(k=r/\o= .rmap (es.set i0 ((es[i0]).1,v)) i0 none)∨(k≠r/\k≠q/\lk s.O k=some o):=λk o ho=>by
  have ho:lk ((r,.rmap (es.set i0 ((es[i0]).1,v)) i0 none)::rm r (rm q s.O)) k=some o:=ho;rw[way] at ho;split at ho
  ·rename_i e;exact .inl ⟨e.symm,(oJ7 ho).symm⟩
  ·rename_i e;have h1:=(wda r (rm q s.O) k o ho).2;have h2:=wda q s.O k o h1;exact .inr ⟨λx=>e x.symm,λx=>h2.1 x.symm,h2.2⟩
 have hb5m:mutB (lk s.O) bs b5:=⟨q,_,c5,hq,rfl,hb5⟩;have hmem:∀k o b c,O2 k=some o->o.mut=true->bs k=some (.blk b c)->k≠q/\∃o',lk s.O k=some o'/\o'.mut=true:=λk o b c ho hmu hb=>by
  rcases hO2 k o ho with⟨rfl,rfl⟩ | ⟨h1,h2,h3⟩
  ·exact⟨hrq,_,hO,rfl⟩
  ·exact⟨h2,o,h3,hmu⟩
 have hmut:∀b,mutB O2 bs b->mutB (lk s.O) bs b/\b≠b5:=λb ⟨k,o,c,h1,h2,h3⟩=>by
  obtain⟨g1,o',g2,g3⟩:=hmem k o b c h1 h2 h3;exact⟨⟨k,o',c,g2,g3,h3⟩,λe=>g1 (hW.sep k q o' _ b c c5 g2 hq g3 rfl h3 (e ▸ hb5))⟩
 have h5:=hR.ownB hW hb5m;have hS:Step w (MB E' (lk s.O) bs) bs w (MB (reE E (λb=>B b∨b=b5) w O2 bs) O2 bs) bs:=by
  refine⟨λ_ _ h=>h,λb _ hM=>?_,λ_ _ _=>rfl,lR7 _⟩;rintro((hb | hb | hb) | hb)
  ·exact hM (.inl ((hR.outer b).2 (.inl hb)))
  ·exact hM (.inl ((hR.outer b).2 (.inr hb)))
  ·exact hM (.inr (hb ▸ hb5m))
  ·exact hM (.inr (hmut b hb).1)
 obtain⟨hW2,hR2⟩:=hR.re (B2:=λb=>B b∨b=b5) (O2:=O2) (bs2:=bs) hW
  (λk o ho=>by
   rcases hO2 k o ho with⟨rfl,rfl⟩ | ⟨h1,h2,h3⟩
   ·refine⟨bm,cm,ents,clock,m1,m2,⟨by rw[List.length_set];exact m3.1,λi e p hi hp=>?_⟩,m4⟩
    by_cases ei:i=i0
    ·subst ei;rw[List.getElem?_set_self hi0] at hp;obtain rfl:=oJ7 hp;rw[hent] at hi;obtain rfl:=oJ7 hi;refine⟨((m3.2 i _ _ hent hes).1).step_ hS.far hS.heap hS.size nob (λ_ _ hh=>hh),λu hu=>(by cases hu),λ_=>hval⟩
    ·rw[List.getElem?_set_ne (λx=>ei x.symm)] at hp;obtain⟨q1,_,q3⟩:=m3.2 i e p hi hp;exact⟨q1.step_ hS.far hS.heap hS.size nob (λ_ _ hh=>hh),λu hu=>(by cases hu),λ_=>q3 (.inr ei)⟩
   ·exact(hW.obj k o h3).step hS λ_ _ _=>rfl)
  (λk k' o o' b c c' g1 g2 n1 n2 b1 b2=>by
   obtain⟨_,o1,q1,q2⟩:=hmem k o b c g1 n1 b1;obtain⟨_,o2,r1,r2⟩:=hmem k' o' b c' g2 n2 b2;exact hW.sep k k' o1 o2 b c c' q1 r1 q2 r2 b1 b2)
  (λb hb=>by
   obtain⟨g1,g2⟩:=hmut b hb;have:=hR.ownB hW g1;exact⟨this.2.2.2.1,λq=>q.elim this.2.2.2.2 g2⟩)
  (λk t' sz' n' f' b c g1 g2=>by
   rcases hO2 k _ g1 with⟨rfl,e⟩ | ⟨h1,h2,h3⟩
   ·cases e
   ·exact hS.far b (hW.lt k b c g2) (hW.frz k t' sz' n' f' b c h3 g2))
  (λb hb=>by
   rcases hb with hb | hb | hb
   ·have:=hR.ownB hW (hmut b hb).1;exact⟨this.1,this.2.1,this.2.2.1⟩
   ·have:=hR.own b hb;exact⟨this.2.1,Nat.lt_of_lt_of_le this.2.2.1 hW.size,this.2.2.2.2⟩
   ·rw[hb];exact⟨h5.1,h5.2.1,h5.2.2.1⟩)
  (λb hb=>hb.elim (λhb=>(hR.own b hb).1) (λhb=>hb ▸ h5.2.2.2.1))
  hW.lt (λk hd hk hb=>hW.pre k hd (by rw[hR.m];exact hk) (by rw[hR.bs0];exact hb))
 refine⟨v,_,_,hR2,⟨⟨hF.step hS,hW2⟩,λk hk=>⟨?_,(hnx k hk).2⟩,by have:=hR.m;show E.m<=s.nx;omega⟩,?_,?_⟩
 ·cases hx:O2 k with
  |none=>exact hx
  |some o=>
   rcases hO2 k o hx with⟨rfl,_⟩ | ⟨_,_,h3⟩
   ·rw[(hnx k hk).1] at hO;cases hO
   ·rw[(hnx k hk).1] at h3;cases h3
 ·intro i y hy
  by_cases ei:i=F1.length
  ·subst ei;rw[List.getElem?_append_right (lR7 _),Nat.sub_self] at hy;obtain rfl:=oJ7 hy;exact⟨b5,c5,vs,hrow,.inr rfl⟩
  ·obtain⟨k,hk⟩:=wkk hy ei;obtain⟨b,c,vs',q1,q2⟩:=hFam.row k y hk.1;exact⟨b,c,vs',q1.move (hR.fam hW q2),.inl q2⟩
 ·have old:∀(i:Nat) (y:FE) (b:Nat),(F1++(v,n,f)::F2)[i]?=some y->i≠F1.length->blkV y.1=some b->B b:=λi y b hy ei hb=>by
   obtain⟨k,hk⟩:=wkk hy ei;obtain⟨b',c,vs',q1,q2⟩:=hFam.row k y hk.1;rw[q1.blk] at hb;obtain rfl:=oJ7 hb;exact q2
  have mid:∀(i:Nat) (y:FE) (b:Nat),(F1++(v,n,f)::F2)[i]?=some y->i=F1.length->blkV y.1=some b->b=b5:=λi y b hy ei hb=>by
   subst ei;rw[List.getElem?_append_right (lR7 _),Nat.sub_self] at hy;obtain rfl:=oJ7 hy;rw[hrow.blk] at hb;exact(oJ7 hb).symm
  intro i i' y y' b hy hy' e1 e2
  by_cases ei:i=F1.length<;>by_cases ei':i'=F1.length
  ·rw[ei,ei']
  ·exact absurd (old i' y' b hy' ei' e2) (by rw[mid i y b hy ei e1];exact h5.2.2.2.2)
  ·exact absurd (old i y b hy ei e1) (by rw[mid i' y' b hy' ei' e2];exact h5.2.2.2.2)
  ·obtain⟨k,hk,hk2⟩:=wkk hy ei;obtain⟨k',hk',hk2'⟩:=wkk hy' ei';have:=hFam.sep k k' y y' b hk hk' e1 e2;subst this;rw[hk2,hk2']
theorem RXR.freeze{F:List FE}(h:RXR C E N t sz F s bs a w){r j:Nat}{es:List (AV×Value)}{es':List (AV×AV)}(hO:lk s.O r=some (.rmap es j none))(hl:es'.length=es.length)(hlF:F.length=es.length)
  (he:∀(i:Nat) p x p',es[i]?=some p->F[i]?=some x->es'[i]?=some p'->p.2=x.1/\p'=(p.1,.view sz x.2.1 x.2.2)):
  RepS C E N ⟨s.T,(r,.amap es')::rm r s.O,s.nx,[]⟩ bs a w:=by
 obtain⟨E',B,hR,⟨⟨hF,hW⟩,hnx,hm⟩,hFam⟩:=h
 let O2:Nat->Option AObj:=lk ((r,.amap es')::rm r s.O)
 have hO2:∀k o,O2 k=some o->(k=r/\o= .amap es')∨(k≠r/\lk s.O k=some o):=λk o ho=>by
  have ho:lk ((r,.amap es')::rm r s.O) k=some o:=ho;rw[way] at ho;split at ho
  ·rename_i e;exact .inl ⟨e.symm,(oJ7 ho).symm⟩
  ·rename_i e;exact .inr ⟨λx=>e x.symm,(wda r s.O k o ho).2⟩
 have hmem:∀k o,O2 k=some o->o.mut=true->∃o',lk s.O k=some o'/\o'.mut=true:=λk o ho hmu=>by
  rcases hO2 k o ho with⟨rfl,rfl⟩ | ⟨_,h3⟩
  ·exact⟨_,hO,rfl⟩
  ·exact⟨o,h3,hmu⟩
 have hmut:∀b,mutB O2 bs b->mutB (lk s.O) bs b:=λb ⟨k,o,c,h1,h2,h3⟩=>by
  obtain⟨o',g2,g3⟩:=hmem k o h1 h2;exact⟨k,o',c,g2,g3,h3⟩
 have hS:Step w (MB E' (lk s.O) bs) bs w (MB E O2 bs) bs:=by
  refine⟨λ_ _ h=>h,λb _ hM=>?_,λ_ _ _=>rfl,lR7 _⟩;rintro(hb | hb)
  ·exact hM (.inl ((hR.outer b).2 (.inl hb)))
  ·exact hM (.inr (hmut b hb))
 have hW2:WRep C E O2 bs w:={
  obj:=λk o ho=>by
   rcases hO2 k o ho with⟨rfl,rfl⟩ | ⟨_,h3⟩
   ·obtain⟨b,c,ents,clock,k1,k2,k3,k4⟩:=hW.obj k _ hO;refine⟨b,c,ents,clock,k1,k2,⟨by rw[hl];exact k3.1,λi e p hi hp=>?_⟩,k4⟩;have hlt:i<es.length:=by rw[← hl];exact(List.getElem?_eq_some_iff.1 hp).1
    have hes:es[i]?=some es[i]:=List.getElem?_eq_getElem hlt;have hFi:F[i]?=some (F[i]'(by omega)):=List.getElem?_eq_getElem (by omega);obtain⟨q1,_,q3⟩:=k3.2 i e _ hi hes;obtain⟨e1,e2⟩:=he i _ _ _ hes hFi hp;subst e2;obtain⟨b1,c1,vs,hr,hB⟩:=hFam.row i _ hFi;have hr:=hr.move (hR.fam hW hB);generalize F[i]'(by omega)=x at *;refine⟨(q1.step_ hS.far hS.heap hS.size nob (λ_ _ hh=>hh)).lift,?_⟩;show V w (MB E O2 bs) bs e.val (.view sz x.2.1 x.2.2);rw[q3 (.inl rfl),e1,hr.val];have hb1:=hR.own b1 hB;have inb:∀i,i<x.2.1->∀j,j<sz->i * sz+j<vs.size:=by
     intro i hi j hj;rw[hr.size];have hle:=hr.le;have:(i+1) * sz<=c1 * sz:=Nat.mul_le_mul_right sz (by omega);rw[Nat.add_mul,Nat.one_mul] at this;omega
    refine .view ⟨b1,0,none⟩ (λi j=>vs.getD (i * sz+j) undef) hr.le hr.max (λ_=>⟨rfl,λhM=>?_,Nat.lt_of_lt_of_le hb1.2.2.1 hW.size⟩) hr.len (λi hi j hj=>?_) (λi hi j hj=>?_) λi hi j u hu=>?_
    ·rcases hM with hM | hM
     ·exact hb1.1 hM
     ·exact hR.notmut hW hB (hmut b1 hM)
    ·have:=inb i hi j hj;rw[Addr.add_lit,Nat.zero_add,cell_of_row w b1 (i * sz+j) vs t (0,0) hr.heap];simp[this]
    ·have:=inb i hi j hj;exact hr.one i hi j hj _ (by simp[this])
    ·have hj:j<sz:=by rw[← hr.len i hi];exact(List.getElem?_eq_some_iff.1 hu).1
     have:=inb i hi j hj;exact hr.vals i hi j _ u hj (by simp[this]) hu _ _ _
   ·exact(hW.obj k o h3).step hS λ_ _ _=>rfl
  sep:=λk k' o o' b c c' g1 g2 n1 n2 b1 b2=>by
   obtain⟨o1,q1,q2⟩:=hmem k o g1 n1;obtain⟨o2,r1,r2⟩:=hmem k' o' g2 n2;exact hW.sep k k' o1 o2 b c c' q1 r1 q2 r2 b1 b2
  out:=λb hb=>(hR.ownB hW (hmut b hb)).2.2.2.1
  frz:=λk t' sz' n' f' b c g1 g2=>by
   rcases hO2 k _ g1 with⟨rfl,e⟩ | ⟨_,h3⟩
   ·cases e
   ·exact hS.far b (hW.lt k b c g2) (hW.frz k t' sz' n' f' b c h3 g2)
  high:=λb hb=>by
   rcases hb with hb | hb
   ·exact hW.high b (.inl ((hR.outer b).2 (.inl hb)))
   ·exact hW.high b (.inr (hmut b hb))
  lt:=hW.lt
  outlt:=hR.outlt
  keep:=λb hb hm=>hR.heap hW hb hm
  old:=λb hb=>(hR.ownB hW (hmut b hb)).2.2.1
  size:=Nat.le_trans hR.size hW.size
  pre:=λk hd hk hb=>hW.pre k hd (by rw[hR.m];exact hk) (by rw[hR.bs0];exact hb)
  os:=hW.os.trans hR.os
  tape:=hW.tape.trans hR.tape
  output:=hW.output.trans hR.output
  laid:=hW.laid
  gle:=hR.gle }
 refine⟨⟨hF.step hS,hW2⟩,λk hk=>⟨?_,(hnx k hk).2⟩,by have:=hR.m;show E.m<=s.nx;omega⟩
 cases hx:O2 k with
 |none=>exact hx
 |some o=>
  rcases hO2 k o hx with⟨rfl,_⟩ | ⟨_,h3⟩
  ·rw[(hnx k hk).1] at hO;cases hO
  ·rw[(hnx k hk).1] at h3;cases h3
end
theorem RepS.toR{C:Ctx}{E:Ent}{N:Nat}{s:St}{bs:Nat->Option Hd}{a:Act}{w:World}(h:RepS C E N s bs a w){r:Nat}(hO:lk s.O r=some (.amap [])):
  RepS C E N ⟨s.T,(r,.rmap [] 0 none)::rm r s.O,s.nx,[]⟩ bs a w:=by
 obtain⟨⟨hF,hW⟩,hnx,hm⟩:=h
 let O2:Nat->Option AObj:=lk ((r,.rmap [] 0 none)::rm r s.O)
 have hO2:∀k o,O2 k=some o->(k=r/\o= .rmap [] 0 none)∨(k≠r/\lk s.O k=some o):=λk o ho=>by
  have ho:lk ((r,.rmap [] 0 none)::rm r s.O) k=some o:=ho;rw[way] at ho;split at ho
  ·rename_i e;exact .inl ⟨e.symm,(oJ7 ho).symm⟩
  ·rename_i e;exact .inr ⟨λx=>e x.symm,(wda r s.O k o ho).2⟩
 have hmem:∀k o,O2 k=some o->o.mut=true->∃o',lk s.O k=some o'/\o'.mut=true:=λk o ho hmu=>by
  rcases hO2 k o ho with⟨rfl,rfl⟩ | ⟨_,h3⟩
  ·exact⟨_,hO,rfl⟩
  ·exact⟨o,h3,hmu⟩
 have hmut:∀b,mutB O2 bs b->mutB (lk s.O) bs b:=λb ⟨k,o,c,h1,h2,h3⟩=>by
  obtain⟨o',g2,g3⟩:=hmem k o h1 h2;exact⟨k,o',c,g2,g3,h3⟩
 have hS:Step w (MB E (lk s.O) bs) bs w (MB E O2 bs) bs:=by
  refine⟨λ_ _ h=>h,λb _ hM=>?_,λ_ _ _=>rfl,lR7 _⟩;rintro(hb | hb)
  ·exact hM (.inl hb)
  ·exact hM (.inr (hmut b hb))
 have hW2:WRep C E O2 bs w:={
  obj:=λk o ho=>by
   rcases hO2 k o ho with⟨rfl,rfl⟩ | ⟨_,h3⟩
   ·obtain⟨b,c,ents,clock,k1,k2,k3,k4⟩:=hW.obj k _ hO;exact⟨b,c,ents,clock,k1,k2,⟨k3.1,λi e p _ hp=>by simp at hp⟩,k4⟩
   ·exact(hW.obj k o h3).step hS λ_ _ _=>rfl
  sep:=λk k' o o' b c c' g1 g2 n1 n2 b1 b2=>by
   obtain⟨o1,q1,q2⟩:=hmem k o g1 n1;obtain⟨o2,r1,r2⟩:=hmem k' o' g2 n2;exact hW.sep k k' o1 o2 b c c' q1 r1 q2 r2 b1 b2
  out:=λb hb=>hW.out b (hmut b hb)
  frz:=λk t' sz' n' f' b c g1 g2=>by
   rcases hO2 k _ g1 with⟨rfl,e⟩ | ⟨_,h3⟩
   ·cases e
   ·exact hS.far b (hW.lt k b c g2) (hW.frz k t' sz' n' f' b c h3 g2)
  high:=λb hb=>by
   rcases hb with hb | hb
   ·exact hW.high b (.inl hb)
   ·exact hW.high b (.inr (hmut b hb))
  lt:=hW.lt
  outlt:=hW.outlt
  keep:=hW.keep
  old:=λb hb=>hW.old b (hmut b hb)
  size:=hW.size
  pre:=hW.pre
  os:=hW.os
  tape:=hW.tape
  output:=hW.output
  laid:=hW.laid
  gle:=hW.gle }
 refine⟨⟨hF.step hS,hW2⟩,λk hk=>⟨?_,(hnx k hk).2⟩,hm⟩
 cases hx:O2 k with
 |none=>exact hx
 |some o=>
  rcases hO2 k o hx with⟨rfl,_⟩ | ⟨_,h3⟩
  ·rw[(hnx k hk).1] at hO;cases hO
  ·rw[(hnx k hk).1] at h3;cases h3
theorem AWP.toR{C:Ctx}{m N:Nat}{c:Code}{Q:Exit->St->Prop}{s:St}(r:Nat)(hO:lk s.O r=some (.amap []))(h:AWP C m N c Q ⟨s.T,(r,.rmap [] 0 none)::rm r s.O,s.nx,[]⟩):AWP C m N c Q s:=
 λE hE bs a w hr=>h E hE bs a w (hr.toR hO)
abbrev XQ:=Exit->List FE->St->Prop
def AWX(C:Ctx)(m N:Nat)(t:TypeId)(sz:Nat)(c:Code)(Q:XQ)(F:List FE)(s:St):Prop:=
 ∀E:Ent,E.m=m->∀bs a w,RXR C E N t sz F s bs a w->c.wp C.P (λe a w=>∃F' s' bs',Q e F' s'/\RXR C E N t sz F' s' bs' a w) a w
section
variable {C:Ctx} {m N:Nat} {t:TypeId} {sz:Nat} {c:Code} {Q:XQ} {F:List FE} {s:St}
theorem AWX.frame{K:Exit->St->Prop}(h:AWP C m N c K s)(k:∀e s',K e s'->Q e F s'):AWX C m N t sz c Q F s:=by
 rintro E hE bs a w ⟨E',B,hR,hr,hF⟩;refine wp_mono (h E' (hR.m.trans hE) bs a w hr) ?_;rintro e a w ⟨s',bs',hq,hr'⟩;exact⟨F,s',bs',k _ _ hq,E',B,hR,hr',hF⟩
theorem AWX.start{K:Exit->St->Prop}(h:AWX C m N t sz c Q [] s)(k:∀e F s',Q e F s'->∃(r j:Nat) (es:List (AV×Value)) (es':List (AV×AV)),lk s'.O r=some (.rmap es j none)/\es'.length=es.length/\F.length=es.length/\
     (∀(i:Nat) p x p',es[i]?=some p->F[i]?=some x->es'[i]?=some p'->p.2=x.1/\p'=(p.1,.view sz x.2.1 x.2.2))/\K e ⟨s'.T,(r,.amap es')::rm r s'.O,s'.nx,[]⟩):AWP C m N c K s:=by
 intro E hE bs a w hr;refine wp_mono (h E hE bs a w (RXR.start t sz hr)) ?_;rintro e a w ⟨F',s',bs',hq,hr'⟩;obtain⟨r,j,es,es',k1,k2,k3,k4,k5⟩:=k _ _ _ hq;exact⟨_,bs',k5,hr'.freeze k1 k2 k3 k4⟩
theorem AWX.focus{F1 F2:List FE}{x:FE}{r j i0:Nat}{es:List (AV×Value)}(hF:F=F1++x::F2)(hO:lk s.O r=some (.rmap es j none))(he:∀p,es[i0]?=some p->p.2=x.1)
  (h:AWX C m N t sz c Q (F1++F2) ⟨s.T,(r,.rmap es i0 (some (.own s.nx x.2.1)))::(s.nx,.row t sz x.2.1 x.2.2 false)::rm r s.O,s.nx+1,[]⟩):AWX C m N t sz c Q F s:=by
 intro E hE bs a w hr;subst hF;obtain⟨bs',hr'⟩:=hr.focus hO he;exact h E hE bs' a w hr'
theorem AWX.unfocusQ(h:AWX C m N t sz c (λe F s=>Q e F s∨∃(F1 F2:List FE) (r q n i0:Nat) (f:Nat->List AV) (es:List (AV×Value)) (hi0:i0<es.length),F=F1++F2/\r≠q/\lk s.O r=some (.rmap es i0 (some (.own q n)))/\lk s.O q=some (.row t sz n f false)/\
     0<n/\(∀i,i<n->flatL (f i)=true)/\∀v:Value,Q e (F1++(v,n,f)::F2) ⟨s.T,(r,.rmap (es.set i0 ((es[i0]).1,v)) i0 none)::rm r (rm q s.O),s.nx,[]⟩) F s):AWX C m N t sz c Q F s:=by
 intro E hE bs a w hr;refine wp_mono (h E hE bs a w hr) ?_;rintro e a w ⟨F',s',bs',hq,hr'⟩
 rcases hq with hq | ⟨F1,F2,r,q,n,i0,f,es,hi0,rfl,h1,h2,h3,h4,h5,h6⟩
 · exact⟨F',s',bs',hq,hr'⟩
 · obtain⟨v,hv⟩:=hr'.unfocus h1 h2 h3 h4 h5 hi0;exact⟨_,_,bs',h6 v,hv⟩
theorem AWX.weak{s':St}{ρ:Nat->Option Nat}(hw:Weak m ρ s s')(h:AWX C m N t sz c Q F s'):AWX C m N t sz c Q F s:=by
 rintro E hE bs a w ⟨E',B,hR,hr,hF⟩;obtain⟨bs',hr',_⟩:=hr.weak (s':=s') (ρ:=ρ) (by rw[hR.m,hE];exact hw);exact h E hE bs' a w ⟨E',B,hR,hr',hF⟩
theorem AWX.weakQ(h:AWX C m N t sz c (λe F s=>∃s2 ρ,Weak m ρ s s2/\Q e F s2) F s):AWX C m N t sz c Q F s:=by
 intro E hE bs a w hr;refine wp_mono (h E hE bs a w hr) ?_;rintro e a w ⟨F',s',bs',⟨s2,ρ,hw,hq⟩,E',B,hR,hr',hF⟩;obtain⟨bs2,hr2,_⟩:=hr'.weak (s':=s2) (ρ:=ρ) (by rw[hR.m,hE];exact hw);exact⟨F',s2,bs2,hq,E',B,hR,hr2,hF⟩
theorem AWX.round{te:TE}(hte:Prg C te)(calls:List (Nat×CSpec))(fuel:Nat)(hc:wcj C calls)(x:Code)(Fn Fe Fr:List Nat){ι:Type}(S:ι->St)(P:ι->Prop)(K:Exit->St->Prop)
  (h:waq ⟨te,calls,[],m,N,fuel⟩ x Fn Fe Fr S P K s) (hS:∀i,wbu (S i).O True) (hQ:∀i,P i->Q .normal F (S i)) (hK:∀e s',e≠ .normal->K e s'->Q e F s'):AWX C m N t sz x Q F s:=by
 have hG:EnvOK C ⟨te,calls,[],m,N,fuel⟩:=⟨hte.ok,hte.one,hc⟩;refine AWX.weakQ (AWX.frame (wcw hG x _ _ (by rw[wcq];intro p hp;simp at hp) h) λe s' hq=>?_);have key:∀e,e≠ .normal->canQ te m Fe Fr K e s'->∃s2 ρ,Weak m ρ s' s2/\Q e F s2:=λe he h=>by
  obtain⟨ρ,s2,hw,h2⟩:=wwd h;exact⟨s2,ρ,hw,hK e s2 he h2⟩
 cases e with
 |normal=>
  obtain⟨i',h1,h2⟩:=hq;obtain⟨ρ,hw⟩:=wdw h1 (wb5 (hS i')).1;exact⟨S i',ρ,hw,hQ i' h2⟩
 |exit id=>exact key _ (by simp) hq
 |goto l=>exact key _ (by simp) hq
 |ret=>exact key _ (by simp) hq
 |panic c=>exact key _ (by simp) hq
 |outgrown=>exact key _ (by simp) hq
theorem AWX.loop{ι:Type}(S:ι->St)(Fm:ι->List FE)(I:ι->Prop)(μ:ι->Nat)(i0:ι)(hI:I i0){ρ0:Nat->Option Nat}(hw:Weak m ρ0 s (S i0))(hF:F=Fm i0)
  (round:∀i,I i->AWX C m N t sz c (λe F' s'=>match e with
   |.normal=>∃i',I i'/\μ i'<μ i/\s'=S i'/\F'=Fm i'
   |e=>Q e F' s') (Fm i) (S i)):AWX C m N t sz (.loop c) Q F s:=by
 refine AWX.weak hw ?_;intro E hE bs a w hr;subst hF;refine wp_loop_ghost (λn a w=>∃i bs,I i/\μ i=n/\RXR C E N t sz (Fm i) (S i) bs a w) (μ i0) ⟨i0,bs,hI,rfl,hr⟩ ?_;rintro n a w ⟨i,bs,hi,rfl,hr⟩;refine wp_mono (round i hi E hE bs a w hr) ?_;rintro e a w ⟨F',s',bs',hq,hr'⟩
 cases e with
 |normal=>
  obtain⟨i',hi',hlt,rfl,rfl⟩:=hq;exact⟨μ i',hlt,i',bs',hi',rfl,hr'⟩
 |exit id=>exact⟨F',s',bs',hq,hr'⟩
 |goto l=>exact⟨F',s',bs',hq,hr'⟩
 |ret=>exact⟨F',s',bs',hq,hr'⟩
 |panic c=>exact⟨F',s',bs',hq,hr'⟩
 |outgrown=>exact⟨F',s',bs',hq,hr'⟩
end
end Go.Eng
