/- Encode: what it answers. -/
import Derived.Test.YtgcboligphndhaaGreatDoorWql
namespace Go.Eng
open Go.RowKit
def allP{α:Type}(p:α->Prop):List α->Prop
 |[]=>True
 |[x]=>p x
 |x::l=>p x/\allP p l
theorem wtj{α:Type}{p:α->Prop}:∀ {l:List α},allP p l->∀x∈l,p x
 |[],_,x,hx=>by cases hx
 |[y],h,x,hx=>by obtain rfl:=List.mem_singleton.1 hx;exact h
 |y::z::l,h,x,hx=>by
  obtain⟨h1,h2⟩:=h
  rcases List.mem_cons.1 hx with rfl | hx
  .exact h1
  .exact wtj h2 x hx
def wgr(done:List Nat):List Edge->Bool
 |[]=>true
 |e::l=>match Region.binds .any e with
  |true=>match hasN done e.on with
   |true=>wgr done l
   |false=>false
  |false=>wgr done l
def rdyL(done:List Nat):Nat->List Oper->List (Nat×Oper)
 |_,[]=>[]
 |i,o::l=>match hasN done i with
  |true=>rdyL done (i+1) l
  |false=>match wgr done o.after.toList with
   |true=>(i,o)::rdyL done (i+1) l
   |false=>rdyL done (i+1) l
theorem ws2{done:List Nat}:∀ {l:List Edge},wgr done l=true↔∀e∈l,Region.binds .any e=true->e.on∈done
 |[]=>by simp[wgr]
 |e::l=>by
  unfold wgr;have ih:=ws2 (done:=done) (l:=l)
  cases hb:Region.binds .any e with
  |true=>
   cases hh:hasN done e.on with
   |true=>
    dsimp only
    rw[ih]
    constructor
    .intro h e' he hb'
     rcases List.mem_cons.1 he with rfl | he
     .exact(wbl _ _).1 hh
     .exact h e' he hb'
    .exact λh e' he hb'=>h e' (List.mem_cons_of_mem _ he) hb'
   |false=>
    dsimp only
    refine⟨λh=>(by cases h),λh=>?_⟩;rw[(wbl _ _).2 (h e (List.mem_cons_self ..) hb)] at hh;cases hh
  |false=>
   dsimp only
   rw[ih]
   constructor
   .intro h e' he hb'
    rcases List.mem_cons.1 he with rfl | he
    .rw[hb] at hb';cases hb'
    .exact h e' he hb'
   .exact λh e' he hb'=>h e' (List.mem_cons_of_mem _ he) hb'
theorem wi3{done:List Nat}:∀ {l:List Oper} {j i:Nat} {o:Oper},(i,o)∈rdyL done j l↔∃i',i=j+i'/\l[i']?=some o/\i ∉ done/\∀e∈o.after.toList,Region.binds .any e=true->e.on∈done
 |[],j,i,o=>by simp[rdyL]
 |o'::l,j,i,o=>by
  have ih:=wi3 (done:=done) (l:=l) (j:=j+1) (i:=i) (o:=o);have tail:(∃i',i=j+1+i'/\l[i']?=some o/\i ∉ done/\∀e∈o.after.toList,Region.binds .any e=true->e.on∈done)->∃i',i=j+i'/\(o'::l)[i']?=some o/\i ∉ done/\∀e∈o.after.toList,Region.binds .any e=true->e.on∈done:=by
   rintro⟨i',h1,h2,h3⟩;exact⟨i'+1,by omega,by simpa using h2,h3⟩
  have back:(∃i',i=j+i'/\(o'::l)[i']?=some o/\i ∉ done/\∀e∈o.after.toList,Region.binds .any e=true->e.on∈done)->(i=j/\o=o'/\j ∉ done/\∀e∈o'.after.toList,Region.binds .any e=true->e.on∈done)∨∃i',i=j+1+i'/\l[i']?=some o/\i ∉ done/\∀e∈o.after.toList,Region.binds .any e=true->e.on∈done:=by
   rintro⟨i',h1,h2,h3,h4⟩
   cases i' with
   |zero=>
    simp only[List.getElem?_cons_zero,sI7] at h2;subst h2;obtain rfl:i=j:=by omega
    exact .inl ⟨rfl,rfl,h3,h4⟩
   |succ i'=>exact .inr ⟨i',by omega,by simpa using h2,h3,h4⟩
  unfold rdyL
  cases hh:hasN done j with
  |true=>
   dsimp only
   rw[ih];refine⟨tail,λh=>?_⟩
   rcases back h with⟨_,_,h3,_⟩ | h
   .exact absurd ((wbl _ _).1 hh) h3
   .exact h
  |false=>
   cases hd:wgr done o'.after.toList with
   |true=>
    dsimp only
    rw[List.mem_cons,ih,pI7]
    constructor
    .rintro(⟨rfl,rfl⟩ | h)
     .refine⟨0,rfl,rfl,λq=>?_,ws2.1 hd⟩;rw[(wbl _ _).2 q] at hh;cases hh
     .exact tail h
    .intro h
     rcases back h with⟨h1,h2,_⟩ | h
     .exact .inl ⟨h1,h2⟩
     .exact .inr h
   |false=>
    dsimp only
    rw[ih];refine⟨tail,λh=>?_⟩
    rcases back h with⟨_,_,_,h4⟩ | h
    .rw[ws2.2 h4] at hd;cases hd
    .exact h
def wet(G:Env)(opl:List Oper)(Q:St->Prop):Nat->List Nat->KT
 |0,done,T,O,nx=>match rdyL done 0 opl with
  |[]=>Q ⟨T,O,nx,[]⟩
  |_::_=>False
 |fuel+1,done,T,O,nx=>match rdyL done 0 opl with
  |[]=>Q ⟨T,O,nx,[]⟩
  |p0::l=>allP (λp:Nat×Oper=>match p.2.guard with
   |none=>wp1 G p.2 T O nx (wet G opl Q fuel (p.1::done))
   |some _=>False) (p0::l)
def whf(K:St->Prop)(Q:Exit->St->Prop):Exit->St->Prop
 |.normal,s=>K s
 |e,s=>Q e s
theorem wts{P:Program}{o:Oper}{a:Act}{w:World}{K K':Act->World->Prop}{Q Q':Exit->Act->World->Prop}(h:∀a w,K a w->K' a w)(hq:∀e a w,e≠ .normal->Q e a w->Q' e a w)(hh:o.wp P a w K Q):o.wp P a w K' Q':=by
 unfold Oper.wp at *;generalize (execOp a.eval o).run P w=r at *
 cases r with
 |ok n w'=>
   cases n<;>simp only[Oper.upon] at hh ⊢ <;>
     first
       |exact h _ _ hh
       |exact hh.elim
       |exact Calls.mono hh (λe w'' he=>by
           cases e with
           |returned v=>exact h _ _ he
           |panicked c=>exact hq _ _ _ (by simp) he
           |outgrown=>obtain⟨a',w3,h3⟩:=he;exact⟨a',w3,hq _ _ _ (by simp) h3⟩)
       |exact Rows.mono hh (λ_ _ he=>h _ _ he)
 |halt x w'=>cases x<;>simp only[Oper.upon] at hh ⊢ <;>first | exact hq _ _ _ (by simp) hh | exact hh.elim
theorem whd{opl:List Oper}{done:List Nat}{listed:Array Bool}(hsz:listed.size=opl.length)(hl:∀i,listed.getD i false=true↔i∈done)(i:Nat):i∈Region.ready .any opl.toArray listed↔∃o,opl[i]?=some o/\(i,o)∈rdyL done 0 opl:=by
 rw[mem_ready];have e:∀o,opl[i]?=some o->(listed.getD i true=false↔i ∉ done):=λo ho=>by
  have hi:i<listed.size:=by rw[hsz];exact(List.getElem?_eq_some_iff.1 ho).1
  rw[wlj hi true false, ← hl]
  cases listed.getD i false<;>simp
 constructor
 .rintro⟨h0,o,ho,h⟩;have ho:opl[i]?=some o:=by simpa using ho
  exact⟨o,ho,wi3.2 ⟨i,by omega,ho,(e o ho).1 h0,λx hx hb=>(hl _).1 (h x (by simpa using hx) hb)⟩⟩
 .rintro⟨o,ho,h⟩;obtain⟨i',h1,h2,h3,h4⟩:=wi3.1 h;exact⟨(e o ho).2 h3,o,by simpa using ho,λx hx hb=>(hl _).2 (h4 x (by simpa using hx) hb)⟩
theorem wtu{C:Ctx}{G:Env}(hG:EnvOK C G){m:Nat}{opl:List Oper}{Q:Exit->St->Prop}{E:Ent}(hE:E.m=m):∀(fuel:Nat) (done:List Nat) (listed:Array Bool) (T:List (Nat×AV)) (O:List (Nat×AObj)) (nx:Nat) (bs:Nat->Option Hd) (a:Act) (w:World),
  listed.size=opl.length->(∀i,listed.getD i false=true↔i∈done)->wet G opl (Q .normal) fuel done T O nx->RepS C E G.N ⟨T,O,nx,[]⟩ bs a w->wpAny C.P .any opl.toArray (QC C E G.N Q) fuel listed a w
 |0,done,listed,T,O,nx,bs,a,w,hsz,hl,h,hr=>by
  unfold wet at h;unfold wpAny;split at h
  .rename_i hr0;refine⟨List.eq_nil_iff_forall_not_mem.2 λi hi=>?_,_,bs,h,hr⟩;obtain⟨o,_,ho⟩:=(whd hsz hl i).1 hi;rw[hr0] at ho;cases ho
  .exact h.elim
 |fuel+1,done,listed,T,O,nx,bs,a,w,hsz,hl,h,hr=>by
  unfold wet at h;unfold wpAny;split at h
  .rename_i hr0;refine⟨λ_=>⟨_,bs,h,hr⟩,λi hi=>?_⟩;obtain⟨o,_,ho⟩:=(whd hsz hl i).1 hi;rw[hr0] at ho;cases ho
  .rename_i p0 l hr0;refine⟨λq=>?_,λi hi=>?_⟩
   .obtain⟨i0,o0⟩:=p0;have hm:(i0,o0)∈rdyL done 0 opl:=by rw[hr0];exact List.mem_cons_self ..
    obtain⟨i',h1,h2,_⟩:=wi3.1 hm;obtain rfl:i0=i':=by omega
    have:=(whd hsz hl i0).2 ⟨o0,h2,hm⟩;rw[q] at this;cases this
   obtain⟨o,ho,hm⟩:=(whd hsz hl i).1 hi;rw[hr0] at hm;have hp:=wtj h _ hm;dsimp only at hp;have hilt:i<listed.size:=by rw[hsz];exact(List.getElem?_eq_some_iff.1 ho).1
   have hsz':(listed.setIfInBounds i true).size=opl.length:=by simp[hsz]
   have hl':∀j,(listed.setIfInBounds i true).getD j false=true↔j∈i::done:=λj=>by
    by_cases e:i=j
    .subst e;simp[Array.getD,hilt]
    .rw[getD_set_ne _ e,hl,List.mem_cons];exact⟨.inr,λh=>h.resolve_left λq=>e q.symm⟩
   split at hp
   .rename_i hg;have:=wj6 (m:=m) (ops:=opl.toArray) (rest:=[]) (Q:=whf (λs=>wet G opl (Q .normal) fuel (i::done) s.T s.O s.nx) Q) hG hg hp (λT' O' nx' hK=>by
     intro E' hE' bs' a' w' hr';exact⟨⟨T',O',nx',[]⟩,bs',hK,hr'⟩) E hE bs a w hr
    have fin:∀a' w',QC C E G.N (whf (λs=>wet G opl (Q .normal) fuel (i::done) s.T s.O s.nx) Q) .normal a' w'->wpAny C.P .any opl.toArray (QC C E G.N Q) fuel (listed.setIfInBounds i true) a' w':=by
     rintro a' w' ⟨⟨T',O',nx',d'⟩,bs',hK,hr'⟩;exact wtu hG hE fuel _ _ T' O' nx' bs' a' w' hsz' hl' hK hr'
    have other:∀e a' w',e≠Exit.normal->QC C E G.N (whf (λs=>wet G opl (Q .normal) fuel (i::done) s.T s.O s.nx) Q) e a' w'->QC C E G.N Q e a' w':=by
     rintro e a' w' hne ⟨s,bs',hs,hr'⟩;refine⟨s,bs',?_,hr'⟩
     cases e with
     |normal=>exact absurd rfl hne
     |_=>exact hs
    unfold wpOp;have ho':opl.toArray[i]?=some o:=by simpa using ho
    rw[ho'];unfold wpList at this;dsimp only
    split
    .rename_i hw;rw[if_pos hw] at this
     rcases this with h | ⟨h1,a',w',h2⟩
     .exact .inl (wts fin other h)
     .exact .inr ⟨h1,a',w',other _ _ _ (by simp) h2⟩
    .rename_i hw;rw[if_neg hw] at this;exact fin _ _ this
   .exact hp.elim
end Go.Eng
namespace Go.Eng
open Go.Proofs Go.RowKit
variable {C:Ctx} [C.Loose]
set_option maxRecDepth 20000
def keyK(p:List UInt8×Int):AV:=.agg [.str p.1,.q p.2]
theorem wgn(a b:List UInt8×Int):keq (keyK a) (keyK b)=(decide (a.1=b.1) && decide (a.2=b.2)):=by simp[keyK,keq,keqL,keq0]
theorem wu2(p:List UInt8×Int):(decide (p.1=p.1) && decide (p.2=p.2))=true:=by simp
theorem entM_rn(σ:Nat->Option Nat)(L:List ((List UInt8×Int)×Int)):(entM L).map (λp=>(AV.rn σ p.1,AV.rn σ p.2))=entM L:=by
 unfold entM;rw[List.map_map];rfl
theorem w7n{L:List ((List UInt8×Int)×Int)}(h:(L.map Prod.fst).Nodup):wbu te 83 (entM L):=by
 refine⟨List.all_eq_true.2 λp hp=>?_,?_⟩
 .obtain⟨r,_,rfl⟩:=List.mem_map.1 hp;have:∀(a:List UInt8) (b:Int),keyA te 83 (.agg [.str a,.q b])=true:=λa b=>by kernel_rfl
  exact this _ _
 .have:(entM L).map Prod.fst=(L.map Prod.fst).map keyK:=by simp[entM,keyK]
  rw[this];refine List.pairwise_map.2 (h.imp λ{a b} hab he=>hab ?_);have q:=wgn a b;rw[he,wgn,wu2] at q;exact same2.1 q.symm
theorem wwi(p:List UInt8×Int):∀L:List ((List UInt8×Int)×Int),Option.getD (mget (entM L) (keyK p)) (.q 0)= .q (getC L p)
 |[]=>rfl
 |x::l=>by
  rw[getC];show Option.getD (match keq (keyK x.1) (keyK p) with | true=>some (.q x.2) | false=>mget (entM l) (keyK p)) _=_
  rw[wgn]
  cases decide (x.1.1=p.1) && decide (x.1.2=p.2) with
  |true=>rfl
  |false=>exact wwi p l
theorem ment_K(p:List UInt8×Int):∀L:List ((List UInt8×Int)×Int),
  Option.getD (mget (ment (.q 0) (entM L) (keyK p)) (keyK p)) (.q 0)= .q (getC L p)/\midx (entM L) (keyK p)<(ment (.q 0) (entM L) (keyK p)).length/\
  (ment (.q 0) (entM L) (keyK p)).set (midx (entM L) (keyK p)) (((ment (.q 0) (entM L) (keyK p)).getD (midx (entM L) (keyK p)) (.any,.any)).1,.q (getC L p+1))=entM (addC L p)
 |[]=>by
  refine⟨?_,Nat.zero_lt_one,rfl⟩;show Option.getD (match keq (keyK p) (keyK p) with | true=>some (AV.q 0) | false=>none) _=_
  rw[wgn,wu2];rfl
 |x::l=>by
  obtain⟨i1,i2,i3⟩:=ment_K p l;have e1:ment (.q 0) (entM (x::l)) (keyK p)=match keq (keyK x.1) (keyK p) with | true=>(keyK x.1,AV.q x.2)::entM l | false=>(keyK x.1,AV.q x.2)::ment (.q 0) (entM l) (keyK p):=rfl
  have e2:midx (entM (x::l)) (keyK p)=match keq (keyK x.1) (keyK p) with | true=>0 | false=>midx (entM l) (keyK p)+1:=rfl
  rw[e1,e2,getC,addC,wgn]
  cases h:decide (x.1.1=p.1) && decide (x.1.2=p.2) with
  |true=>
   have e:=same2.1 h;refine⟨?_,Nat.succ_pos _,?_⟩
   .show Option.getD (match keq (keyK x.1) (keyK p) with | true=>some (AV.q x.2) | false=>mget (entM l) (keyK p)) _=_
    rw[wgn,h];rfl
   .show (keyK x.1,AV.q (x.2+1))::entM l=(keyK p,AV.q (x.2+1))::entM l;rw[e]
  |false=>
   refine⟨?_,Nat.succ_lt_succ i2,?_⟩
   .show Option.getD (match keq (keyK x.1) (keyK p) with | true=>some (AV.q x.2) | false=>mget (ment (.q 0) (entM l) (keyK p)) (keyK p)) _=_
    rw[wgn,h];exact i1
   .show (keyK x.1,AV.q x.2)::(ment (.q 0) (entM l) (keyK p)).set (midx (entM l) (keyK p)) (((ment (.q 0) (entM l) (keyK p)).getD (midx (entM l) (keyK p)) (.any,.any)).1,.q (getC l p+1))=(keyK x.1,AV.q x.2)::entM (addC l p);rw[i3]
theorem nf_k1(m:MG)(R:oR7):wpFn te [(72,.det wcf)] [] 0 Tryz.f125 [.agg [.str m.dev,.q m.seq,.q m.kind,.str m.v.o,.str m.v.p,.q m.v.per,.q m.v.day,.q m.v.st,.q m.v.pr,.str m.v.rep,.str m.d.o,.str m.d.p,.q m.d.per,.str m.d.dev,.q m.d.num]] [] R=((m.dev.length<4294967281/\m.v.o.length<4294967281/\m.d.o.length<4294967281/\m.d.dev.length<4294967281)/\R (.bool !decide (msgF (MG.mk m.dev m.seq m.kind (VT.mk m.v.o m.v.p m.v.per m.v.day m.v.st m.v.pr m.v.rep) (DT.mk m.d.o m.d.p m.d.per m.d.dev m.d.num))=0)) []):=by kernel_rfl
theorem nf_k2(t:RT)(R:oR7):wpFn te [(108,.det wem)] [] 0 Tryz.f127 [.agg [.str t.o,.str t.p,.q t.per,.q t.st,.view 2 t.bs.length (wan (atB t.bs))]] [] R=(letI z0:=lst (bkOf (wan (atB t.bs))) t.bs.length;(t.o.length<4294967281/\wan (atB t.bs)=wan (atB z0))/\R (.bool !rtOK (RT.mk t.o t.p t.per t.st z0)) []):=by kernel_rfl
theorem nf_ik1(g:Nat->MG)(n:Nat)(R:oR7):wpFn te [(125,.det S_k1)] [(2,wp5 g n)] 0 Tryz.f70 [.view 15 n (wad g),.func 125 []] [] R=(some (St.mk [(0,.view 15 n (wad g)),(1,.func 125 []),(7,.q (n:Int)),(8,.q 0)] [] 0 [])=some (St.mk [(0,.view 15 n (wad g)),(1,.func 125 []),(7,.q (n:Int)),(8,.q (↑0:Int))] [] 0 [])/\n<=1000000/\(∀(i:Nat),i<n->MG.Sm (g i))/\wab (decide (fstB (λ(i:Nat)=>badM (g i)) n<n)) (R (.q (↑(fstB (λ(i:Nat)=>badM (g i)) n):Int)) []) (R (.q (-1:Int)) [])):=by kernel_rfl
theorem w4l(g:Nat->MG)(n k:Nat)(P:Nat->Prop)(R:eR7):wa1 ⟨te,[(125,.det S_k1)],[],0,19,0⟩ (wa2 Tryz.f70 2) [0,1,7,8] [] [4] (wnx g n) P R (wnx g n k)=(letI z0:=(g (k:Int).toNat);wab (decide ((k:Int)<(n:Int))) (((0:Int)<=(k:Int)/\(k:Int)<(n:Int)/\15=15)/\(z0.dev.length<4294967281/\z0.v.o.length<4294967281/\z0.d.o.length<4294967281/\z0.d.dev.length<4294967281)/\wab (badM (MG.mk z0.dev z0.seq z0.kind (VT.mk z0.v.o z0.v.p z0.v.per z0.v.day z0.v.st z0.v.pr z0.v.rep) (DT.mk z0.d.o z0.d.p z0.d.per z0.d.dev z0.d.num))) (R .ret (St.mk [(4,.q (k:Int))] [] 0 [])) (inR .i64 ((k:Int)+1)/\∃(i':Nat),some (St.mk [(0,.view 15 n (wad g)),(1,.func 125 []),(7,.q (n:Int)),(8,.q ((k:Int)+1))] [] 0 [])=some (St.mk [(0,.view 15 n (wad g)),(1,.func 125 []),(7,.q (n:Int)),(8,.q (i':Int))] [] 0 [])/\P i')) (R (.exit 0) (St.mk [] [] 0 []))):=by kernel_rfl
theorem nf_ck1(g:Nat->MG)(n:Nat)(R:oR7):wpFn te [(70,.det wnz)] [] 0 Tryz.f68 [.view 15 n (wad g),.func 125 []] [] R=((n<=1000000/\wad g=wad (mgOf (wad g))/\∀(i:Nat),i<n->MG.Sm (mgOf (wad g) i))/\R (.bool (decide ((0:Int)<=ixB (λ(i:Nat)=>badM (mgOf (wad g) i)) n))) []):=by kernel_rfl
theorem nf_ik2(g:Nat->RT)(n:Nat)(R:oR7):wpFn te [(127,.det S_k2)] [(2,wp4 g n)] 0 Tryz.f161 [.view 5 n (wag g),.func 127 []] [] R=(some (St.mk [(0,.view 5 n (wag g)),(1,.func 127 []),(7,.q (n:Int)),(8,.q 0)] [] 0 [])=some (St.mk [(0,.view 5 n (wag g)),(1,.func 127 []),(7,.q (n:Int)),(8,.q (↑0:Int))] [] 0 [])/\n<=1000000/\(∀(i:Nat),i<n->RT.Sm (g i))/\wab (decide (fstB (λ(i:Nat)=>badT (g i)) n<n)) (R (.q (↑(fstB (λ(i:Nat)=>badT (g i)) n):Int)) []) (R (.q (-1:Int)) [])):=by kernel_rfl
theorem w4k(g:Nat->RT)(n k:Nat)(P:Nat->Prop)(R:eR7):wa1 ⟨te,[(127,.det S_k2)],[],0,19,0⟩ (wa2 Tryz.f161 2) [0,1,7,8] [] [4] (wnw g n) P R (wnw g n k)=(letI z0:=(g (k:Int).toNat);letI z1:=lst (bkOf (wan (atB z0.bs))) z0.bs.length;wab (decide ((k:Int)<(n:Int))) (((0:Int)<=(k:Int)/\(k:Int)<(n:Int)/\5=5)/\(z0.o.length<4294967281/\wan (atB z0.bs)=wan (atB z1))/\wab (badT (RT.mk z0.o z0.p z0.per z0.st z1)) (R .ret (St.mk [(4,.q (k:Int))] [] 0 [])) (inR .i64 ((k:Int)+1)/\∃(i':Nat),some (St.mk [(0,.view 5 n (wag g)),(1,.func 127 []),(7,.q (n:Int)),(8,.q ((k:Int)+1))] [] 0 [])=some (St.mk [(0,.view 5 n (wag g)),(1,.func 127 []),(7,.q (n:Int)),(8,.q (i':Int))] [] 0 [])/\P i')) (R (.exit 0) (St.mk [] [] 0 []))):=by kernel_rfl
theorem nf_ck2(g:Nat->RT)(n:Nat)(R:oR7):wpFn te [(161,.det wny)] [] 0 Tryz.f126 [.view 5 n (wag g),.func 127 []] [] R=((n<=1000000/\wag g=wag (rtOf (wag g))/\∀(i:Nat),i<n->RT.Sm (rtOf (wag g) i))/\R (.bool (decide ((0:Int)<=ixB (λ(i:Nat)=>badT (rtOf (wag g) i)) n))) []):=by kernel_rfl
theorem w41(F:FL)(R:oR7):wpFn te [(68,.det wog),(126,.det wof),(105,.det wei)] [] 0 Tryz.f74 [.agg [.str F.id,.q F.ver,.q F.day,.q F.kind,.view 15 F.ms.length (wad (atM F.ms)),.view 5 F.rs.length (wae (atR F.rs)),.view 5 F.ts.length (wag (atT F.ts))]] [] R=(letI z6:=wag (atT F.ts);letI z5:=wae (atR F.rs);letI z4:=wad (atM F.ms);letI z3:=R (.bool false) [];letI z2:=(F.ms.length:Int);letI z1:=(F.ts.length:Int);letI z0:=(F.rs.length:Int);wab (decide (F.kind=1)) (inR .i64 (z0+z1)/\wab (decide (z0+z1=0)) (wab (decide (z2<=400)) ((F.ms.length<=1000000/\wad (atM F.ms)=wad (mgOf z4)/\∀(i:Nat),i<F.ms.length->MG.Sm (mgOf z4 i))/\R (.bool !decide ((0:Int)<=ixB (λ(i:Nat)=>badM (mgOf z4 i)) F.ms.length)) []) z3) z3) (wab (decide (F.kind=2)) (inR .i64 (z2+z1)/\wab (decide (z2+z1=0)) (wab (decide (z0<=400)) ((F.rs.length<=1000000/\wae (atR F.rs)=wae (rwOf z5)/\∀(i:Nat),i<F.rs.length->(rwOf z5 i).o.length<4294967281)/\R (.bool (decide (svF (rwOf z5) F.rs.length=0))) []) z3) z3) (inR .i64 (z2+z0)/\wab (decide (z2+z0=0)) (wab (decide (z1<=400)) ((F.ts.length<=1000000/\wag (atT F.ts)=wag (rtOf z6)/\∀(i:Nat),i<F.ts.length->RT.Sm (rtOf z6 i))/\R (.bool !decide ((0:Int)<=ixB (λ(i:Nat)=>badT (rtOf z6 i)) F.ts.length)) []) z3) z3))):=by kernel_rfl
theorem nf_vin(F:FL)(R:oR7):wpFn te [(72,.det wcf),(73,.det whw),(74,.det wn9)] [] 0 Tryz.f29 [.agg [.str F.id,.q F.ver,.q F.day,.q F.kind,.view 15 F.ms.length (wad (atM F.ms)),.view 5 F.rs.length (wae (atR F.rs)),.view 5 F.ts.length (wag (atT F.ts))]] [] R=(letI z2:=R (.q 151) [];letI z1:=flV F.id F.ver F.day F.kind F.ms.length (wad (atM F.ms)) F.rs.length (wae (atR F.rs)) F.ts.length (wag (atT F.ts));letI z0:=(True/\wab (decide ((bif decide ((0:Int)<=F.day) && decide (F.day<=182620) then FL.day F % (7:Int) else (-1:Int))<0)) (R (.q 152) []) (wab (decide (F.kind<1)) (R (.q 153) []) (wab (decide ((3:Int)<F.kind)) (R (.q 153) []) ((FlC F.ms.length (wad (atM F.ms)) F.rs.length (wae (atR F.rs)) F.ts.length (wag (atT F.ts))/\FL.Sm z1)/\wab (!ctF z1) (R (.q 154) []) (R (.q 0) [])))));(F.id.length<4294967281/\0<4294967281/\0<4294967281/\0<4294967281)/\wab (decide (msgF (MG.mk F.id (0:Int) (0:Int) (VT.mk [] [] (0:Int) (0:Int) (0:Int) (0:Int) []) (DT.mk [] [] (0:Int) [] (0:Int)))=110)) (R (.q 150) []) (wab (decide (F.ver<1)) z2 (wab (decide ((1000:Int)<F.ver)) z2 (wab (decide (F.kind=1)) (wab (!decide (F.ver=1)) z2 z0) z0)))):=by kernel_rfl
theorem ix_any{q:Nat->Bool}:∀n,decide (0<=ixB q n)=(List.range n).any q:=by
 intro n;unfold ixB;obtain⟨h1,h2⟩:=wxr q n;have hle:=wsr q n
 by_cases h:fstB q n<n
 .rw[decide_eq_true h];have:(List.range n).any q=true:=List.any_eq_true.2 ⟨_,List.mem_range.2 h,h2 h⟩;rw[this,decide_eq_true];show (0:Int)<=(fstB q n:Int);omega
 .rw[decide_eq_false h];have:(List.range n).any q=false:=List.any_eq_false.2 λj hj=>by
   rw[h1 j (by have:=List.mem_range.1 hj;omega)];exact Bool.false_ne_true
  rw[this];exact decide_eq_false (show ¬ (0:Int)<= -1 by decide)
theorem ix_all{α:Type}(ok:α->Bool)(L:List α)(d:α):decide (0<=ixB (λi=> !ok (L.getD i d)) L.length)= !L.all ok:=by
 rw[ix_any];have e:L=(List.range L.length).map λi=>L.getD i d:=(wgj L d).symm;have:L.all ok=(List.range L.length).all λi=>ok (L.getD i d):=by
  conv=>lhs;rw[e]
  rw[List.all_map];rfl
 rw[this,List.any_eq_not_all_not];simp
theorem atT_sm{F:FL}(h:F.Sm){i:Nat}(hi:i<F.ts.length):(atT F.ts i).Sm:=h.t.2 _ (wfs hi)
theorem atM_sm{F:FL}(h:F.Sm){i:Nat}(hi:i<F.ms.length):(atM F.ms i).Sm:=h.m.2 _ (wj0 hi)
theorem atR_sm{F:FL}(h:F.Sm){i:Nat}(hi:i<F.rs.length):(atR F.rs i).o.length<4294967281:=h.r.2 _ (by unfold atR;simp[List.getD,hi])
theorem k1_ok(hP:C.P=Tryz.prog)(hL:∀w,C.laid w->LaidW w):wah C 125 S_k1:=by
 rintro args objs U Os vc h hvc;unfold S_k1 at h;split at h<;>simp only[sI7,pI7,reduceCtorEq] at h;rename_i dev seq kind o p per day st pr rep o' p' per' dev' num;obtain⟨rfl,rfl,rfl⟩:=h;have hn:=nf_k1 ⟨dev,seq,kind,⟨o,p,per,day,st,pr,rep⟩,⟨o',p',per',dev',num⟩⟩;dsimp only at hn;refine wah.wp0 (prg hP) [(72,.det wcf)] 0 (.cons (wjb hP hL) .nil) (hP ▸ Tryz.func125) rfl rfl rfl ?_;rw[hn];exact⟨hvc,rfl,rfl⟩
theorem k2_ok(hP:C.P=Tryz.prog)(hL:∀w,C.laid w->LaidW w):wah C 127 S_k2:=by
 rintro args objs U Os vc h hvc;unfold S_k2 at h;split at h<;>cases h;rename_i o p per st n f;obtain⟨ho,hf⟩:=hvc;have hl:(lst (bkOf f) n).length=n:=by simp[lst]
 generalize hb:lst (bkOf f) n=bs at *;subst hl;subst hf;have hn:=nf_k2 ⟨o,p,per,st,bs⟩;dsimp only at hn;refine wah.wp0 (prg hP) [(108,.det wem)] 0 (.cons (wvm hP hL) .nil) (hP ▸ Tryz.func127) rfl rfl rfl ?_;rw[hn,wgw];exact⟨⟨ho,rfl⟩,rfl,rfl⟩
theorem w64(hP:C.P=Tryz.prog)(hL:∀w,C.laid w->LaidW w)(g:Nat->MG)(n:Nat):waj C 0 19 (wam Tryz.f70 2) (wp5 g n):=by
 rintro st Q ⟨h0,hn,hs,hQ⟩;have hR:=wbv hQ;refine waj.mk (prg hP) [(125,.det S_k1)] 0 (.cons (k1_ok hP hL) .nil) [0,1,7,8] [] [4] (wnx g n) (λk=>k<=n/\fstB (λi=>badM (g i)) k=k) (λk=>n - k) 0 ⟨zL7 _,rfl⟩ h0 (λk hk=>?_);obtain⟨hkn,hok⟩:=hk;rw[w4l,tN7];refine wak (λh1=>?_) (λh1=>?_)
 .have hlt:k<n:=by omega
  refine⟨⟨by omega,by omega,rfl⟩,⟨(hs k hlt).1,(hs k hlt).2,(hs k hlt).3,(hs k hlt).4⟩,waw (λh2=>?_) (λh2=>⟨by simp only[inR];omega,k+1,rfl,⟨by omega,wsq hok h2⟩,by omega⟩)⟩;have e:=wss hok h2 n (by omega);have:=hR.1 (by rw[e,decide_eq_true];omega);rw[e] at this;exact this
 .have:k=n:=by omega
  subst this;exact hR.2 (by rw[hok,decide_eq_false];omega)
theorem ik1_ok(hP:C.P=Tryz.prog)(hL:∀w,C.laid w->LaidW w):wah C 70 wnz:=by
 rintro args objs U Os vc h hvc;unfold wnz at h;split at h<;>cases h;rename_i n f;obtain⟨hn,hf,hs⟩:=hvc;generalize mgOf f=g at *;subst hf;refine wah.wpL (prg hP) [(125,.det S_k1)] [(2,wp5 g n)] 0 (.cons (k1_ok hP hL) .nil) (hP ▸ Tryz.func70) rfl rfl rfl [(wam Tryz.f70 2,wp5 g n)] (by kernel_rfl) ⟨w64 hP hL g n,trivial⟩ ?_;rw[nf_ik1];unfold ixB;refine⟨rfl,hn,hs,wak (λh=>?_) (λh=>?_)⟩
 .rw[decide_eq_true h];exact⟨rfl,rfl⟩
 .rw[decide_eq_false h];exact⟨rfl,rfl⟩
theorem ck1_ok(hP:C.P=Tryz.prog)(hL:∀w,C.laid w->LaidW w):wah C 68 wog:=by
 rintro args objs U Os vc h hvc;unfold wog at h;split at h<;>cases h;rename_i n f;obtain⟨hn,hf,hs⟩:=hvc;generalize hg:mgOf f=g at *;subst hf;refine wah.wp0 (prg hP) [(70,.det wnz)] 0 (.cons (ik1_ok hP hL) .nil) (hP ▸ Tryz.func68) rfl rfl rfl ?_;rw[nf_ck1];exact⟨⟨hn,rfl,hs⟩,rfl,rfl⟩
theorem w63(hP:C.P=Tryz.prog)(hL:∀w,C.laid w->LaidW w)(g:Nat->RT)(n:Nat):waj C 0 19 (wam Tryz.f161 2) (wp4 g n):=by
 rintro st Q ⟨h0,hn,hs,hQ⟩;have hR:=wbv hQ;refine waj.mk (prg hP) [(127,.det S_k2)] 0 (.cons (k2_ok hP hL) .nil) [0,1,7,8] [] [4] (wnw g n) (λk=>k<=n/\fstB (λi=>badT (g i)) k=k) (λk=>n - k) 0 ⟨zL7 _,rfl⟩ h0 (λk hk=>?_);obtain⟨hkn,hok⟩:=hk;rw[w4k,tN7];refine wak (λh1=>?_) (λh1=>?_)
 .have hlt:k<n:=by omega
  rw[wgw];refine⟨⟨by omega,by omega,rfl⟩,⟨(hs k hlt).o,rfl⟩,waw (λh2=>?_) (λh2=>⟨by simp only[inR];omega,k+1,rfl,⟨by omega,wsq hok h2⟩,by omega⟩)⟩;have e:=wss hok h2 n (by omega);have:=hR.1 (by rw[e,decide_eq_true];omega);rw[e] at this;exact this
 .have:k=n:=by omega
  subst this;exact hR.2 (by rw[hok,decide_eq_false];omega)
theorem ik2_ok(hP:C.P=Tryz.prog)(hL:∀w,C.laid w->LaidW w):wah C 161 wny:=by
 rintro args objs U Os vc h hvc;unfold wny at h;split at h<;>cases h;rename_i n f;obtain⟨hn,hf,hs⟩:=hvc;generalize rtOf f=g at *;subst hf;refine wah.wpL (prg hP) [(127,.det S_k2)] [(2,wp4 g n)] 0 (.cons (k2_ok hP hL) .nil) (hP ▸ Tryz.func161) rfl rfl rfl [(wam Tryz.f161 2,wp4 g n)] (by kernel_rfl) ⟨w63 hP hL g n,trivial⟩ ?_;rw[nf_ik2];unfold ixB;refine⟨rfl,hn,hs,wak (λh=>?_) (λh=>?_)⟩
 .rw[decide_eq_true h];exact⟨rfl,rfl⟩
 .rw[decide_eq_false h];exact⟨rfl,rfl⟩
theorem ck2_ok(hP:C.P=Tryz.prog)(hL:∀w,C.laid w->LaidW w):wah C 126 wof:=by
 rintro args objs U Os vc h hvc;unfold wof at h;split at h<;>cases h;rename_i n f;obtain⟨hn,hf,hs⟩:=hvc;generalize hg:rtOf f=g at *;subst hf;refine wah.wp0 (prg hP) [(161,.det wny)] 0 (.cons (ik2_ok hP hL) .nil) (hP ▸ Tryz.func126) rfl rfl rfl ?_;rw[nf_ck2];rw[wfb];exact⟨⟨hn,rfl,hs⟩,rfl,rfl⟩
theorem w85(L:List RW):wb5 (atR L) L.length=L.all rowF:=by
 have go:∀(g:Nat->RW) n,wb5 g n=((List.range n).map g).all rowF:=by
  intro g n
  induction n with
  |zero=>rfl
  |succ n ih=>rw[wb5,ih,List.range_succ,List.map_append,List.all_append];simp
 rw[go];exact congrArg (λl=>l.all rowF) (wgj L default)
theorem w74(hP:C.P=Tryz.prog)(hL:∀w,C.laid w->LaidW w):wah C 74 wn9:=by
 rintro args objs U Os vc h hvc;unfold wn9 at h;split at h<;>cases h;rename_i id ver day kind nm fm nr fr nt ft;obtain⟨hc,hs⟩:=hvc;have l1:(lst (mgOf fm) nm).length=nm:=by simp[lst]
 have l2:(lst (rwOf fr) nr).length=nr:=by simp[lst]
 have l3:(lst (rtOf ft) nt).length=nt:=by simp[lst]
 obtain⟨c1,c2,c3⟩:=hc;unfold flV at hs ⊢;generalize lst (mgOf fm) nm=ms at *;generalize lst (rwOf fr) nr=rs at *;generalize lst (rtOf ft) nt=ts at *;subst l1;subst l2;subst l3;subst c1;subst c2;subst c3;have hn:=w41 ⟨id,ver,day,kind,ms,rs,ts⟩;dsimp only at hn;refine wah.wp0 (prg hP) [(68,.det wog),(126,.det wof),(105,.det wei)] 0 (.cons (ck1_ok hP hL) (.cons (ck2_ok hP hL) (.cons (wqq hP hL) .nil))) (hP ▸ Tryz.func74) rfl rfl rfl ?_;rw[hn];have m1:=hs.m.1;have r1:=hs.r.1;have t1:=hs.t.1;dsimp only at m1 r1 t1;have e1:decide (0<=ixB (λi=>badM (mgOf (wad (atM ms)) i)) ms.length)= !ms.all λm=>decide (msgF m=0):=ix_all (λm=>decide (msgF m=0)) ms default;have e3:decide (0<=ixB (λi=>badT (rtOf (wag (atT ts)) i)) ts.length)= !ts.all rtOK:=by rw[wfb];exact ix_all rtOK ts wdf
 have e2:rs.length<=400->decide (svF (rwOf (wae (atR rs))) rs.length=0)=rs.all rowF:=λh=>by
  show decide (svF (atR rs) rs.length=0)=_;unfold svF;rw[decide_eq_false (show ¬ 24000<rs.length by omega),w85]
  cases rs.all rowF<;>rfl
 rw[e1,e3,wfb];unfold ctF;dsimp only
 refine wak (λk1=>?_) (λk1=>wak (λk2=>?_) (λk2=>?_))
 .rw[decide_eq_true k1];refine⟨by simp only[inR];omega,wak (λz=>wak (λy=>⟨⟨by omega,rfl,λi hi=>atM_sm hs hi⟩,?_⟩) (λy=>?_)) (λz=>?_)⟩
  .rw[decide_eq_true (show rs.length+ts.length=0 by omega),decide_eq_true (show ms.length<=400 by omega),Bool.not_not];exact⟨rfl,rfl⟩
  .rw[decide_eq_true (show rs.length+ts.length=0 by omega),decide_eq_false (show ¬ ms.length<=400 by omega)];exact⟨rfl,rfl⟩
  .rw[decide_eq_false (show ¬ rs.length+ts.length=0 by omega)];exact⟨rfl,rfl⟩
 .rw[decide_eq_false k1,decide_eq_true k2];refine⟨by simp only[inR];omega,wak (λz=>wak (λy=>⟨⟨by omega,rfl,λi hi=>atR_sm hs hi⟩,?_⟩) (λy=>?_)) (λz=>?_)⟩
  .rw[decide_eq_true (show ms.length+ts.length=0 by omega),decide_eq_true (show rs.length<=400 by omega),e2 (by omega)];exact⟨rfl,rfl⟩
  .rw[decide_eq_true (show ms.length+ts.length=0 by omega),decide_eq_false (show ¬ rs.length<=400 by omega)];exact⟨rfl,rfl⟩
  .rw[decide_eq_false (show ¬ ms.length+ts.length=0 by omega)];exact⟨rfl,rfl⟩
 .rw[decide_eq_false k1,decide_eq_false k2];refine⟨by simp only[inR];omega,wak (λz=>wak (λy=>⟨⟨by omega,rfl,λi hi=>atT_sm hs hi⟩,?_⟩) (λy=>?_)) (λz=>?_)⟩
  .rw[decide_eq_true (show ms.length+rs.length=0 by omega),decide_eq_true (show ts.length<=400 by omega),Bool.not_not];exact⟨rfl,rfl⟩
  .rw[decide_eq_true (show ms.length+rs.length=0 by omega),decide_eq_false (show ¬ ts.length<=400 by omega)];exact⟨rfl,rfl⟩
  .rw[decide_eq_false (show ¬ ms.length+rs.length=0 by omega)];exact⟨rfl,rfl⟩
theorem nf_ws0(s:List UInt8)(R:oR7):wpFn te [(164,.det S_cc)] [] 0 Tryz.f132 [.ptr 0 0,.str s] [.cells [.nilptr,.nil] 111] R=(111=111/\(True/\1=1/\s.length<=9223372036854775807/\s.length * 1<=140737488355328)/\(∀(i:Nat),i<s.length->true=true)/\∃(O':oL7),wai [(0,.cells [.ptr 0 0,.own 1 s.length] 111),(1,.row 5 1 s.length (strG s) false)] O'/\R (.tuple [.q (s.length:Int),.nilIface]) O'):=by kernel_rfl
theorem nf_ws(L s:List UInt8)(R:oR7):wpFn te [(164,.det S_cc)] [] 0 Tryz.f132 [.ptr 0 0,.str s] [.cells [.ptr 0 0,.own 1 L.length] 111,.row 5 1 L.length (strG L) false] R=(letI z2:=(∀(i:Nat),i<L.length->true=true:Prop);letI z1:=L.length+s.length;letI z0:=L.length;z2/\111=111/\z2/\(True/\L.length<=L.length/\1=1/\5=5/\1=1/\L.length+s.length<=9223372036854775807/\z1 * 1<=140737488355328)/\(∀(i:Nat),i<L.length+s.length->nrefL (apF z0 (strG L) (strG s) i)=true)/\∃(O':oL7),wai [(0,.cells [.ptr 0 0,.own (List.length [AObj.cells [.ptr 0 0,.own 1 z0] (111:TypeId),.row (5:TypeId) 1 z0 (strG L) false]) z1] 111),(List.length [AObj.cells [.ptr 0 0,.own 1 z0] (111:TypeId),.row (5:TypeId) 1 z0 (strG L) false],.row 5 1 z1 (apF z0 (strG L) (strG s)) false)] O'/\R (.tuple [.q (s.length:Int),.nilIface]) O'):=by kernel_rfl
theorem nf_tx1(h:Nat->List UInt8)(R:oR7):wpFn te [(133,.det wco),(132,.det S_ws)] [] 2 Tryz.f83 [.ptr 0 0,.own 1 1] [.cells [.nilptr,.nil] 111,.row 9 1 1 (wa6 h) false] R=(letI z1:=(↑(h 0).length:Int);letI z0:=(Lib.itoa z1++[(58:UInt8)]++h 0++[(44:UInt8)]);letI z2:=(∀(i:Nat),i<z0.length->true=true:Prop);((0:Int)<=0/\(0:Int)<(↑1:Int))/\(0<1/\1=1)/\inR .i64 z1/\(Lib.itoa z1).length+([(58:UInt8)]).length<=9223372036854775807/\(Lib.itoa z1++[(58:UInt8)]).length+(h 0).length<=9223372036854775807/\(Lib.itoa z1++[(58:UInt8)]++h 0).length+([(44:UInt8)]).length<=9223372036854775807/\(111=111/\z0.length<=1099511627776)/\z2/\inR .i64 ((0:Int)+1)/\(∀(i:Nat),i<1->true=true)/\z2/\∃(O':oL7),wai [(0,.cells [.ptr 0 0,.own (List.length [AObj.cells [.nilptr,.nil] (111:TypeId),.row (9:TypeId) 1 1 (wa6 h) false]) z0.length] 111),(1,.row 9 1 1 (wa6 h) false),(List.length [AObj.cells [.nilptr,.nil] (111:TypeId),.row (9:TypeId) 1 1 (wa6 h) false],.row 5 1 z0.length (strG z0) false)] O'/\R (.tuple []) O'):=by kernel_rfl
theorem nf_txu1(L:List UInt8)(g:Nat->List UInt8)(R:oR7):wpFn te [(133,.det wco),(132,.det S_ws)] [] 2 Tryz.f83 [.ptr 0 0,.own 1 1] [.cells [.ptr 0 0,.own 2 L.length] 111,.row 9 1 1 (wa6 g) false,.row 5 1 L.length (strG L) false] R=(letI z2:=L.length;letI z1:=(↑(g 0).length:Int);letI z0:=(waq z2 (strG L)++(Lib.itoa z1++[(58:UInt8)]++g 0++[(44:UInt8)]));letI z3:=(∀(i:Nat),i<z0.length->true=true:Prop);((0:Int)<=0/\(0:Int)<(↑1:Int))/\(0<1/\1=1)/\inR .i64 z1/\(Lib.itoa z1).length+([(58:UInt8)]).length<=9223372036854775807/\(Lib.itoa z1++[(58:UInt8)]).length+(g 0).length<=9223372036854775807/\(Lib.itoa z1++[(58:UInt8)]++g 0).length+([(44:UInt8)]).length<=9223372036854775807/\(∀(i:Nat),i<L.length->true=true)/\(111=111/\5=5/\L.length=L.length/\strG L=strG (waq z2 (strG L))/\z0.length<=1099511627776)/\z3/\inR .i64 ((0:Int)+1)/\(∀(i:Nat),i<1->true=true)/\z3/\∃(O':oL7),wai [(0,.cells [.ptr 0 0,.own (List.length [AObj.cells [.ptr 0 0,.own 2 z2] (111:TypeId),.row (9:TypeId) 1 1 (wa6 g) false,.row (5:TypeId) 1 z2 (strG L) false]) z0.length] 111),(1,.row 9 1 1 (wa6 g) false),(List.length [AObj.cells [.ptr 0 0,.own 2 z2] (111:TypeId),.row (9:TypeId) 1 1 (wa6 g) false,.row (5:TypeId) 1 z2 (strG L) false],.row 5 1 z0.length (strG z0) false)] O'/\R (.tuple []) O'):=by kernel_rfl
theorem nf_txu2(L:List UInt8)(g:Nat->List UInt8)(R:oR7):wpFn te [(133,.det wco),(132,.det S_ws)] [] 3 Tryz.f83 [.ptr 0 0,.own 1 2] [.cells [.ptr 0 0,.own 2 L.length] 111,.row 9 1 2 (wa6 g) false,.row 5 1 L.length (strG L) false] R=(letI z4:=L.length;letI z3:=(↑(g 1).length:Int);letI z2:=(↑(g 0).length:Int);letI z0:=(waq z4 (strG L)++(Lib.itoa z2++[(58:UInt8)]++g 0++[(44:UInt8)]));letI z5:=(∀(i:Nat),i<z0.length->true=true:Prop);letI z1:=(waq z0.length (strG z0)++(Lib.itoa z3++[(58:UInt8)]++g 1++[(44:UInt8)]));letI z6:=(∀(i:Nat),i<z1.length->true=true:Prop);((0:Int)<=0/\(0:Int)<(↑2:Int))/\(0<2/\1=1)/\inR .i64 z2/\(Lib.itoa z2).length+([(58:UInt8)]).length<=9223372036854775807/\(Lib.itoa z2++[(58:UInt8)]).length+(g 0).length<=9223372036854775807/\(Lib.itoa z2++[(58:UInt8)]++g 0).length+([(44:UInt8)]).length<=9223372036854775807/\(∀(i:Nat),i<L.length->true=true)/\(111=111/\5=5/\L.length=L.length/\strG L=strG (waq z4 (strG L))/\z0.length<=1099511627776)/\z5/\inR .i64 ((0:Int)+1)/\((0:Int)<=0+1/\(0:Int)+1<(↑2:Int))/\(1<2/\1=1)/\inR .i64 z3/\(Lib.itoa z3).length+([(58:UInt8)]).length<=9223372036854775807/\(Lib.itoa z3++[(58:UInt8)]).length+(g 1).length<=9223372036854775807/\(Lib.itoa z3++[(58:UInt8)]++g 1).length+([(44:UInt8)]).length<=9223372036854775807/\z5/\(111=111/\5=5/\z0.length=z0.length/\strG z0=strG (waq z0.length (strG z0))/\z1.length<=1099511627776)/\z6/\inR .i64 ((0:Int)+1+1)/\(∀(i:Nat),i<2->true=true)/\z6/\∃(O':oL7),wai [(0,.cells [.ptr 0 0,.own (List.length [AObj.cells [.ptr 0 0,.own 2 z4] (111:TypeId),.row (9:TypeId) 1 2 (wa6 g) false,.row (5:TypeId) 1 z4 (strG L) false]) z1.length] 111),(1,.row 9 1 2 (wa6 g) false),(List.length [AObj.cells [.ptr 0 0,.own 2 z4] (111:TypeId),.row (9:TypeId) 1 2 (wa6 g) false,.row (5:TypeId) 1 z4 (strG L) false],.row 5 1 z1.length (strG z1) false)] O'/\R (.tuple []) O'):=by kernel_rfl
theorem nf_txu3(L:List UInt8)(g:Nat->List UInt8)(R:oR7):wpFn te [(133,.det wco),(132,.det S_ws)] [] 4 Tryz.f83 [.ptr 0 0,.own 1 3] [.cells [.ptr 0 0,.own 2 L.length] 111,.row 9 1 3 (wa6 g) false,.row 5 1 L.length (strG L) false] R=(letI z6:=L.length;letI z5:=(↑(g 2).length:Int);letI z4:=(↑(g 1).length:Int);letI z3:=(↑(g 0).length:Int);letI z1:=(waq z6 (strG L)++(Lib.itoa z3++[(58:UInt8)]++g 0++[(44:UInt8)]));letI z7:=(∀(i:Nat),i<z1.length->true=true:Prop);letI z0:=(waq z1.length (strG z1)++(Lib.itoa z4++[(58:UInt8)]++g 1++[(44:UInt8)]));letI z8:=(∀(i:Nat),i<z0.length->true=true:Prop);letI z2:=(waq z0.length (strG z0)++(Lib.itoa z5++[(58:UInt8)]++g 2++[(44:UInt8)]));letI z9:=(∀(i:Nat),i<z2.length->true=true:Prop);((0:Int)<=0/\(0:Int)<(↑3:Int))/\(0<3/\1=1)/\inR .i64 z3/\(Lib.itoa z3).length+([(58:UInt8)]).length<=9223372036854775807/\(Lib.itoa z3++[(58:UInt8)]).length+(g 0).length<=9223372036854775807/\(Lib.itoa z3++[(58:UInt8)]++g 0).length+([(44:UInt8)]).length<=9223372036854775807/\(∀(i:Nat),i<L.length->true=true)/\(111=111/\5=5/\L.length=L.length/\strG L=strG (waq z6 (strG L))/\z1.length<=1099511627776)/\z7/\inR .i64 ((0:Int)+1)/\((0:Int)<=0+1/\(0:Int)+1<(↑3:Int))/\(1<3/\1=1)/\inR .i64 z4/\(Lib.itoa z4).length+([(58:UInt8)]).length<=9223372036854775807/\(Lib.itoa z4++[(58:UInt8)]).length+(g 1).length<=9223372036854775807/\(Lib.itoa z4++[(58:UInt8)]++g 1).length+([(44:UInt8)]).length<=9223372036854775807/\z7/\(111=111/\5=5/\z1.length=z1.length/\strG z1=strG (waq z1.length (strG z1))/\z0.length<=1099511627776)/\z8/\inR .i64 ((0:Int)+1+1)/\((0:Int)<=0+1+1/\(0:Int)+1+1<(↑3:Int))/\(2<3/\1=1)/\inR .i64 z5/\(Lib.itoa z5).length+([(58:UInt8)]).length<=9223372036854775807/\(Lib.itoa z5++[(58:UInt8)]).length+(g 2).length<=9223372036854775807/\(Lib.itoa z5++[(58:UInt8)]++g 2).length+([(44:UInt8)]).length<=9223372036854775807/\z8/\(111=111/\5=5/\z0.length=z0.length/\strG z0=strG (waq z0.length (strG z0))/\z2.length<=1099511627776)/\z9/\inR .i64 ((0:Int)+1+1+1)/\(∀(i:Nat),i<3->true=true)/\z9/\∃(O':oL7),wai [(0,.cells [.ptr 0 0,.own (List.length [AObj.cells [.ptr 0 0,.own 2 z6] (111:TypeId),.row (9:TypeId) 1 3 (wa6 g) false,.row (5:TypeId) 1 z6 (strG L) false]) z2.length] 111),(1,.row 9 1 3 (wa6 g) false),(List.length [AObj.cells [.ptr 0 0,.own 2 z6] (111:TypeId),.row (9:TypeId) 1 3 (wa6 g) false,.row (5:TypeId) 1 z6 (strG L) false],.row 5 1 z2.length (strG z2) false)] O'/\R (.tuple []) O'):=by kernel_rfl
theorem nf_nuu1(L:List UInt8)(g:Nat->Int)(R:oR7):wpFn te [(134,.det weo),(132,.det S_ws)] [] 2 Tryz.f84 [.ptr 0 0,.own 1 1] [.cells [.ptr 0 0,.own 2 L.length] 111,.row 2 1 1 (wac g) false,.row 5 1 L.length (strG L) false] R=(letI z1:=L.length;letI z0:=(waq z1 (strG L)++(Lib.itoa (g 0)++[(44:UInt8)]));letI z2:=(∀(i:Nat),i<z0.length->true=true:Prop);((0:Int)<=0/\(0:Int)<(↑1:Int))/\(0<1/\1=1)/\inR .i64 (g 0)/\(Lib.itoa (g 0)).length+([(44:UInt8)]).length<=9223372036854775807/\(∀(i:Nat),i<L.length->true=true)/\(111=111/\5=5/\L.length=L.length/\strG L=strG (waq z1 (strG L))/\z0.length<=1099511627776)/\z2/\inR .i64 ((0:Int)+1)/\(∀(i:Nat),i<1->true=true)/\z2/\∃(O':oL7),wai [(0,.cells [.ptr 0 0,.own (List.length [AObj.cells [.ptr 0 0,.own 2 z1] (111:TypeId),.row (2:TypeId) 1 1 (wac g) false,.row (5:TypeId) 1 z1 (strG L) false]) z0.length] 111),(1,.row 2 1 1 (wac g) false),(List.length [AObj.cells [.ptr 0 0,.own 2 z1] (111:TypeId),.row (2:TypeId) 1 1 (wac g) false,.row (5:TypeId) 1 z1 (strG L) false],.row 5 1 z0.length (strG z0) false)] O'/\R (.tuple []) O'):=by kernel_rfl
theorem nf_nuu2(L:List UInt8)(g:Nat->Int)(R:oR7):wpFn te [(134,.det weo),(132,.det S_ws)] [] 3 Tryz.f84 [.ptr 0 0,.own 1 2] [.cells [.ptr 0 0,.own 2 L.length] 111,.row 2 1 2 (wac g) false,.row 5 1 L.length (strG L) false] R=(letI z2:=L.length;letI z0:=(waq z2 (strG L)++(Lib.itoa (g 0)++[(44:UInt8)]));letI z3:=(∀(i:Nat),i<z0.length->true=true:Prop);letI z1:=(waq z0.length (strG z0)++(Lib.itoa (g 1)++[(44:UInt8)]));letI z4:=(∀(i:Nat),i<z1.length->true=true:Prop);((0:Int)<=0/\(0:Int)<(↑2:Int))/\(0<2/\1=1)/\inR .i64 (g 0)/\(Lib.itoa (g 0)).length+([(44:UInt8)]).length<=9223372036854775807/\(∀(i:Nat),i<L.length->true=true)/\(111=111/\5=5/\L.length=L.length/\strG L=strG (waq z2 (strG L))/\z0.length<=1099511627776)/\z3/\inR .i64 ((0:Int)+1)/\((0:Int)<=0+1/\(0:Int)+1<(↑2:Int))/\(1<2/\1=1)/\inR .i64 (g 1)/\(Lib.itoa (g 1)).length+([(44:UInt8)]).length<=9223372036854775807/\z3/\(111=111/\5=5/\z0.length=z0.length/\strG z0=strG (waq z0.length (strG z0))/\z1.length<=1099511627776)/\z4/\inR .i64 ((0:Int)+1+1)/\(∀(i:Nat),i<2->true=true)/\z4/\∃(O':oL7),wai [(0,.cells [.ptr 0 0,.own (List.length [AObj.cells [.ptr 0 0,.own 2 z2] (111:TypeId),.row (2:TypeId) 1 2 (wac g) false,.row (5:TypeId) 1 z2 (strG L) false]) z1.length] 111),(1,.row 2 1 2 (wac g) false),(List.length [AObj.cells [.ptr 0 0,.own 2 z2] (111:TypeId),.row (2:TypeId) 1 2 (wac g) false,.row (5:TypeId) 1 z2 (strG L) false],.row 5 1 z1.length (strG z1) false)] O'/\R (.tuple []) O'):=by kernel_rfl
theorem nf_nuu3(L:List UInt8)(g:Nat->Int)(R:oR7):wpFn te [(134,.det weo),(132,.det S_ws)] [] 4 Tryz.f84 [.ptr 0 0,.own 1 3] [.cells [.ptr 0 0,.own 2 L.length] 111,.row 2 1 3 (wac g) false,.row 5 1 L.length (strG L) false] R=(letI z3:=L.length;letI z1:=(waq z3 (strG L)++(Lib.itoa (g 0)++[(44:UInt8)]));letI z4:=(∀(i:Nat),i<z1.length->true=true:Prop);letI z0:=(waq z1.length (strG z1)++(Lib.itoa (g 1)++[(44:UInt8)]));letI z5:=(∀(i:Nat),i<z0.length->true=true:Prop);letI z2:=(waq z0.length (strG z0)++(Lib.itoa (g 2)++[(44:UInt8)]));letI z6:=(∀(i:Nat),i<z2.length->true=true:Prop);((0:Int)<=0/\(0:Int)<(↑3:Int))/\(0<3/\1=1)/\inR .i64 (g 0)/\(Lib.itoa (g 0)).length+([(44:UInt8)]).length<=9223372036854775807/\(∀(i:Nat),i<L.length->true=true)/\(111=111/\5=5/\L.length=L.length/\strG L=strG (waq z3 (strG L))/\z1.length<=1099511627776)/\z4/\inR .i64 ((0:Int)+1)/\((0:Int)<=0+1/\(0:Int)+1<(↑3:Int))/\(1<3/\1=1)/\inR .i64 (g 1)/\(Lib.itoa (g 1)).length+([(44:UInt8)]).length<=9223372036854775807/\z4/\(111=111/\5=5/\z1.length=z1.length/\strG z1=strG (waq z1.length (strG z1))/\z0.length<=1099511627776)/\z5/\inR .i64 ((0:Int)+1+1)/\((0:Int)<=0+1+1/\(0:Int)+1+1<(↑3:Int))/\(2<3/\1=1)/\inR .i64 (g 2)/\(Lib.itoa (g 2)).length+([(44:UInt8)]).length<=9223372036854775807/\z5/\(111=111/\5=5/\z0.length=z0.length/\strG z0=strG (waq z0.length (strG z0))/\z2.length<=1099511627776)/\z6/\inR .i64 ((0:Int)+1+1+1)/\(∀(i:Nat),i<3->true=true)/\z6/\∃(O':oL7),wai [(0,.cells [.ptr 0 0,.own (List.length [AObj.cells [.ptr 0 0,.own 2 z3] (111:TypeId),.row (2:TypeId) 1 3 (wac g) false,.row (5:TypeId) 1 z3 (strG L) false]) z2.length] 111),(1,.row 2 1 3 (wac g) false),(List.length [AObj.cells [.ptr 0 0,.own 2 z3] (111:TypeId),.row (2:TypeId) 1 3 (wac g) false,.row (5:TypeId) 1 z3 (strG L) false],.row 5 1 z2.length (strG z2) false)] O'/\R (.tuple []) O'):=by kernel_rfl
theorem nf_nuu4(L:List UInt8)(g:Nat->Int)(R:oR7):wpFn te [(134,.det weo),(132,.det S_ws)] [] 5 Tryz.f84 [.ptr 0 0,.own 1 4] [.cells [.ptr 0 0,.own 2 L.length] 111,.row 2 1 4 (wac g) false,.row 5 1 L.length (strG L) false] R=(letI z4:=L.length;letI z2:=(waq z4 (strG L)++(Lib.itoa (g 0)++[(44:UInt8)]));letI z5:=(∀(i:Nat),i<z2.length->true=true:Prop);letI z0:=(waq z2.length (strG z2)++(Lib.itoa (g 1)++[(44:UInt8)]));letI z6:=(∀(i:Nat),i<z0.length->true=true:Prop);letI z1:=(waq z0.length (strG z0)++(Lib.itoa (g 2)++[(44:UInt8)]));letI z7:=(∀(i:Nat),i<z1.length->true=true:Prop);letI z3:=(waq z1.length (strG z1)++(Lib.itoa (g 3)++[(44:UInt8)]));letI z8:=(∀(i:Nat),i<z3.length->true=true:Prop);((0:Int)<=0/\(0:Int)<(↑4:Int))/\(0<4/\1=1)/\inR .i64 (g 0)/\(Lib.itoa (g 0)).length+([(44:UInt8)]).length<=9223372036854775807/\(∀(i:Nat),i<L.length->true=true)/\(111=111/\5=5/\L.length=L.length/\strG L=strG (waq z4 (strG L))/\z2.length<=1099511627776)/\z5/\inR .i64 ((0:Int)+1)/\((0:Int)<=0+1/\(0:Int)+1<(↑4:Int))/\(1<4/\1=1)/\inR .i64 (g 1)/\(Lib.itoa (g 1)).length+([(44:UInt8)]).length<=9223372036854775807/\z5/\(111=111/\5=5/\z2.length=z2.length/\strG z2=strG (waq z2.length (strG z2))/\z0.length<=1099511627776)/\z6/\inR .i64 ((0:Int)+1+1)/\((0:Int)<=0+1+1/\(0:Int)+1+1<(↑4:Int))/\(2<4/\1=1)/\inR .i64 (g 2)/\(Lib.itoa (g 2)).length+([(44:UInt8)]).length<=9223372036854775807/\z6/\(111=111/\5=5/\z0.length=z0.length/\strG z0=strG (waq z0.length (strG z0))/\z1.length<=1099511627776)/\z7/\inR .i64 ((0:Int)+1+1+1)/\((0:Int)<=0+1+1+1/\(0:Int)+1+1+1<(↑4:Int))/\(3<4/\1=1)/\inR .i64 (g 3)/\(Lib.itoa (g 3)).length+([(44:UInt8)]).length<=9223372036854775807/\z7/\(111=111/\5=5/\z1.length=z1.length/\strG z1=strG (waq z1.length (strG z1))/\z3.length<=1099511627776)/\z8/\inR .i64 ((0:Int)+1+1+1+1)/\(∀(i:Nat),i<4->true=true)/\z8/\∃(O':oL7),wai [(0,.cells [.ptr 0 0,.own (List.length [AObj.cells [.ptr 0 0,.own 2 z4] (111:TypeId),.row (2:TypeId) 1 4 (wac g) false,.row (5:TypeId) 1 z4 (strG L) false]) z3.length] 111),(1,.row 2 1 4 (wac g) false),(List.length [AObj.cells [.ptr 0 0,.own 2 z4] (111:TypeId),.row (2:TypeId) 1 4 (wac g) false,.row (5:TypeId) 1 z4 (strG L) false],.row 5 1 z3.length (strG z3) false)] O'/\R (.tuple []) O'):=by kernel_rfl
theorem nf_bstr(L:List UInt8)(R:oR7):wpFn te [] [] 0 Tryz.f85 [.ptr 0 0] [.cells [.ptr 0 0,.own 1 L.length] 111,.row 5 1 L.length (strG L) false] R=(letI z0:=(L.length:Int);0<L.length/\((0:Int)<z0/\z0<=z0/\(∀(i:Nat),i<z0.toNat->isU8 (strG L i)=true)/\∀(i:Nat),i<z0.toNat->∀(q:Int),strG L i=[.int .u8 q]->(0:Int)<=q/\q<256)/\R (.str (waq z0.toNat (strG L))) [(0,.cells [.ptr 0 0,.own 1 L.length] 111)]):=by kernel_rfl
theorem nf_dec(n:Int)(R:oR7):wpFn te [] [(5,L_dc n)] 0 Tryz.f135 [.q n] [] R=(wab (decide (n=0)) (R (.str [(48:UInt8)]) []) (some (St.mk [(0,.q n),(3,.str []),(4,.q n)] [] 0 [])=some (St.mk [(0,.q n),(3,.str (DcS.mk [] n).out),(4,.q (DcS.mk [] n).m)] [] 0 [])/\inR .i64 n/\wab (decide (n<0)) (([(45:UInt8)]).length+(digT (Int.natAbs n)).length<=9223372036854775807/\R (.str ([(45:UInt8)]++digT (Int.natAbs n))) []) (R (.str (digT (Int.natAbs n))) []))):=by kernel_rfl
theorem w4y(n:Int)(i:DcS)(P:DcS->Prop)(R:eR7):wa1 ⟨te,[],[],0,31,0⟩ (wa2 Tryz.f135 5) [0,3,4] [0,3] [] (S_dc n) P R (S_dc n i)=(letI z4:=(1<=16777216/\1=1/\1<=9223372036854775807:Prop);letI z2:=(Int.tdiv i.m (10:Int));letI z5:=((10:Int)≠(0:Int)/\inR .i64 z2:Prop);letI z0:=(List.flatten (List.replicate (nat_lit 0) [.int .u8 0]):List AV);letI z3:=(wap 1 (.int .u8 ((48:Int)+Int.tmod i.m (10:Int))::List.append [] z0));letI z1:=(wap 1 (.int .u8 ((48:Int)+((0:Int) - Int.tmod i.m (10:Int)))::List.append [] z0));wab (!decide (i.m=0)) ((10:Int)≠(0:Int)/\wab (decide (Int.tmod i.m (10:Int)<0)) (inR .i64 ((0:Int) - Int.tmod i.m (10:Int))/\inR .i64 ((48:Int)+((0:Int) - Int.tmod i.m (10:Int)))/\inR .u8 ((48:Int)+((0:Int) - Int.tmod i.m (10:Int)))/\z4/\((1<=1/\1=1)/\∀(i_1:Nat),i_1<1->isU8 (wap 1 (.int .u8 ((48:Int)+((0:Int) - Int.tmod i.m (10:Int)))::List.append [] z0) i_1)=true)/\(waq 1 z1).length+i.out.length<=9223372036854775807/\z5/\∃(i':DcS),some (St.mk [(0,.q n),(3,.str (waq 1 z1++i.out)),(4,.q z2)] [] 0 [])=some (St.mk [(0,.q n),(3,.str i'.out),(4,.q i'.m)] [] 0 [])/\P i') (inR .i64 ((48:Int)+Int.tmod i.m (10:Int))/\inR .u8 ((48:Int)+Int.tmod i.m (10:Int))/\z4/\((1<=1/\1=1)/\∀(i_1:Nat),i_1<1->isU8 (wap 1 (.int .u8 ((48:Int)+Int.tmod i.m (10:Int))::List.append [] z0) i_1)=true)/\(waq 1 z3).length+i.out.length<=9223372036854775807/\z5/\∃(i':DcS),some (St.mk [(0,.q n),(3,.str (waq 1 z3++i.out)),(4,.q z2)] [] 0 [])=some (St.mk [(0,.q n),(3,.str i'.out),(4,.q i'.m)] [] 0 [])/\P i')) (R (.exit 0) (St.mk [(0,.q n),(3,.str i.out)] [] 0 []))):=by kernel_rfl
theorem nf_tr15(g:Nat->List UInt8)(n:Nat)(R:oR7):wpFn te [] [(3,wo9 g n)] 0 Tryz.f86 [.own 0 n] [.row 9 1 n (wa6 g) false] R=(letI z0:=([(0,.row 9 1 n (wa6 g) false)]:oL7);(TEq [(3,.str []),(6,.own 0 n),(7,.q (n:Int)),(8,.q 0)] [(3,.str (txF g 0)),(6,.own 0 n),(7,.q (n:Int)),(8,.q (↑0:Int))]/\wai z0 z0)/\n<=100/\(∀(i:Nat),i<n->(g i).length<=1099511627776)/\(∀(i:Nat),i<n->true=true)/\∃(O':oL7),wai z0 O'/\R (.str (txF g n)) O'):=by kernel_rfl
theorem w2o(g:Nat->List UInt8)(n k:Nat)(P:Nat->Prop)(R:eR7):wa1 ⟨te,[(135,.det wco)],[],1,23,0⟩ (wa2 Tryz.f86 3) [3,6,7,8] [3] [] (wmo g n) P R (wmo g n k)=(letI z2:=([(0,.row 9 1 n (wa6 g) false)]:oL7);letI z1:=(k:Int).toNat;letI z0:=(↑(g z1).length:Int);wab (decide ((k:Int)<(n:Int))) (((0:Int)<=(k:Int)/\(k:Int)<(n:Int))/\((k:Int).toNat<n/\1=1)/\inR .i64 z0/\(txF g k).length+(Lib.itoa z0).length<=9223372036854775807/\(txF g k++Lib.itoa z0).length+([(58:UInt8)]).length<=9223372036854775807/\(txF g k++Lib.itoa z0++[(58:UInt8)]).length+(g z1).length<=9223372036854775807/\(txF g k++Lib.itoa z0++[(58:UInt8)]++g z1).length+([(44:UInt8)]).length<=9223372036854775807/\inR .i64 ((k:Int)+1)/\∃(i':Nat),(TEq [(3,.str (txF g k++Lib.itoa z0++[(58:UInt8)]++g z1++[(44:UInt8)])),(6,.own 0 n),(7,.q (n:Int)),(8,.q ((k:Int)+1))] [(3,.str (txF g i')),(6,.own 0 n),(7,.q (n:Int)),(8,.q (i':Int))]/\wai z2 z2)/\P i') ((∀(i:Nat),i<n->true=true)/\∃(O':oL7),wai z2 O'/\R (.exit 0) (St.mk [(3,.str (txF g k))] O' 1 []))):=by kernel_rfl
theorem nf_nr15(g:Nat->Int)(n:Nat)(R:oR7):wpFn te [] [(3,wpw g n)] 0 Tryz.f87 [.own 0 n] [.row 2 1 n (wac g) false] R=(letI z0:=([(0,.row 2 1 n (wac g) false)]:oL7);(TEq [(3,.str []),(6,.own 0 n),(7,.q (n:Int)),(8,.q 0)] [(3,.str (nuF g 0)),(6,.own 0 n),(7,.q (n:Int)),(8,.q (↑0:Int))]/\wai z0 z0)/\n<=100/\(∀(i:Nat),i<n->inR .i64 (g i))/\(∀(i:Nat),i<n->true=true)/\∃(O':oL7),wai z0 O'/\R (.str (nuF g n)) O'):=by kernel_rfl
theorem w30(g:Nat->Int)(n k:Nat)(P:Nat->Prop)(R:eR7):wa1 ⟨te,[(135,.det wco)],[],1,19,0⟩ (wa2 Tryz.f87 3) [3,6,7,8] [3] [] (wni g n) P R (wni g n k)=(letI z1:=([(0,.row 2 1 n (wac g) false)]:oL7);letI z0:=(g (k:Int).toNat);wab (decide ((k:Int)<(n:Int))) (((0:Int)<=(k:Int)/\(k:Int)<(n:Int))/\((k:Int).toNat<n/\1=1)/\inR .i64 z0/\(nuF g k).length+(Lib.itoa z0).length<=9223372036854775807/\(nuF g k++Lib.itoa z0).length+([(44:UInt8)]).length<=9223372036854775807/\inR .i64 ((k:Int)+1)/\∃(i':Nat),(TEq [(3,.str (nuF g k++Lib.itoa z0++[(44:UInt8)])),(6,.own 0 n),(7,.q (n:Int)),(8,.q ((k:Int)+1))] [(3,.str (nuF g i')),(6,.own 0 n),(7,.q (n:Int)),(8,.q (i':Int))]/\wai z1 z1)/\P i') ((∀(i:Nat),i<n->true=true)/\∃(O':oL7),wai z1 O'/\R (.exit 0) (St.mk [(3,.str (nuF g k))] O' 1 []))):=by kernel_rfl
theorem wdp(L:List UInt8):waq L.length (strG L)=L:=by
 apply List.ext_getElem?;intro i;unfold waq;rw[List.getElem?_map]
 rcases Nat.lt_or_ge i L.length with h | h
 .rw[List.getElem?_range h,Option.map_some,List.getElem?_eq_getElem h];simp[strG,wao,h]
 .rw[List.getElem?_eq_none (by simpa using h),List.getElem?_eq_none h];rfl
theorem wl8(m:Nat)(f:Nat->List AV):(waq m f).length=m:=by simp[waq]
theorem wuo(L s:List UInt8)(i:Nat):apF L.length (strG L) (strG s) i=strG (L++s) i:=by
 unfold apF strG
 by_cases h:i<L.length
 .rw[if_pos h];simp[List.getD,List.getElem?_append_left h]
 .rw[if_neg h];simp[List.getD,List.getElem?_append_right (show L.length<=i by omega)]
theorem wka(s:List UInt8):Go.Lib.itoa (s.length:Int)++[58]++s++[44]=txtE s:=by simp[txtE]
theorem wkv(n:Int):Go.Lib.itoa n++[44]=numE n:=rfl
theorem wbz(s:List UInt8):(txtE s).length=(Go.Lib.itoa (s.length:Int)).length+s.length+2:=by
 simp[txtE];omega
theorem wey(n:Int):(numE n).length=(Go.Lib.itoa n).length+1:=by simp[numE]
theorem wc3{n:Int}(h:inR .i64 n):(Go.Lib.itoa n).length<=20:=by
 simp only[inR] at h;exact w6q n (by omega)
theorem lenR{n:Nat}(h:n<=1099511627776):inR .i64 (n:Int):=by simp only[inR];omega
theorem we7(hP:C.P=Tryz.prog):wah C 132 S_ws:=by
 rintro args objs U Os vc h hvc;unfold S_ws at h;split at h<;>simp only[sI7,pI7,reduceCtorEq] at h
 .rename_i s t;obtain⟨rfl,rfl,rfl⟩:=h;obtain⟨rfl,hs⟩:=hvc;refine wah.wp0 (prg hP) [(164,.det S_cc)] 0 (.cons (cc_ok hP) .nil) (hP ▸ Tryz.func132) rfl rfl rfl ?_;rw[nf_ws0];refine⟨rfl,⟨trivial,rfl,by omega,?_⟩,λ_ _=>rfl,_,wau _,rfl,rfl⟩;show s.length * 1<=_;omega
 .rename_i s n t t8 m f;obtain⟨rfl,rfl,rfl⟩:=h;obtain⟨rfl,rfl,rfl,hf,hlen⟩:=hvc;have hl:=wl8 n f;generalize waq n f=L at *;subst hf;subst hl;refine wah.wp0 (prg hP) [(164,.det S_cc)] 0 (.cons (cc_ok hP) .nil) (hP ▸ Tryz.func132) rfl rfl rfl ?_;rw[nf_ws];have hlen:=hlen;rw[lA7] at hlen;refine⟨λ_ _=>rfl,rfl,λ_ _=>rfl,⟨trivial,lR7 _,rfl,rfl,rfl,by omega,?_⟩,λi _=>by rw[wuo];rfl,_,?_,rfl,rfl⟩
  .show (L.length+s.length) * 1<=_;omega
  .rw[lA7];exact⟨rfl,⟨rfl,rfl,rfl,rfl,rfl,λi _=>wuo L s i⟩,trivial⟩
theorem tu1(hP:C.P=Tryz.prog)(hL:∀w,C.laid w->LaidW w)(L:List UInt8)(h:Nat->List AV)(hh:∀i,i<1->h i=wa6 (stOf h) i)(hlen:(L++txF (stOf h) 1).length<=1099511627776):
  wal C 83 [.ptr 0 0,.own 1 1] [.cells [.ptr 0 0,.own 2 L.length] 111,.row 9 1 1 h false,.row 5 1 L.length (strG L) false]
   λu O=>u= .tuple []/\O=[(0,.cells [.ptr 0 0,.own 3 (L++txF (stOf h) 1).length] 111),(1,.row 9 1 1 h false),(3,.row 5 1 (L++txF (stOf h) 1).length (strG (L++txF (stOf h) 1)) false)]:=by
 refine wal.rowEq 1 (f':=wa6 (stOf h)) rfl (λi hi=>(hh i hi).symm) ?_;refine wah.wp0 (prg hP) [(133,.det wco),(132,.det S_ws)] 2 (.cons (wlc hP hL) (.cons (we7 hP) .nil)) (hP ▸ Tryz.func83) rfl rfl rfl ?_;show wpFn _ _ _ _ _ [.ptr 0 0,.own 1 1] [.cells [.ptr 0 0,.own 2 L.length] 111,.row 9 1 1 (wa6 (stOf h)) false,.row 5 1 L.length (strG L) false] _;rw[nf_txu1];have hh':∀i,i<1->wa6 (stOf h) i=h i:=λi hi=>(hh i hi).symm;generalize stOf h=g at *;have e:L++txF g 1=L++txtE (g 0):=by simp[txF]
 rw[e] at hlen ⊢;simp only[wdp,wka];have hlen2:L.length+((Go.Lib.itoa ((g 0).length:Int)).length+(g 0).length+2)<=1099511627776:=by simpa only[lA7,wbz] using hlen
 repeat' first
  |exact trivial
  |(intro _ _;first | rfl | trivial)
  |exact rfl
  |omega
  |(simp only[inR];omega)
  |(simp only[inR,lA7,List.length_cons,List.length_nil,wbz];omega)
  |(refine⟨_,?_,trivial,rfl⟩;exact⟨rfl,⟨rfl,rfl,rfl,rfl,rfl,hh'⟩,rQ7,trivial⟩)
  |(refine And.intro ?_ ?_)
theorem tu2(hP:C.P=Tryz.prog)(hL:∀w,C.laid w->LaidW w)(L:List UInt8)(h:Nat->List AV)(hh:∀i,i<2->h i=wa6 (stOf h) i)(hlen:(L++txF (stOf h) 2).length<=1099511627776):
  wal C 83 [.ptr 0 0,.own 1 2] [.cells [.ptr 0 0,.own 2 L.length] 111,.row 9 1 2 h false,.row 5 1 L.length (strG L) false]
   λu O=>u= .tuple []/\O=[(0,.cells [.ptr 0 0,.own 3 (L++txF (stOf h) 2).length] 111),(1,.row 9 1 2 h false),(3,.row 5 1 (L++txF (stOf h) 2).length (strG (L++txF (stOf h) 2)) false)]:=by
 refine wal.rowEq 1 (f':=wa6 (stOf h)) rfl (λi hi=>(hh i hi).symm) ?_;refine wah.wp0 (prg hP) [(133,.det wco),(132,.det S_ws)] 3 (.cons (wlc hP hL) (.cons (we7 hP) .nil)) (hP ▸ Tryz.func83) rfl rfl rfl ?_;show wpFn _ _ _ _ _ [.ptr 0 0,.own 1 2] [.cells [.ptr 0 0,.own 2 L.length] 111,.row 9 1 2 (wa6 (stOf h)) false,.row 5 1 L.length (strG L) false] _;rw[nf_txu2];have hh':∀i,i<2->wa6 (stOf h) i=h i:=λi hi=>(hh i hi).symm;generalize stOf h=g at *;have e:L++txF g 2=L++txtE (g 0)++txtE (g 1):=by simp[txF]
 rw[e] at hlen ⊢;simp only[wdp,wka];have hlen2:L.length+((Go.Lib.itoa ((g 0).length:Int)).length+(g 0).length+2)+((Go.Lib.itoa ((g 1).length:Int)).length+(g 1).length+2)<=1099511627776:=by simpa only[lA7,wbz] using hlen
 repeat' first
  |exact trivial
  |(intro _ _;first | rfl | trivial)
  |exact rfl
  |omega
  |(simp only[inR];omega)
  |(simp only[inR,lA7,List.length_cons,List.length_nil,wbz];omega)
  |(refine⟨_,?_,trivial,rfl⟩;exact⟨rfl,⟨rfl,rfl,rfl,rfl,rfl,hh'⟩,rQ7,trivial⟩)
  |(refine And.intro ?_ ?_)
theorem tu3(hP:C.P=Tryz.prog)(hL:∀w,C.laid w->LaidW w)(L:List UInt8)(h:Nat->List AV)(hh:∀i,i<3->h i=wa6 (stOf h) i)(hlen:(L++txF (stOf h) 3).length<=1099511627776):
  wal C 83 [.ptr 0 0,.own 1 3] [.cells [.ptr 0 0,.own 2 L.length] 111,.row 9 1 3 h false,.row 5 1 L.length (strG L) false]
   λu O=>u= .tuple []/\O=[(0,.cells [.ptr 0 0,.own 3 (L++txF (stOf h) 3).length] 111),(1,.row 9 1 3 h false),(3,.row 5 1 (L++txF (stOf h) 3).length (strG (L++txF (stOf h) 3)) false)]:=by
 refine wal.rowEq 1 (f':=wa6 (stOf h)) rfl (λi hi=>(hh i hi).symm) ?_;refine wah.wp0 (prg hP) [(133,.det wco),(132,.det S_ws)] 4 (.cons (wlc hP hL) (.cons (we7 hP) .nil)) (hP ▸ Tryz.func83) rfl rfl rfl ?_;show wpFn _ _ _ _ _ [.ptr 0 0,.own 1 3] [.cells [.ptr 0 0,.own 2 L.length] 111,.row 9 1 3 (wa6 (stOf h)) false,.row 5 1 L.length (strG L) false] _;rw[nf_txu3];have hh':∀i,i<3->wa6 (stOf h) i=h i:=λi hi=>(hh i hi).symm;generalize stOf h=g at *;have e:L++txF g 3=L++txtE (g 0)++txtE (g 1)++txtE (g 2):=by simp[txF]
 rw[e] at hlen ⊢;simp only[wdp,wka];have hlen2:L.length+((Go.Lib.itoa ((g 0).length:Int)).length+(g 0).length+2)+((Go.Lib.itoa ((g 1).length:Int)).length+(g 1).length+2)+((Go.Lib.itoa ((g 2).length:Int)).length+(g 2).length+2)<=1099511627776:=by simpa only[lA7,wbz] using hlen
 repeat' first
  |exact trivial
  |(intro _ _;first | rfl | trivial)
  |exact rfl
  |omega
  |(simp only[inR];omega)
  |(simp only[inR,lA7,List.length_cons,List.length_nil,wbz];omega)
  |(refine⟨_,?_,trivial,rfl⟩;exact⟨rfl,⟨rfl,rfl,rfl,rfl,rfl,hh'⟩,rQ7,trivial⟩)
  |(refine And.intro ?_ ?_)
theorem nu1(hP:C.P=Tryz.prog)(hL:∀w,C.laid w->LaidW w)(L:List UInt8)(h:Nat->List AV)(hh:∀i,i<1->h i=wac (vInt h) i)(hr:∀i,i<1->inR .i64 (vInt h i))(hlen:(L++nuF (vInt h) 1).length<=1099511627776):
  wal C 84 [.ptr 0 0,.own 1 1] [.cells [.ptr 0 0,.own 2 L.length] 111,.row 2 1 1 h false,.row 5 1 L.length (strG L) false]
   λu O=>u= .tuple []/\O=[(0,.cells [.ptr 0 0,.own 3 (L++nuF (vInt h) 1).length] 111),(1,.row 2 1 1 h false),(3,.row 5 1 (L++nuF (vInt h) 1).length (strG (L++nuF (vInt h) 1)) false)]:=by
 refine wal.rowEq 1 (f':=wac (vInt h)) rfl (λi hi=>(hh i hi).symm) ?_;refine wah.wp0 (prg hP) [(134,.det weo),(132,.det S_ws)] 2 (.cons (wlm hP hL) (.cons (we7 hP) .nil)) (hP ▸ Tryz.func84) rfl rfl rfl ?_;show wpFn _ _ _ _ _ [.ptr 0 0,.own 1 1] [.cells [.ptr 0 0,.own 2 L.length] 111,.row 2 1 1 (wac (vInt h)) false,.row 5 1 L.length (strG L) false] _;rw[nf_nuu1];have hh':∀i,i<1->wac (vInt h) i=h i:=λi hi=>(hh i hi).symm;generalize vInt h=g at *;have r0:=hr 0 (by omega);have z0:=wc3 r0;have e:L++nuF g 1=L++numE (g 0):=by simp[nuF]
 rw[e] at hlen ⊢;simp only[wdp,wkv];have hlen2:L.length+((Go.Lib.itoa (g 0)).length+1)<=1099511627776:=by simpa only[lA7,wey] using hlen
 repeat' first
  |exact trivial
  |(intro _ _;first | rfl | trivial)
  |exact rfl
  |omega
  |(simp only[inR];omega)
  |(simp only[inR,lA7,List.length_cons,List.length_nil,wey];omega)
  |(refine⟨_,?_,trivial,rfl⟩;exact⟨rfl,⟨rfl,rfl,rfl,rfl,rfl,hh'⟩,rQ7,trivial⟩)
  |(refine And.intro ?_ ?_)
theorem nu2(hP:C.P=Tryz.prog)(hL:∀w,C.laid w->LaidW w)(L:List UInt8)(h:Nat->List AV)(hh:∀i,i<2->h i=wac (vInt h) i)(hr:∀i,i<2->inR .i64 (vInt h i))(hlen:(L++nuF (vInt h) 2).length<=1099511627776):
  wal C 84 [.ptr 0 0,.own 1 2] [.cells [.ptr 0 0,.own 2 L.length] 111,.row 2 1 2 h false,.row 5 1 L.length (strG L) false]
   λu O=>u= .tuple []/\O=[(0,.cells [.ptr 0 0,.own 3 (L++nuF (vInt h) 2).length] 111),(1,.row 2 1 2 h false),(3,.row 5 1 (L++nuF (vInt h) 2).length (strG (L++nuF (vInt h) 2)) false)]:=by
 refine wal.rowEq 1 (f':=wac (vInt h)) rfl (λi hi=>(hh i hi).symm) ?_;refine wah.wp0 (prg hP) [(134,.det weo),(132,.det S_ws)] 3 (.cons (wlm hP hL) (.cons (we7 hP) .nil)) (hP ▸ Tryz.func84) rfl rfl rfl ?_;show wpFn _ _ _ _ _ [.ptr 0 0,.own 1 2] [.cells [.ptr 0 0,.own 2 L.length] 111,.row 2 1 2 (wac (vInt h)) false,.row 5 1 L.length (strG L) false] _;rw[nf_nuu2];have hh':∀i,i<2->wac (vInt h) i=h i:=λi hi=>(hh i hi).symm;generalize vInt h=g at *;have r0:=hr 0 (by omega);have z0:=wc3 r0;have r1:=hr 1 (by omega);have z1:=wc3 r1;have e:L++nuF g 2=L++numE (g 0)++numE (g 1):=by simp[nuF]
 rw[e] at hlen ⊢;simp only[wdp,wkv];have hlen2:L.length+((Go.Lib.itoa (g 0)).length+1)+((Go.Lib.itoa (g 1)).length+1)<=1099511627776:=by simpa only[lA7,wey] using hlen
 repeat' first
  |exact trivial
  |(intro _ _;first | rfl | trivial)
  |exact rfl
  |omega
  |(simp only[inR];omega)
  |(simp only[inR,lA7,List.length_cons,List.length_nil,wey];omega)
  |(refine⟨_,?_,trivial,rfl⟩;exact⟨rfl,⟨rfl,rfl,rfl,rfl,rfl,hh'⟩,rQ7,trivial⟩)
  |(refine And.intro ?_ ?_)
theorem nu3(hP:C.P=Tryz.prog)(hL:∀w,C.laid w->LaidW w)(L:List UInt8)(h:Nat->List AV)(hh:∀i,i<3->h i=wac (vInt h) i)(hr:∀i,i<3->inR .i64 (vInt h i))(hlen:(L++nuF (vInt h) 3).length<=1099511627776):
  wal C 84 [.ptr 0 0,.own 1 3] [.cells [.ptr 0 0,.own 2 L.length] 111,.row 2 1 3 h false,.row 5 1 L.length (strG L) false]
   λu O=>u= .tuple []/\O=[(0,.cells [.ptr 0 0,.own 3 (L++nuF (vInt h) 3).length] 111),(1,.row 2 1 3 h false),(3,.row 5 1 (L++nuF (vInt h) 3).length (strG (L++nuF (vInt h) 3)) false)]:=by
 refine wal.rowEq 1 (f':=wac (vInt h)) rfl (λi hi=>(hh i hi).symm) ?_;refine wah.wp0 (prg hP) [(134,.det weo),(132,.det S_ws)] 4 (.cons (wlm hP hL) (.cons (we7 hP) .nil)) (hP ▸ Tryz.func84) rfl rfl rfl ?_;show wpFn _ _ _ _ _ [.ptr 0 0,.own 1 3] [.cells [.ptr 0 0,.own 2 L.length] 111,.row 2 1 3 (wac (vInt h)) false,.row 5 1 L.length (strG L) false] _;rw[nf_nuu3];have hh':∀i,i<3->wac (vInt h) i=h i:=λi hi=>(hh i hi).symm;generalize vInt h=g at *;have r0:=hr 0 (by omega);have z0:=wc3 r0;have r1:=hr 1 (by omega);have z1:=wc3 r1;have r2:=hr 2 (by omega);have z2:=wc3 r2;have e:L++nuF g 3=L++numE (g 0)++numE (g 1)++numE (g 2):=by simp[nuF]
 rw[e] at hlen ⊢;simp only[wdp,wkv];have hlen2:L.length+((Go.Lib.itoa (g 0)).length+1)+((Go.Lib.itoa (g 1)).length+1)+((Go.Lib.itoa (g 2)).length+1)<=1099511627776:=by simpa only[lA7,wey] using hlen
 repeat' first
  |exact trivial
  |(intro _ _;first | rfl | trivial)
  |exact rfl
  |omega
  |(simp only[inR];omega)
  |(simp only[inR,lA7,List.length_cons,List.length_nil,wey];omega)
  |(refine⟨_,?_,trivial,rfl⟩;exact⟨rfl,⟨rfl,rfl,rfl,rfl,rfl,hh'⟩,rQ7,trivial⟩)
  |(refine And.intro ?_ ?_)
theorem nu4(hP:C.P=Tryz.prog)(hL:∀w,C.laid w->LaidW w)(L:List UInt8)(h:Nat->List AV)(hh:∀i,i<4->h i=wac (vInt h) i)(hr:∀i,i<4->inR .i64 (vInt h i))(hlen:(L++nuF (vInt h) 4).length<=1099511627776):
  wal C 84 [.ptr 0 0,.own 1 4] [.cells [.ptr 0 0,.own 2 L.length] 111,.row 2 1 4 h false,.row 5 1 L.length (strG L) false]
   λu O=>u= .tuple []/\O=[(0,.cells [.ptr 0 0,.own 3 (L++nuF (vInt h) 4).length] 111),(1,.row 2 1 4 h false),(3,.row 5 1 (L++nuF (vInt h) 4).length (strG (L++nuF (vInt h) 4)) false)]:=by
 refine wal.rowEq 1 (f':=wac (vInt h)) rfl (λi hi=>(hh i hi).symm) ?_;refine wah.wp0 (prg hP) [(134,.det weo),(132,.det S_ws)] 5 (.cons (wlm hP hL) (.cons (we7 hP) .nil)) (hP ▸ Tryz.func84) rfl rfl rfl ?_;show wpFn _ _ _ _ _ [.ptr 0 0,.own 1 4] [.cells [.ptr 0 0,.own 2 L.length] 111,.row 2 1 4 (wac (vInt h)) false,.row 5 1 L.length (strG L) false] _;rw[nf_nuu4];have hh':∀i,i<4->wac (vInt h) i=h i:=λi hi=>(hh i hi).symm;generalize vInt h=g at *;have r0:=hr 0 (by omega);have z0:=wc3 r0;have r1:=hr 1 (by omega);have z1:=wc3 r1;have r2:=hr 2 (by omega);have z2:=wc3 r2;have r3:=hr 3 (by omega);have z3:=wc3 r3;have e:L++nuF g 4=L++numE (g 0)++numE (g 1)++numE (g 2)++numE (g 3):=by simp[nuF]
 rw[e] at hlen ⊢;simp only[wdp,wkv];have hlen2:L.length+((Go.Lib.itoa (g 0)).length+1)+((Go.Lib.itoa (g 1)).length+1)+((Go.Lib.itoa (g 2)).length+1)+((Go.Lib.itoa (g 3)).length+1)<=1099511627776:=by simpa only[lA7,wey] using hlen
 repeat' first
  |exact trivial
  |(intro _ _;first | rfl | trivial)
  |exact rfl
  |omega
  |(simp only[inR];omega)
  |(simp only[inR,lA7,List.length_cons,List.length_nil,wey];omega)
  |(refine⟨_,?_,trivial,rfl⟩;exact⟨rfl,⟨rfl,rfl,rfl,rfl,rfl,hh'⟩,rQ7,trivial⟩)
  |(refine And.intro ?_ ?_)
theorem wue(hP:C.P=Tryz.prog)(hL:∀w,C.laid w->LaidW w):wah C 83 S_text:=by
 rintro args objs U Os vc h hvc;unfold S_text at h;split at h<;>simp only[sI7,pI7,reduceCtorEq] at h
 .rename_i n t ts n' h';obtain⟨rfl,rfl,rfl⟩:=h;obtain⟨rfl,rfl,rfl,rfl,hh,hlen⟩:=hvc;have hh0:∀i,i<1->h' i=wa6 (stOf h') i:=λi hi=>by
   match i,hi with
   |0,_=>exact hh
  refine wal.rowEq 1 (f':=wa6 (stOf h')) rfl (λi hi=>(hh0 i hi).symm) ?_;refine wah.wp0 (prg hP) [(133,.det wco),(132,.det S_ws)] 2 (.cons (wlc hP hL) (.cons (we7 hP) .nil)) (hP ▸ Tryz.func83) rfl rfl rfl ?_;show wpFn _ _ _ _ _ [.ptr 0 0,.own 1 1] [.cells [.nilptr,.nil] 111,.row 9 1 1 (wa6 (stOf h')) false] _;rw[nf_tx1];have hh':∀i,i<1->wa6 (stOf h') i=h' i:=λi hi=>(hh0 i hi).symm;generalize stOf h'=g at *;have e:txF g 1=txtE (g 0):=by simp[txF]
  rw[e] at hlen ⊢;simp only[wka];have hlen2:=hlen;rw[wbz] at hlen2
  repeat' first
   |exact trivial
   |(intro _ _;first | rfl | trivial)
   |exact rfl
   |omega
   |(simp only[inR];omega)
   |(simp only[inR,lA7,List.length_cons,List.length_nil,wbz];omega)
   |(refine⟨_,?_,trivial,rfl⟩;exact⟨rfl,⟨rfl,rfl,rfl,rfl,rfl,hh'⟩,rQ7,trivial⟩)
   |(refine And.intro ?_ ?_)
 .rename_i n c t ts n' h' t8 m f;obtain⟨rfl,rfl,rfl⟩:=h;obtain⟨rfl,rfl,rfl,rfl,rfl,hn,hf,hh,hlen⟩:=hvc;have hl:=wl8 c f;generalize waq c f=L at *;subst hf;subst hl;have h3:n=1∨n=2∨n=3:=by omega
  rcases h3 with rfl | rfl | rfl
  .exact tu1 hP hL L h' hh hlen
  .exact tu2 hP hL L h' hh hlen
  .exact tu3 hP hL L h' hh hlen
theorem w16(hP:C.P=Tryz.prog)(hL:∀w,C.laid w->LaidW w):wah C 84 wzj:=by
 rintro args objs U Os vc h hvc;unfold wzj at h;split at h<;>simp only[sI7,pI7,reduceCtorEq] at h;rename_i n c t ts n' h' t8 m f;obtain⟨rfl,rfl,rfl⟩:=h;obtain⟨rfl,rfl,rfl,rfl,rfl,hn,hf,hh,hr,hlen⟩:=hvc;have hl:=wl8 c f;generalize waq c f=L at *;subst hf;subst hl;have h3:n=1∨n=2∨n=3∨n=4:=by omega
 rcases h3 with rfl | rfl | rfl | rfl
 .exact nu1 hP hL L h' hh hr hlen
 .exact nu2 hP hL L h' hh hr hlen
 .exact nu3 hP hL L h' hh hr hlen
 .exact nu4 hP hL L h' hh hr hlen
theorem bstr_ok(hP:C.P=Tryz.prog):wah C 85 woj:=by
 have _:C.Loose:=inferInstance;rintro args objs U Os vc h hvc;unfold woj at h;split at h<;>cases h;rename_i n t t8 m f;obtain⟨rfl,rfl,rfl,hf,h0,hlen⟩:=hvc;have hl:=wl8 n f;generalize hL:waq n f=L at *;subst hf;subst hl;refine wah.wp0 (prg hP) [] 0 .nil (hP ▸ Tryz.func85) rfl rfl rfl ?_;rw[nf_bstr,tN7,wdp];refine⟨h0,⟨by omega,Int.le_refl _,λi _=>rfl,λi hi q hq=>?_⟩,rfl,rfl⟩;have hq:[AV.int .u8 ((L.getD i 0).toNat:Int)]=[.int .u8 q]:=hq;injection hq with hq;injection hq with _ hq;have:=(L.getD i 0).toNat_lt;omega
theorem dc_loop(hP:C.P=Tryz.prog)(n:Int):waj C 0 31 (wam Tryz.f135 5) (L_dc n):=by
 have _:C.Loose:=inferInstance;rintro st Q ⟨h0,hr,hQ⟩;refine waj.mk (prg hP) [] 0 .nil [0,3,4] [0,3] [] (S_dc n) (λi=>inR .i64 i.m/\digT n.natAbs=digT i.m.natAbs++i.out/\i.out.length<=100) (λi=>i.m.natAbs) ⟨[],n⟩ ⟨hr,by simp,zL7 _⟩ h0 (λi hi=>?_);obtain⟨hm,hd,hl⟩:=hi;rw[w4y];have hdl:(digT n.natAbs).length<=20:=by
  by_cases z:n=0
  .subst z;decide
  .have:=wc3 hr;rw[ww7 z] at this
   cases q:decide (n<0) with
   |true=>rw[q] at this;simp only[cond_true,List.length_cons] at this;omega
   |false=>rw[q] at this;exact this
 refine wa7 (λh1=>?_) (λh1=>?_)
 .have dn:=w7w h1;have a1:(Int.tdiv i.m 10).natAbs=i.m.natAbs / 10:=by rw[Int.natAbs_tdiv];rfl
  have a2:(Int.tmod i.m 10).natAbs=i.m.natAbs % 10:=by rw[Int.natAbs_tmod];rfl
  have hm':=hm;simp only[inR] at hm'
  have next:∀b:List UInt8,b=[UInt8.ofNat (48+(Int.tmod i.m 10).natAbs)]->b.length+i.out.length<=9223372036854775807/\((10:Int)≠0/\inR .i64 (Int.tdiv i.m 10))/\∃i':DcS,some (St.mk [(0,.q n),(3,.str (b++i.out)),(4,.q (Int.tdiv i.m 10))] [] 0 [])=
    some (St.mk [(0,.q n),(3,.str i'.out),(4,.q i'.m)] [] 0 [])/\(inR .i64 i'.m/\digT n.natAbs=digT i'.m.natAbs++i'.out/\i'.out.length<=100)/\i'.m.natAbs<i.m.natAbs:=λb hb=>by
   subst hb;have e:digT n.natAbs=digT (Int.tdiv i.m 10).natAbs++([UInt8.ofNat (48+(Int.tmod i.m 10).natAbs)]++i.out):=by rw[hd,dn,List.append_assoc]
   have hl2:=congrArg List.length e;rw[lA7] at hl2;refine⟨by simp;omega,⟨by decide,by simp only[inR];omega⟩,⟨[UInt8.ofNat (48+(Int.tmod i.m 10).natAbs)]++i.out,Int.tdiv i.m 10⟩,rfl,⟨by simp only[inR];omega,e,?_⟩,?_⟩
   .show ([UInt8.ofNat (48+(Int.tmod i.m 10).natAbs)]++i.out).length<=100;omega
   .show (Int.tdiv i.m 10).natAbs<i.m.natAbs;omega
  have one:∀ {p:Nat->Prop},p 0->∀i,i<1->p i:=λh0 i hi=>by
   match i,hi with
   |0,_=>exact h0
  refine⟨by decide,wak (λh2=>⟨by simp only[inR];omega,by simp only[inR];omega,by simp only[inR];omega,⟨by omega,rfl,by omega⟩,⟨⟨lR7 _,rfl⟩,one rfl⟩,next _ ?_⟩) (λh2=>⟨by simp only[inR];omega,by simp only[inR];omega,⟨by omega,rfl,by omega⟩,⟨⟨lR7 _,rfl⟩,one rfl⟩,next _ ?_⟩)⟩
  .show [UInt8.ofNat ((48:Int)+(0 - Int.tmod i.m 10)).toNat]=_;rw[show ((48:Int)+(0 - Int.tmod i.m 10)).toNat=48+(Int.tmod i.m 10).natAbs by omega]
  .show [UInt8.ofNat ((48:Int)+Int.tmod i.m 10).toNat]=_;rw[show ((48:Int)+Int.tmod i.m 10).toNat=48+(Int.tmod i.m 10).natAbs by omega]
 .have e:digT n.natAbs=i.out:=by rw[hd,h1];rfl
  rw[e] at hQ;exact hQ
theorem wyy(hP:C.P=Tryz.prog):wah C 135 wco:=by
 rintro args objs U Os vc h hvc;unfold wco at h;split at h<;>cases h;rename_i n;have hr:inR .i64 n:=hvc;refine wah.wpL (prg hP) [] [(5,L_dc n)] 0 .nil (hP ▸ Tryz.func135) rfl rfl rfl [(wam Tryz.f135 5,L_dc n)] (by kernel_rfl) ⟨dc_loop hP n,trivial⟩ ?_;rw[nf_dec];refine wak (λz=>?_) (λz=>⟨rfl,hr,?_⟩)
 .subst z;rw[w6p];exact⟨rfl,rfl⟩
 .have hl:=wc3 hr;rw[ww7 z] at hl ⊢;refine wak (λq=>?_) (λq=>?_)
  .rw[decide_eq_true q] at hl ⊢;simp only[cond_true,List.length_cons] at hl;exact⟨by simp;omega,rfl,rfl⟩
  .rw[decide_eq_false q];exact⟨rfl,rfl⟩
theorem wz7(hP:C.P=Tryz.prog)(g:Nat->List UInt8)(n:Nat):waj C 1 23 (wam Tryz.f86 3) (wo9 g n):=by
 rintro st Q ⟨h0,hn,hr,hQ⟩;refine waj.mk (prg hP) [(135,.det wco)] 0 (.cons (wyy hP) .nil) [3,6,7,8] [3] [] (wmo g n) (λk=>k<=n/\(txF g k).length<=k * 2199023255552) (λk=>n - k) 0 ⟨zL7 _,zL7 _⟩ h0 (λk hk=>?_) (λi=>⟨λ_ _=>rfl,trivial⟩);obtain⟨hkn,hl⟩:=hk;rw[w2o,tN7];refine wak (λh1=>?_) (λh1=>?_)
 .have hlt:k<n:=by omega
  have hg:=hr k hlt;have hi:=wc3 (lenR hg);have e:txF g (k+1)=txF g k++txtE (g k):=rfl;have e2:=congrArg List.length e;rw[lA7,wbz] at e2;have hk100:k * 2199023255552<=100 * 2199023255552:=Nat.mul_le_mul_right _ (by omega);refine⟨⟨by omega,by omega⟩,⟨hlt,rfl⟩,lenR hg,by (try simp only[lA7,List.length_cons,List.length_nil]);omega,by (try simp only[lA7,List.length_cons,List.length_nil]);omega,by (try simp only[lA7,List.length_cons,List.length_nil]);omega,by (try simp only[lA7,List.length_cons,List.length_nil]);omega,by simp only[inR];omega,k+1,⟨?_,wau _⟩,⟨hlt,?_⟩,by omega⟩
  .rw[e];have:txF g k++Go.Lib.itoa ((g k).length:Int)++[58]++g k++[44]=txF g k++txtE (g k):=by simp[txtE]
   rw[this];rfl
  .rw[e2,Nat.add_mul];omega
 .have:k=n:=by omega
  subst this;exact⟨λ_ _=>rfl,_,wau _,hQ⟩
theorem w18(hP:C.P=Tryz.prog)(g:Nat->Int)(n:Nat):waj C 1 19 (wam Tryz.f87 3) (wpw g n):=by
 rintro st Q ⟨h0,hn,hr,hQ⟩;refine waj.mk (prg hP) [(135,.det wco)] 0 (.cons (wyy hP) .nil) [3,6,7,8] [3] [] (wni g n) (λk=>k<=n/\(nuF g k).length<=k * 2199023255552) (λk=>n - k) 0 ⟨zL7 _,zL7 _⟩ h0 (λk hk=>?_) (λi=>⟨λ_ _=>rfl,trivial⟩);obtain⟨hkn,hl⟩:=hk;rw[w30,tN7];refine wak (λh1=>?_) (λh1=>?_)
 .have hlt:k<n:=by omega
  have hg:=hr k hlt;have hi:=wc3 hg;have e:nuF g (k+1)=nuF g k++numE (g k):=rfl;have e2:=congrArg List.length e;rw[lA7,wey] at e2;have hk100:k * 2199023255552<=100 * 2199023255552:=Nat.mul_le_mul_right _ (by omega);refine⟨⟨by omega,by omega⟩,⟨hlt,rfl⟩,hg,by (try simp only[lA7,List.length_cons,List.length_nil]);omega,by (try simp only[lA7,List.length_cons,List.length_nil]);omega,by simp only[inR];omega,k+1,⟨?_,wau _⟩,⟨hlt,?_⟩,by omega⟩
  .rw[e];have:nuF g k++Go.Lib.itoa (g k)++[44]=nuF g k++numE (g k):=by simp[numE]
   rw[this];rfl
  .rw[e2,Nat.add_mul];omega
 .have:k=n:=by omega
  subst this;exact⟨λ_ _=>rfl,_,wau _,hQ⟩
theorem wit(hP:C.P=Tryz.prog):wah C 86 wdr:=by
 rintro args objs U Os vc h hvc;unfold wdr at h;split at h<;>simp only[sI7,pI7,reduceCtorEq] at h;rename_i n ts n' h';obtain⟨rfl,rfl,rfl⟩:=h;obtain⟨rfl,rfl,hn,hh,hr⟩:=hvc;refine wal.rowEq 0 (f':=wa6 (stOf h')) rfl (λi hi=>(hh i hi).symm) ?_;show wal C _ [.own 0 n] [.row 9 1 n (wa6 (stOf h')) false] _;refine wa4.wpL (prg hP) [] [(3,wo9 (stOf h') n)] 0 .nil (hP ▸ Tryz.func86) rfl rfl rfl [(wam Tryz.f86 3,wo9 (stOf h') n)] (by kernel_rfl) ⟨wz7 hP _ n,trivial⟩ ?_;show wpFn _ _ _ _ _ [.own 0 n] [.row 9 1 n (wa6 (stOf h')) false] _;rw[nf_tr15];exact⟨⟨rfl,wau _⟩,hn,hr,λ_ _=>rfl,[(0,.row 9 1 n h' false)],⟨⟨rfl,rfl,rfl,rfl,rfl,λi hi=>(hh i hi).symm⟩,trivial⟩,rfl,rfl⟩
theorem wi9(hP:C.P=Tryz.prog):wah C 87 wds:=by
 rintro args objs U Os vc h hvc;unfold wds at h;split at h<;>simp only[sI7,pI7,reduceCtorEq] at h;rename_i n ts n' h';obtain⟨rfl,rfl,rfl⟩:=h;obtain⟨rfl,rfl,hn,hh,hr⟩:=hvc;refine wal.rowEq 0 (f':=wac (vInt h')) rfl (λi hi=>(hh i hi).symm) ?_;show wal C _ [.own 0 n] [.row 2 1 n (wac (vInt h')) false] _;refine wa4.wpL (prg hP) [] [(3,wpw (vInt h') n)] 0 .nil (hP ▸ Tryz.func87) rfl rfl rfl [(wam Tryz.f87 3,wpw (vInt h') n)] (by kernel_rfl) ⟨w18 hP _ n,trivial⟩ ?_;show wpFn _ _ _ _ _ [.own 0 n] [.row 2 1 n (wac (vInt h')) false] _;rw[nf_nr15];exact⟨⟨rfl,wau _⟩,hn,hr,λ_ _=>rfl,[(0,.row 2 1 n h' false)],⟨⟨rfl,rfl,rfl,rfl,rfl,λi hi=>(hh i hi).symm⟩,trivial⟩,rfl,rfl⟩
theorem wz8(hP:C.P=Tryz.prog)(hL:∀w,C.laid w->LaidW w):wa4 C 83 wop:=by
 rintro args objs R h;unfold wop at h;split at h
 .rename_i n t ts n' h';obtain⟨⟨rfl,rfl,rfl,rfl⟩,hh,hlen,hR⟩:=h;refine wal.mono (wue hP hL _ _ _ _ _ rfl ⟨rfl,rfl,rfl,rfl,hh,hlen⟩) ?_;rintro u O ⟨rfl,rfl⟩;exact hR _ rfl
 .rename_i n c t ts n' h' t8 m f;obtain⟨⟨rfl,rfl,rfl,rfl,rfl,hn⟩,L,⟨hm,hf⟩,hh,hlen,hR⟩:=h;subst hm;subst hf;have e:=wdp L;refine wal.mono (wue hP hL _ _ _ _ _ rfl ⟨rfl,rfl,rfl,rfl,rfl,hn,by rw[e],hh,by rw[e];exact hlen⟩) ?_;rintro u O ⟨rfl,rfl⟩;rw[e];exact hR _ rfl
 .exact h.elim
theorem w17(hP:C.P=Tryz.prog)(hL:∀w,C.laid w->LaidW w):wa4 C 84 wox:=by
 rintro args objs R h;unfold wox at h;split at h
 .rename_i n c t ts n' h' t8 m f;obtain⟨⟨rfl,rfl,rfl,rfl,rfl,hn⟩,L,⟨hm,hf⟩,hh,hr,hlen,hR⟩:=h;subst hm;subst hf;have e:=wdp L;refine wal.mono (w16 hP hL _ _ _ _ _ rfl ⟨rfl,rfl,rfl,rfl,rfl,hn,by rw[e],hh,hr,by rw[e];exact hlen⟩) ?_;rintro u O ⟨rfl,rfl⟩;rw[e];exact hR _ rfl
 .exact h.elim
theorem nf_encR(F:FL)(R:oR7):wpFn te [(86,.det wdr),(87,.det wds)] [(3,L_q1 F),(12,L_q2 F),(18,L_q3 F)] 0 Tryz.f34 [.agg [.str F.id,.q F.ver,.q F.day,.q F.kind,.view 15 F.ms.length (wad (atM F.ms)),.view 5 F.rs.length (wae (atR F.rs)),.view 5 F.ts.length (wag (atT F.ts))]] [] R=(letI z12:=wag (atT F.ts);letI z11:=wae (atR F.rs);letI z10:=wad (atM F.ms);letI z9:=(1<=16777216/\1=1/\1<=9223372036854775807:Prop);letI z8:=F.ts.length;letI z7:=F.ms.length;letI z6:=F.rs.length;letI z5:=(∀(i:Nat),i<1->true=true:Prop);letI z4:=(wap 1 (.q (z8:Int)::List.append [] wb6));letI z3:=(wap 1 (.q (z6:Int)::List.append [] wb6));letI z2:=wap (TI.sz (tiO Tryz.prog false 9)) (.str F.id::List.append [] wd1);letI z1:=(wap 1 (.q F.ver:: .q F.kind:: .q (z7:Int)::List.append [] wb6));letI z0:=([(0,.cells [.str F.id,.q F.ver,.q F.day,.q F.kind,.view 15 z7 z10,.view 5 z6 z11,.view 5 z8 z12] 49)]:oL7);z9/\z5/\(9=9/\1=1/\1<=100/\(∀(i:Nat),i<1->[AV.str (List.getD [F.id] i [])]=[.str (stOf z2 i)])/\∀(i:Nat),i<1->(stOf z2 i).length<=1099511627776)/\z5/\(3<=16777216/\1=1/\3<=9223372036854775807)/\(∀(i:Nat),i<3->true=true)/\(2=2/\3=3/\3<=100/\(∀(i:Nat),i<3->[AV.q (List.getD [F.ver,F.kind,(z7:Int)] i (0:Int))]=[.q (vInt z1 i)])/\∀(i:Nat),i<3->inR .i64 (vInt z1 i))/\(∀(i:Nat),i<3->true=true)/\(txF (stOf z2) 1).length+(nuF (vInt z1) 3).length<=9223372036854775807/\some (St.mk [(1,.ptr 0 0),(3,.str (txF (stOf z2) 1++nuF (vInt z1) 3)),(29,.view 15 z7 z10),(30,.q (z7:Int)),(31,.q 0)] z0 1 [])=some (St.mk [(1,.ptr 0 0),(3,.str (e1F F 0)),(29,.view 15 z7 z10),(30,.q (z7:Int)),(31,.q (↑0:Int))] z0 1 [])/\FL.Rg F/\z9/\z5/\(2=2/\1=1/\1<=100/\(∀(i:Nat),i<1->[AV.q (List.getD [(z6:Int)] i (0:Int))]=[.q (vInt z3 i)])/\∀(i:Nat),i<1->inR .i64 (vInt z3 i))/\z5/\(e1F F z7).length+(nuF (vInt z3) 1).length<=9223372036854775807/\some (St.mk [(1,.ptr 0 0),(3,.str (e1F F z7++nuF (vInt z3) 1)),(108,.view 5 z6 z11),(109,.q (z6:Int)),(110,.q 0)] z0 1 [])=some (St.mk [(1,.ptr 0 0),(3,.str (e2F F 0)),(108,.view 5 z6 z11),(109,.q (z6:Int)),(110,.q (↑0:Int))] z0 1 [])/\FL.Rg F/\z9/\z5/\(2=2/\1=1/\1<=100/\(∀(i:Nat),i<1->[AV.q (List.getD [(z8:Int)] i (0:Int))]=[.q (vInt z4 i)])/\∀(i:Nat),i<1->inR .i64 (vInt z4 i))/\z5/\(e2F F z6).length+(nuF (vInt z4) 1).length<=9223372036854775807/\some (St.mk [(3,.str (e2F F z6++nuF (vInt z4) 1)),(140,.view 5 z8 z12),(141,.q (z8:Int)),(142,.q 0)] [] 0 [])=some (St.mk [(3,.str (e3F F 0)),(140,.view 5 z8 z12),(141,.q (z8:Int)),(142,.q (↑0:Int))] [] 0 [])/\FL.Rg F/\R (.str (e3F F z8)) []):=by kernel_rfl
theorem w3p(F:FL)(k:Nat)(P:Nat->Prop)(R:eR7):wa1 ⟨te,[(86,.det wdr),(87,.det wds)],[],0,185,0⟩ (wa2 Tryz.f34 3) [1,3,29,30,31] [1,3] [] (S_q1 F) P R (S_q1 F k)=(letI z17:=wad (atM F.ms);letI z16:=(2<=16777216/\1=1/\2<=9223372036854775807:Prop);letI z15:=F.ms.length;letI z14:=(∀(i:Nat),i<2->true=true:Prop);letI z12:=(1<=16777216/\1=1/\1<=9223372036854775807:Prop);letI z10:=(∀(i:Nat),i<1->true=true:Prop);letI z6:=([(0,.cells [.str F.id,.q F.ver,.q F.day,.q F.kind,.view 15 z15 z17,.view 5 F.rs.length (wae (atR F.rs)),.view 5 F.ts.length (wag (atT F.ts))] 49)]:oL7);letI z1:=TI.sz (tiO Tryz.prog false 9);letI z0:=(atM F.ms (k:Int).toNat);letI z13:=wap 1 (.q z0.d.num::List.append [] wb6);letI z11:=wap z1 (.str z0.d.dev::List.append [] wd1);letI z9:=wap 1 (.q z0.d.per::List.append [] wb6);letI z8:=wap z1 (.str z0.v.rep::List.append [] wd1);letI z7:=wap z1 (.str z0.d.o:: .str z0.d.p::List.append [] wd1);letI z5:=wap z1 (.str z0.dev::List.append [] wd1);letI z4:=wap z1 (.str z0.v.o:: .str z0.v.p::List.append [] wd1);letI z3:=wap 1 (.q z0.seq:: .q z0.kind::List.append [] wb6);letI z2:=wap 1 (.q z0.v.per:: .q z0.v.day:: .q z0.v.st:: .q z0.v.pr::List.append [] wb6);wab (decide ((k:Int)<(z15:Int))) (((0:Int)<=(k:Int)/\(k:Int)<(z15:Int)/\15=15)/\z12/\z10/\(9=9/\1=1/\1<=100/\(∀(i:Nat),i<1->[AV.str (List.getD [z0.dev] i [])]=[.str (stOf z5 i)])/\∀(i:Nat),i<1->(stOf z5 i).length<=1099511627776)/\z10/\(e1F F k).length+(txF (stOf z5) 1).length<=9223372036854775807/\z16/\z14/\(2=2/\2=2/\2<=100/\(∀(i:Nat),i<2->[AV.q (List.getD [z0.seq,z0.kind] i (0:Int))]=[.q (vInt z3 i)])/\∀(i:Nat),i<2->inR .i64 (vInt z3 i))/\z14/\(e1F F k++txF (stOf z5) 1).length+(nuF (vInt z3) 2).length<=9223372036854775807/\z16/\z14/\(9=9/\2=2/\2<=100/\(∀(i:Nat),i<2->[AV.str (List.getD [z0.v.o,z0.v.p] i [])]=[.str (stOf z4 i)])/\∀(i:Nat),i<2->(stOf z4 i).length<=1099511627776)/\z14/\(e1F F k++txF (stOf z5) 1++nuF (vInt z3) 2).length+(txF (stOf z4) 2).length<=9223372036854775807/\(4<=16777216/\1=1/\4<=9223372036854775807)/\(∀(i:Nat),i<4->true=true)/\(2=2/\4=4/\4<=100/\(∀(i:Nat),i<4->[AV.q (List.getD [z0.v.per,z0.v.day,z0.v.st,z0.v.pr] i (0:Int))]=[.q (vInt z2 i)])/\∀(i:Nat),i<4->inR .i64 (vInt z2 i))/\(∀(i:Nat),i<4->true=true)/\(e1F F k++txF (stOf z5) 1++nuF (vInt z3) 2++txF (stOf z4) 2).length+(nuF (vInt z2) 4).length<=9223372036854775807/\z12/\z10/\(9=9/\1=1/\1<=100/\(∀(i:Nat),i<1->[AV.str (List.getD [z0.v.rep] i [])]=[.str (stOf z8 i)])/\∀(i:Nat),i<1->(stOf z8 i).length<=1099511627776)/\z10/\(e1F F k++txF (stOf z5) 1++nuF (vInt z3) 2++txF (stOf z4) 2++nuF (vInt z2) 4).length+(txF (stOf z8) 1).length<=9223372036854775807/\z16/\z14/\(9=9/\2=2/\2<=100/\(∀(i:Nat),i<2->[AV.str (List.getD [z0.d.o,z0.d.p] i [])]=[.str (stOf z7 i)])/\∀(i:Nat),i<2->(stOf z7 i).length<=1099511627776)/\z14/\(e1F F k++txF (stOf z5) 1++nuF (vInt z3) 2++txF (stOf z4) 2++nuF (vInt z2) 4++txF (stOf z8) 1).length+(txF (stOf z7) 2).length<=9223372036854775807/\z12/\z10/\(2=2/\1=1/\1<=100/\(∀(i:Nat),i<1->[AV.q (List.getD [z0.d.per] i (0:Int))]=[.q (vInt z9 i)])/\∀(i:Nat),i<1->inR .i64 (vInt z9 i))/\z10/\(e1F F k++txF (stOf z5) 1++nuF (vInt z3) 2++txF (stOf z4) 2++nuF (vInt z2) 4++txF (stOf z8) 1++txF (stOf z7) 2).length+(nuF (vInt z9) 1).length<=9223372036854775807/\z12/\z10/\(9=9/\1=1/\1<=100/\(∀(i:Nat),i<1->[AV.str (List.getD [z0.d.dev] i [])]=[.str (stOf z11 i)])/\∀(i:Nat),i<1->(stOf z11 i).length<=1099511627776)/\z10/\(e1F F k++txF (stOf z5) 1++nuF (vInt z3) 2++txF (stOf z4) 2++nuF (vInt z2) 4++txF (stOf z8) 1++txF (stOf z7) 2++nuF (vInt z9) 1).length+(txF (stOf z11) 1).length<=9223372036854775807/\z12/\z10/\(2=2/\1=1/\1<=100/\(∀(i:Nat),i<1->[AV.q (List.getD [z0.d.num] i (0:Int))]=[.q (vInt z13 i)])/\∀(i:Nat),i<1->inR .i64 (vInt z13 i))/\z10/\(e1F F k++txF (stOf z5) 1++nuF (vInt z3) 2++txF (stOf z4) 2++nuF (vInt z2) 4++txF (stOf z8) 1++txF (stOf z7) 2++nuF (vInt z9) 1++txF (stOf z11) 1).length+(nuF (vInt z13) 1).length<=9223372036854775807/\inR .i64 ((k:Int)+1)/\∃(i':Nat),some (St.mk [(1,.ptr 0 0),(3,.str (e1F F k++txF (stOf z5) 1++nuF (vInt z3) 2++txF (stOf z4) 2++nuF (vInt z2) 4++txF (stOf z8) 1++txF (stOf z7) 2++nuF (vInt z9) 1++txF (stOf z11) 1++nuF (vInt z13) 1)),(29,.view 15 z15 z17),(30,.q (z15:Int)),(31,.q ((k:Int)+1))] z6 1 [])=some (St.mk [(1,.ptr 0 0),(3,.str (e1F F i')),(29,.view 15 z15 z17),(30,.q (z15:Int)),(31,.q (i':Int))] z6 1 [])/\P i') (R (.exit 0) (St.mk [(1,.ptr 0 0),(3,.str (e1F F k))] z6 1 []))):=by kernel_rfl
theorem w3o(F:FL)(k:Nat)(P:Nat->Prop)(R:eR7):wa1 ⟨te,[(86,.det wdr),(87,.det wds)],[],0,185,0⟩ (wa2 Tryz.f34 12) [1,3,108,109,110] [1,3] [] (S_q2 F) P R (S_q2 F k)=(letI z5:=wae (atR F.rs);letI z4:=F.rs.length;letI z2:=([(0,.cells [.str F.id,.q F.ver,.q F.day,.q F.kind,.view 15 F.ms.length (wad (atM F.ms)),.view 5 z4 z5,.view 5 F.ts.length (wag (atT F.ts))] 49)]:oL7);letI z0:=(atR F.rs (k:Int).toNat);letI z3:=wap 1 (.q z0.per:: .q z0.u:: .q z0.tv::List.append [] wb6);letI z1:=wap (TI.sz (tiO Tryz.prog false 9)) (.str z0.o:: .str z0.p::List.append [] wd1);wab (decide ((k:Int)<(z4:Int))) (((0:Int)<=(k:Int)/\(k:Int)<(z4:Int)/\5=5)/\(2<=16777216/\1=1/\2<=9223372036854775807)/\(∀(i:Nat),i<2->true=true)/\(9=9/\2=2/\2<=100/\(∀(i:Nat),i<2->[AV.str (List.getD [z0.o,z0.p] i [])]=[.str (stOf z1 i)])/\∀(i:Nat),i<2->(stOf z1 i).length<=1099511627776)/\(∀(i:Nat),i<2->true=true)/\(e2F F k).length+(txF (stOf z1) 2).length<=9223372036854775807/\(3<=16777216/\1=1/\3<=9223372036854775807)/\(∀(i:Nat),i<3->true=true)/\(2=2/\3=3/\3<=100/\(∀(i:Nat),i<3->[AV.q (List.getD [z0.per,z0.u,z0.tv] i (0:Int))]=[.q (vInt z3 i)])/\∀(i:Nat),i<3->inR .i64 (vInt z3 i))/\(∀(i:Nat),i<3->true=true)/\(e2F F k++txF (stOf z1) 2).length+(nuF (vInt z3) 3).length<=9223372036854775807/\inR .i64 ((k:Int)+1)/\∃(i':Nat),some (St.mk [(1,.ptr 0 0),(3,.str (e2F F k++txF (stOf z1) 2++nuF (vInt z3) 3)),(108,.view 5 z4 z5),(109,.q (z4:Int)),(110,.q ((k:Int)+1))] z2 1 [])=some (St.mk [(1,.ptr 0 0),(3,.str (e2F F i')),(108,.view 5 z4 z5),(109,.q (z4:Int)),(110,.q (i':Int))] z2 1 [])/\P i') (R (.exit 2) (St.mk [(1,.ptr 0 0),(3,.str (e2F F k))] z2 1 []))):=by kernel_rfl
theorem w3n(F:FL)(k:Nat)(P:Nat->Prop)(R:eR7):wa1 ⟨te,[(86,.det wdr),(87,.det wds)],[(22,L_q4 F k (e3F F k) (atT F.ts k))],0,185,0⟩ (wa2 Tryz.f34 18) [3,140,141,142] [3] [] (S_q3 F) P R (S_q3 F k)=(letI z6:=wag (atT F.ts);letI z4:=atT F.ts k;letI z7:=z4.bs.length;letI z3:=F.ts.length;letI z0:=(atT F.ts (k:Int).toNat);letI z5:=(z0.bs.length:Int);letI z2:=(wap 1 (.q z0.per:: .q z0.st:: .q z5::List.append [] wb6));letI z1:=wap (TI.sz (tiO Tryz.prog false 9)) (.str z0.o:: .str z0.p::List.append [] wd1);wab (decide ((k:Int)<(z3:Int))) (((0:Int)<=(k:Int)/\(k:Int)<(z3:Int)/\5=5)/\(2<=16777216/\1=1/\2<=9223372036854775807)/\(∀(i:Nat),i<2->true=true)/\(9=9/\2=2/\2<=100/\(∀(i:Nat),i<2->[AV.str (List.getD [z0.o,z0.p] i [])]=[.str (stOf z1 i)])/\∀(i:Nat),i<2->(stOf z1 i).length<=1099511627776)/\(∀(i:Nat),i<2->true=true)/\(e3F F k).length+(txF (stOf z1) 2).length<=9223372036854775807/\(3<=16777216/\1=1/\3<=9223372036854775807)/\(∀(i:Nat),i<3->true=true)/\(2=2/\3=3/\3<=100/\(∀(i:Nat),i<3->[AV.q (List.getD [z0.per,z0.st,z5] i (0:Int))]=[.q (vInt z2 i)])/\∀(i:Nat),i<3->inR .i64 (vInt z2 i))/\(∀(i:Nat),i<3->true=true)/\(e3F F k++txF (stOf z1) 2).length+(nuF (vInt z2) 3).length<=9223372036854775807/\some (St.mk [(3,.str (e3F F k++txF (stOf z1) 2++nuF (vInt z2) 3)),(140,.view 5 z3 z6),(141,.q (z3:Int)),(142,.q (k:Int)),(168,.view 2 z0.bs.length (wan (atB z0.bs))),(169,.q z5),(170,.q 0)] [] 0 [])=some (St.mk [(3,.str (e4F (e3F F k) z4 0)),(140,.view 5 z3 z6),(141,.q (z3:Int)),(142,.q (k:Int)),(168,.view 2 z7 (wan (atB z4.bs))),(169,.q (z7:Int)),(170,.q (↑0:Int))] [] 0 [])/\RT.Rg z4/\(e4F (e3F F k) z4 z7).length<=1099511627776/\inR .i64 ((k:Int)+1)/\∃(i':Nat),some (St.mk [(3,.str (e3F F k++rtE z4)),(140,.view 5 z3 z6),(141,.q (z3:Int)),(142,.q ((k:Int)+1))] [] 0 [])=some (St.mk [(3,.str (e3F F i')),(140,.view 5 z3 z6),(141,.q (z3:Int)),(142,.q (i':Int))] [] 0 [])/\P i') (R (.exit 4) (St.mk [(3,.str (e3F F k))] [] 0 []))):=by kernel_rfl
theorem w3m(F:FL)(k:Nat)(L:List UInt8)(t:RT)(j:Nat)(P:Nat->Prop)(R:eR7):wa1 ⟨te,[(86,.det wdr),(87,.det wds)],[],0,185,0⟩ (wa2 Tryz.f34 22) [3,140,141,142,168,169,170] [3,140,141,142] [] (S_q4 F k L t) P R (S_q4 F k L t j)=(letI z4:=wag (atT F.ts);letI z3:=F.ts.length;letI z2:=t.bs.length;letI z1:=(atB t.bs (j:Int).toNat);letI z0:=(wap 1 (.q z1.up:: .q z1.pr::List.append [] wb6));wab (decide ((j:Int)<(z2:Int))) (((0:Int)<=(j:Int)/\(j:Int)<(z2:Int)/\2=2)/\(2<=16777216/\1=1/\2<=9223372036854775807)/\(∀(i:Nat),i<2->true=true)/\(2=2/\2=2/\2<=100/\(∀(i:Nat),i<2->[AV.q (List.getD [z1.up,z1.pr] i (0:Int))]=[.q (vInt z0 i)])/\∀(i:Nat),i<2->inR .i64 (vInt z0 i))/\(∀(i:Nat),i<2->true=true)/\(e4F L t j).length+(nuF (vInt z0) 2).length<=9223372036854775807/\inR .i64 ((j:Int)+1)/\∃(i':Nat),some (St.mk [(3,.str (e4F L t j++nuF (vInt z0) 2)),(140,.view 5 z3 z4),(141,.q (z3:Int)),(142,.q (k:Int)),(168,.view 2 z2 (wan (atB t.bs))),(169,.q (z2:Int)),(170,.q ((j:Int)+1))] [] 0 [])=some (St.mk [(3,.str (e4F L t i')),(140,.view 5 z3 z4),(141,.q (z3:Int)),(142,.q (k:Int)),(168,.view 2 z2 (wan (atB t.bs))),(169,.q (z2:Int)),(170,.q (i':Int))] [] 0 [])/\P i') (R (.exit 6) (St.mk [(3,.str (e4F L t j)),(140,.view 5 z3 z4),(141,.q (z3:Int)),(142,.q (k:Int))] [] 0 []))):=by kernel_rfl
theorem up1{p:Nat->Prop}(h0:p 0):∀i,i<1->p i:=λi hi=>by
 match i,hi with
 |0,_=>exact h0
theorem up2{p:Nat->Prop}(h0:p 0)(h1:p 1):∀i,i<2->p i:=λi hi=>by
 match i,hi with
 |0,_=>exact h0
 |1,_=>exact h1
theorem up3{p:Nat->Prop}(h0:p 0)(h1:p 1)(h2:p 2):∀i,i<3->p i:=λi hi=>by
 match i,hi with
 |0,_=>exact h0
 |1,_=>exact h1
 |2,_=>exact h2
theorem up4{p:Nat->Prop}(h0:p 0)(h1:p 1)(h2:p 2)(h3:p 3):∀i,i<4->p i:=λi hi=>by
 match i,hi with
 |0,_=>exact h0
 |1,_=>exact h1
 |2,_=>exact h2
 |3,_=>exact h3
theorem we2 {g : Nat → List UInt8} {x : Nat → List UInt8} (h : ∀ k, g (k + 1) = g k ++ x k) {j : Nat} : ∀ k, j ≤ k → (g j).length ≤ (g k).length
  | 0, hk => by obtain rfl : j = 0 := by omega
                exact lR7 _
  | k + 1, hk => by
    by_cases e : j = k + 1
    · subst e; exact lR7 _
    · have := we2 (j := j) h k (by omega)
      rw [h k, lA7]; omega
theorem e1F_le(F:FL){k:Nat}(hk:k<=F.ms.length):(e1F F k).length<=(encF F).length:=by
 have h1:=we2 (g:=e1F F) (x:=λk=>mgE (atM F.ms k)) (λ_=>rfl) (j:=k) _ hk;have h2:=we2 (g:=e2F F) (x:=λk=>rwE (atR F.rs k)) (λ_=>rfl) (j:=0) _ (zL7 F.rs.length);have h3:=we2 (g:=e3F F) (x:=λk=>rtE (atT F.ts k)) (λ_=>rfl) (j:=0) _ (zL7 F.ts.length);rw[← wly];have a:(e2F F 0).length=(e1F F F.ms.length).length+(numE F.rs.length).length:=lA7;have b:(e3F F 0).length=(e2F F F.rs.length).length+(numE F.ts.length).length:=lA7;omega
theorem e2F_le(F:FL){k:Nat}(hk:k<=F.rs.length):(e2F F k).length<=(encF F).length:=by
 have h2:=we2 (g:=e2F F) (x:=λk=>rwE (atR F.rs k)) (λ_=>rfl) (j:=k) _ hk;have h3:=we2 (g:=e3F F) (x:=λk=>rtE (atT F.ts k)) (λ_=>rfl) (j:=0) _ (zL7 F.ts.length);rw[← wly];have b:(e3F F 0).length=(e2F F F.rs.length).length+(numE F.ts.length).length:=lA7;omega
theorem e3F_le(F:FL){k:Nat}(hk:k<=F.ts.length):(e3F F k).length<=(encF F).length:=by
 have h3:=we2 (g:=e3F F) (x:=λk=>rtE (atT F.ts k)) (λ_=>rfl) (j:=k) _ hk;rw[← wly];omega
theorem atM_rg{F:FL}(h:F.Rg){i:Nat}(hi:i<F.ms.length):(atM F.ms i).Rg:=h.m _ (wj0 hi)
theorem atR_rg{F:FL}(h:F.Rg){i:Nat}(hi:i<F.rs.length):(atR F.rs i).Rg:=h.r _ (by unfold atR;simp[List.getD,hi])
theorem atT_rg{F:FL}(h:F.Rg){i:Nat}(hi:i<F.ts.length):(atT F.ts i).Rg:=h.t _ (wfs hi)
theorem atB_rg{t:RT}(h:t.Rg){i:Nat}(hi:i<t.bs.length):inR .i64 (atB t.bs i).up/\inR .i64 (atB t.bs i).pr:=h.b _ (by unfold atB;simp[List.getD,hi])
theorem cntR{n:Nat}(h:n<=1000):inR .i64 (n:Int):=by simp only[inR];omega
theorem q1_loop(hP:C.P=Tryz.prog)(F:FL):waj C 0 185 (wam Tryz.f34 3) (L_q1 F):=by
 rintro st Q ⟨h0,hr,hQ⟩;have b1:=hr.nm;refine waj.mk (prg hP) [(86,.det wdr),(87,.det wds)] 0 (.cons (wit hP) (.cons (wi9 hP) .nil)) [1,3,29,30,31] [1,3] [] (S_q1 F) (λk=>k<=F.ms.length) (λk=>F.ms.length - k) 0 (zL7 _) h0 (λk hk=>?_);rw[w3p,tN7];refine wak (λh1=>?_) (λh1=>?_)
 .have hlt:k<F.ms.length:=by omega
  have rg:=atM_rg hr hlt;have hl:=Nat.le_trans (e1F_le F (k:=k+1) hlt) hr.len;have e:e1F F (k+1)=e1F F k++mgE (atM F.ms k):=rfl;have eX:e1F F k++([]++txtE (atM F.ms k).dev)++([]++numE (atM F.ms k).seq++numE (atM F.ms k).kind)++([]++txtE (atM F.ms k).v.o++txtE (atM F.ms k).v.p)++([]++numE (atM F.ms k).v.per++numE (atM F.ms k).v.day++numE (atM F.ms k).v.st++numE (atM F.ms k).v.pr)++([]++txtE (atM F.ms k).v.rep)++([]++txtE (atM F.ms k).d.o++txtE (atM F.ms k).d.p)++([]++numE (atM F.ms k).d.per)++([]++txtE (atM F.ms k).d.dev)++([]++numE (atM F.ms k).d.num)=e1F F (k+1):=by rw[e,mgE];simp only[List.nil_append,List.append_assoc]
  have hX:(e1F F k++([]++txtE (atM F.ms k).dev)++([]++numE (atM F.ms k).seq++numE (atM F.ms k).kind)++([]++txtE (atM F.ms k).v.o++txtE (atM F.ms k).v.p)++([]++numE (atM F.ms k).v.per++numE (atM F.ms k).v.day++numE (atM F.ms k).v.st++numE (atM F.ms k).v.pr)++([]++txtE (atM F.ms k).v.rep)++([]++txtE (atM F.ms k).d.o++txtE (atM F.ms k).d.p)++([]++numE (atM F.ms k).d.per)++([]++txtE (atM F.ms k).d.dev)++([]++numE (atM F.ms k).d.num)).length<=1099511627776:=by rw[eX];exact hl
  exact⟨⟨by omega,by omega,rfl⟩,⟨by omega,rfl,by omega⟩,λ_ _=>rfl,⟨rfl,rfl,by omega,up1 rfl,up1 (by show ((atM F.ms k).dev).length<=1099511627776;have:=wbz ((atM F.ms k).dev);simp only[lA7,List.length_nil] at hX;omega)⟩,λ_ _=>rfl,(by show (e1F F k).length+([]++txtE (atM F.ms k).dev).length<=9223372036854775807;simp only[lA7,List.length_nil] at hX ⊢;omega),⟨by omega,rfl,by omega⟩,λ_ _=>rfl,⟨rfl,rfl,by omega,up2 rfl rfl,up2 rg.seq rg.kind⟩,λ_ _=>rfl,(by show (e1F F k++([]++txtE (atM F.ms k).dev)).length+([]++numE (atM F.ms k).seq++numE (atM F.ms k).kind).length<=9223372036854775807;simp only[lA7,List.length_nil] at hX ⊢;omega),⟨by omega,rfl,by omega⟩,λ_ _=>rfl,⟨rfl,rfl,by omega,up2 rfl rfl,up2 (by show ((atM F.ms k).v.o).length<=1099511627776;have:=wbz ((atM F.ms k).v.o);simp only[lA7,List.length_nil] at hX;omega) (by show ((atM F.ms k).v.p).length<=1099511627776;have:=wbz ((atM F.ms k).v.p);simp only[lA7,List.length_nil] at hX;omega)⟩,λ_ _=>rfl,(by show (e1F F k++([]++txtE (atM F.ms k).dev)++([]++numE (atM F.ms k).seq++numE (atM F.ms k).kind)).length+([]++txtE (atM F.ms k).v.o++txtE (atM F.ms k).v.p).length<=9223372036854775807;simp only[lA7,List.length_nil] at hX ⊢;omega),⟨by omega,rfl,by omega⟩,λ_ _=>rfl,⟨rfl,rfl,by omega,up4 rfl rfl rfl rfl,up4 rg.per rg.day rg.st rg.pr⟩,λ_ _=>rfl,(by show (e1F F k++([]++txtE (atM F.ms k).dev)++([]++numE (atM F.ms k).seq++numE (atM F.ms k).kind)++([]++txtE (atM F.ms k).v.o++txtE (atM F.ms k).v.p)).length+([]++numE (atM F.ms k).v.per++numE (atM F.ms k).v.day++numE (atM F.ms k).v.st++numE (atM F.ms k).v.pr).length<=9223372036854775807;simp only[lA7,List.length_nil] at hX ⊢;omega),⟨by omega,rfl,by omega⟩,λ_ _=>rfl,⟨rfl,rfl,by omega,up1 rfl,up1 (by show ((atM F.ms k).v.rep).length<=1099511627776;have:=wbz ((atM F.ms k).v.rep);simp only[lA7,List.length_nil] at hX;omega)⟩,λ_ _=>rfl,(by show (e1F F k++([]++txtE (atM F.ms k).dev)++([]++numE (atM F.ms k).seq++numE (atM F.ms k).kind)++([]++txtE (atM F.ms k).v.o++txtE (atM F.ms k).v.p)++([]++numE (atM F.ms k).v.per++numE (atM F.ms k).v.day++numE (atM F.ms k).v.st++numE (atM F.ms k).v.pr)).length+([]++txtE (atM F.ms k).v.rep).length<=9223372036854775807;simp only[lA7,List.length_nil] at hX ⊢;omega),⟨by omega,rfl,by omega⟩,λ_ _=>rfl,⟨rfl,rfl,by omega,up2 rfl rfl,up2 (by show ((atM F.ms k).d.o).length<=1099511627776;have:=wbz ((atM F.ms k).d.o);simp only[lA7,List.length_nil] at hX;omega) (by show ((atM F.ms k).d.p).length<=1099511627776;have:=wbz ((atM F.ms k).d.p);simp only[lA7,List.length_nil] at hX;omega)⟩,λ_ _=>rfl,(by show (e1F F k++([]++txtE (atM F.ms k).dev)++([]++numE (atM F.ms k).seq++numE (atM F.ms k).kind)++([]++txtE (atM F.ms k).v.o++txtE (atM F.ms k).v.p)++([]++numE (atM F.ms k).v.per++numE (atM F.ms k).v.day++numE (atM F.ms k).v.st++numE (atM F.ms k).v.pr)++([]++txtE (atM F.ms k).v.rep)).length+([]++txtE (atM F.ms k).d.o++txtE (atM F.ms k).d.p).length<=9223372036854775807;simp only[lA7,List.length_nil] at hX ⊢;omega),⟨by omega,rfl,by omega⟩,λ_ _=>rfl,⟨rfl,rfl,by omega,up1 rfl,up1 rg.dper⟩,λ_ _=>rfl,(by show (e1F F k++([]++txtE (atM F.ms k).dev)++([]++numE (atM F.ms k).seq++numE (atM F.ms k).kind)++([]++txtE (atM F.ms k).v.o++txtE (atM F.ms k).v.p)++([]++numE (atM F.ms k).v.per++numE (atM F.ms k).v.day++numE (atM F.ms k).v.st++numE (atM F.ms k).v.pr)++([]++txtE (atM F.ms k).v.rep)++([]++txtE (atM F.ms k).d.o++txtE (atM F.ms k).d.p)).length+([]++numE (atM F.ms k).d.per).length<=9223372036854775807;simp only[lA7,List.length_nil] at hX ⊢;omega),⟨by omega,rfl,by omega⟩,λ_ _=>rfl,⟨rfl,rfl,by omega,up1 rfl,up1 (by show ((atM F.ms k).d.dev).length<=1099511627776;have:=wbz ((atM F.ms k).d.dev);simp only[lA7,List.length_nil] at hX;omega)⟩,λ_ _=>rfl,(by show (e1F F k++([]++txtE (atM F.ms k).dev)++([]++numE (atM F.ms k).seq++numE (atM F.ms k).kind)++([]++txtE (atM F.ms k).v.o++txtE (atM F.ms k).v.p)++([]++numE (atM F.ms k).v.per++numE (atM F.ms k).v.day++numE (atM F.ms k).v.st++numE (atM F.ms k).v.pr)++([]++txtE (atM F.ms k).v.rep)++([]++txtE (atM F.ms k).d.o++txtE (atM F.ms k).d.p)++([]++numE (atM F.ms k).d.per)).length+([]++txtE (atM F.ms k).d.dev).length<=9223372036854775807;simp only[lA7,List.length_nil] at hX ⊢;omega),⟨by omega,rfl,by omega⟩,λ_ _=>rfl,⟨rfl,rfl,by omega,up1 rfl,up1 rg.num⟩,λ_ _=>rfl,(by show (e1F F k++([]++txtE (atM F.ms k).dev)++([]++numE (atM F.ms k).seq++numE (atM F.ms k).kind)++([]++txtE (atM F.ms k).v.o++txtE (atM F.ms k).v.p)++([]++numE (atM F.ms k).v.per++numE (atM F.ms k).v.day++numE (atM F.ms k).v.st++numE (atM F.ms k).v.pr)++([]++txtE (atM F.ms k).v.rep)++([]++txtE (atM F.ms k).d.o++txtE (atM F.ms k).d.p)++([]++numE (atM F.ms k).d.per)++([]++txtE (atM F.ms k).d.dev)).length+([]++numE (atM F.ms k).d.num).length<=9223372036854775807;simp only[lA7,List.length_nil] at hX ⊢;omega),by simp only[inR];omega,k+1,congrArg (λs:List UInt8=>some (S_q1s F s (k+1))) eX,hlt,by omega⟩
 .have:k=F.ms.length:=by omega
  subst this;exact hQ
theorem q2_loop(hP:C.P=Tryz.prog)(F:FL):waj C 0 185 (wam Tryz.f34 12) (L_q2 F):=by
 rintro st Q ⟨h0,hr,hQ⟩;have b1:=hr.nr;refine waj.mk (prg hP) [(86,.det wdr),(87,.det wds)] 0 (.cons (wit hP) (.cons (wi9 hP) .nil)) [1,3,108,109,110] [1,3] [] (S_q2 F) (λk=>k<=F.rs.length) (λk=>F.rs.length - k) 0 (zL7 _) h0 (λk hk=>?_);rw[w3o,tN7];refine wak (λh1=>?_) (λh1=>?_)
 .have hlt:k<F.rs.length:=by omega
  have rg:=atR_rg hr hlt;have hl:=Nat.le_trans (e2F_le F (k:=k+1) hlt) hr.len;have e:e2F F (k+1)=e2F F k++rwE (atR F.rs k):=rfl;have eX:e2F F k++([]++txtE (atR F.rs k).o++txtE (atR F.rs k).p)++([]++numE (atR F.rs k).per++numE (atR F.rs k).u++numE (atR F.rs k).tv)=e2F F (k+1):=by rw[e,rwE];simp only[List.nil_append,List.append_assoc]
  have hX:(e2F F k++([]++txtE (atR F.rs k).o++txtE (atR F.rs k).p)++([]++numE (atR F.rs k).per++numE (atR F.rs k).u++numE (atR F.rs k).tv)).length<=1099511627776:=by rw[eX];exact hl
  exact⟨⟨by omega,by omega,rfl⟩,⟨by omega,rfl,by omega⟩,λ_ _=>rfl,⟨rfl,rfl,by omega,up2 rfl rfl,up2 (by show ((atR F.rs k).o).length<=1099511627776;have:=wbz ((atR F.rs k).o);simp only[lA7,List.length_nil] at hX;omega) (by show ((atR F.rs k).p).length<=1099511627776;have:=wbz ((atR F.rs k).p);simp only[lA7,List.length_nil] at hX;omega)⟩,λ_ _=>rfl,(by show (e2F F k).length+([]++txtE (atR F.rs k).o++txtE (atR F.rs k).p).length<=9223372036854775807;simp only[lA7,List.length_nil] at hX ⊢;omega),⟨by omega,rfl,by omega⟩,λ_ _=>rfl,⟨rfl,rfl,by omega,up3 rfl rfl rfl,up3 rg.per rg.u rg.tv⟩,λ_ _=>rfl,(by show (e2F F k++([]++txtE (atR F.rs k).o++txtE (atR F.rs k).p)).length+([]++numE (atR F.rs k).per++numE (atR F.rs k).u++numE (atR F.rs k).tv).length<=9223372036854775807;simp only[lA7,List.length_nil] at hX ⊢;omega),by simp only[inR];omega,k+1,congrArg (λs:List UInt8=>some (S_q2s F s (k+1))) eX,hlt,by omega⟩
 .have:k=F.rs.length:=by omega
  subst this;exact hQ
theorem q4_loop(hP:C.P=Tryz.prog)(F:FL)(k:Nat)(L:List UInt8)(t:RT):waj C 0 185 (wam Tryz.f34 22) (L_q4 F k L t):=by
 rintro st Q ⟨h0,hr,hlen,hQ⟩;have b1:=hr.n;have h4:=wyr L t;refine waj.mk (prg hP) [(86,.det wdr),(87,.det wds)] 0 (.cons (wit hP) (.cons (wi9 hP) .nil)) [3,140,141,142,168,169,170] [3,140,141,142] [] (S_q4 F k L t) (λj=>j<=t.bs.length) (λj=>t.bs.length - j) 0 (zL7 _) h0 (λj hk=>?_);rw[w3m,tN7];refine wak (λh1=>?_) (λh1=>?_)
 .have hlt:j<t.bs.length:=by omega
  obtain⟨r1,r2⟩:=atB_rg hr hlt;have hl:=Nat.le_trans (we2 (g:=e4F L t) (x:=λi=>bkE (atB t.bs i)) (λ_=>rfl) (j:=j+1) t.bs.length hlt) hlen;have eX:e4F L t j++([]++numE (atB t.bs j).up++numE (atB t.bs j).pr)=e4F L t (j+1):=by simp only[e4F,bkE,List.nil_append]
  have hX:(e4F L t j++([]++numE (atB t.bs j).up++numE (atB t.bs j).pr)).length<=1099511627776:=by rw[eX];exact hl
  exact⟨⟨by omega,by omega,rfl⟩,⟨by omega,rfl,by omega⟩,λ_ _=>rfl,⟨rfl,rfl,by omega,up2 rfl rfl,up2 r1 r2⟩,λ_ _=>rfl,(by show (e4F L t j).length+([]++numE (atB t.bs j).up++numE (atB t.bs j).pr).length<=9223372036854775807;simp only[lA7,List.length_nil] at hX ⊢;omega),by simp only[inR];omega,j+1,congrArg (λs:List UInt8=>some (S_q4s F k s t (j+1))) eX,hlt,by omega⟩
 .have:j=t.bs.length:=by omega
  subst this;rw[h4];exact hQ
theorem q3_loop(hP:C.P=Tryz.prog)(F:FL):waj C 0 185 (wam Tryz.f34 18) (L_q3 F):=by
 rintro st Q ⟨h0,hr,hQ⟩;have b1:=hr.nt;refine waj.mkI (prg hP) [(86,.det wdr),(87,.det wds)] (λk=>[(22,L_q4 F k (e3F F k) (atT F.ts k))]) 0 (.cons (wit hP) (.cons (wi9 hP) .nil)) (λk=>[(wam Tryz.f34 22,L_q4 F k (e3F F k) (atT F.ts k))]) (λk=>by kernel_rfl) (λk=>⟨q4_loop hP F k _ _,trivial⟩) [3,140,141,142] [3] [] (S_q3 F) (λk=>k<=F.ts.length) (λk=>F.ts.length - k) 0 (zL7 _) h0 (λk hk=>?_);rw[w3n,tN7];refine wak (λh1=>?_) (λh1=>?_)
 .have hlt:k<F.ts.length:=by omega
  have rg:=atT_rg hr hlt;have hl:=Nat.le_trans (e3F_le F (k:=k+1) hlt) hr.len;have e:e3F F (k+1)=e3F F k++rtE (atT F.ts k):=rfl;have h4:=wyr (e3F F k) (atT F.ts k);have hl4:(e4F (e3F F k) (atT F.ts k) (atT F.ts k).bs.length).length<=1099511627776:=by rw[h4, ← e];exact hl
  have g0:=we2 (g:=e4F (e3F F k) (atT F.ts k)) (x:=λi=>bkE (atB (atT F.ts k).bs i)) (λ_=>rfl) (j:=0) _ (zL7 (atT F.ts k).bs.length);have eX:e3F F k++([]++txtE (atT F.ts k).o++txtE (atT F.ts k).p)++([]++numE (atT F.ts k).per++numE (atT F.ts k).st++numE ((atT F.ts k).bs.length:Int))=e4F (e3F F k) (atT F.ts k) 0:=by simp only[e4F,List.nil_append,List.append_assoc]
  have hX:(e3F F k++([]++txtE (atT F.ts k).o++txtE (atT F.ts k).p)++([]++numE (atT F.ts k).per++numE (atT F.ts k).st++numE ((atT F.ts k).bs.length:Int))).length<=1099511627776:=by rw[eX];omega
  exact⟨⟨by omega,by omega,rfl⟩,⟨by omega,rfl,by omega⟩,λ_ _=>rfl,⟨rfl,rfl,by omega,up2 rfl rfl,up2 (by show ((atT F.ts k).o).length<=1099511627776;have:=wbz ((atT F.ts k).o);simp only[lA7,List.length_nil] at hX;omega) (by show ((atT F.ts k).p).length<=1099511627776;have:=wbz ((atT F.ts k).p);simp only[lA7,List.length_nil] at hX;omega)⟩,λ_ _=>rfl,(by show (e3F F k).length+([]++txtE (atT F.ts k).o++txtE (atT F.ts k).p).length<=9223372036854775807;simp only[lA7,List.length_nil] at hX ⊢;omega),⟨by omega,rfl,by omega⟩,λ_ _=>rfl,⟨rfl,rfl,by omega,up3 rfl rfl rfl,up3 rg.per rg.st (cntR rg.n)⟩,λ_ _=>rfl,(by show (e3F F k++([]++txtE (atT F.ts k).o++txtE (atT F.ts k).p)).length+([]++numE (atT F.ts k).per++numE (atT F.ts k).st++numE ((atT F.ts k).bs.length:Int)).length<=9223372036854775807;simp only[lA7,List.length_nil] at hX ⊢;omega),congrArg (λs:List UInt8=>some (S_q4s F k s (atT F.ts k) 0)) eX,rg,hl4,by simp only[inR];omega,k+1,rfl,hlt,by omega⟩
 .have:k=F.ts.length:=by omega
  subst this;exact hQ
theorem encR_at(hP:C.P=Tryz.prog)(F:FL)(hr:F.Rg):ADet C 34 [.agg [.str F.id,.q F.ver,.q F.day,.q F.kind,.view 15 F.ms.length (wad (atM F.ms)),.view 5 F.rs.length (wae (atR F.rs)),.view 5 F.ts.length (wag (atT F.ts))]] [] (.str (encF F)) []:=by
 refine wah.wpL (prg hP) [(86,.det wdr),(87,.det wds)] [(3,L_q1 F),(12,L_q2 F),(18,L_q3 F)] 0 (.cons (wit hP) (.cons (wi9 hP) .nil)) (hP ▸ Tryz.func34) rfl rfl rfl
  [(wam Tryz.f34 3,L_q1 F),(wam Tryz.f34 12,L_q2 F),(wam Tryz.f34 18,L_q3 F)] (by kernel_rfl) ⟨q1_loop hP F,q2_loop hP F,q3_loop hP F,trivial⟩ ?_
 rw[nf_encR];have n1:=cntR hr.nm;have n2:=cntR hr.nr;have n3:=cntR hr.nt;have b1:=Nat.le_trans (e1F_le F (k:=0) (zL7 _)) hr.len;have b2:=Nat.le_trans (e2F_le F (k:=0) (zL7 _)) hr.len;have b3:=Nat.le_trans (e3F_le F (k:=0) (zL7 _)) hr.len;have e1:([]++txtE F.id)++([]++numE F.ver++numE F.kind++numE (F.ms.length:Int))=e1F F 0:=by simp only[e1F,List.nil_append,List.append_assoc]
 have e2:e1F F F.ms.length++([]++numE (F.rs.length:Int))=e2F F 0:=by simp only[e2F,List.nil_append]
 have e3:e2F F F.rs.length++([]++numE (F.ts.length:Int))=e3F F 0:=by simp only[e3F,List.nil_append]
 have hX1:(([]++txtE F.id)++([]++numE F.ver++numE F.kind++numE (F.ms.length:Int))).length<=1099511627776:=by rw[e1];exact b1
 have hX2:(e1F F F.ms.length++([]++numE (F.rs.length:Int))).length<=1099511627776:=by rw[e2];exact b2
 have hX3:(e2F F F.rs.length++([]++numE (F.ts.length:Int))).length<=1099511627776:=by rw[e3];exact b3
 refine⟨⟨by omega,rfl,by omega⟩,λ_ _=>rfl,⟨rfl,rfl,by omega,up1 rfl,up1 (by show (F.id).length<=1099511627776;have:=wbz (F.id);simp only[lA7,List.length_nil] at hX1;omega)⟩,λ_ _=>rfl,⟨by omega,rfl,by omega⟩,λ_ _=>rfl,⟨rfl,rfl,by omega,up3 rfl rfl rfl,up3 hr.ver hr.kind n1⟩,λ_ _=>rfl,(by show (([]++txtE F.id)).length+([]++numE F.ver++numE F.kind++numE (F.ms.length:Int)).length<=9223372036854775807;simp only[lA7,List.length_nil] at hX1 ⊢;omega),congrArg (λs:List UInt8=>some (S_q1s F s 0)) e1,hr,⟨by omega,rfl,by omega⟩,λ_ _=>rfl,⟨rfl,rfl,by omega,up1 rfl,up1 n2⟩,λ_ _=>rfl,(by show (e1F F F.ms.length).length+([]++numE (F.rs.length:Int)).length<=9223372036854775807;simp only[lA7,List.length_nil] at hX2 ⊢;omega),congrArg (λs:List UInt8=>some (S_q2s F s 0)) e2,hr,⟨by omega,rfl,by omega⟩,λ_ _=>rfl,⟨rfl,rfl,by omega,up1 rfl,up1 n3⟩,λ_ _=>rfl,(by show (e2F F F.rs.length).length+([]++numE (F.ts.length:Int)).length<=9223372036854775807;simp only[lA7,List.length_nil] at hX3 ⊢;omega),congrArg (λs:List UInt8=>some (S_q3s F s 0)) e3,hr,?_⟩;rw[wly];exact⟨rfl,rfl⟩
theorem encR_ok(hP:C.P=Tryz.prog):wah C 34 S_enc:=by
 rintro args objs U Os vc h hvc;unfold S_enc at h;split at h<;>cases h;rename_i id ver day kind nm fm nr fr nt ft;obtain⟨hc,hs⟩:=hvc;have l1:(lst (mgOf fm) nm).length=nm:=by simp[lst]
 have l2:(lst (rwOf fr) nr).length=nr:=by simp[lst]
 have l3:(lst (rtOf ft) nt).length=nt:=by simp[lst]
 obtain⟨c1,c2,c3⟩:=hc;unfold flV at hs ⊢;generalize lst (mgOf fm) nm=ms at *;generalize lst (rwOf fr) nr=rs at *;generalize lst (rtOf ft) nt=ts at *;subst l1;subst l2;subst l3;subst c1;subst c2;subst c3;exact encR_at hP ⟨id,ver,day,kind,ms,rs,ts⟩ hs
end Go.Eng
