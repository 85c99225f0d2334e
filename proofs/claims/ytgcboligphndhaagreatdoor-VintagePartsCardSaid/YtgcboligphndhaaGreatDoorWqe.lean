/- The program's types. -/
import Derived.Test.YtgcboligphndhaaGreatDoorWqd
import Derived.LoopN
import Derived.Scope
import Derived.Test.YtgcboligphndhaaGreatDoorProg
import Derived.KernelRfl
namespace Go.Eng
theorem wb2{α:Type}(h:List Nat)(f:Nat->Option α):Sub (hide h f) f:=λd x hx=>by
 unfold hide at hx;split at hx
 .cases hx
 .exact hx
theorem wli{α:Type}{h:List Nat}{f:Nat->Option α}{d:Nat}(hd:hasN h d=false):hide h f d=f d:=by unfold hide;rw[hd]
theorem wvu{ρ:Nat->Option Nat}{O:Nat->Option AObj}{h:List Nat}:∀ {l:List Nat} {l':List AObj},(l.all λx=> !(hasN h x))=true->wd5 ρ O l=some l'->wd5 ρ (hide h O) l=some l'
 |[],l',_,ho=>ho
 |r::l,l',ha,ho=>by
  simp only[List.all_cons,bA7,Bool.not_eq_true'] at ha;simp only[wd5,wli ha.1] at ho ⊢;split at ho
  .rename_i o h1;split at ho
   .rename_i hm
    try simp only[hm]
    split at ho
    .rename_i o' h2
     try simp only[h2]
     split at ho
     .rename_i l2 h3;rw[wvu ha.2 h3];exact ho
     .cases ho
    .cases ho
   .cases ho
  .cases ho
theorem w1r{te:TE}{h:List Nat×List Nat}{T:List (Nat×AV)}{O:List (Nat×AObj)}{op:Op}{r r':AV×Prop}(h1:wb7 te (hide h.1 (lk T)) (hide h.2 (lk O)) op=some r)(h2:wb7 te (lk T) (lk O) op=some r'):
  wb7 te (hide h.1 (lk T)) (hide h.2 (lk O)) op=some r':=by
 have:=wjs (wb2 h.1 (lk T)) (wb2 h.2 (lk O)) h1;rw[h1, ← h2,this]
theorem w7s{te:TE}{h:List Nat×List Nat}{T:List (Nat×AV)}{O:List (Nat×AObj)}{k:Nat}{op:Op}{r r':AV×List (Nat×AObj)×Prop}(h1:wb8 te (hide h.1 (lk T)) (hide h.2 (lk O)) k op=some r)(h2:wb8 te (lk T) (lk O) k op=some r'):
  wb8 te (hide h.1 (lk T)) (hide h.2 (lk O)) k op=some r':=by
 have:=wls (wb2 h.1 (lk T)) (wb2 h.2 (lk O)) h1;rw[h1, ← h2,this]
theorem X_hide{te:TE}{h:List Nat×List Nat}{T:List (Nat×AV)}{O:List (Nat×AObj)}{k:Nat}{dst:Option Tmp}{op:Op}{r r':Bool×XOut×XOut}(h1:wci te (hide h.1 (lk T)) (hide h.2 (lk O)) k dst op=some r)(h2:wci te (lk T) (lk O) k dst op=some r'):
  wci te (hide h.1 (lk T)) (hide h.2 (lk O)) k dst op=some r':=by
 have:=wx4 (wb2 h.1 (lk T)) (wb2 h.2 (lk O)) h1;rw[h1, ← h2,this]
section
variable {C:Ctx} {G:Env} (hG:EnvOK C G) {opl:List Oper} {o:Oper} {T:List (Nat×AV)} {O:List (Nat×AObj)} {k:Nat}
include hG
theorem wtv{K:AV->List (Nat×AObj)->Prop}(hw:wpD1 G o T O k K):
  ∃u l,K u l/\∀h:List Nat×List Nat,wcy opl h.1 T o true->wgk G.te h k o T O=true->wby C G.N opl h.1 h.2 k o ⟨true,u,l⟩ T O:=by
 unfold wpD1 at hw;split at hw
 .rename_i hd;split at hw
  .rename_i u v hu;obtain⟨h1,h2⟩:=wir (wt7 hu) hw;refine⟨u,[],h2,λh hg hl=>?_⟩;unfold wgk at hl;split at hl
   .rename_i r hr;exact wby.pure hG.te hG.one hg (w1r hr hu) hd h1
   .split at hl
    .cases hl
    .rename_i hn;rw[hu] at hn;cases hn
  .rename_i hpn;split at hw
   .rename_i u l v hu;obtain⟨h1,h2⟩:=wir (wt8 hu) hw;refine⟨u,l,h2,λh hg hl=>?_⟩;unfold wgk at hl;split at hl
    .rename_i r hr;have:=wjs (wb2 h.1 (lk T)) (wb2 h.2 (lk O)) hr;rw[hpn] at this;cases this
    .split at hl
     .cases hl
     .split at hl
      .rename_i r hr;exact wby.eff hG.te hg (w7s hr hu) hd h1
      .split at hl
       .cases hl
       .rename_i hn;rw[hu] at hn;cases hn
   .rename_i hen;split at hw
    .rename_i b x1 x2 hx;have fin:∀x:XOut,(∀h:List Nat×List Nat,way C G.N o (hide h.1 (lk T)) (hide h.2 (lk O)) k x.1 x.2.1∨wci G.te (hide h.1 (lk T)) (hide h.2 (lk O)) k o.dst o.op=none)->K x.1 x.2.1->
       ∃u l,K u l/\∀h:List Nat×List Nat,wcy opl h.1 T o true->wgk G.te h k o T O=true->wby C G.N opl h.1 h.2 k o ⟨true,u,l⟩ T O:=by
      intro x hs hk;refine⟨x.1,x.2.1,hk,λh hg hl=>?_⟩
      rcases hs h with hs | hs
      .exact⟨hg,.inl ⟨rfl,hs⟩⟩
      .unfold wgk at hl;split at hl
       .rename_i r hr;have:=wjs (wb2 h.1 (lk T)) (wb2 h.2 (lk O)) hr;rw[hpn] at this;cases this
       .split at hl
        .cases hl
        .split at hl
         .rename_i r hr;have:=wls (wb2 h.1 (lk T)) (wb2 h.2 (lk O)) hr;rw[hen] at this;cases this
         .split at hl
          .cases hl
          .rw[hs,hx] at hl
           cases hl
     have step:∀h:List Nat×List Nat,(∀hh:wci G.te (hide h.1 (lk T)) (hide h.2 (lk O)) k o.dst o.op=some (b,x1,x2),(b=true->x1.2.2->way C G.N o (hide h.1 (lk T)) (hide h.2 (lk O)) k x1.1 x1.2.1)/\(b=false->x2.2.2->way C G.N o (hide h.1 (lk T)) (hide h.2 (lk O)) k x2.1 x2.2.1)):=
      λh hh=>wx3 hG.te hG.one hh hd
     obtain⟨h1,h2⟩:=wbv hw;have some_or:∀h:List Nat×List Nat,wci G.te (hide h.1 (lk T)) (hide h.2 (lk O)) k o.dst o.op=some (b,x1,x2)∨wci G.te (hide h.1 (lk T)) (hide h.2 (lk O)) k o.dst o.op=none:=by
      intro h
      cases hc:wci G.te (hide h.1 (lk T)) (hide h.2 (lk O)) k o.dst o.op with
      |none=>exact .inr rfl
      |some r=>exact .inl (by rw[← X_hide hc hx,hc])
     cases hb:b with
     |true=>exact fin x1 (λh=>(some_or h).imp (λhh=>(step h hh).1 hb (h1 hb).1) id) (h1 hb).2
     |false=>exact fin x2 (λh=>(some_or h).imp (λhh=>(step h hh).2 hb (h2 hb).1) id) (h2 hb).2
    rename_i hxn;split at hw
    .rename_i fo args at_ hop;split at hw
     .rename_i f cap hf;split at hw
      .rename_i aS ha;split at hw
       .rename_i S hS;dsimp only at hw;split at hw
        .rename_i hnd;split at hw
         .rename_i cobjs hobj;split at hw
          .rename_i U Os vc hUS;split at hw
           .rename_i O2 hnk hbk;obtain⟨hv,hvc,hw⟩:=wkp hw;obtain⟨hv',hw⟩:=wdv hw;refine⟨_,_,hw,λh hg hl=>?_⟩;unfold wgk at hl;split at hl
            .rename_i r hr;have:=wjs (wb2 h.1 (lk T)) (wb2 h.2 (lk O)) hr;rw[hpn] at this;cases this
            .split at hl
             .cases hl
             .split at hl
              .rename_i r hr;have:=wls (wb2 h.1 (lk T)) (wb2 h.2 (lk O)) hr;rw[hen] at this;cases this
              .split at hl
               .cases hl
               .split at hl
                .rename_i r hr;have:=wx4 (wb2 h.1 (lk T)) (wb2 h.2 (lk O)) hr;rw[hxn] at this;cases this
                rw[hxn] at hl;dsimp only at hl;rw[hop] at hl;dsimp only at hl;split at hl
                .rename_i f' cap' hf';have hff:=wbg (wb2 h.1 (lk T)) hf';rw[hf] at hff;simp only[sI7,AV.func.injEq] at hff;obtain⟨rfl,rfl⟩:=hff;split at hl
                 .rename_i aS' ha';have haa:=wjt (wb2 h.1 (lk T)) ha';rw[ha] at haa;simp only[sI7] at haa;subst haa;exact⟨hg,.inl ⟨rfl,way.call _ hop hd hf' ha' (wfh hnd) (wku (wvu hl hobj) hv) ((hG.calls _ _ hS:wah C _ S) _ _ _ _ _ hUS hvc) (by rintro u O' ⟨rfl,rfl⟩;exact⟨rfl,wtc hbk hv' (lk_all hnk)⟩)⟩⟩
                 .cases hl
                .cases hl
           .exact hw.elim
          .exact hw.elim
         .exact hw.elim
        .exact hw.elim
       .exact hw.elim
      .exact hw.elim
     .exact hw.elim
    .exact hw.elim
 .exact hw.elim
end
def wf7(C:Ctx)(G:Env)(opl:List Oper):Nat->List DRow->List (Nat×AV)->List (Nat×AObj)->Prop
 |_,[],_,_=>True
 |k,r::l,T,O=>lk r.T=lk T/\r.O=O/\(∀h,wd8 G opl h k r=true->wby C G.N opl h.1 h.2 k r.o r.p r.T r.O)/\wf7 C G opl (k+16) l (putT r.o.dst r.p.u T) (r.p.l++O)
theorem wf7.snoc{C:Ctx}{G:Env}{opl:List Oper}:∀ {rows:List DRow} {k:Nat} {T:List (Nat×AV)} {O:List (Nat×AObj)} {r:DRow},wf7 C G opl k rows T O->
  lk r.T=lk (linT (rows.map DRow.o) (rows.map DRow.p) T)->r.O=linO (rows.map DRow.p) O->(∀h,wd8 G opl h (k+16 * rows.length) r=true->wby C G.N opl h.1 h.2 (k+16 * rows.length) r.o r.p r.T r.O)->wf7 C G opl k (rows++[r]) T O
 |[],k,T,O,r,_,h1,h2,h3=>⟨h1,h2,h3,trivial⟩
 |x::l,k,T,O,r,h,h1,h2,h3=>by
  refine⟨h.1,h.2.1,h.2.2.1,wf7.snoc h.2.2.2 h1 h2 ?_⟩;have e:k+16+16 * l.length=k+16 * (x::l).length:=by simp;omega
  rw[e];exact h3
theorem wby.congr{C:Ctx}{N:Nat}{opl:List Oper}{h1 h2:List Nat}{k:Nat}{o:Oper}{p:PEnt}{T T':List (Nat×AV)}{O:List (Nat×AObj)}(h:lk T=lk T')(hd:wby C N opl h1 h2 k o p T O):wby C N opl h1 h2 k o p T' O:=by
 unfold wby at hd ⊢;rw[← h];exact hd
theorem wht(m j:Nat):bitN m j=m.testBit j:=by
 unfold bitN;rw[Nat.testBit_eq_decide_div_mod_eq];show Nat.beq ((m >>> j) &&& 1) 1=_;rw[Nat.and_one_is_mod,Nat.shiftRight_eq_div_pow]
 by_cases h:m / 2 ^ j % 2=1
 .rw[h];rfl
 .rw[decide_eq_false h];exact Bool.eq_false_iff.2 λhb=>h (Nat.eq_of_beq_eq_true hb)
theorem wma{m i j:Nat}(h:Nat.blt m (Nat.pow 2 i)=true)(hb:bitN m j=true):j<i:=by
 rw[wht] at hb
 by_cases hj:j<i
 .exact hj
 .have h:m<2 ^ i:=by
   have:Nat.succ m<=2 ^ i:=Nat.le_of_ble_eq_true h;omega
  have:m<2 ^ j:=Nat.lt_of_lt_of_le h (Nat.pow_le_pow_right (by omega) (by omega));rw[Nat.testBit_lt_two_pow this] at hb
  cases hb
theorem wy7(e:Edge):whu e=Region.binds .any e:=by
 unfold whu Region.binds
 cases e.ground<;>rfl
theorem w8s(a b j:Nat):bitN (Nat.lor a b) j=(bitN a j || bitN b j):=by
 rw[wht,wht,wht];exact Nat.testBit_or a b j
theorem w8r(a j:Nat):bitN (Nat.pow 2 a) j=true↔a=j:=by
 rw[wht];show (2 ^ a).testBit j=true↔_;rw[Nat.testBit_two_pow];simp
theorem w8q(j:Nat):bitN 0 j=false:=by
 rw[wht];simp
theorem wme(ms:List Nat)(j:Nat):∀(l:List Edge),bitN (afM ms l) j=true↔∃e∈l,whu e=true/\(e.on=j∨bitN (getM ms e.on) j=true)
 |[]=>by simp[afM,w8q]
 |e::l=>by
  unfold afM
  cases h:whu e with
  |false=>simp only[wme ms j l,List.mem_cons,exists_eq_or_imp,h,Bool.false_eq_true,false_and,false_or]
  |true=>simp only[w8s,Bool.or_eq_true,wme ms j l,List.mem_cons,exists_eq_or_imp,h,true_and,w8r]
theorem wxj:∀ {l l':List Nat} {i:Nat},i<l.length->getM (l++l') i=getM l i
 |[],_,_,h=>by simp at h
 |_::_,_,0,_=>rfl
 |_::l,_,i+1,h=>wxj (l:=l) (by simpa using h)
theorem wxk:∀ {l:List Nat} {m:Nat},getM (l++[m]) l.length=m
 |[],_=>rfl
 |_::l,_=>wxk (l:=l)
theorem wry:∀(l:List Oper) (ms:List Nat) (i:Nat),i<ms.length->getM (masks l ms) i=getM ms i
 |[],_,_,_=>rfl
 |o::l,ms,i,h=>by
  rw[masks,wry l _ i (by simp;omega),wxj h]
theorem wwo:∀(l:List Oper) (ms:List Nat) (t:Nat),t<l.length->∃ms',(∀e,e<ms.length+t->getM ms' e=getM (masks l ms) e)/\getM (masks l ms) (ms.length+t)=afM ms' (aftF l t)
 |[],_,_,h=>by simp at h
 |o::l,ms,0,_=>by
  refine⟨ms,λe he=>?_,?_⟩
  .rw[wry _ _ _ (by omega)]
  .rw[masks,wry _ _ _ (by simp),Nat.add_zero,wxk];rfl
 |o::l,ms,t+1,h=>by
  obtain⟨ms',h1,h2⟩:=wwo l (ms++[afM ms o.after.toList]) t (by simpa using h);have e:(ms++[afM ms o.after.toList]).length+t=ms.length+(t+1):=by simp;omega
  rw[e] at h1 h2;exact⟨ms',h1,h2⟩
def MRok:Nat->List Oper->List Nat->List DRow->List MR->Prop
 |i,o::ol,m::ms,w::ws,r::rs=>r=⟨i,m,o.dst,w.p.l.map Prod.fst⟩/\MRok (i+1) ol ms ws rs
 |_,[],[],[],[]=>True
 |_,_,_,_,_=>False
theorem mrK_ok:∀(ol:List Oper) {i:Nat} {ms:List Nat} {ws:List DRow} {k:List MR->Bool},mrK i ol ms ws k=true->∃rs,k rs=true/\MRok i ol ms ws rs
 |[],i,[],[],k,h=>⟨[],h,trivial⟩
 |[],i,[],_::_,k,h=>by simp[mrK] at h
 |[],i,_::_,_,k,h=>by simp[mrK] at h
 |_::_,i,[],_,k,h=>by simp[mrK] at h
 |_::_,i,_::_,[],k,h=>by simp[mrK] at h
 |o::ol,i,m::ms,w::ws,k,h=>by
  simp only[mrK,frcO_eq,wxs,whk] at h;obtain⟨rs,h1,h2⟩:=mrK_ok ol h;exact⟨_,h1,rfl,h2⟩
theorem MRok.get:∀ {ol:List Oper} {i:Nat} {ms:List Nat} {ws:List DRow} {rs:List MR},MRok i ol ms ws rs->∀t,t<ol.length->rs[t]?=some ⟨i+t,getM ms t,dstF ol t,dom (ws.map DRow.p) t⟩
 |[],_,_,_,_,_,t,ht=>by simp at ht
 |o::ol,i,m::ms,w::ws,r::rs,h,0,_=>by
  rw[List.getElem?_cons_zero,h.1];rfl
 |o::ol,i,m::ms,w::ws,r::rs,h,t+1,ht=>by
  rw[List.getElem?_cons_succ,h.2.get t (by simpa using ht)];have e:i+1+t=i+(t+1):=by omega
  rw[e];rfl
 |_::_,_,[],_,_,h,_,_=>h.elim
 |_::_,_,_::_,[],_,h,_,_=>h.elim
 |_::_,_,_::_,_::_,[],h,_,_=>h.elim
theorem wzb:∀ {l b:List Nat} {k:List Nat->Bool},appK l b k=true->∃b',k b'=true/\(∀x∈b,x∈b')/\∀x∈l,x∈b'
 |[],b,k,h=>⟨b,h,λ_ h=>h,by simp⟩
 |y::l,b,k,h=>by
  obtain⟨b',h1,h2,h3⟩:=wzb (l:=l) h;refine⟨b',h1,λx hx=>h2 x (List.mem_cons_of_mem _ hx),λx hx=>?_⟩
  rcases List.mem_cons.1 hx with e | hx
  .exact e ▸ h2 y (List.mem_cons_self ..)
  .exact h3 x hx
theorem w76{d:Option Nat}{a:List Nat}{k:List Nat->Bool}(h:consK d a k=true):∃a',k a'=true/\(∀x∈a,x∈a')/\∀x,d=some x->x∈a':=by
 cases d with
 |none=>exact⟨a,h,λ_ h=>h,λ_ h=>nomatch h⟩
 |some y=>exact⟨y::a,h,λx hx=>List.mem_cons_of_mem _ hx,λx hx=>by cases hx;exact List.mem_cons_self ..⟩
def wqc(i mi:Nat)(all:List MR)(h:List Nat×List Nat):Prop:=∀s∈all,unord i mi s=true->(∀d,s.d=some d->d∈h.1)/\∀x∈s.l,x∈h.2
theorem wsk{i mi:Nat}:∀ {rs:List MR} {a b:List Nat} {k:List Nat->List Nat->Bool},hidK i mi rs a b k=true->∃h1 h2,k h1 h2=true/\(∀x∈a,x∈h1)/\(∀x∈b,x∈h2)/\wqc i mi rs (h1,h2)
 |[],a,b,k,h=>⟨a,b,h,λ_ h=>h,λ_ h=>h,λ_ h=>by simp at h⟩
 |r::rs,a,b,k,h=>by
  unfold hidK at h
  cases hu:unord i mi r with
  |true=>
   rw[hu] at h;obtain⟨a',h,ha,hd⟩:=w76 h;obtain⟨b',h,hb,hl⟩:=wzb h;obtain⟨h1,h2,h,ha',hb',hs⟩:=wsk (rs:=rs) h;refine⟨h1,h2,h,λx hx=>ha' x (ha x hx),λx hx=>hb' x (hb x hx),λs hs' hu'=>?_⟩
   rcases List.mem_cons.1 hs' with e | hs'
   .subst e;exact⟨λd h=>ha' d (hd d h),λx hx=>hb' x (hl x hx)⟩
   .exact hs s hs' hu'
  |false=>
   rw[hu] at h;obtain⟨h1,h2,h,ha',hb',hs⟩:=wsk (rs:=rs) h;refine⟨h1,h2,h,ha',hb',λs hs' hu'=>?_⟩
   rcases List.mem_cons.1 hs' with e | hs'
   .subst e;rw[hu] at hu';cases hu'
   .exact hs s hs' hu'
def GoOK(G:Env)(opl:List Oper)(nx:Nat)(all:List MR):Nat->List MR->List DRow->List (List Nat×List Nat)->Prop
 |_,[],[],[]=>True
 |k,r::rs,w::ws,h::hs=>(Nat.blt r.m (Nat.pow 2 r.i)=true/\r.l.all (wi5 nx r)=true/\wqc r.i r.m all h/\wiz r h.1 h.2=true/\wd8 G opl h k w=true)/\GoOK G opl nx all (k+16) rs ws hs
 |_,_,_,_=>False
theorem goK_ok{G:Env}{opl:List Oper}{nx:Nat}{all:List MR}:∀ {rs:List MR} {k:Nat} {ws:List DRow},goK G opl nx all k rs ws=true->∃hs,GoOK G opl nx all k rs ws hs
 |[],k,[],_=>⟨[],trivial⟩
 |[],k,_::_,h=>by simp[goK] at h
 |_::_,k,[],h=>by simp[goK] at h
 |r::rs,k,w::ws,h=>by
  simp only[goK,bA7,whk] at h;obtain⟨h1,h2,h3,h4⟩:=h;obtain⟨hs,h4⟩:=goK_ok h4;obtain⟨a,b,h5, -, -,h6⟩:=wsk h3;simp only[bA7] at h5;exact⟨(a,b)::hs,⟨h1,h2,h6,h5.1,h5.2⟩,h4⟩
theorem GoOK.get{G:Env}{opl:List Oper}{nx:Nat}{all:List MR}:∀ {rs:List MR} {k:Nat} {ws:List DRow} {hs:List (List Nat×List Nat)},GoOK G opl nx all k rs ws hs->∀t r,rs[t]?=some r->
  Nat.blt r.m (Nat.pow 2 r.i)=true/\r.l.all (wi5 nx r)=true/\wqc r.i r.m all (hF hs t)/\wiz r (hF hs t).1 (hF hs t).2=true
 |[],_,_,_,_,t,r,h=>by simp at h
 |r::rs,k,w::ws,x::hs,h,0,r',hr=>by
  simp only[List.getElem?_cons_zero,sI7] at hr;subst hr;exact⟨h.1.1,h.1.2.1,h.1.2.2.1,h.1.2.2.2.1⟩
 |r::rs,k,w::ws,x::hs,h,t+1,r',hr=>by
  have:=h.2.get t r' (by simpa using hr);simpa[hF] using this
 |_::_,_,[],_,h,_,_,_=>h.elim
 |_::_,_,_::_,[],h,_,_,_=>h.elim
theorem GoOK.dall{C:Ctx}{G:Env}{opl:List Oper}{nx:Nat}{all:List MR}:∀ {rows:List DRow} {rs:List MR} {hs:List (List Nat×List Nat)} {k:Nat} {T:List (Nat×AV)} {O:List (Nat×AObj)},wf7 C G opl k rows T O->GoOK G opl nx all k rs rows hs->
  DAll C G.N opl k (rows.map DRow.o) (rows.map DRow.p) hs T O
 |[],[],[],_,_,_,_,_=>trivial
 |w::ws,r::rs,h::hs,k,T,O,hr,hg=>by
  obtain⟨h1,h2,h3,h4⟩:=hr;have hd:=(h3 _ hg.1.2.2.2.2).congr h1;rw[h2] at hd;exact⟨hd,GoOK.dall h4 hg.2⟩
 |[],[],_::_,_,_,_,_,h=>h.elim
 |[],_::_,_,_,_,_,_,h=>h.elim
 |_::_,[],_,_,_,_,_,h=>h.elim
 |_::_,_::_,[],_,_,_,_,h=>h.elim
def ancB(n:Nat)(ms:List Nat):List (List Nat):=(List.range n).map λt=>(List.range n).filter (bitN (getM ms t))
theorem wk1{n t j:Nat}{ms:List Nat}(ht:t<n):j∈ancF (ancB n ms) t↔j<n/\bitN (getM ms t) j=true:=by
 have:ancF (ancB n ms) t=(List.range n).filter (bitN (getM ms t)):=by
  unfold ancF ancB;rw[List.getElem?_map,List.getElem?_range ht];rfl
 rw[this,List.mem_filter,List.mem_range]
theorem w7v{C:Ctx}{G:Env}{opl:List Oper}{nx:Nat}{rows:List DRow}{T0:List (Nat×AV)}{O0:List (Nat×AObj)}(h:ws1 G opl nx rows=true)(hr:wf7 C G opl nx rows T0 O0)(hl:opl=rows.map DRow.o):
  ∃anc hid,chkA opl anc opl.length=true/\chkB opl (rows.map DRow.p) anc hid opl.length=true/\chkC (rows.map DRow.p) anc nx opl.length=true/\DAll C G.N opl nx opl (rows.map DRow.p) hid T0 O0:=by
 unfold ws1 at h;rw[wwp] at h;obtain⟨rs,h,hm⟩:=mrK_ok _ h;rw[whk] at h;obtain⟨hs,hg⟩:=goK_ok h;have hget:=hm.get;simp only[Nat.zero_add] at hget;generalize hms:masks opl []=ms at hget hm;have hat:∀t,t<opl.length->∃ms',(∀e,e<t->getM ms' e=getM ms e)/\getM ms t=afM ms' (aftF opl t):=by
  intro t ht;have:=wwo opl [] t ht;rw[hms] at this;simpa using this
 have hG:∀t,t<opl.length->Nat.blt (getM ms t) (Nat.pow 2 t)=true/\(∀x∈dom (rows.map DRow.p) t,wi5 nx ⟨t,getM ms t,dstF opl t,dom (rows.map DRow.p) t⟩ x=true)/\wqc t (getM ms t) rs (hF hs t)/\
   wiz ⟨t,getM ms t,dstF opl t,dom (rows.map DRow.p) t⟩ (hF hs t).1 (hF hs t).2=true:=by
  intro t ht;have:=hg.get t _ (hget t ht);exact⟨this.1,List.all_eq_true.1 this.2.1,this.2.2⟩
 have hon:∀t,t<opl.length->∀e∈aftF opl t,whu e=true->e.on<t:=by
  intro t ht e he hb;obtain⟨ms',h1,h2⟩:=hat t ht;refine wma (hG t ht).1 ?_;rw[h2];exact(wme ms' _ _).2 ⟨e,he,hb,.inl rfl⟩
 have hun:∀i j,i<opl.length->j<opl.length->i≠j->bitN (getM ms i) j=false->bitN (getM ms j) i=false->
   (∀d,dstF opl j=some d->d∈(hF hs i).1)/\∀x∈dom (rows.map DRow.p) j,x∈(hF hs i).2:=by
  intro i j hi hj hne h1 h2;refine(hG i hi).2.2.1 ⟨j,getM ms j,dstF opl j,dom (rows.map DRow.p) j⟩ (List.mem_of_getElem? (hget j hj)) ?_;have:Nat.beq i j=false:=Bool.eq_false_iff.2 λhb=>hne (Nat.eq_of_beq_eq_true hb);simp only[unord,this,h1,h2];rfl
 refine⟨ancB opl.length ms,hs,?_,?_,?_,?_⟩
 .refine List.all_eq_true.2 λi hi=>?_;have hi:=List.mem_range.1 hi;rw[bA7]
  constructor
  .refine List.all_eq_true.2 λj hj=>?_;have hj:=(wk1 hi).1 hj;have hji:=wma (hG i hi).1 hj.2;rw[bA7];refine⟨by simpa[Nat.blt_eq] using hji,List.any_eq_true.2 ?_⟩;obtain⟨ms',h1,h2⟩:=hat i hi;rw[h2] at hj;obtain⟨e,he,hb,ho⟩:=(wme ms' j _).1 hj.2;have hei:=hon i hi e he hb;refine⟨e,he,?_⟩;rw[wy7] at hb;rw[bA7,Bool.or_eq_true];refine⟨hb,?_⟩
   rcases ho with ho | ho
   .exact .inl (Eq.mpr Nat.beq_eq ho)
   .rw[h1 _ hei] at ho;exact .inr ((wbl _ _).2 ((wk1 (by omega)).2 ⟨hj.1,ho⟩))
  .refine List.all_eq_true.2 λe he=>?_
   cases hb:Region.binds .any e with
   |false=>rfl
   |true=>
    have:=hon i hi e he (by rw[wy7];exact hb);simpa[Nat.blt_eq] using this
 .refine List.all_eq_true.2 λi hi=>List.all_eq_true.2 λj hj=>?_;have hi:=List.mem_range.1 hi;have hj:=List.mem_range.1 hj;rw[Bool.or_eq_true]
  cases hb:bitN (getM ms i) j with
  |true=>exact .inl ((wbl _ _).2 ((wk1 hi).2 ⟨by omega,hb⟩))
  |false=>
   have hb':bitN (getM ms j) i=false:=by
    cases hc:bitN (getM ms j) i with
    |false=>rfl
    |true=>have:=wma (hG j (by omega)).1 hc;omega
   have u1:=hun i j hi (by omega) (by omega) hb hb';have u2:=hun j i (by omega) hi (by omega) hb' hb;have hs1:=(hG i hi).2.2.2;simp only[wiz,bA7,List.all_eq_true] at hs1;refine .inr ?_;rw[bA7,bA7,bA7];refine⟨⟨⟨?_,?_⟩,?_⟩,?_⟩
   .unfold wlz;split
    .rename_i d d' e1 e2;have h1:=hs1.1;rw[e1] at h1;simp only[Bool.not_eq_true'] at h1;rw[Bool.not_eq_true'];refine Bool.eq_false_iff.2 λhe=>?_;have he:=Nat.eq_of_beq_eq_true he;subst he;rw[(wbl _ _).2 (u1.1 _ e2)] at h1
     cases h1
    .rfl
   .refine List.all_eq_true.2 λx hx=>?_;have h2:=hs1.2 x hx;rw[Bool.not_eq_true'] at h2 ⊢;refine Bool.eq_false_iff.2 λhe=>?_;rw[(wbl _ _).2 (u1.2 x ((wbl _ _).1 he))] at h2
    cases h2
   .unfold wea;rw[bA7];refine⟨?_,List.all_eq_true.2 λx hx=>(wbl _ _).2 (u1.2 x hx)⟩;split
    .rename_i d e;exact(wbl _ _).2 (u1.1 d e)
    .rfl
   .unfold wea;rw[bA7];refine⟨?_,List.all_eq_true.2 λx hx=>(wbl _ _).2 (u2.2 x hx)⟩;split
    .rename_i d e;exact(wbl _ _).2 (u2.1 d e)
    .rfl
 .refine List.all_eq_true.2 λi hi=>List.all_eq_true.2 λx hx=>?_;have hi:=List.mem_range.1 hi;have hp:=(hG i hi).2.1 x hx;simp only[wi5,Bool.or_eq_true] at hp;rw[Bool.or_eq_true]
  rcases hp with(hp | hp) | hp
  .exact .inl hp
  all_goals
   by_cases hlt:x<nx
   .exact .inl (by simpa[Nat.blt_eq] using hlt)
   refine .inr (List.any_eq_true.2 ⟨(x - nx) / 16,?_,?_⟩)
  .exact List.mem_cons.2 (.inl (Nat.eq_of_beq_eq_true hp))
  .have:Nat.ble (nx+16 * ((x - nx) / 16)) x=true:=Nat.ble_eq_true_of_le (by omega);have h2:Nat.blt x (nx+16 * ((x - nx) / 16)+16)=true:=by
    rw[Nat.blt_eq];omega
   rw[this,h2];rfl
  .have:=wma (hG i hi).1 hp;exact List.mem_cons.2 (.inr ((wk1 hi).2 ⟨by show Nat.div (x - nx) 16<_;exact Nat.lt_trans this hi,hp⟩))
  .have:Nat.ble (nx+16 * ((x - nx) / 16)) x=true:=Nat.ble_eq_true_of_le (by omega);have h2:Nat.blt x (nx+16 * ((x - nx) / 16)+16)=true:=by
    rw[Nat.blt_eq];omega
   rw[this,h2];rfl
 .have:=hg.dall hr;rw[← hl] at this;exact this
theorem AWP.sameT{C:Ctx}{m N:Nat}{c:Code}{Q:Exit->St->Prop}{s:St}(h:AWP C m N c (λe s=>∃T,lk T=lk s.T/\Q e ⟨T,s.O,s.nx,[]⟩) s):AWP C m N c Q s:=by
 intro E hE bs a w hr;refine wp_mono (h E hE bs a w hr) ?_;rintro e a w ⟨s',bs',⟨T,hT,hQ⟩,hr'⟩;refine⟨_,bs',hQ,⟨?_,hr'.2⟩⟩;show Rep C E N (lk T) (lk s'.O) bs' a w;rw[hT];exact hr'.1
theorem w59{T T':List (Nat×AV)}(h:lk T=lk T')(d:Option Tmp)(u:AV):lk (putT d u T)=lk (putT d u T'):=by
 rw[wk5,wk5,h]
theorem wk6{T:List (Nat×AV)}{d:Nat}{b b':Bool}(h:lk T d=some (.bool b))(hb:b=b'):lk ((d,AV.bool b')::rm d T)=lk T:=by
 rw[wez];funext i;rw[wax];split
 .rename_i e;have e':d=i:=e;subst e';rw[h,hb]
 .rfl
section
variable {C:Ctx} {G:Env} (hG:EnvOK C G) {m id:Nat} {opl:List Oper} {T0:List (Nat×AV)} {O0:List (Nat×AObj)} {nx0:Nat} {Q:Exit->St->Prop} {K:St->Prop} (hK:∀s,K s->Q .normal s)
include hG hK
theorem wpD_ok:∀(l:List Oper) (rows:List DRow) (T:List (Nat×AV)),opl=rows.map DRow.o++l->wf7 C G opl nx0 rows T0 O0->lk T=lk (linT (rows.map DRow.o) (rows.map DRow.p) T0)->
   wpD G opl T0 O0 nx0 K l rows T (linO (rows.map DRow.p) O0) (nx0+16 * rows.length)->AWP C m G.N (.region id opl.toArray true) Q ⟨T0,O0,nx0,[]⟩
 |[],rows,T,hl,hr,hT,h=>by
   simp only[wpD] at h;split at h
   · rename_i hc;have hl':opl=rows.map DRow.o:=by simpa using hl
     have hlen:opl.length=rows.length:=by rw[hl'];simp
     obtain⟨anc,hid,h1,h2,h3,hd⟩:=w7v hc hr hl';refine AWP.sameT (AWP.drawn (rows.map DRow.p) anc hid h1 h2 h3 hd rfl rfl rfl ⟨T,?_,hK _ ?_⟩)
     · rw[hT, ← hl']
     · rw[← hlen] at h;exact h
   · exact h.elim
 |o::rest,rows,T,hl,hr,hT,h=>by
   have go:∀(p:PEnt) (T':List (Nat×AV)),lk T'=lk T->(∀hh,wd8 G opl hh (nx0+16 * rows.length) ⟨o,T',linO (rows.map DRow.p) O0,p⟩=true->
         wby C G.N opl hh.1 hh.2 (nx0+16 * rows.length) o p T' (linO (rows.map DRow.p) O0))->
       wpD G opl T0 O0 nx0 K rest (rows++[⟨o,T',linO (rows.map DRow.p) O0,p⟩]) (putT o.dst p.u T') (p.l++linO (rows.map DRow.p) O0) (nx0+16 * rows.length+16)->
       AWP C m G.N (.region id opl.toArray true) Q ⟨T0,O0,nx0,[]⟩:=by
     intro p T' hT' hp hw;refine wpD_ok rest (rows++[⟨o,T',_,p⟩]) (putT o.dst p.u T') (by rw[hl];simp) (hr.snoc (hT'.trans hT) rfl hp) ?_ ?_
     · simp only[List.map_append,List.map_cons,List.map_nil];rw[wr5 _ _ _ _ _ (by simp)];exact w59 (hT'.trans hT) _ _
     · simp only[List.map_append,List.map_cons,List.map_nil,lA7,List.length_cons,List.length_nil];rw[wr6];exact hw
   have skip:∀ {d:Nat} {want b:Bool} (T':List (Nat×AV)),gslot opl o=some (d,want)->lk T' d=some (.bool b)->o.guard≠none->(b==want)=false->wba G.N o.dst=true->
       ∀hh,wd8 G opl hh (nx0+16 * rows.length) ⟨o,T',linO (rows.map DRow.p) O0,⟨false,.tuple [],[]⟩⟩=true->
         wby C G.N opl hh.1 hh.2 (nx0+16 * rows.length) o ⟨false,.tuple [],[]⟩ T' (linO (rows.map DRow.p) O0):=by
     intro d want b T' hgs hT hgn hb hd hh hlk;refine wby.skip ?_ hd;simp only[wd8,bA7] at hlk;have hlk:=hlk.1;split at hlk
     · rename_i hg;exact absurd hg hgn
     · rw[hgs] at hlk;simp only[Bool.not_eq_true'] at hlk;exact wcy.some b hgs (by rw[wli hlk];exact hT) rfl hb
   have run:∀ {d:Nat} {want b:Bool} (T':List (Nat×AV)),lk T'=lk T->gslot opl o=some (d,want)->lk T' d=some (.bool b)->o.guard≠none->(b==want)=true->
       wpD1 G o T' (linO (rows.map DRow.p) O0) (nx0+16 * rows.length)
         (λu l=>wpD G opl T0 O0 nx0 K rest (rows++[⟨o,T',linO (rows.map DRow.p) O0,⟨true,u,l⟩⟩]) (putT o.dst u T') (l++linO (rows.map DRow.p) O0) (nx0+16 * rows.length+16))->
       AWP C m G.N (.region id opl.toArray true) Q ⟨T0,O0,nx0,[]⟩:=by
     intro d want b T' hTT hgs hT hgn hb hw;obtain⟨u,l,hk,hs⟩:=wtv hG (opl:=opl) hw;refine go ⟨true,u,l⟩ T' hTT (λhh hlk=>?_) hk;simp only[wd8,bA7] at hlk;refine hs hh ?_ hlk.2;have hlk:=hlk.1;split at hlk
     · rename_i hg;exact absurd hg hgn
     · rw[hgs] at hlk;simp only[Bool.not_eq_true'] at hlk;exact wcy.some b hgs (by rw[wli hlk];exact hT) rfl hb
   simp only[wpD] at h;split at h
   · rename_i hg;obtain⟨u,l,hk,hs⟩:=wtv hG (opl:=opl) h;refine go ⟨true,u,l⟩ T rfl (λhh hlk=>?_) hk;simp only[wd8,bA7] at hlk;exact hs hh (wcy.none hg) hlk.2
   · rename_i g hg;have hgn:o.guard≠none:=by rw[hg];simp
     split at h
     · rename_i d want hgs;split at h
       · rename_i b hTd;split at h
         · rename_i hd;have hl:∀b',lk ((d,AV.bool b')::rm d T) d=some (.bool b'):=λb'=>by rw[wax];simp
           cases hb:b with
           |true=>
             have h:=(wbv h).1 hb;split at h
             · exact run _ (wk6 hTd hb) hgs (hl _) hgn rfl h
             · exact go _ _ (wk6 hTd hb) (skip _ hgs (hl _) hgn rfl hd) h
           |false=>
             have h:=(wbv h).2 hb;split at h
             · exact run _ (wk6 hTd hb) hgs (hl _) hgn rfl h
             · exact go _ _ (wk6 hTd hb) (skip _ hgs (hl _) hgn rfl hd) h
         · exact h.elim
       · rename_i hTd;split at h
         · rename_i hd;refine go ⟨false,.tuple [],[]⟩ T rfl (λhh hlk=>?_) h;refine wby.skip ?_ hd;simp only[wd8,bA7] at hlk;have hlk:=hlk.1;split at hlk
           · rename_i hg';exact absurd hg' hgn
           · rw[hgs] at hlk;simp only[Bool.not_eq_true'] at hlk;exact wcy.undef hgs (by rw[wli hlk];exact hTd)
         · exact h.elim
       · exact h.elim
     · exact h.elim
end
theorem AWP.mono{C:Ctx}{m N:Nat}{c:Code}{Q Q':Exit->St->Prop}{s:St}(h:AWP C m N c Q s)(k:∀e s,Q e s->Q' e s):AWP C m N c Q' s:=by
 intro E hE bs a w hr;refine wp_mono (h E hE bs a w hr) ?_;rintro e a w ⟨s',bs',hq,hr'⟩;exact⟨s',bs',k _ _ hq,hr'⟩
theorem wqn{K K':St->Prop}{Q:Exit->St->Prop}(h:∀s,K s->K' s)(e:Exit)(s:St)(hq:wew K Q e s):wew K' Q e s:=by
 cases e<;>first | exact h _ hq | exact hq
section
variable {C:Ctx} {G:Env} (hG:EnvOK C G) {m:Nat}
include hG
theorem wdt:∀(c:Code) (Q:Exit->St->Prop) (s:St),(∀p∈wbk G.loops c,∀s Q,p.2 s Q->AWP C m G.N p.1 Q s)->wpC G c Q s->AWP C m G.N c Q s
 |.skip,Q,s,_,h=>AWP.skip h
 |.label _,Q,s,_,h=>AWP.label h
 |.exit id,Q,s,_,h=>AWP.exit h
 |.ret,Q,s,_,h=>AWP.ret h
 |.seq x y,Q,s,hL,h=>by
  have hx:=wdt x (wew (wpC G y Q) Q) s (λp hp=>hL p (by simp[wbk,hp])) h;refine AWP.seq (hx.mono λe s hq=>?_);exact wqn (λs hs=>wdt y Q s (λp hp=>hL p (by simp[wbk,hp])) hs) e s hq
 |.block id x,Q,s,hL,h=>AWP.block (wdt x (wl9 id Q) s hL h)
 |.cond c x y,Q,s,hL,h=>by
  simp only[wpC] at h;split at h
  .rename_i b hb;refine AWP.cond hb (λhh=>?_) (λhh=>?_)
   .exact wdt x Q s (λp hp=>hL p (by simp[wbk,hp])) ((wbv h).1 hh)
   .exact wdt y Q s (λp hp=>hL p (by simp[wbk,hp])) ((wbv h).2 hh)
  .exact h.elim
 |.region id ops draw,Q,s,hL,h=>by
  simp only[wpC] at h;split at h
  .rename_i L hl;exact hL (.region id ops draw,L) (by simp[wbk,hl]) s Q h
  obtain⟨T,O,nx,dec⟩:=s;split at h
  .have hr:AWP C m G.N (.region id ops.toList.toArray false) Q ⟨T,O,nx,[]⟩:=AWP.region (wtt hG (λ_ hs=>hs) ops.toList T O nx h);rw[Array.toArray_toList] at hr;exact hr
  .have hr:AWP C m G.N (.region id ops.toList.toArray true) Q ⟨T,O,nx,[]⟩:=wpD_ok hG (λ_ hs=>hs) ops.toList [] T (by simp) trivial rfl h;rw[Array.toArray_toList] at hr;exact hr
 |.loop x,Q,s,hL,h=>by
  simp only[wpC] at h;split at h
  .rename_i L hl;exact hL (.loop x,L) (by simp[wbk,hl]) s Q h
  .rename_i hl;have hx:=λQ s=>wdt x Q s (λp hp=>hL p (by simp[wbk,hl,hp]));intro E hE bs a w hr;refine wp_loop_rounds G.fuel ?_;have key:∀n s bs a w,iterP (wpC G x) n Q s->RepS C E G.N s bs a w->Code.rounds C.P x (QC C E G.N Q) n a w:=by
    intro n
    induction n with
    |zero=>exact λ_ _ _ _ h _=>h.elim
    |succ n ih=>
     intro s bs a w h hr;rw[rounds_succ];refine wp_mono (hx _ _ h E hE bs a w hr) ?_;rintro e a w ⟨s',bs',hq,hr'⟩
     cases e with
     |normal=>exact ih s' bs' a w hq hr'
     |exit id=>exact⟨s',bs',hq,hr'⟩
     |goto l=>exact⟨s',bs',hq,hr'⟩
     |ret=>exact⟨s',bs',hq,hr'⟩
     |panic c=>exact⟨s',bs',hq,hr'⟩
     |outgrown=>exact⟨s',bs',hq,hr'⟩
   exact key _ s bs a w h hr
 |.rangeFunc _ _ _ _,_,_,_,h=>h.elim
 |.scope x,Q,s,hL,h=>by
  have hx:=wdt x (wvx Q) s hL h;intro E hE bs a w hr;refine wp_scope_straight (wp_mono (hx E hE bs a w hr) ?_);rintro e a w ⟨s',bs',hq,hr'⟩
  cases e with
  |goto l=>exact hq.elim
  |normal=>exact⟨s',bs',hq,hr'⟩
  |exit id=>exact⟨s',bs',hq,hr'⟩
  |ret=>exact⟨s',bs',hq,hr'⟩
  |panic c=>exact⟨s',bs',hq,hr'⟩
  |outgrown=>exact⟨s',bs',hq,hr'⟩
 |.goto l,Q,s,_,h=>λ_ _ bs _ _ hr=>wp_goto ⟨s,bs,h,hr⟩
 |.refuse _,_,_,_,h=>h.elim
end
theorem wjx{m:Nat}{ρ:List (Nat×Nat)}{O:List (Nat×AObj)}:∀ {l:List (Nat×Nat)} {O':List (Nat×AObj)},(∀p∈l,ren m ρ p.1=some p.2)->canO m ρ O l=some O'->(∀p∈O',wcg p.2 True)->wbx (ren m ρ) O O'
 |[],O',_,h,_=>by simp only[canO,sI7] at h;subst h;trivial
 |(r,k)::l,O',hl,h,hv=>by
  simp only[canO] at h;split at h
  .rename_i O2 h2;have ih:=wjx (λp hp=>hl p (List.mem_cons_of_mem _ hp)) h2;split at h
   .rename_i o ho;split at h
    .split at h
     .rename_i o' ho';simp only[sI7] at h;subst h;exact⟨⟨r,o,hl (r,k) (by simp),ho,wre ho' (hv (k,o') (by simp))⟩,ih λp hp=>hv p (List.mem_cons_of_mem _ hp)⟩
     .cases h
    .simp only[sI7] at h;subst h;exact ih hv
   .simp only[sI7] at h;subst h;exact ih hv
  .cases h
theorem wl7{ρ:Nat->Option Nat}{T:List (Nat×AV)}:∀ {l:List Nat} {T':List (Nat×AV)},canT ρ T l=some T'->TLe ρ T T'
 |[],T',h=>by simp only[canT,sI7] at h;subst h;trivial
 |d::l,T',h=>by
  simp only[canT] at h;split at h
  .rename_i u T2 hu h2;simp only[sI7] at h;subst h;exact⟨⟨u,hu,rfl⟩,wl7 h2⟩
  .cases h
theorem ren_lo{m:Nat}{ρ:List (Nat×Nat)}{r:Nat}(h:r<m):ren m ρ r=some r:=by
 have:Nat.blt r m=true:=by simpa[Nat.blt_eq] using h
 simp[ren,this]
theorem wrp{m:Nat}:∀ {l:List Nat} {k:Nat},ndB l=true->∀p∈numR m l k,lk (numR m l k) p.1=some p.2/\¬ p.1<m
 |[],k,_,p,hp=>by simp[numR] at hp
 |r::l,k,hn,p,hp=>by
  simp only[ndB,bA7,Bool.not_eq_true'] at hn;simp only[numR] at hp ⊢
  cases hb:Nat.blt r m with
  |true=>rw[hb] at hp;exact wrp hn.2 p hp
  |false=>
   rw[hb] at hp;have hge:¬ r<m:=λh=>by
    have:Nat.blt r m=true:=by simpa[Nat.blt_eq] using h
    rw[hb] at this;cases this
   rcases List.mem_cons.1 hp with rfl | hp
   .exact⟨by rw[wax];simp,hge⟩
   .obtain⟨h1,h2⟩:=wrp hn.2 p hp;refine⟨?_,h2⟩;rw[wax];have:r≠p.1:=by
     intro e;have hm:∀(l:List Nat) (k:Nat),p∈numR m l k->p.1∈l:=by
      intro l
      induction l with
      |nil=>intro k h;simp[numR] at h
      |cons x l ih=>
       intro k h;simp only[numR] at h
       cases hx:Nat.blt x m with
       |true=>rw[hx] at h;exact List.mem_cons_of_mem _ (ih _ h)
       |false=>
        rw[hx] at h
        rcases List.mem_cons.1 h with rfl | h
        .simp
        .exact List.mem_cons_of_mem _ (ih _ h)
     have:=hm l _ hp;rw[← e] at this;rw[(wbl _ _).2 this] at hn
     cases hn.1
    simp[this,h1]
theorem wjv(te:TE)(O:List (Nat×AObj)):∀(k:Nat) (todo seen:List Nat),ndB seen.reverse=true->(∀x,hasN seen x=hasN seen.reverse x)->ndB (wbw te O k todo seen).reverse=true
 |0,_,seen,h,_=>h
 |k+1,[],seen,h,_=>h
 |k+1,r::todo,seen,h,hs=>by
  simp only[wbw];split
  .exact wjv te O k todo seen h hs
  .rename_i hr;split
   .split
    .refine wjv te O k _ _ ?_ ?_
     .simp only[List.reverse_append,List.reverse_cons,List.reverse_nil,List.nil_append,List.cons_append,ndB,h,Bool.and_true, ← hs,hr,Bool.not_false]
     .intro x;have e:∀l:List Nat,hasN l x=hasN l.reverse x:=by
       intro l
       cases h1:hasN l x with
       |true=>exact((wbl _ _).2 (by simpa using(wbl _ _).1 h1)).symm
       |false=>
        cases h2:hasN l.reverse x with
        |false=>rfl
        |true=>
         have:=(wbl _ _).1 h2;rw[(wbl _ _).2 (by simpa using this)] at h1
         cases h1
      exact e _
    .exact wjv te O k todo seen h hs
   .exact wjv te O k todo seen h hs
theorem ndB_iff(l:List Nat):ndB l=true↔l.Nodup:=by
 constructor
 .exact wfh
 .induction l with
  |nil=>intro;rfl
  |cons x l ih=>
   intro h;rw[List.nodup_cons] at h;simp only[ndB,bA7,Bool.not_eq_true'];refine⟨?_,ih h.2⟩
   cases hb:hasN l x with
   |false=>rfl
   |true=>exact absurd ((wbl _ _).1 hb) h.1
theorem wl3(te:TE)(O:List (Nat×AObj))(k:Nat)(todo:List Nat):ndB (wbw te O k todo [])=true:=by
 have:=wjv te O k todo [] rfl (λ_=>rfl);rw[ndB_iff] at this ⊢;exact List.pairwise_reverse.1 this |>.imp λh=>Ne.symm h
theorem wkr{m:Nat}{l:List Nat}(h:ndB l=true):∀p∈((List.range m).map λr=>(r,r))++numR m l m,ren m (numR m l m) p.1=some p.2:=by
 intro p hp
 rcases List.mem_append.1 hp with hp | hp
 .obtain⟨r,hr,rfl⟩:=List.mem_map.1 hp;exact ren_lo (List.mem_range.1 hr)
 .obtain⟨h1,h2⟩:=wrp h p hp;have:Nat.blt p.1 m=false:=by
   cases hb:Nat.blt p.1 m with
   |false=>rfl
   |true=>exact absurd (by simpa[Nat.blt_eq] using hb) h2
  simp[ren,this,h1]
theorem OLe.rows{σ:Nat->Option Nat}{o:AObj}{t:TypeId}{sz n:Nat}{f f':Nat->List AV}{fr:Bool}(h:OLe σ o (.row t sz n f fr))(hf:∀i,i<n->f i=f' i):OLe σ o (.row t sz n f' fr):=by
 cases o<;>simp only[OLe] at h ⊢;obtain⟨h1,h2,h3,h4,h5⟩:=h;subst h3;exact⟨h1,h2,rfl,h4,λi hi=>(h5 i hi).trans (hf i hi)⟩
theorem wbx.rowsEq{σ:Nat->Option Nat}{O:List (Nat×AObj)}:∀ {l l':List (Nat×AObj)},wbx σ O l->wai l l'->wbx σ O l'
 |[],[],h,_=>h
 |(r,o)::l,(r',o')::l',h,he=>by
  obtain⟨⟨j,x,h1,h2,h3⟩,h4⟩:=h
  cases o with
  |row t sz n f fr=>
   cases o' with
   |row t' sz' n' f' fr'=>
    obtain⟨⟨rfl,rfl,rfl,rfl,rfl,hf⟩,he⟩:=he;exact⟨⟨j,x,h1,h2,h3.rows hf⟩,wbx.rowsEq h4 he⟩
   |_=>exact absurd he.1 (by simp)
  |_=>
   obtain⟨e,he⟩:=he
   cases e;exact⟨⟨j,x,h1,h2,h3⟩,wbx.rowsEq h4 he⟩
 |[],_::_,_,he=>he.elim
 |(_,o)::_,[],_,he=>by cases o<;>exact he.elim
theorem wai.vc:∀ {l l':List (Nat×AObj)},wai l l'->(∀p∈l',wcg p.2 True)->∀p∈l,wcg p.2 True
 |[],[],_,_,p,hp=>by simp at hp
 |(r,o)::l,(r',o')::l',he,hv,p,hp=>by
  cases o with
  |row t sz n f fr=>
   cases o' with
   |row t' sz' n' f' fr'=>
    obtain⟨⟨rfl,rfl,rfl,rfl,rfl,hf⟩,he⟩:=he
    rcases List.mem_cons.1 hp with rfl | hp
    .have:=hv _ (List.mem_cons_self ..);exact⟨λi hi=>by rw[hf i hi];exact this.1 i hi,trivial⟩
    .exact wai.vc he (λq hq=>hv q (List.mem_cons_of_mem _ hq)) p hp
   |_=>exact absurd he.1 (by simp)
  |_=>
   obtain⟨e,he⟩:=he
   cases e
   rcases List.mem_cons.1 hp with rfl | hp
   .exact hv _ (List.mem_cons_self ..)
   .exact wai.vc he (λq hq=>hv q (List.mem_cons_of_mem _ hq)) p hp
 |[],_::_,he,_,_,_=>he.elim
 |(_,o)::_,[],he,_,_,_=>by cases o<;>exact he.elim
theorem w8i{te:TE}{m:Nat}{F:List Nat}{s s':St}(h:canon te m F s=some s')(hv:∀p∈s'.O,wcg p.2 True):∃ρ,Weak m ρ s s':=by
 obtain⟨T,O,nx,dec⟩:=s;unfold canon at h;dsimp only at h;split at h
 .rename_i hr;split at h
  .rename_i T' O' hT hO;simp only[sI7] at h;subst h;exact⟨_,Weak.of _ hr (wl7 hT) (wjx (wkr (wl3 _ _ _ _)) hO hv) (Nat.le_add_right _ _)⟩
  .cases h
 .cases h
theorem wjw{te:TE}{m:Nat}{F:List Nat}{s s':St}(h:canonIs te m F s s')(hv:∀p∈s'.O,wcg p.2 True):∃ρ,Weak m ρ s s':=by
 unfold canonIs at h;split at h
 .rename_i s2 hs;split at h
  .cases hn:Nat.beq s2.nx s'.nx with
   |false=>rw[hn] at h;exact h.elim
   |true=>
   rw[hn] at h;replace hn:=Nat.eq_of_beq_eq_true hn;obtain⟨hT,hO⟩:=h;unfold TEq at hT;have hs':=hs;obtain⟨T,O,nx,dec⟩:=s;unfold canon at hs';dsimp only at hs';split at hs'
   .rename_i hr;split at hs'
    .rename_i T' O' hcT hcO;simp only[sI7] at hs';subst hs';obtain⟨T3,O3,nx3,dec3⟩:=s';simp only at hT hO hn hv;subst hT;subst hn;exact⟨_,Weak.of _ hr (wl7 hcT) ((wjx (wkr (wl3 _ _ _ _)) hcO (hO.vc hv)).rowsEq hO) (Nat.le_add_right _ _)⟩
    .cases hs'
   .cases hs'
  .simp only[sI7] at h;subst h;exact w8i hs hv
 .exact h.elim
theorem AWP.canonIs{C:Ctx}{te:TE}{m N:Nat}{c:Code}{Q:Exit->St->Prop}{s s':St}(F:List Nat)(h:Eng.canonIs te m F s s')(k:AWP C m N c Q s')(hv:wch s'.O True):AWP C m N c Q s:=by
 obtain⟨ρ,hw⟩:=wjw h (wdv hv).1;exact AWP.weak hw k
theorem AWP.loopF{C:Ctx}{G:Env}(hG:EnvOK C G){m:Nat}{x:Code}{Q:Exit->St->Prop}{s:St}(F:List Nat){ι:Type}(S:ι->St)(I:ι->Prop)(μ:ι->Nat)(i0:ι)(hI:I i0)(hS:∀i,wch (S i).O True)(h0:Eng.canonIs G.te m F s (S i0))
  (hL:∀p∈wbk G.loops x,∀s Q,p.2 s Q->AWP C m G.N p.1 Q s)
  (round:∀i,I i->wpC G x (wew (λs'=>∃i',Eng.canonIs G.te m F s' (S i')/\I i'/\μ i'<μ i) Q) (S i)):AWP C m G.N (.loop x) Q s:=by
 obtain⟨ρ0,hw⟩:=wjw h0 (wdv (hS i0)).1;refine AWP.loop S I μ i0 hI hw λi hi=>(wdt hG x _ _ hL (round i hi)).mono λe s hq=>wqn (λs hs=>?_) e s hq;obtain⟨i',h3,h1,h2⟩:=hs;obtain⟨ρ,hw'⟩:=wjw h3 (wdv (hS i')).1;exact⟨i',ρ,h1,h2,hw'⟩
theorem wvk{te:TE}{T:Nat->Option AV}{O:Nat->Option AObj}:∀ {rs:List ResultVar} {us:List AV} {vc:Prop},resA te T O rs=some (us,vc)->tmpsR rs=true->vc
 |[],us,vc,h,_=>by simp only[resA,sI7,pI7] at h;rw[← h.2];trivial
 |.tmp t::l,us,vc,h,ht=>by
  simp only[resA] at h;split at h
  .rename_i u us' vc' hu hl;simp only[sI7,pI7] at h;obtain⟨_,rfl⟩:=h;exact wvk hl ht
  .cases h
 |.cell _ _::_,_,_,_,ht=>by cases ht
theorem wve{σ:Nat->Option Nat}{O O':List (Nat×AObj)}{R:List (Nat×AObj)->Prop}(hb:wbx σ O O')(h:rowR O' R):∃O2,wbx σ O O2/\R O2:=by
 unfold rowR at h;split at h
 .obtain⟨O2,he,hR⟩:=h;exact⟨O2,wbx.rowsEq hb he,hR⟩
 .exact⟨O',hb,h⟩
theorem wx0{te:TE}{rs:List ResultVar}{m:Nat}{R:AV->List (Nat×AObj)->Prop}{s:St}{e:Exit}(he:e= .normal∨e= .ret)(h:finP te rs m R s):bodyA te rs m R e s:=by
 obtain⟨T,O,nx,dec⟩:=s;unfold finP at h;dsimp only at h;split at h
 .rename_i us vc hr;split at h
  .rename_i hc;simp only[bA7] at hc;split at h
   .rename_i O' hO;obtain⟨h1,h2⟩:=wir (wvk hr) h;obtain⟨hv,h2⟩:=wdv h2;obtain⟨O2,hb,h2⟩:=wve (wjx (wkr (wl3 _ _ _ _)) hO hv) h2;refine⟨he,us,vc,hr,h1,_,⟨[],O2,_,[]⟩,Weak.of _ hc.1 trivial hb (Nat.le_add_right _ _),?_,h2⟩;have:=Nat.le_of_ble_eq_true hc.2;exact Nat.add_le_add_left this m
   .exact h.elim
  .exact h.elim
 .exact h.elim
theorem endP_ok{te:TE}{rs:List ResultVar}{m:Nat}{R:AV->List (Nat×AObj)->Prop}{s:St}{e:Exit}(h:endP te rs m R e s):bodyA te rs m R e s:=by
 cases e with
 |normal=>exact wx0 (.inl rfl) h
 |ret=>exact wx0 (.inr rfl) h
 |exit _=>exact h.elim
 |goto _=>exact h.elim
 |panic _=>exact h.elim
 |outgrown=>exact h.elim
theorem wal.wp{C:Ctx}{te:TE}{calls:List (Nat×CSpec)}{loops:List (Nat×war)}{fuel:Nat}{f:FuncId}{fn:Func}{args:List AV}{objs:List AObj}{R:AV->List (Nat×AObj)->Prop}
  (hte:TE.ok C.P te) (hn:∀t ti,lk te t=some ti->wa8 ti.desc=false->ti.sz=1) (hc:∀f S,lk calls f=some S->wgb C f S)
  (hf : C.P.funcs[f]? = some fn) (hb : fn.body.isSome = true) (hname : (fn.name == "runtime.NumGoroutine") = false) (hl : Nat.ble args.length fn.ntmps = true)
  (hL:∀p∈wbk loops (we5 fn),∀s Q,p.2 s Q->AWP C objs.length fn.ntmps p.1 Q s)
  (h:wpFn te calls loops fuel fn args objs R):wal C f args objs R:=by
 have hb':fn.body=some (we5 fn):=by
  unfold we5
  cases hx:fn.body with
  |none=>rw[hx] at hb;cases hb
  |some c=>rfl
 refine wal.body hte hn hf hb' hname rfl hl ?_;have hG:EnvOK C ⟨te,calls,loops,objs.length,fn.ntmps,fuel⟩:=⟨hte,hn,hc⟩;exact(wdt hG (m:=objs.length) (we5 fn) _ _ hL h).mono λe s hq=>endP_ok hq
theorem w8k{C:Ctx}:∀f S,lk ([]:List (Nat×CSpec)) f=some S->wgb C f S:=λf S h=>by cases h
theorem w8l{C:Ctx}{f:Nat}{S:CSpec}{l:List (Nat×CSpec)}(h:wgb C f S)(hl:∀f S,lk l f=some S->wgb C f S):∀f' S',lk ((f,S)::l) f'=some S'->wgb C f' S':=by
 intro f' S' hh;rw[wax] at hh;split at hh
 .rename_i e;have e':f=f':=e;subst e';simp only[sI7] at hh;subst hh;exact h
 .exact hl _ _ hh
theorem wak{p:Prop}[Decidable p]{P Q:Prop}(h1:p->P)(h2:¬ p->Q):wab (decide p) P Q:=waw (λh=>h1 (of_decide_eq_true h)) (λh=>h2 (of_decide_eq_false h))
theorem wa7{p:Prop}[Decidable p]{P Q:Prop}(h1:¬ p->P)(h2:p->Q):wab (!decide p) P Q:=by
 by_cases h:p
 .rw[decide_eq_true h];exact h2 h
 .rw[decide_eq_false h];exact h1 h
theorem wcw{b:Bool}{P Q:Prop}(h1:b=false->P)(h2:b=true->Q):wab (!b) P Q:=by
 cases b with
 |true=>exact h2 rfl
 |false=>exact h1 rfl
def waj(C:Ctx)(m N:Nat)(c:Code)(L:war):Prop:=∀s Q,L s Q->AWP C m N c Q s
def wf8(C:Ctx)(m N:Nat):List (Code×war)->Prop
 |[]=>True
 |(c,L)::l=>waj C m N c L/\wf8 C m N l
theorem wf8.all{C:Ctx}{m N:Nat}:∀ {l:List (Code×war)},wf8 C m N l->∀p∈l,∀s Q,p.2 s Q->AWP C m N p.1 Q s
 |[],_,p,hp=>by simp at hp
 |(c,L)::l,h,p,hp=>by
  rcases List.mem_cons.1 hp with rfl | hp
  .exact h.1
  .exact wf8.all h.2 p hp
theorem wd7:∀c:Code,wbk [] c=[]
 |.seq x y=>by simp[wbk,wd7 x,wd7 y]
 |.block _ x=>by simp[wbk,wd7 x]
 |.cond _ x y=>by simp[wbk,wd7 x,wd7 y]
 |.loop x=>by simp[wbk,lk,wd7 x]
 |.skip=>rfl
 |.region _ _ _=>by simp[wbk,lk]
 |.rangeFunc _ _ _ _=>rfl
 |.exit _=>rfl
 |.scope x=>by simp[wbk,wd7 x]
 |.label _=>rfl
 |.goto _=>rfl
 |.ret=>rfl
 |.refuse _=>rfl
structure Prg (C:Ctx) (te:TE):Prop where
 ok:TE.ok C.P te
 one:∀t ti,lk te t=some ti->wa8 ti.desc=false->ti.sz=1
def wde(C:Ctx)(calls:List (Nat×CSpec)):Prop:=∀f S,lk calls f=some S->wgb C f S
theorem wde.nil{C:Ctx}:wde C []:=w8k
theorem wde.cons{C:Ctx}{f:Nat}{S:CSpec}{l:List (Nat×CSpec)}(h:wgb C f S)(hl:wde C l):wde C ((f,S)::l):=w8l h hl
theorem wah.wp0{C:Ctx}{te:TE}(hte:Prg C te)(calls:List (Nat×CSpec))(fuel:Nat)(hc:wde C calls){f:FuncId}{fn:Func}{args:List AV}{objs:List AObj}{U:AV}{Os:List (Nat×AObj)}
  (hf : C.P.funcs[f]? = some fn) (hb : fn.body.isSome = true) (hname : (fn.name == "runtime.NumGoroutine") = false) (hl : Nat.ble args.length fn.ntmps = true)
  (h:wpFn te calls [] fuel fn args objs (λu O=>u=U/\O=Os)):ADet C f args objs U Os:=
 wal.wp hte.ok hte.one hc hf hb hname hl (by rw[wd7];intro p hp;simp at hp) h
theorem wa4.wpL{C:Ctx}{te:TE}(hte:Prg C te)(calls:List (Nat×CSpec))(loops:List (Nat×war))(fuel:Nat)(hc:wde C calls){f:FuncId}{fn:Func}{args:List AV}{objs:List AObj}{R:AV->List (Nat×AObj)->Prop}
  (hf : C.P.funcs[f]? = some fn) (hb : fn.body.isSome = true) (hname : (fn.name == "runtime.NumGoroutine") = false) (hl : Nat.ble args.length fn.ntmps = true)
  (ls:List (Code×war)) (hls:wbk loops (we5 fn)=ls) (hL:wf8 C objs.length fn.ntmps ls)
  (h:wpFn te calls loops fuel fn args objs R):wal C f args objs R:=
 wal.wp hte.ok hte.one hc hf hb hname hl (by rw[hls];exact hL.all) h
theorem wah.wpL{C:Ctx}{te:TE}(hte:Prg C te)(calls:List (Nat×CSpec))(loops:List (Nat×war))(fuel:Nat)(hc:wde C calls){f:FuncId}{fn:Func}{args:List AV}{objs:List AObj}{U:AV}{Os:List (Nat×AObj)}
  (hf : C.P.funcs[f]? = some fn) (hb : fn.body.isSome = true) (hname : (fn.name == "runtime.NumGoroutine") = false) (hl : Nat.ble args.length fn.ntmps = true)
  (ls:List (Code×war)) (hls:wbk loops (we5 fn)=ls) (hL:wf8 C objs.length fn.ntmps ls)
  (h:wpFn te calls loops fuel fn args objs (λu O=>u=U/\O=Os)):ADet C f args objs U Os:=
 wal.wp hte.ok hte.one hc hf hb hname hl (by rw[hls];exact hL.all) h
def canQ(te:TE)(m:Nat)(Fe Fr:List Nat)(Q:Exit->St->Prop):Exit->St->Prop
 |.ret,s=>match canon te m Fr s with
  |some s'=>wch s'.O (rowR s'.O λO'=>Q .ret ⟨s'.T,O',s'.nx,[]⟩)
  |none=>False
 |e,s=>match canon te m Fe s with
  |some s'=>wch s'.O (rowR s'.O λO'=>Q e ⟨s'.T,O',s'.nx,[]⟩)
  |none=>False
theorem w8j{te:TE}{m:Nat}{Fe Fr:List Nat}{Q:Exit->St->Prop}{e:Exit}{s:St}(h:canQ te m Fe Fr Q e s):∃ρ s',Weak m ρ s s'/\Q e s':=by
 have key:∀F,(match canon te m F s with
  |some s'=>wch s'.O (rowR s'.O λO'=>Q e ⟨s'.T,O',s'.nx,[]⟩)
  |none=>False)->∃ρ s',Weak m ρ s s'/\Q e s':=by
  intro F h;split at h
  .rename_i s' hs;obtain⟨hv,h⟩:=wdv h;obtain⟨T,O,nx,dec⟩:=s;unfold canon at hs;dsimp only at hs;split at hs
   .rename_i hr;split at hs
    .rename_i T' O' hcT hcO;simp only[sI7] at hs;subst hs;obtain⟨O2,hb,hQ⟩:=wve (wjx (wkr (wl3 _ _ _ _)) hcO hv) h;exact⟨_,_,Weak.of _ hr (wl7 hcT) hb (Nat.le_add_right _ _),hQ⟩
    .cases hs
   .cases hs
  .exact h.elim
 unfold canQ at h;split at h
 .exact key _ h
 .exact key _ h
theorem canQ_of{te:TE}{m:Nat}{Fe Fr:List Nat}{Q:Exit->St->Prop}{e:Exit}{s s':St}(he:e≠ .ret)(hs:canon te m Fe s=some s')(h:wch s'.O (rowR s'.O λO'=>Q e ⟨s'.T,O',s'.nx,[]⟩)):canQ te m Fe Fr Q e s:=by
 unfold canQ;split
 .exact absurd rfl he
 .rw[hs];exact h
theorem AWP.canQ{C:Ctx}{te:TE}{m N:Nat}{c:Code}{Fe Fr:List Nat}{Q:Exit->St->Prop}{s:St}(h:AWP C m N c (Eng.canQ te m Fe Fr Q) s):AWP C m N c Q s:=by
 intro E hE bs a w hr;subst hE;refine wp_mono (h E rfl bs a w hr) ?_;rintro e a w ⟨s',bs',hq,hr'⟩;obtain⟨ρ,s2,hw,hQ⟩:=w8j hq;obtain⟨bs2,hr2,_⟩:=hr'.weak hw;exact⟨s2,bs2,hQ,hr2⟩
def wa1(G:Env)(x:Code)(F Fe Fr:List Nat){ι:Type}(S:ι->St)(P:ι->Prop)(Q:Exit->St->Prop)(s:St):Prop:=
 wpC G x (wew (λs'=>∃i',canonIs G.te G.m F s' (S i')/\P i') (Eng.canQ G.te G.m Fe Fr Q)) s
theorem waj.mk{C:Ctx}{te:TE}(hte:Prg C te){m N:Nat}{x:Code}{s:St}{Q:Exit->St->Prop}(calls:List (Nat×CSpec))(fuel:Nat)(hc:wde C calls)(F Fe Fr:List Nat){ι:Type}(S:ι->St)(I:ι->Prop)(μ:ι->Nat)(i0:ι)(hI:I i0)
  (h0:canonIs te m F s (S i0)) (round:∀i,I i->wa1 ⟨te,calls,[],m,N,fuel⟩ x F Fe Fr S (λi'=>I i'/\μ i'<μ i) Q (S i)) (hS:∀i,wch (S i).O True:=by intro i;trivial):AWP C m N (.loop x) Q s:=
 (AWP.loopF (G:=⟨te,calls,[],m,N,fuel⟩) (Q:=Eng.canQ te m Fe Fr Q) ⟨hte.ok,hte.one,hc⟩ F S I μ i0 hI hS h0 (by rw[wd7];intro p hp;simp at hp) λi hi=>round i hi).canQ
theorem waj.mkL{C:Ctx}{te:TE}(hte:Prg C te){m N:Nat}{x:Code}{s:St}{Q:Exit->St->Prop}(calls:List (Nat×CSpec))(loops:List (Nat×war))(fuel:Nat)(hc:wde C calls)(ls:List (Code×war))(hls:wbk loops x=ls)(hL:wf8 C m N ls)
  (F Fe Fr:List Nat) {ι:Type} (S:ι->St) (I:ι->Prop) (μ:ι->Nat) (i0:ι) (hI:I i0)
  (h0:canonIs te m F s (S i0)) (round:∀i,I i->wa1 ⟨te,calls,loops,m,N,fuel⟩ x F Fe Fr S (λi'=>I i'/\μ i'<μ i) Q (S i)) (hS:∀i,wch (S i).O True:=by intro i;trivial):AWP C m N (.loop x) Q s:=
 (AWP.loopF (G:=⟨te,calls,loops,m,N,fuel⟩) (Q:=Eng.canQ te m Fe Fr Q) ⟨hte.ok,hte.one,hc⟩ F S I μ i0 hI hS h0 (by rw[hls];exact hL.all) λi hi=>round i hi).canQ
def ownNil(d t sz:Nat)(s:St):St:=match lk s.T d with
 |some .nil=>⟨(d,.own s.nx 0)::rm d s.T,(s.nx,.row t sz 0 (λ_=>[]) false)::s.O,s.nx+1,[]⟩
 |_=>s
theorem RepS.ownNil{C:Ctx}{E:Ent}{N:Nat}{s:St}{bs:Nat->Option Hd}{a:Act}{w:World}(d t sz:Nat)(h:RepS C E N s bs a w):∃bs',RepS C E N (ownNil d t sz s) bs' a w:=by
 unfold Eng.ownNil;split
 .rename_i hd;obtain⟨T,O,nx,dec⟩:=s;obtain⟨⟨hF,hW⟩,hnx,hm⟩:=h;have hn:=hnx nx (lR7 _);have hb0:bs nx=none:=hn.2;have hO0:lk O nx=none:=hn.1
  let bs':=up bs nx .nil
  have hbs:∀r x,bs r=some x->bs' r=some x:=λr x hx=>by
   have:nx≠r:=λe=>by subst e;rw[hb0] at hx;cases hx
   show up bs nx .nil r=some x;rw[wav _ _ _ this];exact hx
  have hbk:∀r b c,bs' r=some (.blk b c)->bs r=some (.blk b c):=λr b c hx=>by
   by_cases hr:nx=r
   .subst hr;have:up bs nx .nil nx=some (.blk b c):=hx;rw[waz] at this;cases this
   .have:up bs nx .nil r=some (.blk b c):=hx
    rwa [wav _ _ _ hr] at this
  have hlk:∀r o,lk ((nx,AObj.row t sz 0 (λ_=>[]) false)::O) r=some o->(r=nx/\o= .row t sz 0 (λ_=>[]) false)∨(r≠nx/\lk O r=some o):=λr o ho=>by
   rw[wax] at ho;split at ho
   .rename_i e;have e':nx=r:=e;simp only[sI7] at ho;exact .inl ⟨e'.symm,ho.symm⟩
   .rename_i e;exact .inr ⟨λe'=>e e'.symm,ho⟩
  have hmb:∀b,mutB (lk ((nx,AObj.row t sz 0 (λ_=>[]) false)::O)) bs' b->mutB (lk O) bs b:=by
   rintro b ⟨r,o,c,ho,hmu,hb⟩
   rcases hlk r o ho with⟨rfl,rfl⟩ | ⟨hne,ho⟩
   .have:=hbk _ _ _ hb;rw[hb0] at this;cases this
   .exact⟨r,o,c,ho,hmu,hbk _ _ _ hb⟩
  have hMB:∀b,MB E (lk ((nx,AObj.row t sz 0 (λ_=>[]) false)::O)) bs' b->MB E (lk O) bs b:=λb hb=>hb.imp id (hmb b);have vm:∀ {v:Value} {u:AV},V w (MB E (lk O) bs) bs v u->V w (MB E (lk ((nx,AObj.row t sz 0 (λ_=>[]) false)::O)) bs') bs' v u:=λh=>
   h.step_ (λb _ hb hb'=>hb (hMB b hb')) (λ_ _ _=>rfl) (lR7 _) _ hbs
  have hS:Step w (MB E (lk O) bs) bs w (MB E (lk ((nx,AObj.row t sz 0 (λ_=>[]) false)::O)) bs') bs':=⟨hbs,λb _ hb hb'=>hb (hMB b hb'),λ_ _ _=>rfl,lR7 _⟩;refine⟨bs',⟨⟨hF.1,hF.2.1,λi u hu=>?_⟩,?_⟩,λr hr=>?_,Nat.le_succ_of_le hm⟩
  .have hu':lk ((d,AV.own nx 0)::rm d T) i=some u:=hu;rw[wez,wax] at hu';split at hu'
   .rename_i e;have e':d=i:=e;subst e';simp only[sI7] at hu';subst hu';obtain⟨v,hv,hV⟩:=hF.2.2 d _ hd
    cases hV;exact⟨_,hv,.ownnil (waz _ _ _) rfl⟩
   .obtain⟨v,hv,hV⟩:=hF.2.2 i u hu';exact⟨v,hv,vm hV⟩
  .exact {
    obj:=λr o ho=>by
     rcases hlk r o ho with⟨rfl,rfl⟩ | ⟨hne,ho⟩
     .exact .inl ⟨waz _ _ _,rfl⟩
     .exact(hW.obj r o ho).step hS λ_ _ _=>rfl
    sep:=λr r' o1 o2 b c c' h1 h2 m1 m2 b1 b2=>by
     rcases hlk r o1 h1 with⟨rfl,rfl⟩ | ⟨hne,h1⟩
     .have:=hbk _ _ _ b1;rw[hb0] at this;cases this
     .rcases hlk r' o2 h2 with⟨rfl,rfl⟩ | ⟨hne',h2⟩
      .have:=hbk _ _ _ b2;rw[hb0] at this;cases this
      .exact hW.sep r r' o1 o2 b c c' h1 h2 m1 m2 (hbk _ _ _ b1) (hbk _ _ _ b2)
    out:=λb hb=>hW.out b (hmb b hb)
    frz:=λr t' sz' n f b c ho hb hM=>by
     rcases hlk r _ ho with⟨rfl,h⟩ | ⟨hne,ho⟩
     .cases h
     .exact hW.frz r t' sz' n f b c ho (hbk _ _ _ hb) (hMB b hM)
    high:=λb hb=>hW.high b (hMB b hb)
    lt:=λr b c hb=>hW.lt r b c (hbk _ _ _ hb)
    outlt:=hW.outlt
    keep:=hW.keep
    old:=λb hb=>hW.old b (hmb b hb)
    size:=hW.size
    pre:=λr x hr hb=>hbs r x (hW.pre r x hr hb)
    os:=hW.os
    tape:=hW.tape
    output:=hW.output
    laid:=hW.laid
    gle:=hW.gle }
  .have hr':nx+1<=r:=hr;obtain⟨q1,q2⟩:=hnx r (show nx<=r by omega);refine⟨?_,?_⟩
   .show lk ((nx,AObj.row t sz 0 (λ_=>[]) false)::O) r=none;rw[wax];have:nx≠r:=by omega
    simp[this,q1]
   .show up bs nx .nil r=none;rw[wav _ _ _ (by omega)];exact q2
 .exact⟨bs,h⟩
theorem AWP.ownNil{C:Ctx}{m N:Nat}{c:Code}{Q:Exit->St->Prop}{s:St}(d t sz:Nat)(h:AWP C m N c Q (Eng.ownNil d t sz s)):AWP C m N c Q s:=by
 intro E hE bs a w hr;obtain⟨bs',hr'⟩:=hr.ownNil d t sz;exact h E hE bs' a w hr'
end Go.Eng
namespace Go.Eng
open Go.Proofs
abbrev oL7:=List (Nat×AObj)
abbrev tL7:=List (Nat×AV)
abbrev oR7:=AV->oL7->Prop
abbrev eR7:=Exit->St->Prop
theorem rQ7{a b c d:Nat}{e:Bool}{f:Nat->List AV}:a=a/\b=b/\c=c/\d=d/\e=e/\∀i,i<d->f i=f i:=⟨rfl,rfl,rfl,rfl,rfl,λ_ _=>rfl⟩
abbrev AV.q (x:Int):AV:=.int .i64 x
noncomputable def tiO(P:Program)(c:Bool)(t:Nat):TI:=match P.underlying t,P.types[t]? with
 |some d,some i=>⟨d,i.size,i.bytes,i.zero.getD .nilFunc,c⟩
 |_,_=>⟨.bool,1,1,.nilFunc,false⟩
noncomputable def tqA(P:Program)(r:Nat×TI):Option TypeDesc×Option (Nat×Nat×Option Value):=(P.underlying r.1,(P.types[r.1]?).map λi=>(i.size,i.bytes,i.zero))
def tqB(r:Nat×TI):Option TypeDesc×Option (Nat×Nat×Option Value):=(some r.2.desc,some (r.2.sz,r.2.bytes,some r.2.zero))
noncomputable def tqC(P:Program)(r:Nat×TI):Bool:=!r.2.cmp || (!P.stoodInHeld r.1 && (!P.eqGuardType P.depth r.1 && match r.2.desc with
 |.struct fs=>fs.toList.all λf=>decide (f.name≠ "_")
 |_=>true))
theorem tqO{P:Program}:∀{te:TE},te.map (tqA P)=te.map tqB->te.all (tqC P)=true->TE.ok P te
 |[],_,_=>TE.ok_nil
 |(t,⟨d,sz,b,z,c⟩)::te,h,h'=>by
  rw[List.map_cons,List.map_cons] at h;injection h with h1 h2;rw[List.all_cons,Bool.and_eq_true] at h';unfold tqA tqB at h1;injection h1 with h1 h3
  refine TE.ok_cons h1 ?_ (λhc=>?_) (tqO h2 h'.2)
  .cases e:P.types[t]? with
   |none=>rw[e] at h3;cases h3
   |some i=>rw[e] at h3;injection h3 with h3;injection h3 with a h3;injection h3 with b c;exact⟨i,rfl,a,b,c⟩
  .have h4:=h'.1;subst hc;unfold tqC at h4;simp only[Bool.not_true,Bool.false_or,Bool.and_eq_true,Bool.not_eq_true'] at h4
   refine⟨h4.1,h4.2.1,λfs e f hf=>?_⟩;have h5:=h4.2.2;rw[e] at h5;have h6:=List.all_eq_true.1 h5 f hf;simpa using h6
noncomputable def te:TE:=[7,8,26,27,35,36,37,38,39,40,48,49,60,61,82,83,94,95,96,97,108,109,110,111,114,115,141,142,172,173,176,177,186,187,189,190,217,218,294,295,299,300].map (λt=>(t,tiO Tryz.prog true t))++[0,1,2,3,4,5,6,9,10,11,12,13,14,15,16,17,18,19,20,21,22,23,24,25,28,29,30,31,32,33,34,41,42,43,44,45,46,47,50,51,52,53,54,55,56,57,58,59,62,63,64,65,66,67,68,69,70,71,72,73,74,75,76,77,78,79,80,81,84,85,86,87,88,89,90,91,92,93,98,99,100,101,102,103,104,105,106,107,112,113,116,117,118,119,120,121,122,123,124,125,126,127,128,129,130,131,132,133,134,135,136,137,138,139,140,143,144,145,146,147,148,149,150,151,152,153,154,155,156,157,158,159,160,161,162,163,164,165,166,167,168,169,170,171,174,175,178,179,180,181,182,183,184,185,188,191,192,193,194,195,196,197,198,199,200,201,202,203,204,205,206,207,208,209,210,211,212,213,214,215,216,219,220,221,222,223,224,225,226,227,228,229,230,231,232,233,234,235,236,237,238,239,240,241,242,243,244,245,246,247,248,249,250,251,252,253,254,255,256,257,258,259,260,264,265,266,267,268,269,270,271,272,273,274,275,276,277,278,279,280,281,282,283,284,285,286,287,288,289,290,291,292,296,297,298,301,302,303,304,305,306,307,308,309,310,311,312,313,314,315].map λt=>(t,tiO Tryz.prog false t)
theorem te_ok:TE.ok Tryz.prog te:=tqO (by kernel_rfl) (by kernel_rfl)
set_option maxRecDepth 100000 in
theorem te_one:∀t ti,lk te t=some ti->wa8 ti.desc=false->ti.sz=1:=TE.one_of (by kernel_rfl)
def wb6:List AV:=(List.flatten (List.replicate (nat_lit 0) [.int .i64 0]))
def wd1:List AV:=(List.flatten (List.replicate (nat_lit 0) [.str ([])]))
def wc1:List AV:=(List.flatten (List.replicate (nat_lit 0) [.str ([]),.str ([]),.int .i64 0,.int .i64 0,.int .i64 0]))
def wdj:List AV:=(List.flatten (List.replicate (nat_lit 0) [.str ([]),.int .i64 0,.int .i64 0,.int .i64 0,.nil,.nil,.nil]))
def wiw:List AV:=(List.flatten (List.replicate (nat_lit 0) [.str ([]),.int .i64 0,.int .i64 0,.str ([]),.str ([]),.int .i64 0,.int .i64 0,.int .i64 0,.int .i64 0,.str ([]),.str ([]),.str ([]),.int .i64 0,.str ([]),.int .i64 0]))
theorem prg{C:Ctx}(hP:C.P=Tryz.prog):Prg C te:=⟨hP ▸ te_ok,te_one⟩
end Go.Eng
