/- The weakest precondition as a function: its use. -/
import Derived.Test.YtmcdngcjakjnmaaGreatDoorJvj
import Derived.LoopN
import Derived.Scope
namespace Go.Eng
theorem wbx{α:Type}(h:List Nat)(f:Nat->Option α):Sub (hide h f) f:=λd x hx=>by
 unfold hide at hx;split at hx
 ·cases hx
 ·exact hx
theorem wk7{α:Type}{h:List Nat}{f:Nat->Option α}{d:Nat}(hd:hasN h d=false):hide h f d=f d:=by unfold hide;rw[hd]
theorem wua{ρ:Nat->Option Nat}{O:Nat->Option AObj}{h:List Nat}:∀ {l:List Nat} {l':List AObj},(l.all λx=> !(hasN h x))=true->wdp ρ O l=some l'->wdp ρ (hide h O) l=some l'
 |[],l',_,ho=>ho
 |r::l,l',ha,ho=>by
  simp only[List.all_cons,bA7,Bool.not_eq_true'] at ha;simp only[wdp,wk7 ha.1] at ho ⊢;split at ho
  ·rename_i o h1;split at ho
   ·rename_i hm
    try simp only[hm]
    split at ho
    ·rename_i o' h2
     try simp only[h2]
     split at ho
     ·rename_i l2 h3;rw[wua ha.2 h3];exact ho
     ·cases ho
    ·cases ho
   ·cases ho
  ·cases ho
theorem wzp{te:TE}{h:List Nat×List Nat}{T:List (Nat×AV)}{O:List (Nat×AObj)}{op:Op}{r r':AV×Prop}(h1:wb1 te (hide h.1 (lk T)) (hide h.2 (lk O)) op=some r)(h2:wb1 te (lk T) (lk O) op=some r'):
  wb1 te (hide h.1 (lk T)) (hide h.2 (lk O)) op=some r':=by
 have:=wi5 (wbx h.1 (lk T)) (wbx h.2 (lk O)) h1;rw[h1, ← h2,this]
theorem w5x{te:TE}{h:List Nat×List Nat}{T:List (Nat×AV)}{O:List (Nat×AObj)}{k:Nat}{op:Op}{r r':AV×List (Nat×AObj)×Prop}(h1:wb2 te (hide h.1 (lk T)) (hide h.2 (lk O)) k op=some r)(h2:wb2 te (lk T) (lk O) k op=some r'):
  wb2 te (hide h.1 (lk T)) (hide h.2 (lk O)) k op=some r':=by
 have:=wlk (wbx h.1 (lk T)) (wbx h.2 (lk O)) h1;rw[h1, ← h2,this]
theorem X_hide{te:TE}{h:List Nat×List Nat}{T:List (Nat×AV)}{O:List (Nat×AObj)}{k:Nat}{dst:Option Tmp}{op:Op}{r r':Bool×XOut×XOut}(h1:wb7 te (hide h.1 (lk T)) (hide h.2 (lk O)) k dst op=some r)(h2:wb7 te (lk T) (lk O) k dst op=some r'):
  wb7 te (hide h.1 (lk T)) (hide h.2 (lk O)) k dst op=some r':=by
 have:=wwa (wbx h.1 (lk T)) (wbx h.2 (lk O)) h1;rw[h1, ← h2,this]
section
variable {C:Ctx} {G:Env} (hG:EnvOK C G) {opl:List Oper} {o:Oper} {T:List (Nat×AV)} {O:List (Nat×AObj)} {k:Nat}
include hG
theorem wsl{K:AV->List (Nat×AObj)->Prop}(hw:wpD1 G o T O k K):
  ∃u l,K u l/\∀h:List Nat×List Nat,wcm opl h.1 T o true->wfv G.te h k o T O=true->wbt C G.N opl h.1 h.2 k o ⟨true,u,l⟩ T O:=by
 unfold wpD1 at hw;split at hw
 ·rename_i hd;split at hw
  ·rename_i u v hu;obtain⟨h1,h2⟩:=wh9 (wss hu) hw;refine⟨u,[],h2,λh hg hl=>?_⟩;unfold wfv at hl;split at hl
   ·rename_i r hr;exact wbt.pure hG.te hG.one hg (wzp hr hu) hd h1
   ·split at hl
    ·cases hl
    ·rename_i hn;rw[hu] at hn;cases hn
  ·rename_i hpn;split at hw
   ·rename_i u l v hu;obtain⟨h1,h2⟩:=wh9 (wst hu) hw;refine⟨u,l,h2,λh hg hl=>?_⟩;unfold wfv at hl;split at hl
    ·rename_i r hr;have:=wi5 (wbx h.1 (lk T)) (wbx h.2 (lk O)) hr;rw[hpn] at this;cases this
    ·split at hl
     ·cases hl
     ·split at hl
      ·rename_i r hr;exact wbt.eff hG.te hg (w5x hr hu) hd h1
      ·split at hl
       ·cases hl
       ·rename_i hn;rw[hu] at hn;cases hn
   ·rename_i hen;split at hw
    ·rename_i b x1 x2 hx;have fin:∀x:XOut,(∀h:List Nat×List Nat,wao C G.N o (hide h.1 (lk T)) (hide h.2 (lk O)) k x.1 x.2.1∨wb7 G.te (hide h.1 (lk T)) (hide h.2 (lk O)) k o.dst o.op=none)->K x.1 x.2.1->
       ∃u l,K u l/\∀h:List Nat×List Nat,wcm opl h.1 T o true->wfv G.te h k o T O=true->wbt C G.N opl h.1 h.2 k o ⟨true,u,l⟩ T O:=by
      intro x hs hk;refine⟨x.1,x.2.1,hk,λh hg hl=>?_⟩
      rcases hs h with hs | hs
      ·exact⟨hg,.inl ⟨rfl,hs⟩⟩
      ·unfold wfv at hl;split at hl
       ·rename_i r hr;have:=wi5 (wbx h.1 (lk T)) (wbx h.2 (lk O)) hr;rw[hpn] at this;cases this
       ·split at hl
        ·cases hl
        ·split at hl
         ·rename_i r hr;have:=wlk (wbx h.1 (lk T)) (wbx h.2 (lk O)) hr;rw[hen] at this;cases this
         ·split at hl
          ·cases hl
          ·rw[hs,hx] at hl
           cases hl
     have step:∀h:List Nat×List Nat,(∀hh:wb7 G.te (hide h.1 (lk T)) (hide h.2 (lk O)) k o.dst o.op=some (b,x1,x2),(b=true->x1.2.2->wao C G.N o (hide h.1 (lk T)) (hide h.2 (lk O)) k x1.1 x1.2.1)/\(b=false->x2.2.2->wao C G.N o (hide h.1 (lk T)) (hide h.2 (lk O)) k x2.1 x2.2.1)):=
      λh hh=>wv9 hG.te hG.one hh hd
     obtain⟨h1,h2⟩:=wbq hw;have some_or:∀h:List Nat×List Nat,wb7 G.te (hide h.1 (lk T)) (hide h.2 (lk O)) k o.dst o.op=some (b,x1,x2)∨wb7 G.te (hide h.1 (lk T)) (hide h.2 (lk O)) k o.dst o.op=none:=by
      intro h
      cases hc:wb7 G.te (hide h.1 (lk T)) (hide h.2 (lk O)) k o.dst o.op with
      |none=>exact .inr rfl
      |some r=>exact .inl (by rw[← X_hide hc hx,hc])
     cases hb:b with
     |true=>exact fin x1 (λh=>(some_or h).imp (λhh=>(step h hh).1 hb (h1 hb).1) id) (h1 hb).2
     |false=>exact fin x2 (λh=>(some_or h).imp (λhh=>(step h hh).2 hb (h2 hb).1) id) (h2 hb).2
    rename_i hxn;split at hw
    ·rename_i fo args at_ hop;split at hw
     ·rename_i f cap hf;split at hw
      ·rename_i as ha;split at hw
       ·rename_i S hS;dsimp only at hw;split at hw
        ·rename_i hnd;split at hw
         ·rename_i cobjs hobj;split at hw
          ·rename_i U Os vc hUS;split at hw
           ·rename_i O2 hnk hbk;obtain⟨hv,hvc,hw⟩:=wj2 hw;obtain⟨hv',hw⟩:=wb8 hw;refine⟨_,_,hw,λh hg hl=>?_⟩;unfold wfv at hl;split at hl
            ·rename_i r hr;have:=wi5 (wbx h.1 (lk T)) (wbx h.2 (lk O)) hr;rw[hpn] at this;cases this
            ·split at hl
             ·cases hl
             ·split at hl
              ·rename_i r hr;have:=wlk (wbx h.1 (lk T)) (wbx h.2 (lk O)) hr;rw[hen] at this;cases this
              ·split at hl
               ·cases hl
               ·split at hl
                ·rename_i r hr;have:=wwa (wbx h.1 (lk T)) (wbx h.2 (lk O)) hr;rw[hxn] at this;cases this
                rw[hxn] at hl;dsimp only at hl;rw[hop] at hl;dsimp only at hl;split at hl
                ·rename_i f' cap' hf';have hff:=wa7 (wbx h.1 (lk T)) hf';rw[hf] at hff;simp only[sI7,AV.func.injEq] at hff;obtain⟨rfl,rfl⟩:=hff;split at hl
                 ·rename_i as' ha';have haa:=wi6 (wbx h.1 (lk T)) ha';rw[ha] at haa;simp only[sI7] at haa;subst haa;exact⟨hg,.inl ⟨rfl,wao.call _ hop hd hf' ha' (we0 hnd) (wkc (wua hl hobj) hv) ((hG.calls _ _ hS:wad C _ S) _ _ _ _ _ hUS hvc) (by rintro u O' ⟨rfl,rfl⟩;exact⟨rfl,wsb hbk hv' (lk_all hnk)⟩)⟩⟩
                 ·cases hl
                ·cases hl
           ·exact hw.elim
          ·exact hw.elim
         ·exact hw.elim
        ·exact hw.elim
       ·exact hw.elim
      ·exact hw.elim
     ·exact hw.elim
    ·exact hw.elim
 ·exact hw.elim
end
def wfm(C:Ctx)(G:Env)(opl:List Oper):Nat->List DRow->List (Nat×AV)->List (Nat×AObj)->Prop
 |_,[],_,_=>True
 |k,r::l,T,O=>lk r.T=lk T/\r.O=O/\(∀h,wdt G opl h k r=true->wbt C G.N opl h.1 h.2 k r.o r.p r.T r.O)/\wfm C G opl (k+16) l (putT r.o.dst r.p.u T) (r.p.l++O)
theorem wfm.snoc{C:Ctx}{G:Env}{opl:List Oper}:∀ {rows:List DRow} {k:Nat} {T:List (Nat×AV)} {O:List (Nat×AObj)} {r:DRow},wfm C G opl k rows T O->
  lk r.T=lk (linT (rows.map DRow.o) (rows.map DRow.p) T)->r.O=linO (rows.map DRow.p) O->(∀h,wdt G opl h (k+16 * rows.length) r=true->wbt C G.N opl h.1 h.2 (k+16 * rows.length) r.o r.p r.T r.O)->wfm C G opl k (rows++[r]) T O
 |[],k,T,O,r,_,h1,h2,h3=>⟨h1,h2,h3,trivial⟩
 |x::l,k,T,O,r,h,h1,h2,h3=>by
  refine⟨h.1,h.2.1,h.2.2.1,wfm.snoc h.2.2.2 h1 h2 ?_⟩;have e:k+16+16 * l.length=k+16 * (x::l).length:=by simp;omega
  rw[e];exact h3
theorem wbt.congr{C:Ctx}{N:Nat}{opl:List Oper}{h1 h2:List Nat}{k:Nat}{o:Oper}{p:PEnt}{T T':List (Nat×AV)}{O:List (Nat×AObj)}(h:lk T=lk T')(hd:wbt C N opl h1 h2 k o p T O):wbt C N opl h1 h2 k o p T' O:=by
 unfold wbt at hd ⊢;rw[← h];exact hd
theorem wg9(m j:Nat):bitN m j=m.testBit j:=by
 unfold bitN;rw[Nat.testBit_eq_decide_div_mod_eq];show Nat.beq ((m >>> j) &&& 1) 1=_;rw[Nat.and_one_is_mod,Nat.shiftRight_eq_div_pow]
 by_cases h:m / 2 ^ j % 2=1
 ·rw[h];rfl
 ·rw[decide_eq_false h];exact Bool.eq_false_iff.2 λhb=>h (Nat.eq_of_beq_eq_true hb)
theorem wl3{m i j:Nat}(h:Nat.blt m (Nat.pow 2 i)=true)(hb:bitN m j=true):j<i:=by
 rw[wg9] at hb
 by_cases hj:j<i
 ·exact hj
 ·have h:m<2 ^ i:=by
   have:Nat.succ m<=2 ^ i:=Nat.le_of_ble_eq_true h;omega
  have:m<2 ^ j:=Nat.lt_of_lt_of_le h (Nat.pow_le_pow_right (by omega) (by omega));rw[Nat.testBit_lt_two_pow this] at hb
  cases hb
theorem ww7(e:Edge):wha e=Region.binds .any e:=by
 unfold wha Region.binds
 cases e.ground<;>rfl
theorem w6y(a b j:Nat):bitN (Nat.lor a b) j=(bitN a j || bitN b j):=by
 rw[wg9,wg9,wg9];exact Nat.testBit_or a b j
theorem w6x(a j:Nat):bitN (Nat.pow 2 a) j=true↔a=j:=by
 rw[wg9];show (2 ^ a).testBit j=true↔_;rw[Nat.testBit_two_pow];simp
theorem w6w(j:Nat):bitN 0 j=false:=by
 rw[wg9];simp
theorem wl7(ms:List Nat)(j:Nat):∀(l:List Edge),bitN (afM ms l) j=true↔∃e∈l,wha e=true/\(e.on=j∨bitN (getM ms e.on) j=true)
 |[]=>by simp[afM,w6w]
 |e::l=>by
  unfold afM
  cases h:wha e with
  |false=>simp only[wl7 ms j l,List.mem_cons,exists_eq_or_imp,h,Bool.false_eq_true,false_and,false_or]
  |true=>simp only[w6y,Bool.or_eq_true,wl7 ms j l,List.mem_cons,exists_eq_or_imp,h,true_and,w6x]
theorem wvt:∀ {l l':List Nat} {i:Nat},i<l.length->getM (l++l') i=getM l i
 |[],_,_,h=>by simp at h
 |_::_,_,0,_=>rfl
 |_::l,_,i+1,h=>wvt (l:=l) (by simpa using h)
theorem wvu:∀ {l:List Nat} {m:Nat},getM (l++[m]) l.length=m
 |[],_=>rfl
 |_::l,_=>wvu (l:=l)
theorem wqw:∀(l:List Oper) (ms:List Nat) (i:Nat),i<ms.length->getM (masks l ms) i=getM ms i
 |[],_,_,_=>rfl
 |o::l,ms,i,h=>by
  rw[masks,wqw l _ i (by simp;omega),wvt h]
theorem wuy:∀(l:List Oper) (ms:List Nat) (t:Nat),t<l.length->∃ms',(∀e,e<ms.length+t->getM ms' e=getM (masks l ms) e)/\getM (masks l ms) (ms.length+t)=afM ms' (aftF l t)
 |[],_,_,h=>by simp at h
 |o::l,ms,0,_=>by
  refine⟨ms,λe he=>?_,?_⟩
  ·rw[wqw _ _ _ (by omega)]
  ·rw[masks,wqw _ _ _ (by simp),Nat.add_zero,wvu];rfl
 |o::l,ms,t+1,h=>by
  obtain⟨ms',h1,h2⟩:=wuy l (ms++[afM ms o.after.toList]) t (by simpa using h);have e:(ms++[afM ms o.after.toList]).length+t=ms.length+(t+1):=by simp;omega
  rw[e] at h1 h2;exact⟨ms',h1,h2⟩
def MRok:Nat->List Oper->List Nat->List DRow->List MR->Prop
 |i,o::ol,m::ms,w::ws,r::rs=>r=⟨i,m,o.dst,w.p.l.map Prod.fst⟩/\MRok (i+1) ol ms ws rs
 |_,[],[],[],[]=>True
 |_,_,_,_,_=>False
theorem mrK_ok:∀(ol:List Oper) {i:Nat} {ms:List Nat} {ws:List DRow} {k:List MR->Bool},mrK i ol ms ws k=true->∃rs,k rs=true/\MRok i ol ms ws rs
 |[],i,[],[],k,h=>⟨[],h,trivial⟩
 |[],i,[],_::_,k,h=>by simp[mrK] at h
 |[],i,_::_,_,k,h=>by simp[mrK] at h
 |_::_,i,[],_,k,h=>by simp[mrK] at h
 |_::_,i,_::_,[],k,h=>by simp[mrK] at h
 |o::ol,i,m::ms,w::ws,k,h=>by
  simp only[mrK,frcO_eq,wv0,wg3] at h;obtain⟨rs,h1,h2⟩:=mrK_ok ol h;exact⟨_,h1,rfl,h2⟩
theorem MRok.get:∀ {ol:List Oper} {i:Nat} {ms:List Nat} {ws:List DRow} {rs:List MR},MRok i ol ms ws rs->∀t,t<ol.length->rs[t]?=some ⟨i+t,getM ms t,dstF ol t,dom (ws.map DRow.p) t⟩
 |[],_,_,_,_,_,t,ht=>by simp at ht
 |o::ol,i,m::ms,w::ws,r::rs,h,0,_=>by
  rw[List.getElem?_cons_zero,h.1];rfl
 |o::ol,i,m::ms,w::ws,r::rs,h,t+1,ht=>by
  rw[List.getElem?_cons_succ,h.2.get t (by simpa using ht)];have e:i+1+t=i+(t+1):=by omega
  rw[e];rfl
 |_::_,_,[],_,_,h,_,_=>h.elim
 |_::_,_,_::_,[],_,h,_,_=>h.elim
 |_::_,_,_::_,_::_,[],h,_,_=>h.elim
theorem wxb:∀ {l b:List Nat} {k:List Nat->Bool},appK l b k=true->∃b',k b'=true/\(∀x∈b,x∈b')/\∀x∈l,x∈b'
 |[],b,k,h=>⟨b,h,λ_ h=>h,by simp⟩
 |y::l,b,k,h=>by
  obtain⟨b',h1,h2,h3⟩:=wxb (l:=l) h;refine⟨b',h1,λx hx=>h2 x (List.mem_cons_of_mem _ hx),λx hx=>?_⟩
  rcases List.mem_cons.1 hx with e | hx
  ·exact e ▸ h2 y (List.mem_cons_self ..)
  ·exact h3 x hx
theorem w57{d:Option Nat}{a:List Nat}{k:List Nat->Bool}(h:consK d a k=true):∃a',k a'=true/\(∀x∈a,x∈a')/\∀x,d=some x->x∈a':=by
 cases d with
 |none=>exact⟨a,h,λ_ h=>h,λ_ h=>nomatch h⟩
 |some y=>exact⟨y::a,h,λx hx=>List.mem_cons_of_mem _ hx,λx hx=>by cases hx;exact List.mem_cons_self ..⟩
def wpp(i mi:Nat)(all:List MR)(h:List Nat×List Nat):Prop:=∀s∈all,unord i mi s=true->(∀d,s.d=some d->d∈h.1)/\∀x∈s.l,x∈h.2
theorem wrm{i mi:Nat}:∀ {rs:List MR} {a b:List Nat} {k:List Nat->List Nat->Bool},hidK i mi rs a b k=true->∃h1 h2,k h1 h2=true/\(∀x∈a,x∈h1)/\(∀x∈b,x∈h2)/\wpp i mi rs (h1,h2)
 |[],a,b,k,h=>⟨a,b,h,λ_ h=>h,λ_ h=>h,λ_ h=>by simp at h⟩
 |r::rs,a,b,k,h=>by
  unfold hidK at h
  cases hu:unord i mi r with
  |true=>
   rw[hu] at h;obtain⟨a',h,ha,hd⟩:=w57 h;obtain⟨b',h,hb,hl⟩:=wxb h;obtain⟨h1,h2,h,ha',hb',hs⟩:=wrm (rs:=rs) h;refine⟨h1,h2,h,λx hx=>ha' x (ha x hx),λx hx=>hb' x (hb x hx),λs hs' hu'=>?_⟩
   rcases List.mem_cons.1 hs' with e | hs'
   ·subst e;exact⟨λd h=>ha' d (hd d h),λx hx=>hb' x (hl x hx)⟩
   ·exact hs s hs' hu'
  |false=>
   rw[hu] at h;obtain⟨h1,h2,h,ha',hb',hs⟩:=wrm (rs:=rs) h;refine⟨h1,h2,h,ha',hb',λs hs' hu'=>?_⟩
   rcases List.mem_cons.1 hs' with e | hs'
   ·subst e;rw[hu] at hu';cases hu'
   ·exact hs s hs' hu'
def GoOK(G:Env)(opl:List Oper)(nx:Nat)(all:List MR):Nat->List MR->List DRow->List (List Nat×List Nat)->Prop
 |_,[],[],[]=>True
 |k,r::rs,w::ws,h::hs=>(Nat.blt r.m (Nat.pow 2 r.i)=true/\r.l.all (wii nx r)=true/\wpp r.i r.m all h/\wid r h.1 h.2=true/\wdt G opl h k w=true)/\GoOK G opl nx all (k+16) rs ws hs
 |_,_,_,_=>False
theorem goK_ok{G:Env}{opl:List Oper}{nx:Nat}{all:List MR}:∀ {rs:List MR} {k:Nat} {ws:List DRow},goK G opl nx all k rs ws=true->∃hs,GoOK G opl nx all k rs ws hs
 |[],k,[],_=>⟨[],trivial⟩
 |[],k,_::_,h=>by simp[goK] at h
 |_::_,k,[],h=>by simp[goK] at h
 |r::rs,k,w::ws,h=>by
  simp only[goK,bA7,wg3] at h;obtain⟨h1,h2,h3,h4⟩:=h;obtain⟨hs,h4⟩:=goK_ok h4;obtain⟨a,b,h5, -, -,h6⟩:=wrm h3;simp only[bA7] at h5;exact⟨(a,b)::hs,⟨h1,h2,h6,h5.1,h5.2⟩,h4⟩
theorem GoOK.get{G:Env}{opl:List Oper}{nx:Nat}{all:List MR}:∀ {rs:List MR} {k:Nat} {ws:List DRow} {hs:List (List Nat×List Nat)},GoOK G opl nx all k rs ws hs->∀t r,rs[t]?=some r->
  Nat.blt r.m (Nat.pow 2 r.i)=true/\r.l.all (wii nx r)=true/\wpp r.i r.m all (hF hs t)/\wid r (hF hs t).1 (hF hs t).2=true
 |[],_,_,_,_,t,r,h=>by simp at h
 |r::rs,k,w::ws,x::hs,h,0,r',hr=>by
  simp only[List.getElem?_cons_zero,sI7] at hr;subst hr;exact⟨h.1.1,h.1.2.1,h.1.2.2.1,h.1.2.2.2.1⟩
 |r::rs,k,w::ws,x::hs,h,t+1,r',hr=>by
  have:=h.2.get t r' (by simpa using hr);simpa[hF] using this
 |_::_,_,[],_,h,_,_,_=>h.elim
 |_::_,_,_::_,[],h,_,_,_=>h.elim
theorem GoOK.dall{C:Ctx}{G:Env}{opl:List Oper}{nx:Nat}{all:List MR}:∀ {rows:List DRow} {rs:List MR} {hs:List (List Nat×List Nat)} {k:Nat} {T:List (Nat×AV)} {O:List (Nat×AObj)},wfm C G opl k rows T O->GoOK G opl nx all k rs rows hs->
  DAll C G.N opl k (rows.map DRow.o) (rows.map DRow.p) hs T O
 |[],[],[],_,_,_,_,_=>trivial
 |w::ws,r::rs,h::hs,k,T,O,hr,hg=>by
  obtain⟨h1,h2,h3,h4⟩:=hr;have hd:=(h3 _ hg.1.2.2.2.2).congr h1;rw[h2] at hd;exact⟨hd,GoOK.dall h4 hg.2⟩
 |[],[],_::_,_,_,_,_,h=>h.elim
 |[],_::_,_,_,_,_,_,h=>h.elim
 |_::_,[],_,_,_,_,_,h=>h.elim
 |_::_,_::_,[],_,_,_,_,h=>h.elim
def ancB(n:Nat)(ms:List Nat):List (List Nat):=(List.range n).map λt=>(List.range n).filter (bitN (getM ms t))
theorem wkn{n t j:Nat}{ms:List Nat}(ht:t<n):j∈ancF (ancB n ms) t↔j<n/\bitN (getM ms t) j=true:=by
 have:ancF (ancB n ms) t=(List.range n).filter (bitN (getM ms t)):=by
  unfold ancF ancB;rw[List.getElem?_map,List.getElem?_range ht];rfl
 rw[this,List.mem_filter,List.mem_range]
theorem w50{C:Ctx}{G:Env}{opl:List Oper}{nx:Nat}{rows:List DRow}{T0:List (Nat×AV)}{O0:List (Nat×AObj)}(h:wr1 G opl nx rows=true)(hr:wfm C G opl nx rows T0 O0)(hl:opl=rows.map DRow.o):
  ∃anc hid,chkA opl anc opl.length=true/\chkB opl (rows.map DRow.p) anc hid opl.length=true/\chkC (rows.map DRow.p) anc nx opl.length=true/\DAll C G.N opl nx opl (rows.map DRow.p) hid T0 O0:=by
 unfold wr1 at h;rw[wuz] at h;obtain⟨rs,h,hm⟩:=mrK_ok _ h;rw[wg3] at h;obtain⟨hs,hg⟩:=goK_ok h;have hget:=hm.get;simp only[Nat.zero_add] at hget;generalize hms:masks opl []=ms at hget hm;have hat:∀t,t<opl.length->∃ms',(∀e,e<t->getM ms' e=getM ms e)/\getM ms t=afM ms' (aftF opl t):=by
  intro t ht;have:=wuy opl [] t ht;rw[hms] at this;simpa using this
 have hG:∀t,t<opl.length->Nat.blt (getM ms t) (Nat.pow 2 t)=true/\(∀x∈dom (rows.map DRow.p) t,wii nx ⟨t,getM ms t,dstF opl t,dom (rows.map DRow.p) t⟩ x=true)/\wpp t (getM ms t) rs (hF hs t)/\
   wid ⟨t,getM ms t,dstF opl t,dom (rows.map DRow.p) t⟩ (hF hs t).1 (hF hs t).2=true:=by
  intro t ht;have:=hg.get t _ (hget t ht);exact⟨this.1,List.all_eq_true.1 this.2.1,this.2.2⟩
 have hon:∀t,t<opl.length->∀e∈aftF opl t,wha e=true->e.on<t:=by
  intro t ht e he hb;obtain⟨ms',h1,h2⟩:=hat t ht;refine wl3 (hG t ht).1 ?_;rw[h2];exact(wl7 ms' _ _).2 ⟨e,he,hb,.inl rfl⟩
 have hun:∀i j,i<opl.length->j<opl.length->i≠j->bitN (getM ms i) j=false->bitN (getM ms j) i=false->
   (∀d,dstF opl j=some d->d∈(hF hs i).1)/\∀x∈dom (rows.map DRow.p) j,x∈(hF hs i).2:=by
  intro i j hi hj hne h1 h2;refine(hG i hi).2.2.1 ⟨j,getM ms j,dstF opl j,dom (rows.map DRow.p) j⟩ (List.mem_of_getElem? (hget j hj)) ?_;have:Nat.beq i j=false:=Bool.eq_false_iff.2 λhb=>hne (Nat.eq_of_beq_eq_true hb);simp only[unord,this,h1,h2];rfl
 refine⟨ancB opl.length ms,hs,?_,?_,?_,?_⟩
 ·refine List.all_eq_true.2 λi hi=>?_;have hi:=List.mem_range.1 hi;rw[bA7]
  constructor
  ·refine List.all_eq_true.2 λj hj=>?_;have hj:=(wkn hi).1 hj;have hji:=wl3 (hG i hi).1 hj.2;rw[bA7];refine⟨by simpa[Nat.blt_eq] using hji,List.any_eq_true.2 ?_⟩;obtain⟨ms',h1,h2⟩:=hat i hi;rw[h2] at hj;obtain⟨e,he,hb,ho⟩:=(wl7 ms' j _).1 hj.2;have hei:=hon i hi e he hb;refine⟨e,he,?_⟩;rw[ww7] at hb;rw[bA7,Bool.or_eq_true];refine⟨hb,?_⟩
   rcases ho with ho | ho
   ·exact .inl (Eq.mpr Nat.beq_eq ho)
   ·rw[h1 _ hei] at ho;exact .inr ((wbj _ _).2 ((wkn (by omega)).2 ⟨hj.1,ho⟩))
  ·refine List.all_eq_true.2 λe he=>?_
   cases hb:Region.binds .any e with
   |false=>rfl
   |true=>
    have:=hon i hi e he (by rw[ww7];exact hb);simpa[Nat.blt_eq] using this
 ·refine List.all_eq_true.2 λi hi=>List.all_eq_true.2 λj hj=>?_;have hi:=List.mem_range.1 hi;have hj:=List.mem_range.1 hj;rw[Bool.or_eq_true]
  cases hb:bitN (getM ms i) j with
  |true=>exact .inl ((wbj _ _).2 ((wkn hi).2 ⟨by omega,hb⟩))
  |false=>
   have hb':bitN (getM ms j) i=false:=by
    cases hc:bitN (getM ms j) i with
    |false=>rfl
    |true=>have:=wl3 (hG j (by omega)).1 hc;omega
   have u1:=hun i j hi (by omega) (by omega) hb hb';have u2:=hun j i (by omega) hi (by omega) hb' hb;have hs1:=(hG i hi).2.2.2;simp only[wid,bA7,List.all_eq_true] at hs1;refine .inr ?_;rw[bA7,bA7,bA7];refine⟨⟨⟨?_,?_⟩,?_⟩,?_⟩
   ·unfold wlq;split
    ·rename_i d d' e1 e2;have h1:=hs1.1;rw[e1] at h1;simp only[Bool.not_eq_true'] at h1;rw[Bool.not_eq_true'];refine Bool.eq_false_iff.2 λhe=>?_;have he:=Nat.eq_of_beq_eq_true he;subst he;rw[(wbj _ _).2 (u1.1 _ e2)] at h1
     cases h1
    ·rfl
   ·refine List.all_eq_true.2 λx hx=>?_;have h2:=hs1.2 x hx;rw[Bool.not_eq_true'] at h2 ⊢;refine Bool.eq_false_iff.2 λhe=>?_;rw[(wbj _ _).2 (u1.2 x ((wbj _ _).1 he))] at h2
    cases h2
   ·unfold wdw;rw[bA7];refine⟨?_,List.all_eq_true.2 λx hx=>(wbj _ _).2 (u1.2 x hx)⟩;split
    ·rename_i d e;exact(wbj _ _).2 (u1.1 d e)
    ·rfl
   ·unfold wdw;rw[bA7];refine⟨?_,List.all_eq_true.2 λx hx=>(wbj _ _).2 (u2.2 x hx)⟩;split
    ·rename_i d e;exact(wbj _ _).2 (u2.1 d e)
    ·rfl
 ·refine List.all_eq_true.2 λi hi=>List.all_eq_true.2 λx hx=>?_;have hi:=List.mem_range.1 hi;have hp:=(hG i hi).2.1 x hx;simp only[wii,Bool.or_eq_true] at hp;rw[Bool.or_eq_true]
  rcases hp with(hp | hp) | hp
  ·exact .inl hp
  all_goals
   by_cases hlt:x<nx
   ·exact .inl (by simpa[Nat.blt_eq] using hlt)
   refine .inr (List.any_eq_true.2 ⟨(x - nx) / 16,?_,?_⟩)
  ·exact List.mem_cons.2 (.inl (Nat.eq_of_beq_eq_true hp))
  ·have:Nat.ble (nx+16 * ((x - nx) / 16)) x=true:=Nat.ble_eq_true_of_le (by omega);have h2:Nat.blt x (nx+16 * ((x - nx) / 16)+16)=true:=by
    rw[Nat.blt_eq];omega
   rw[this,h2];rfl
  ·have:=wl3 (hG i hi).1 hp;exact List.mem_cons.2 (.inr ((wkn hi).2 ⟨by show Nat.div (x - nx) 16<_;exact Nat.lt_trans this hi,hp⟩))
  ·have:Nat.ble (nx+16 * ((x - nx) / 16)) x=true:=Nat.ble_eq_true_of_le (by omega);have h2:Nat.blt x (nx+16 * ((x - nx) / 16)+16)=true:=by
    rw[Nat.blt_eq];omega
   rw[this,h2];rfl
 ·have:=hg.dall hr;rw[← hl] at this;exact this
theorem AWP.sameT{C:Ctx}{m N:Nat}{c:Code}{Q:Exit->St->Prop}{s:St}(h:AWP C m N c (λe s=>∃T,lk T=lk s.T/\Q e ⟨T,s.O,s.nx,[]⟩) s):AWP C m N c Q s:=by
 intro E hE bs a w hr;refine wp_mono (h E hE bs a w hr) ?_;rintro e a w ⟨s',bs',⟨T,hT,hQ⟩,hr'⟩;refine⟨_,bs',hQ,⟨?_,hr'.2⟩⟩;show Rep C E N (lk T) (lk s'.O) bs' a w;rw[hT];exact hr'.1
theorem w4a{T T':List (Nat×AV)}(h:lk T=lk T')(d:Option Tmp)(u:AV):lk (putT d u T)=lk (putT d u T'):=by
 rw[wku,wku,h]
theorem wkv{T:List (Nat×AV)}{d:Nat}{b b':Bool}(h:lk T d=some (.bool b))(hb:b=b'):lk ((d,AV.bool b')::rm d T)=lk T:=by
 rw[wfw];funext i;rw[wa0];split
 ·rename_i e;have e':d=i:=e;subst e';rw[h,hb]
 ·rfl
section
variable {C:Ctx} {G:Env} (hG:EnvOK C G) {m id:Nat} {opl:List Oper} {T0:List (Nat×AV)} {O0:List (Nat×AObj)} {nx0:Nat} {Q:Exit->St->Prop} {K:St->Prop} (hK:∀s,K s->Q .normal s)
include hG hK
theorem wpD_ok:∀(l:List Oper) (rows:List DRow) (T:List (Nat×AV)),opl=rows.map DRow.o++l->wfm C G opl nx0 rows T0 O0->lk T=lk (linT (rows.map DRow.o) (rows.map DRow.p) T0)->
   wpD G opl T0 O0 nx0 K l rows T (linO (rows.map DRow.p) O0) (nx0+16 * rows.length)->AWP C m G.N (.region id opl.toArray true) Q ⟨T0,O0,nx0,[]⟩
 |[],rows,T,hl,hr,hT,h=>by
   simp only[wpD] at h;split at h
   · rename_i hc;have hl':opl=rows.map DRow.o:=by simpa using hl
     have hlen:opl.length=rows.length:=by rw[hl'];simp
     obtain⟨anc,hid,h1,h2,h3,hd⟩:=w50 hc hr hl';refine AWP.sameT (AWP.drawn (rows.map DRow.p) anc hid h1 h2 h3 hd rfl rfl rfl ⟨T,?_,hK _ ?_⟩)
     · rw[hT, ← hl']
     · rw[← hlen] at h;exact h
   · exact h.elim
 |o::rest,rows,T,hl,hr,hT,h=>by
   have go:∀(p:PEnt) (T':List (Nat×AV)),lk T'=lk T->(∀hh,wdt G opl hh (nx0+16 * rows.length) ⟨o,T',linO (rows.map DRow.p) O0,p⟩=true->
         wbt C G.N opl hh.1 hh.2 (nx0+16 * rows.length) o p T' (linO (rows.map DRow.p) O0))->
       wpD G opl T0 O0 nx0 K rest (rows++[⟨o,T',linO (rows.map DRow.p) O0,p⟩]) (putT o.dst p.u T') (p.l++linO (rows.map DRow.p) O0) (nx0+16 * rows.length+16)->
       AWP C m G.N (.region id opl.toArray true) Q ⟨T0,O0,nx0,[]⟩:=by
     intro p T' hT' hp hw;refine wpD_ok rest (rows++[⟨o,T',_,p⟩]) (putT o.dst p.u T') (by rw[hl];simp) (hr.snoc (hT'.trans hT) rfl hp) ?_ ?_
     · simp only[List.map_append,List.map_cons,List.map_nil];rw[wq5 _ _ _ _ _ (by simp)];exact w4a (hT'.trans hT) _ _
     · simp only[List.map_append,List.map_cons,List.map_nil,lA7,List.length_cons,List.length_nil];rw[wq6];exact hw
   have skip:∀ {d:Nat} {want b:Bool} (T':List (Nat×AV)),gslot opl o=some (d,want)->lk T' d=some (.bool b)->o.guard≠none->(b==want)=false->wa4 G.N o.dst=true->
       ∀hh,wdt G opl hh (nx0+16 * rows.length) ⟨o,T',linO (rows.map DRow.p) O0,⟨false,.tuple [],[]⟩⟩=true->
         wbt C G.N opl hh.1 hh.2 (nx0+16 * rows.length) o ⟨false,.tuple [],[]⟩ T' (linO (rows.map DRow.p) O0):=by
     intro d want b T' hgs hT hgn hb hd hh hlk;refine wbt.skip ?_ hd;simp only[wdt,bA7] at hlk;have hlk:=hlk.1;split at hlk
     · rename_i hg;exact absurd hg hgn
     · rw[hgs] at hlk;simp only[Bool.not_eq_true'] at hlk;exact wcm.some b hgs (by rw[wk7 hlk];exact hT) rfl hb
   have run:∀ {d:Nat} {want b:Bool} (T':List (Nat×AV)),lk T'=lk T->gslot opl o=some (d,want)->lk T' d=some (.bool b)->o.guard≠none->(b==want)=true->
       wpD1 G o T' (linO (rows.map DRow.p) O0) (nx0+16 * rows.length)
         (λu l=>wpD G opl T0 O0 nx0 K rest (rows++[⟨o,T',linO (rows.map DRow.p) O0,⟨true,u,l⟩⟩]) (putT o.dst u T') (l++linO (rows.map DRow.p) O0) (nx0+16 * rows.length+16))->
       AWP C m G.N (.region id opl.toArray true) Q ⟨T0,O0,nx0,[]⟩:=by
     intro d want b T' hTT hgs hT hgn hb hw;obtain⟨u,l,hk,hs⟩:=wsl hG (opl:=opl) hw;refine go ⟨true,u,l⟩ T' hTT (λhh hlk=>?_) hk;simp only[wdt,bA7] at hlk;refine hs hh ?_ hlk.2;have hlk:=hlk.1;split at hlk
     · rename_i hg;exact absurd hg hgn
     · rw[hgs] at hlk;simp only[Bool.not_eq_true'] at hlk;exact wcm.some b hgs (by rw[wk7 hlk];exact hT) rfl hb
   simp only[wpD] at h;split at h
   · rename_i hg;obtain⟨u,l,hk,hs⟩:=wsl hG (opl:=opl) h;refine go ⟨true,u,l⟩ T rfl (λhh hlk=>?_) hk;simp only[wdt,bA7] at hlk;exact hs hh (wcm.none hg) hlk.2
   · rename_i g hg;have hgn:o.guard≠none:=by rw[hg];simp
     split at h
     · rename_i d want hgs;split at h
       · rename_i b hTd;split at h
         · rename_i hd;have hl:∀b',lk ((d,AV.bool b')::rm d T) d=some (.bool b'):=λb'=>by rw[wa0];simp
           cases hb:b with
           |true=>
             have h:=(wbq h).1 hb;split at h
             · exact run _ (wkv hTd hb) hgs (hl _) hgn rfl h
             · exact go _ _ (wkv hTd hb) (skip _ hgs (hl _) hgn rfl hd) h
           |false=>
             have h:=(wbq h).2 hb;split at h
             · exact run _ (wkv hTd hb) hgs (hl _) hgn rfl h
             · exact go _ _ (wkv hTd hb) (skip _ hgs (hl _) hgn rfl hd) h
         · exact h.elim
       · rename_i hTd;split at h
         · rename_i hd;refine go ⟨false,.tuple [],[]⟩ T rfl (λhh hlk=>?_) h;refine wbt.skip ?_ hd;simp only[wdt,bA7] at hlk;have hlk:=hlk.1;split at hlk
           · rename_i hg';exact absurd hg' hgn
           · rw[hgs] at hlk;simp only[Bool.not_eq_true'] at hlk;exact wcm.undef hgs (by rw[wk7 hlk];exact hTd)
         · exact h.elim
       · exact h.elim
     · exact h.elim
end
theorem AWP.mono{C:Ctx}{m N:Nat}{c:Code}{Q Q':Exit->St->Prop}{s:St}(h:AWP C m N c Q s)(k:∀e s,Q e s->Q' e s):AWP C m N c Q' s:=by
 intro E hE bs a w hr;refine wp_mono (h E hE bs a w hr) ?_;rintro e a w ⟨s',bs',hq,hr'⟩;exact⟨s',bs',k _ _ hq,hr'⟩
theorem wpz{K K':St->Prop}{Q:Exit->St->Prop}(h:∀s,K s->K' s)(e:Exit)(s:St)(hq:wef K Q e s):wef K' Q e s:=by
 cases e<;>first | exact h _ hq | exact hq
section
variable {C:Ctx} {G:Env} (hG:EnvOK C G) {m:Nat}
include hG
theorem wc2:∀(c:Code) (Q:Exit->St->Prop) (s:St),(∀p∈wbd G.loops c,∀s Q,p.2 s Q->AWP C m G.N p.1 Q s)->wpC G c Q s->AWP C m G.N c Q s
 |.skip,Q,s,_,h=>AWP.skip h
 |.label _,Q,s,_,h=>AWP.label h
 |.exit id,Q,s,_,h=>AWP.exit h
 |.ret,Q,s,_,h=>AWP.ret h
 |.seq x y,Q,s,hL,h=>by
  have hx:=wc2 x (wef (wpC G y Q) Q) s (λp hp=>hL p (by simp[wbd,hp])) h;refine AWP.seq (hx.mono λe s hq=>?_);exact wpz (λs hs=>wc2 y Q s (λp hp=>hL p (by simp[wbd,hp])) hs) e s hq
 |.block id x,Q,s,hL,h=>AWP.block (wc2 x (wl2 id Q) s hL h)
 |.cond c x y,Q,s,hL,h=>by
  simp only[wpC] at h;split at h
  ·rename_i b hb;refine AWP.cond hb (λhh=>?_) (λhh=>?_)
   ·exact wc2 x Q s (λp hp=>hL p (by simp[wbd,hp])) ((wbq h).1 hh)
   ·exact wc2 y Q s (λp hp=>hL p (by simp[wbd,hp])) ((wbq h).2 hh)
  ·exact h.elim
 |.region id ops draw,Q,s,hL,h=>by
  simp only[wpC] at h;split at h
  ·rename_i L hl;exact hL (.region id ops draw,L) (by simp[wbd,hl]) s Q h
  obtain⟨T,O,nx,dec⟩:=s;split at h
  ·have hr:AWP C m G.N (.region id ops.toList.toArray false) Q ⟨T,O,nx,[]⟩:=AWP.region (wsj hG (λ_ hs=>hs) ops.toList T O nx h);rw[Array.toArray_toList] at hr;exact hr
  ·have hr:AWP C m G.N (.region id ops.toList.toArray true) Q ⟨T,O,nx,[]⟩:=wpD_ok hG (λ_ hs=>hs) ops.toList [] T (by simp) trivial rfl h;rw[Array.toArray_toList] at hr;exact hr
 |.loop x,Q,s,hL,h=>by
  simp only[wpC] at h;split at h
  ·rename_i L hl;exact hL (.loop x,L) (by simp[wbd,hl]) s Q h
  ·rename_i hl;have hx:=λQ s=>wc2 x Q s (λp hp=>hL p (by simp[wbd,hl,hp]));intro E hE bs a w hr;refine wp_loop_rounds G.fuel ?_;have key:∀n s bs a w,iterP (wpC G x) n Q s->RepS C E G.N s bs a w->Code.rounds C.P x (QC C E G.N Q) n a w:=by
    intro n
    induction n with
    |zero=>exact λ_ _ _ _ h _=>h.elim
    |succ n ih=>
     intro s bs a w h hr;rw[rounds_succ];refine wp_mono (hx _ _ h E hE bs a w hr) ?_;rintro e a w ⟨s',bs',hq,hr'⟩
     cases e with
     |normal=>exact ih s' bs' a w hq hr'
     |exit id=>exact⟨s',bs',hq,hr'⟩
     |goto l=>exact⟨s',bs',hq,hr'⟩
     |ret=>exact⟨s',bs',hq,hr'⟩
     |panic c=>exact⟨s',bs',hq,hr'⟩
     |outgrown=>exact⟨s',bs',hq,hr'⟩
   exact key _ s bs a w h hr
 |.rangeFunc _ _ _ _,_,_,_,h=>h.elim
 |.scope x,Q,s,hL,h=>by
  have hx:=wc2 x (wui Q) s hL h;intro E hE bs a w hr;refine wp_scope_straight (wp_mono (hx E hE bs a w hr) ?_);rintro e a w ⟨s',bs',hq,hr'⟩
  cases e with
  |goto l=>exact hq.elim
  |normal=>exact⟨s',bs',hq,hr'⟩
  |exit id=>exact⟨s',bs',hq,hr'⟩
  |ret=>exact⟨s',bs',hq,hr'⟩
  |panic c=>exact⟨s',bs',hq,hr'⟩
  |outgrown=>exact⟨s',bs',hq,hr'⟩
 |.goto l,Q,s,_,h=>λ_ _ bs _ _ hr=>wp_goto ⟨s,bs,h,hr⟩
 |.refuse _,_,_,_,h=>h.elim
end
theorem wjc{m:Nat}{ρ:List (Nat×Nat)}{O:List (Nat×AObj)}:∀ {l:List (Nat×Nat)} {O':List (Nat×AObj)},(∀p∈l,ren m ρ p.1=some p.2)->canO m ρ O l=some O'->(∀p∈O',wb6 p.2 True)->wbs (ren m ρ) O O'
 |[],O',_,h,_=>by simp only[canO,sI7] at h;subst h;trivial
 |(r,k)::l,O',hl,h,hv=>by
  simp only[canO] at h;split at h
  ·rename_i O2 h2;have ih:=wjc (λp hp=>hl p (List.mem_cons_of_mem _ hp)) h2;split at h
   ·rename_i o ho;split at h
    ·split at h
     ·rename_i o' ho';simp only[sI7] at h;subst h;exact⟨⟨r,o,hl (r,k) (by simp),ho,wqa ho' (hv (k,o') (by simp))⟩,ih λp hp=>hv p (List.mem_cons_of_mem _ hp)⟩
     ·cases h
    ·simp only[sI7] at h;subst h;exact ih hv
   ·simp only[sI7] at h;subst h;exact ih hv
  ·cases h
theorem wl1{ρ:Nat->Option Nat}{T:List (Nat×AV)}:∀ {l:List Nat} {T':List (Nat×AV)},canT ρ T l=some T'->TLe ρ T T'
 |[],T',h=>by simp only[canT,sI7] at h;subst h;trivial
 |d::l,T',h=>by
  simp only[canT] at h;split at h
  ·rename_i u T2 hu h2;simp only[sI7] at h;subst h;exact⟨⟨u,hu,rfl⟩,wl1 h2⟩
  ·cases h
theorem ren_lo{m:Nat}{ρ:List (Nat×Nat)}{r:Nat}(h:r<m):ren m ρ r=some r:=by
 have:Nat.blt r m=true:=by simpa[Nat.blt_eq] using h
 simp[ren,this]
theorem wqo{m:Nat}:∀ {l:List Nat} {k:Nat},ndB l=true->∀p∈numR m l k,lk (numR m l k) p.1=some p.2/\¬ p.1<m
 |[],k,_,p,hp=>by simp[numR] at hp
 |r::l,k,hn,p,hp=>by
  simp only[ndB,bA7,Bool.not_eq_true'] at hn;simp only[numR] at hp ⊢
  cases hb:Nat.blt r m with
  |true=>rw[hb] at hp;exact wqo hn.2 p hp
  |false=>
   rw[hb] at hp;have hge:¬ r<m:=λh=>by
    have:Nat.blt r m=true:=by simpa[Nat.blt_eq] using h
    rw[hb] at this;cases this
   rcases List.mem_cons.1 hp with rfl | hp
   ·exact⟨by rw[wa0];simp,hge⟩
   ·obtain⟨h1,h2⟩:=wqo hn.2 p hp;refine⟨?_,h2⟩;rw[wa0];have:r≠p.1:=by
     intro e;have hm:∀(l:List Nat) (k:Nat),p∈numR m l k->p.1∈l:=by
      intro l
      induction l with
      |nil=>intro k h;simp[numR] at h
      |cons x l ih=>
       intro k h;simp only[numR] at h
       cases hx:Nat.blt x m with
       |true=>rw[hx] at h;exact List.mem_cons_of_mem _ (ih _ h)
       |false=>
        rw[hx] at h
        rcases List.mem_cons.1 h with rfl | h
        ·simp
        ·exact List.mem_cons_of_mem _ (ih _ h)
     have:=hm l _ hp;rw[← e] at this;rw[(wbj _ _).2 this] at hn
     cases hn.1
    simp[this,h1]
theorem wjb(te:TE)(O:List (Nat×AObj)):∀(k:Nat) (todo seen:List Nat),ndB seen.reverse=true->(∀x,hasN seen x=hasN seen.reverse x)->ndB (wbr te O k todo seen).reverse=true
 |0,_,seen,h,_=>h
 |k+1,[],seen,h,_=>h
 |k+1,r::todo,seen,h,hs=>by
  simp only[wbr];split
  ·exact wjb te O k todo seen h hs
  ·rename_i hr;split
   ·split
    ·refine wjb te O k _ _ ?_ ?_
     ·simp only[List.reverse_append,List.reverse_cons,List.reverse_nil,List.nil_append,List.cons_append,ndB,h,Bool.and_true, ← hs,hr,Bool.not_false]
     ·intro x;have e:∀l:List Nat,hasN l x=hasN l.reverse x:=by
       intro l
       cases h1:hasN l x with
       |true=>exact((wbj _ _).2 (by simpa using(wbj _ _).1 h1)).symm
       |false=>
        cases h2:hasN l.reverse x with
        |false=>rfl
        |true=>
         have:=(wbj _ _).1 h2;rw[(wbj _ _).2 (by simpa using this)] at h1
         cases h1
      exact e _
    ·exact wjb te O k todo seen h hs
   ·exact wjb te O k todo seen h hs
theorem ndB_iff(l:List Nat):ndB l=true↔l.Nodup:=by
 constructor
 ·exact we0
 ·induction l with
  |nil=>intro;rfl
  |cons x l ih=>
   intro h;rw[List.nodup_cons] at h;simp only[ndB,bA7,Bool.not_eq_true'];refine⟨?_,ih h.2⟩
   cases hb:hasN l x with
   |false=>rfl
   |true=>exact absurd ((wbj _ _).1 hb) h.1
theorem wlu(te:TE)(O:List (Nat×AObj))(k:Nat)(todo:List Nat):ndB (wbr te O k todo [])=true:=by
 have:=wjb te O k todo [] rfl (λ_=>rfl);rw[ndB_iff] at this ⊢;exact List.pairwise_reverse.1 this |>.imp λh=>Ne.symm h
theorem wj4{m:Nat}{l:List Nat}(h:ndB l=true):∀p∈((List.range m).map λr=>(r,r))++numR m l m,ren m (numR m l m) p.1=some p.2:=by
 intro p hp
 rcases List.mem_append.1 hp with hp | hp
 ·obtain⟨r,hr,rfl⟩:=List.mem_map.1 hp;exact ren_lo (List.mem_range.1 hr)
 ·obtain⟨h1,h2⟩:=wqo h p hp;have:Nat.blt p.1 m=false:=by
   cases hb:Nat.blt p.1 m with
   |false=>rfl
   |true=>exact absurd (by simpa[Nat.blt_eq] using hb) h2
  simp[ren,this,h1]
theorem OLe.rows{σ:Nat->Option Nat}{o:AObj}{t:TypeId}{sz n:Nat}{f f':Nat->List AV}{fr:Bool}(h:OLe σ o (.row t sz n f fr))(hf:∀i,i<n->f i=f' i):OLe σ o (.row t sz n f' fr):=by
 cases o<;>simp only[OLe] at h ⊢;obtain⟨h1,h2,h3,h4,h5⟩:=h;subst h3;exact⟨h1,h2,rfl,h4,λi hi=>(h5 i hi).trans (hf i hi)⟩
theorem wbs.rowsEq{σ:Nat->Option Nat}{O:List (Nat×AObj)}:∀ {l l':List (Nat×AObj)},wbs σ O l->wac l l'->wbs σ O l'
 |[],[],h,_=>h
 |(r,o)::l,(r',o')::l',h,he=>by
  obtain⟨⟨j,x,h1,h2,h3⟩,h4⟩:=h
  cases o with
  |row t sz n f fr=>
   cases o' with
   |row t' sz' n' f' fr'=>
    obtain⟨⟨rfl,rfl,rfl,rfl,rfl,hf⟩,he⟩:=he;exact⟨⟨j,x,h1,h2,h3.rows hf⟩,wbs.rowsEq h4 he⟩
   |_=>exact absurd he.1 (by simp)
  |_=>
   obtain⟨e,he⟩:=he
   cases e;exact⟨⟨j,x,h1,h2,h3⟩,wbs.rowsEq h4 he⟩
 |[],_::_,_,he=>he.elim
 |(_,o)::_,[],_,he=>by cases o<;>exact he.elim
theorem wac.vc:∀ {l l':List (Nat×AObj)},wac l l'->(∀p∈l',wb6 p.2 True)->∀p∈l,wb6 p.2 True
 |[],[],_,_,p,hp=>by simp at hp
 |(r,o)::l,(r',o')::l',he,hv,p,hp=>by
  cases o with
  |row t sz n f fr=>
   cases o' with
   |row t' sz' n' f' fr'=>
    obtain⟨⟨rfl,rfl,rfl,rfl,rfl,hf⟩,he⟩:=he
    rcases List.mem_cons.1 hp with rfl | hp
    ·have:=hv _ (List.mem_cons_self ..);exact⟨λi hi=>by rw[hf i hi];exact this.1 i hi,trivial⟩
    ·exact wac.vc he (λq hq=>hv q (List.mem_cons_of_mem _ hq)) p hp
   |_=>exact absurd he.1 (by simp)
  |_=>
   obtain⟨e,he⟩:=he
   cases e
   rcases List.mem_cons.1 hp with rfl | hp
   ·exact hv _ (List.mem_cons_self ..)
   ·exact wac.vc he (λq hq=>hv q (List.mem_cons_of_mem _ hq)) p hp
 |[],_::_,he,_,_,_=>he.elim
 |(_,o)::_,[],he,_,_,_=>by cases o<;>exact he.elim
theorem w6n{te:TE}{m:Nat}{F:List Nat}{s s':St}(h:canon te m F s=some s')(hv:∀p∈s'.O,wb6 p.2 True):∃ρ,Weak m ρ s s':=by
 obtain⟨T,O,nx,dec⟩:=s;unfold canon at h;dsimp only at h;split at h
 ·rename_i hr;split at h
  ·rename_i T' O' hT hO;simp only[sI7] at h;subst h;exact⟨_,Weak.of _ hr (wl1 hT) (wjc (wj4 (wlu _ _ _ _)) hO hv) (Nat.le_add_right _ _)⟩
  ·cases h
 ·cases h
theorem wd4{te:TE}{m:Nat}{F:List Nat}{s s':St}(h:canonIs te m F s s')(hv:∀p∈s'.O,wb6 p.2 True):∃ρ,Weak m ρ s s':=by
 unfold canonIs at h;split at h
 ·rename_i s2 hs;split at h
  ·cases hn:Nat.beq s2.nx s'.nx with
   |false=>rw[hn] at h;exact h.elim
   |true=>
   rw[hn] at h;replace hn:=Nat.eq_of_beq_eq_true hn;obtain⟨hT,hO⟩:=h;unfold TEq at hT;have hs':=hs;obtain⟨T,O,nx,dec⟩:=s;unfold canon at hs';dsimp only at hs';split at hs'
   ·rename_i hr;split at hs'
    ·rename_i T' O' hcT hcO;simp only[sI7] at hs';subst hs';obtain⟨T3,O3,nx3,dec3⟩:=s';simp only at hT hO hn hv;subst hT;subst hn;exact⟨_,Weak.of _ hr (wl1 hcT) ((wjc (wj4 (wlu _ _ _ _)) hcO (hO.vc hv)).rowsEq hO) (Nat.le_add_right _ _)⟩
    ·cases hs'
   ·cases hs'
  ·simp only[sI7] at h;subst h;exact w6n hs hv
 ·exact h.elim
theorem AWP.canonIs{C:Ctx}{te:TE}{m N:Nat}{c:Code}{Q:Exit->St->Prop}{s s':St}(F:List Nat)(h:Eng.canonIs te m F s s')(k:AWP C m N c Q s')(hv:wbv s'.O True):AWP C m N c Q s:=by
 obtain⟨ρ,hw⟩:=wd4 h (wb8 hv).1;exact AWP.weak hw k
theorem AWP.loopF{C:Ctx}{G:Env}(hG:EnvOK C G){m:Nat}{x:Code}{Q:Exit->St->Prop}{s:St}(F:List Nat){ι:Type}(S:ι->St)(I:ι->Prop)(μ:ι->Nat)(i0:ι)(hI:I i0)(hS:∀i,wbv (S i).O True)(h0:Eng.canonIs G.te m F s (S i0))
  (hL:∀p∈wbd G.loops x,∀s Q,p.2 s Q->AWP C m G.N p.1 Q s)
  (round:∀i,I i->wpC G x (wef (λs'=>∃i',Eng.canonIs G.te m F s' (S i')/\I i'/\μ i'<μ i) Q) (S i)):AWP C m G.N (.loop x) Q s:=by
 obtain⟨ρ0,hw⟩:=wd4 h0 (wb8 (hS i0)).1;refine AWP.loop S I μ i0 hI hw λi hi=>(wc2 hG x _ _ hL (round i hi)).mono λe s hq=>wpz (λs hs=>?_) e s hq;obtain⟨i',h3,h1,h2⟩:=hs;obtain⟨ρ,hw'⟩:=wd4 h3 (wb8 (hS i')).1;exact⟨i',ρ,h1,h2,hw'⟩
theorem wtz{te:TE}{T:Nat->Option AV}{O:Nat->Option AObj}:∀ {rs:List ResultVar} {us:List AV} {vc:Prop},resA te T O rs=some (us,vc)->tmpsR rs=true->vc
 |[],us,vc,h,_=>by simp only[resA,sI7,pI7] at h;rw[← h.2];trivial
 |.tmp t::l,us,vc,h,ht=>by
  simp only[resA] at h;split at h
  ·rename_i u us' vc' hu hl;simp only[sI7,pI7] at h;obtain⟨_,rfl⟩:=h;exact wtz hl ht
  ·cases h
 |.cell _ _::_,_,_,_,ht=>by cases ht
theorem wtp{σ:Nat->Option Nat}{O O':List (Nat×AObj)}{R:List (Nat×AObj)->Prop}(hb:wbs σ O O')(h:rowR O' R):∃O2,wbs σ O O2/\R O2:=by
 unfold rowR at h;split at h
 ·obtain⟨O2,he,hR⟩:=h;exact⟨O2,wbs.rowsEq hb he,hR⟩
 ·exact⟨O',hb,h⟩
theorem wv8{te:TE}{rs:List ResultVar}{m:Nat}{R:AV->List (Nat×AObj)->Prop}{s:St}{e:Exit}(he:e= .normal∨e= .ret)(h:finP te rs m R s):bodyA te rs m R e s:=by
 obtain⟨T,O,nx,dec⟩:=s;unfold finP at h;dsimp only at h;split at h
 ·rename_i us vc hr;split at h
  ·rename_i hc;simp only[bA7] at hc;split at h
   ·rename_i O' hO;obtain⟨h1,h2⟩:=wh9 (wtz hr) h;obtain⟨hv,h2⟩:=wb8 h2;obtain⟨O2,hb,h2⟩:=wtp (wjc (wj4 (wlu _ _ _ _)) hO hv) h2;refine⟨he,us,vc,hr,h1,_,⟨[],O2,_,[]⟩,Weak.of _ hc.1 trivial hb (Nat.le_add_right _ _),?_,h2⟩;have:=Nat.le_of_ble_eq_true hc.2;exact Nat.add_le_add_left this m
   ·exact h.elim
  ·exact h.elim
 ·exact h.elim
theorem endP_ok{te:TE}{rs:List ResultVar}{m:Nat}{R:AV->List (Nat×AObj)->Prop}{s:St}{e:Exit}(h:endP te rs m R e s):bodyA te rs m R e s:=by
 cases e with
 |normal=>exact wv8 (.inl rfl) h
 |ret=>exact wv8 (.inr rfl) h
 |exit _=>exact h.elim
 |goto _=>exact h.elim
 |panic _=>exact h.elim
 |outgrown=>exact h.elim
theorem waw.wp{C:Ctx}{te:TE}{calls:List (Nat×CSpec)}{loops:List (Nat×wap)}{fuel:Nat}{f:FuncId}{fn:Func}{args:List AV}{objs:List AObj}{R:AV->List (Nat×AObj)->Prop}
  (hte:TE.ok C.P te) (hn:∀t ti,lk te t=some ti->wa2 ti.desc=false->ti.sz=1) (hc:∀f S,lk calls f=some S->wfp C f S)
  (hf : C.P.funcs[f]? = some fn) (hb : fn.body.isSome = true) (hname : (fn.name == "runtime.NumGoroutine") = false) (hl : Nat.ble args.length fn.ntmps = true)
  (hL:∀p∈wbd loops (wem fn),∀s Q,p.2 s Q->AWP C objs.length fn.ntmps p.1 Q s)
  (h:wpFn te calls loops fuel fn args objs R):waw C f args objs R:=by
 have hb':fn.body=some (wem fn):=by
  unfold wem
  cases hx:fn.body with
  |none=>rw[hx] at hb;cases hb
  |some c=>rfl
 refine waw.body hte hn hf hb' hname rfl hl ?_;have hG:EnvOK C ⟨te,calls,loops,objs.length,fn.ntmps,fuel⟩:=⟨hte,hn,hc⟩;exact(wc2 hG (m:=objs.length) (wem fn) _ _ hL h).mono λe s hq=>endP_ok hq
theorem w6p{C:Ctx}:∀f S,lk ([]:List (Nat×CSpec)) f=some S->wfp C f S:=λf S h=>by cases h
theorem w6q{C:Ctx}{f:Nat}{S:CSpec}{l:List (Nat×CSpec)}(h:wfp C f S)(hl:∀f S,lk l f=some S->wfp C f S):∀f' S',lk ((f,S)::l) f'=some S'->wfp C f' S':=by
 intro f' S' hh;rw[wa0] at hh;split at hh
 ·rename_i e;have e':f=f':=e;subst e';simp only[sI7] at hh;subst hh;exact h
 ·exact hl _ _ hh
theorem wag{p:Prop}[Decidable p]{P Q:Prop}(h1:p->P)(h2:¬ p->Q):wab (decide p) P Q:=wan (λh=>h1 (of_decide_eq_true h)) (λh=>h2 (of_decide_eq_false h))
theorem wax{p:Prop}[Decidable p]{P Q:Prop}(h1:¬ p->P)(h2:p->Q):wab (!decide p) P Q:=by
 by_cases h:p
 ·rw[decide_eq_true h];exact h2 h
 ·rw[decide_eq_false h];exact h1 h
theorem wcb{b:Bool}{P Q:Prop}(h1:b=false->P)(h2:b=true->Q):wab (!b) P Q:=by
 cases b with
 |true=>exact h2 rfl
 |false=>exact h1 rfl
def wah(C:Ctx)(m N:Nat)(c:Code)(L:wap):Prop:=∀s Q,L s Q->AWP C m N c Q s
def wfn(C:Ctx)(m N:Nat):List (Code×wap)->Prop
 |[]=>True
 |(c,L)::l=>wah C m N c L/\wfn C m N l
theorem wfn.all{C:Ctx}{m N:Nat}:∀ {l:List (Code×wap)},wfn C m N l->∀p∈l,∀s Q,p.2 s Q->AWP C m N p.1 Q s
 |[],_,p,hp=>by simp at hp
 |(c,L)::l,h,p,hp=>by
  rcases List.mem_cons.1 hp with rfl | hp
  ·exact h.1
  ·exact wfn.all h.2 p hp
theorem wcv:∀c:Code,wbd [] c=[]
 |.seq x y=>by simp[wbd,wcv x,wcv y]
 |.block _ x=>by simp[wbd,wcv x]
 |.cond _ x y=>by simp[wbd,wcv x,wcv y]
 |.loop x=>by simp[wbd,lk,wcv x]
 |.skip=>rfl
 |.region _ _ _=>by simp[wbd,lk]
 |.rangeFunc _ _ _ _=>rfl
 |.exit _=>rfl
 |.scope x=>by simp[wbd,wcv x]
 |.label _=>rfl
 |.goto _=>rfl
 |.ret=>rfl
 |.refuse _=>rfl
structure Prg (C:Ctx) (te:TE):Prop where
 ok:TE.ok C.P te
 one:∀t ti,lk te t=some ti->wa2 ti.desc=false->ti.sz=1
def wcn(C:Ctx)(calls:List (Nat×CSpec)):Prop:=∀f S,lk calls f=some S->wfp C f S
theorem wcn.nil{C:Ctx}:wcn C []:=w6p
theorem wcn.cons{C:Ctx}{f:Nat}{S:CSpec}{l:List (Nat×CSpec)}(h:wfp C f S)(hl:wcn C l):wcn C ((f,S)::l):=w6q h hl
theorem wad.wp0{C:Ctx}{te:TE}(hte:Prg C te)(calls:List (Nat×CSpec))(fuel:Nat)(hc:wcn C calls){f:FuncId}{fn:Func}{args:List AV}{objs:List AObj}{U:AV}{Os:List (Nat×AObj)}
  (hf : C.P.funcs[f]? = some fn) (hb : fn.body.isSome = true) (hname : (fn.name == "runtime.NumGoroutine") = false) (hl : Nat.ble args.length fn.ntmps = true)
  (h:wpFn te calls [] fuel fn args objs (λu O=>u=U/\O=Os)):ADet C f args objs U Os:=
 waw.wp hte.ok hte.one hc hf hb hname hl (by rw[wcv];intro p hp;simp at hp) h
theorem wa8.wpL{C:Ctx}{te:TE}(hte:Prg C te)(calls:List (Nat×CSpec))(loops:List (Nat×wap))(fuel:Nat)(hc:wcn C calls){f:FuncId}{fn:Func}{args:List AV}{objs:List AObj}{R:AV->List (Nat×AObj)->Prop}
  (hf : C.P.funcs[f]? = some fn) (hb : fn.body.isSome = true) (hname : (fn.name == "runtime.NumGoroutine") = false) (hl : Nat.ble args.length fn.ntmps = true)
  (ls:List (Code×wap)) (hls:wbd loops (wem fn)=ls) (hL:wfn C objs.length fn.ntmps ls)
  (h:wpFn te calls loops fuel fn args objs R):waw C f args objs R:=
 waw.wp hte.ok hte.one hc hf hb hname hl (by rw[hls];exact hL.all) h
theorem wad.wpL{C:Ctx}{te:TE}(hte:Prg C te)(calls:List (Nat×CSpec))(loops:List (Nat×wap))(fuel:Nat)(hc:wcn C calls){f:FuncId}{fn:Func}{args:List AV}{objs:List AObj}{U:AV}{Os:List (Nat×AObj)}
  (hf : C.P.funcs[f]? = some fn) (hb : fn.body.isSome = true) (hname : (fn.name == "runtime.NumGoroutine") = false) (hl : Nat.ble args.length fn.ntmps = true)
  (ls:List (Code×wap)) (hls:wbd loops (wem fn)=ls) (hL:wfn C objs.length fn.ntmps ls)
  (h:wpFn te calls loops fuel fn args objs (λu O=>u=U/\O=Os)):ADet C f args objs U Os:=
 waw.wp hte.ok hte.one hc hf hb hname hl (by rw[hls];exact hL.all) h
def canQ(te:TE)(m:Nat)(Fe Fr:List Nat)(Q:Exit->St->Prop):Exit->St->Prop
 |.ret,s=>match canon te m Fr s with
  |some s'=>wbv s'.O (rowR s'.O λO'=>Q .ret ⟨s'.T,O',s'.nx,[]⟩)
  |none=>False
 |e,s=>match canon te m Fe s with
  |some s'=>wbv s'.O (rowR s'.O λO'=>Q e ⟨s'.T,O',s'.nx,[]⟩)
  |none=>False
theorem ww2{te:TE}{m:Nat}{Fe Fr:List Nat}{Q:Exit->St->Prop}{e:Exit}{s:St}(h:canQ te m Fe Fr Q e s):∃ρ s',Weak m ρ s s'/\Q e s':=by
 have key:∀F,(match canon te m F s with
  |some s'=>wbv s'.O (rowR s'.O λO'=>Q e ⟨s'.T,O',s'.nx,[]⟩)
  |none=>False)->∃ρ s',Weak m ρ s s'/\Q e s':=by
  intro F h;split at h
  ·rename_i s' hs;obtain⟨hv,h⟩:=wb8 h;obtain⟨T,O,nx,dec⟩:=s;unfold canon at hs;dsimp only at hs;split at hs
   ·rename_i hr;split at hs
    ·rename_i T' O' hcT hcO;simp only[sI7] at hs;subst hs;obtain⟨O2,hb,hQ⟩:=wtp (wjc (wj4 (wlu _ _ _ _)) hcO hv) h;exact⟨_,_,Weak.of _ hr (wl1 hcT) hb (Nat.le_add_right _ _),hQ⟩
    ·cases hs
   ·cases hs
  ·exact h.elim
 unfold canQ at h;split at h
 ·exact key _ h
 ·exact key _ h
theorem canQ_of{te:TE}{m:Nat}{Fe Fr:List Nat}{Q:Exit->St->Prop}{e:Exit}{s s':St}(he:e≠ .ret)(hs:canon te m Fe s=some s')(h:wbv s'.O (rowR s'.O λO'=>Q e ⟨s'.T,O',s'.nx,[]⟩)):canQ te m Fe Fr Q e s:=by
 unfold canQ;split
 ·exact absurd rfl he
 ·rw[hs];exact h
theorem AWP.canQ{C:Ctx}{te:TE}{m N:Nat}{c:Code}{Fe Fr:List Nat}{Q:Exit->St->Prop}{s:St}(h:AWP C m N c (Eng.canQ te m Fe Fr Q) s):AWP C m N c Q s:=by
 intro E hE bs a w hr;subst hE;refine wp_mono (h E rfl bs a w hr) ?_;rintro e a w ⟨s',bs',hq,hr'⟩;obtain⟨ρ,s2,hw,hQ⟩:=ww2 hq;obtain⟨bs2,hr2,_⟩:=hr'.weak hw;exact⟨s2,bs2,hQ,hr2⟩
def wat(G:Env)(x:Code)(F Fe Fr:List Nat){ι:Type}(S:ι->St)(P:ι->Prop)(Q:Exit->St->Prop)(s:St):Prop:=
 wpC G x (wef (λs'=>∃i',canonIs G.te G.m F s' (S i')/\P i') (Eng.canQ G.te G.m Fe Fr Q)) s
theorem wah.mk{C:Ctx}{te:TE}(hte:Prg C te){m N:Nat}{x:Code}{s:St}{Q:Exit->St->Prop}(calls:List (Nat×CSpec))(fuel:Nat)(hc:wcn C calls)(F Fe Fr:List Nat){ι:Type}(S:ι->St)(I:ι->Prop)(μ:ι->Nat)(i0:ι)(hI:I i0)
  (h0:canonIs te m F s (S i0)) (round:∀i,I i->wat ⟨te,calls,[],m,N,fuel⟩ x F Fe Fr S (λi'=>I i'/\μ i'<μ i) Q (S i)) (hS:∀i,wbv (S i).O True:=by intro i;trivial):AWP C m N (.loop x) Q s:=
 (AWP.loopF (G:=⟨te,calls,[],m,N,fuel⟩) (Q:=Eng.canQ te m Fe Fr Q) ⟨hte.ok,hte.one,hc⟩ F S I μ i0 hI hS h0 (by rw[wcv];intro p hp;simp at hp) λi hi=>round i hi).canQ
theorem wah.mkL{C:Ctx}{te:TE}(hte:Prg C te){m N:Nat}{x:Code}{s:St}{Q:Exit->St->Prop}(calls:List (Nat×CSpec))(loops:List (Nat×wap))(fuel:Nat)(hc:wcn C calls)(ls:List (Code×wap))(hls:wbd loops x=ls)(hL:wfn C m N ls)
  (F Fe Fr:List Nat) {ι:Type} (S:ι->St) (I:ι->Prop) (μ:ι->Nat) (i0:ι) (hI:I i0)
  (h0:canonIs te m F s (S i0)) (round:∀i,I i->wat ⟨te,calls,loops,m,N,fuel⟩ x F Fe Fr S (λi'=>I i'/\μ i'<μ i) Q (S i)) (hS:∀i,wbv (S i).O True:=by intro i;trivial):AWP C m N (.loop x) Q s:=
 (AWP.loopF (G:=⟨te,calls,loops,m,N,fuel⟩) (Q:=Eng.canQ te m Fe Fr Q) ⟨hte.ok,hte.one,hc⟩ F S I μ i0 hI hS h0 (by rw[hls];exact hL.all) λi hi=>round i hi).canQ
end Go.Eng
