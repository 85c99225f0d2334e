/- The engine, part 40: a text appended to bytes. -/
import Derived.Test.YtmcdngcjakjnmaaGreatDoorJrg
import Derived.Laws.CopyRow
import Derived.Laws.BytesString
import Derived.Lib.AppendStr
namespace Go.Eng
open Go.WideShapes
structure KeyLaw (P:Program) (kt:TypeId) (K:AV->Bool):Prop where
 check:∀ {w:World} {M:Nat->Prop} {bs:Nat->Option Hd} {v:Value} {u:AV} (em:Bool),K u=true->V w M bs v u->(Instr.checkKey em 10000 kt v).run P w= .ok () w
 find:∀(w:World) (v:Value) (es:List MapEntry),(Instr.findKey kt v es).run P w=(Instr.findAsking kt v es).run P w
 stays:∀ {w:World} {M:Nat->Prop} {bs:Nat->Option Hd} {v:Value} {u:AV},K u=true->V w M bs v u->(Instr.keyThatStays v v).run P w= .ok v w
 eqv:∀ {w:World} {M:Nat->Prop} {bs:Nat->Option Hd} {v v':Value} {u u':AV},K u=true->K u'=true->V w M bs v u->V w M bs v' u'->∃b,(Op.equal kt v v').run P w= .ok b w/\(b=true↔u=u')/\(b=true->v=v')
theorem KeyLaw.ask{P:Program}{w:World}{M:Nat->Prop}{bs:Nat->Option Hd}{kt:TypeId}{K:AV->Bool}(hL:KeyLaw P kt K){ku:AV}{kv:Value}(hk:K ku=true)(hV:V w M bs kv ku):∀(ents:List MapEntry) (es:List (AV×AV)) (i:Nat),
  ents.length=es.length->(∀(j:Nat) (e:MapEntry) (p:AV×AV),ents[j]?=some e->es[j]?=some p->V w M bs e.key p.1/\V w M bs e.val p.2)->(es.all λp=>K p.1)=true->
  ((Instr.findAsking kt kv ents i).run P w= .ok none w/\∀p∈es,p.1≠ku)∨∃(j:Nat) (e:MapEntry) (v:AV),(Instr.findAsking kt kv ents i).run P w= .ok (some (i+j,e.val)) w/\ents[j]?=some e/\e.key=kv/\es[j]?=some (ku,v)/\V w M bs e.val v
 |[],[],i,_,_,_=>.inl ⟨by simp[Instr.findAsking],λp hp=>by simp at hp⟩
 |[],_::_,_,h,_,_=>by simp at h
 |_::_,[],_,h,_,_=>by simp at h
 |e::ents,p::es,i,hl,hE,hall=>by
  simp only[List.all_cons,bA7] at hall;obtain⟨v1,v2⟩:=hE 0 e p rfl rfl;obtain⟨b,run,hb1,hb2⟩:=hL.eqv hk hall.1 hV v1
  cases b with
  |true=>
   have e1:=hb1.1 rfl;exact .inr ⟨0,e,p.2,by simp[Instr.findAsking,run],rfl,(hb2 rfl).symm,by rw[e1];rfl,v2⟩
  |false=>
   have hne:ku≠p.1:=λq=>by have:=hb1.2 q;cases this
   rcases hL.ask hk hV ents es (i+1) (by simpa using hl) (λj e' p' q1 q2=>hE (j+1) e' p' (by simpa using q1) (by simpa using q2)) hall.2 with⟨q1,q2⟩ | ⟨j,e',v,q1,q2,q3,q4,q5⟩
   ·refine .inl ⟨by simp[Instr.findAsking,run,q1],λp' hp=>?_⟩
    rcases List.mem_cons.1 hp with rfl | hp
    ·exact λq=>hne q.symm
    ·exact q2 p' hp
   ·exact .inr ⟨j+1,e',v,by simp[Instr.findAsking,run,q1];omega,by simpa using q2,q3,by simpa using q4,q5⟩
theorem wo9{P:Program}{te:TE}(hte:TE.ok P te)(hn:∀t ti,lk te t=some ti->waz ti.desc=false->ti.sz=1){kt:TypeId}{u0:AV}(h0:keyA te kt u0=true):KeyLaw P kt (keyA te kt):=by
 have agg:∀ {u},keyA te kt u=true->∃ks,u= .agg ks:=λ{u} h=>by
  cases u with
  |agg ks=>exact⟨ks,rfl⟩
  |_=>simp[keyA] at h
 obtain⟨ks0,rfl⟩:=agg h0;obtain⟨tk,fs,htk,hfs,_⟩:=wdy hn h0 h0;refine⟨λ{w M bs v u} em hu hv=>?_,λw v es=>run_findKey_eq w (by rw[(hte kt tk htk).1,hfs]) v es,λ{w M bs v u} hu hv=>?_,λ{w M bs v v' u u'} hu hu' hv hv'=>?_⟩
 ·obtain⟨ks,rfl⟩:=agg hu;exact wkf hte hn hu hv em
 ·obtain⟨ks,rfl⟩:=agg hu;exact wig hn hu hv
 ·obtain⟨ks,rfl⟩:=agg hu;obtain⟨ps,rfl⟩:=agg hu';obtain⟨tk,fs,htk,hfs,hcmp,h1,h2,heq⟩:=wdy hn hu hu';obtain⟨vs,rfl,s1,o1,V1⟩:=wfk hv;obtain⟨us,rfl,s2,o2,V2⟩:=wfk hv';have hag:waz tk.desc=true:=by rw[hfs];rfl
  have run:(Op.equal kt (.agg vs) (.agg us)).run P w= .ok (keqL ks ps) w:=
   wf8 hte hn 8 9992 kt tk _ _ ks ps _ htk (by rw[hag];exact⟨vs,rfl,s1,o1,V1⟩) (by rw[hag];exact⟨us,rfl,s2,o2,V2⟩) heq
  refine⟨_,run,?_,λhb=>?_⟩
  ·rw[wf0 h1 h2,AV.agg.injEq]
  ·rw[(ws2 h1 h2 s1 V1 s2 V2).2 ((wf0 h1 h2).1 hb)]
section
variable {C:Ctx} {N:Nat} {o:Oper} {T:Nat->Option AV} {O:Nat->Option AObj} {k:Nat} {te:TE}
theorem wal.lookupA(hte:TE.ok C.P te){K:AV->Bool}{mt kt et:TypeId}(hL:KeyLaw C.P kt K){mx kx:Operand}{ok:Bool}{mu:AV}{es:List (AV×AV)}{ku u0 u:AV}{ti tk tie:TI}(res:Option AV)
  (hop:o.op= .lookup mt mx kx ok) (hd:wa1 N o.dst=true) (hm:evO T mx=some mu) (hk:evO T kx=some ku) (ht:lk te mt=some ti) (htd:ti.desc= .map kt et) (het:lk te et=some tie)
  (hO:mapA O mu=some es) (hkK:K ku=true) (hz:∀(w:World) (M:Nat->Prop) (bs:Nat->Option Hd),V w M bs tie.zero u0) (hks:(es.all λp=>K p.1)=true)
  (hu:(match ok with | true=>.tuple [res.getD u0,.bool res.isSome] | false=>res.getD u0)=u) (hH:wh8 es ku res) (huniq:∀(j j':Nat) v v',es[j]?=some (ku,v)->es[j']?=some (ku,v')->v=v'):wal C N o T O k u []:=by
 have _:=tk;intro E T' O' bs a w K Q hT hOs hr hf hK;have hmv:=wa2 hr.1 (wa4 hT hm);have hkv:=wa2 hr.1 (wa4 hT hk);generalize hmx:a.eval mx=mv at hmv;generalize hkx:a.eval kx=kv at hkv;obtain⟨b,ents,clock,rfl,h2,h3⟩:=wss hr.2 hmv (wou hOs hO);have hund:=wa9 hte (w:=w) ht;have hzr:=wd5 hte (w:=w) het;have fin:∀v,(Instr.lookup mt (.map (some b)) kv ok).run C.P w= .ok v w->V w (MB E O' bs) bs v u->o.wp C.P a w K Q:=by
  intro v hv hV;have:(execOp a.eval o).run C.P w= .ok (.value v) w:=by simp[execOp,hop,hmx,hkx,hv]
  unfold Oper.wp;rw[this];exact hK bs _ _ (λ_ _=>rfl) ⟨hr.1.putF hd hV,hr.2⟩
 have hck:=λem=>hL.check em hkK hkv;have hfk:=hL.find w kv ents.toList;have hst:=hL.stays hkK hkv
 rcases hL.ask hkK hkv ents.toList es 0 (by simpa using h3.1) (λj e p q1 q2=>h3.2 j e p (by simpa using q1) q2) hks with⟨f1,f2⟩ | ⟨j,e,v,f1,f20,f3,f4,f5⟩
 ·have hres:res=none:=by
   cases res with
   |none=>rfl
   |some v=>obtain⟨j,hj⟩:=hH;exact absurd rfl (f2 _ (List.mem_of_getElem? hj))
  subst hres;refine fin (if ok then .tuple #[tie.zero,.bool false] else tie.zero) ?_ ?_
  ·simp[Instr.lookup,hund,htd,MapKept.run_getObj_map h2,hck,hfk,f1,hzr,Result.andThen]
  ·subst hu;have hz':V w (MB E O' bs) bs tie.zero u0:=hz _ _ _
   cases ok with
   |false=>exact hz'
   |true=>
    refine .tuple rfl λj v u hv hu=>?_
    match j with
    |0=>simp at hv hu;subst hv;subst hu;exact hz'
    |1=>simp at hv hu;subst hv;subst hu;exact .bool
    |j+2=>simp at hv
 ·rw[Nat.zero_add] at f1;have hres:res=some v:=by
   cases res with
   |none=>exact absurd rfl (hH _ (List.mem_of_getElem? f4))
   |some v'=>obtain⟨j',hj'⟩:=hH;rw[huniq _ _ _ _ hj' f4]
  subst hres;refine fin (if ok then .tuple #[e.val,.bool true] else e.val) ?_ ?_
  ·simp[Instr.lookup,hund,htd,MapKept.run_getObj_map h2,hck,hfk,f1,Result.andThen]
  ·subst hu
   cases ok with
   |false=>exact f5
   |true=>
    refine .tuple rfl λj v u hv hu=>?_
    match j with
    |0=>simp at hv hu;subst hv;subst hu;exact f5
    |1=>simp at hv hu;subst hv;subst hu;exact .bool
    |j+2=>simp at hv
theorem wal.mapUpdateA(hte:TE.ok C.P te){K:AV->Bool}{mt kt et:TypeId}(hL:KeyLaw C.P kt K){mx kx vx:Operand}{r:Nat}{es es':List (AV×AV)}{ku vu:AV}{ti tk:TI}
  (hop:o.op= .mapUpdate mt mx kx vx) (hd:o.dst=none) (hm:evO T mx=some (.map r)) (hk:evO T kx=some ku) (hv:evO T vx=some vu) (ht:lk te mt=some ti) (htd:ti.desc= .map kt et) (_hkt:lk te kt=some tk)
  (hO:O r=some (.amap es)) (hkK:K ku=true) (hks:(es.all λp=>K p.1)=true)
  (hH:(∀(j:Nat) v,es[j]?=some (ku,v)->es'=es.set j (ku,vu))/\((∀p∈es,p.1≠ku)->es'=es++[(ku,vu)])):wal C N o T O k .any [(r,.amap es')]:=by
 intro E T' O' bs a w K Q hT hOs hr hf hK;have hmv:=wa2 hr.1 (wa4 hT hm);have hkv:=wa2 hr.1 (wa4 hT hk);have hvv:=wa2 hr.1 (wa4 hT hv);have hOr:=hOs _ _ hO;obtain⟨b,c,ents,clock,h1,h2,h3,h4⟩:=hr.2.obj r _ hOr;generalize hmx:a.eval mx=mv at hmv;generalize hkx:a.eval kx=kv at hkv;generalize hvx:a.eval vx=vv at hvv
 cases hmv with | map hbr=>
 rw[h1] at hbr;injection hbr with hbr;injection hbr with e1 e2;subst e1;subst e2;have hund:=wa9 hte (w:=w) ht;have hck:=λem=>hL.check em hkK hkv;have hfk:=hL.find w kv ents.toList;have hst:=hL.stays hkK hkv;have fin:∀ents' clock',(Instr.mapUpdate mt (.map (some b)) kv vv).run C.P w= .ok () { w with heap:=w.heap.setIfInBounds b (.map ents' clock') }->
   (∀w' M',Step w (MB E O' bs) bs w' M' bs->wfn w' M' bs ents' es')->wgx ents' clock'->o.wp C.P a w K Q:=by
  intro ents' clock' hrun hent hborn;have:(execOp a.eval o).run C.P w= .ok .skip { w with heap:=w.heap.setIfInBounds b (.map ents' clock') }:=by simp[execOp,hop,hmx,hkx,hvx,hrun]
  unfold Oper.wp;rw[this];obtain⟨g1,g2⟩:=MapKept.heap_set (o':=.map ents' clock') h2
  obtain⟨hS,hW⟩:=hr.2.modify (x:=r) (o:=.amap es') hOr rfl h1 (w':={ w with heap:=w.heap.setIfInBounds b (.map ents' clock') }) (λb' hb'=>g2 b' hb') (by simp) rfl ⟨rfl,λ_=>lR7 _⟩ rfl rfl
   (λhS=>⟨b,c,ents',clock',h1,g1,hent _ _ hS,hborn⟩)
  refine hK bs _ _ (λ_ _=>rfl) ⟨?_,hW⟩;rw[hd];exact hr.1.step hS
 rcases hL.ask hkK hkv ents.toList es 0 (by simpa using h3.1) (λj e p q1 q2=>h3.2 j e p (by simpa using q1) q2) hks with⟨f1,f2⟩ | ⟨j,e,v,f1,f20,f3,f4,f5⟩
 ·have he:=hH.2 f2;subst he;refine fin (ents.push ⟨kv,vv,clock⟩) (clock+1) ?_ (λw' M' hS=>⟨by simp[h3.1],λi e p hi hp=>?_⟩) ⟨by simp[h4.1],λi e hi=>?_⟩
  ·simp[Instr.mapUpdate,hund,htd,MapKept.run_getObj_map h2,hck,hfk,f1,MapKept.run_setObj_map _ h2,Result.andThen]
  ·rw[Array.getElem?_push] at hi;split at hi
   ·rename_i hie;simp only[sI7] at hi;subst hi;rw[hie,h3.1] at hp;simp at hp;subst hp;exact⟨hkv.step hS,hvv.step hS⟩
   ·have hlt:i<es.length:=by rw[← h3.1];exact(Array.getElem?_eq_some_iff.1 hi).1
    rw[List.getElem?_append_left hlt] at hp;obtain⟨x,y⟩:=h3.2 i e p hi hp;exact⟨x.step hS,y.step hS⟩
  ·rw[Array.getElem?_push] at hi;split at hi
   ·rename_i hie;simp only[sI7] at hi;subst hi;rw[hie];exact h4.1
   ·exact h4.2 i e hi
 ·have f2:ents[j]?=some e:=by simpa using f20
  rw[Nat.zero_add] at f1;have he:=hH.1 j v f4;subst he;subst f3;refine fin (ents.modify j λe'=>{ e' with key:=e.key,val:=vv }) clock ?_ (λw' M' hS=>⟨by simp[h3.1],λi e' p hi hp=>?_⟩) ⟨by simp[h4.1],λi e' hi=>?_⟩
  ·simp[Instr.mapUpdate,hund,htd,MapKept.run_getObj_map h2,hck,hfk,f1,f2,hst,MapKept.run_setObj_map _ h2,Result.andThen]
  ·rw[Array.getElem?_modify] at hi;split at hi
   ·rename_i hji;subst hji;rw[f2] at hi;simp only[Option.map_some,sI7] at hi;subst hi;have hlt:j<es.length:=(List.getElem?_eq_some_iff.1 f4).1;rw[List.getElem?_set_self hlt] at hp;simp only[sI7] at hp;subst hp;exact⟨hkv.step hS,hvv.step hS⟩
   ·rename_i hji;rw[List.getElem?_set_ne hji] at hp;obtain⟨x,y⟩:=h3.2 i e' p hi hp;exact⟨x.step hS,y.step hS⟩
  ·rw[Array.getElem?_modify] at hi;split at hi
   ·rename_i hji;subst hji;rw[f2] at hi;simp only[Option.map_some,sI7] at hi;subst hi;exact h4.2 j e f2
   ·exact h4.2 i e' hi
end
def pkR(es:List (AV×Value)):List (AV×AV):=es.map λp=>(p.1,.any)
theorem pkR_len(es:List (AV×Value)):(pkR es).length=es.length:=by simp[pkR]
theorem wiu{es:List (AV×Value)}{j:Nat}{k:AV}(h:(es[j]?).map Prod.fst=some k):(pkR es)[j]?=some (k,.any):=by
 obtain⟨p,h1,h2⟩:=Option.map_eq_some_iff.1 h;unfold pkR;rw[List.getElem?_map,h1, ← h2];rfl
theorem wr1{es:List (AV×Value)}{k:AV}(h:∀p∈es,p.1≠k):∀p∈pkR es,p.1≠k:=λp hp=>by
 obtain⟨q,hq,rfl⟩:=List.mem_map.1 hp;exact h q hq
theorem wmt.pk{w:World}{M:Nat->Prop}{bs:Nat->Option Hd}{ents:Array MapEntry}{es:List (AV×Value)}{j0:Nat}{v:Option AV}(h:wmt w M bs ents es j0 v):wfn w M bs ents (pkR es):=
 ⟨by rw[pkR_len];exact h.1,λj e p he hp=>by
  unfold pkR at hp;rw[List.getElem?_map] at hp;obtain⟨q,h1,rfl⟩:=Option.map_eq_some_iff.1 hp;exact⟨(h.2 j e q he h1).1.lift,.any⟩⟩
theorem ws1{es:List (AV×AV)}(h:(es.map Prod.fst).Nodup){k:AV}{j j':Nat}{v v':AV}(h1:es[j]?=some (k,v))(h2:es[j']?=some (k,v')):j=j':=by
 have e1:(es.map Prod.fst)[j]?=some k:=by simp[h1]
 have e2:(es.map Prod.fst)[j']?=some k:=by simp[h2]
 exact(List.getElem?_inj (List.getElem?_eq_some_iff.1 e1).1 h).1 (e1.trans e2.symm)
section
variable {C:Ctx} {N:Nat} {o:Oper} {T:Nat->Option AV} {O:Nat->Option AObj} {k:Nat} {te:TE}
def rlk(es:List (AV×Value))(j0:Nat)(ku u0:AV):Option AV->AV×Prop
 |none=>(u0,∀p∈es,p.1≠ku)
 |some x=>(x,(es[j0]?).map Prod.fst=some ku)
def rup(es:List (AV×Value))(j0:Nat)(ku vu:AV):Option AV->AObj×Prop
 |none=>(.rmap (es++[(ku,default)]) es.length (some vu),∀p∈es,p.1≠ku)
 |some _=>(.rmap es j0 (some vu),(es[j0]?).map Prod.fst=some ku)
theorem wal.rlookup(hte:TE.ok C.P te)(hn:∀t ti,lk te t=some ti->waz ti.desc=false->ti.sz=1){mt kt et:TypeId}{mx kx:Operand}{r:Nat}{es:List (AV×Value)}{j0:Nat}{vo:Option AV}{ku u0:AV}{ti tie:TI}
  (hop:o.op= .lookup mt mx kx false) (hd:wa1 N o.dst=true) (hm:evO T mx=some (.map r)) (hk:evO T kx=some ku) (ht:lk te mt=some ti) (htd:ti.desc= .map kt et) (het:lk te et=some tie)
  (hO:O r=some (.rmap es j0 vo)) (hkK:keyA te kt ku=true) (hz:∀(w:World) (M:Nat->Prop) (bs:Nat->Option Hd),V w M bs tie.zero u0) (hks:((pkR es).all λp=>keyA te kt p.1)=true) (hnd:((pkR es).map Prod.fst).Nodup)
  (hH:(rlk es j0 ku u0 vo).2):wal C N o T O k (rlk es j0 ku u0 vo).1 []:=by
 intro E T' O' bs a w K Q hT hOs hr hf hK;have hmv:=wa2 hr.1 (wa4 hT hm);have hkv:=wa2 hr.1 (wa4 hT hk);have hOr:=hOs _ _ hO;obtain⟨b,c,ents,clock,h1,h2,h3,h4⟩:=hr.2.obj r _ hOr;generalize hmx:a.eval mx=mv at hmv;generalize hkx:a.eval kx=kv at hkv
 cases hmv with | map hbr=>
 rw[h1] at hbr;injection hbr with hbr;injection hbr with e1 e2;subst e1;subst e2;have hund:=wa9 hte (w:=w) ht;have hzr:=wd5 hte (w:=w) het;have fin:∀v,(Instr.lookup mt (.map (some b)) kv false).run C.P w= .ok v w->V w (MB E O' bs) bs v (rlk es j0 ku u0 vo).1->o.wp C.P a w K Q:=by
  intro v hv hV;have:(execOp a.eval o).run C.P w= .ok (.value v) w:=by simp[execOp,hop,hmx,hkx,hv]
  unfold Oper.wp;rw[this];exact hK bs _ _ (λ_ _=>rfl) ⟨hr.1.putF hd hV,hr.2⟩
 obtain⟨ks,rfl⟩:∃ks,ku= .agg ks:=by
  cases ku with
  |agg ks=>exact⟨ks,rfl⟩
  |_=>simp[keyA] at hkK
 obtain⟨tk2,fs,hk2,hfs,_⟩:=wdy hn hkK hkK;have hund2:C.P.underlying kt=some (.struct fs):=by rw[(hte kt tk2 hk2).1,hfs]
 have hck:=λem=>wkf hte hn hkK hkv em;have hfk:(Instr.findKey kt kv ents.toList).run C.P w=(Instr.findAsking kt kv ents.toList).run C.P w:=run_findKey_eq w (by rw[hund2]) kv ents.toList;have hst:=wig (P:=C.P) hn hkK hkv;have hE:=h3.pk
 rcases wjy hte hn hkK hkv ents.toList (pkR es) 0 (by simpa using hE.1) (λj e p q1 q2=>hE.2 j e p (by simpa using q1) q2) hks with⟨f1,f2⟩ | ⟨j,e,v,f1,f20,f3,f4,f5⟩
 ·cases vo with
  |some x=>exact absurd rfl (f2 _ (List.mem_of_getElem? (wiu hH)))
  |none=>
   refine fin tie.zero ?_ (hz _ _ _);simp[Instr.lookup,hund,htd,MapKept.run_getObj_map h2,hck,hfk,f1,hzr,Result.andThen]
 ·rw[Nat.zero_add] at f1
  cases vo with
  |none=>
   have:=wr1 hH _ (List.mem_of_getElem? f4);exact absurd rfl this
  |some x=>
   obtain rfl:=ws1 hnd f4 (wiu hH);obtain⟨p,hp,_⟩:=Option.map_eq_some_iff.1 hH;refine fin e.val ?_ ((h3.2 j e p (by simpa using f20) hp).2.1 x rfl rfl);simp[Instr.lookup,hund,htd,MapKept.run_getObj_map h2,hck,hfk,f1,Result.andThen]
theorem wal.rupdate(hte:TE.ok C.P te)(hn:∀t ti,lk te t=some ti->waz ti.desc=false->ti.sz=1){mt kt et:TypeId}{mx kx vx:Operand}{r:Nat}{es:List (AV×Value)}{j0:Nat}{vo:Option AV}{ku vu:AV}{ti:TI}
  (hop:o.op= .mapUpdate mt mx kx vx) (hd:o.dst=none) (hm:evO T mx=some (.map r)) (hk:evO T kx=some ku) (hv:evO T vx=some vu) (ht:lk te mt=some ti) (htd:ti.desc= .map kt et)
  (hO:O r=some (.rmap es j0 vo)) (hkK:keyA te kt ku=true) (hkn:nref ku=true) (hks:((pkR es).all λp=>keyA te kt p.1)=true) (hnd:((pkR es).map Prod.fst).Nodup)
  (hH:(rup es j0 ku vu vo).2):wal C N o T O k .any [(r,(rup es j0 ku vu vo).1)]:=by
 intro E T' O' bs a w K Q hT hOs hr hf hK;have hmv:=wa2 hr.1 (wa4 hT hm);have hkv:=wa2 hr.1 (wa4 hT hk);have hvv:=wa2 hr.1 (wa4 hT hv);have hOr:=hOs _ _ hO;obtain⟨b,c,ents,clock,h1,h2,h3,h4⟩:=hr.2.obj r _ hOr;generalize hmx:a.eval mx=mv at hmv;generalize hkx:a.eval kx=kv at hkv;generalize hvx:a.eval vx=vv at hvv
 cases hmv with | map hbr=>
 rw[h1] at hbr;injection hbr with hbr;injection hbr with e1 e2;subst e1;subst e2;have hund:=wa9 hte (w:=w) ht;have hkn2:∀(w':World) (M':Nat->Prop),Step w (MB E O' bs) bs w' M' bs->V w' M' nob kv ku:=λw' M' hS=>hkv.free hS.far hS.heap hS.size nob hkn;obtain⟨ks,rfl⟩:∃ks,ku= .agg ks:=by
  cases ku with
  |agg ks=>exact⟨ks,rfl⟩
  |_=>simp[keyA] at hkK
 obtain⟨tk2,fs,hk2,hfs,_⟩:=wdy hn hkK hkK;have hund2:C.P.underlying kt=some (.struct fs):=by rw[(hte kt tk2 hk2).1,hfs]
 have hck:=λem=>wkf hte hn hkK hkv em;have hfk:(Instr.findKey kt kv ents.toList).run C.P w=(Instr.findAsking kt kv ents.toList).run C.P w:=run_findKey_eq w (by rw[hund2]) kv ents.toList;have hst:=wig (P:=C.P) hn hkK hkv;have hE:=h3.pk;have fin:∀(es':List (AV×Value)) (j':Nat) ents' clock',(rup es j0 (.agg ks) vu vo).1= .rmap es' j' (some vu)->(Instr.mapUpdate mt (.map (some b)) kv vv).run C.P w= .ok () { w with heap:=w.heap.setIfInBounds b (.map ents' clock') }->
   (∀w' M',Step w (MB E O' bs) bs w' M' bs->wmt w' M' bs ents' es' j' (some vu))->wgx ents' clock'->o.wp C.P a w K Q:=by
  intro es' j' ents' clock' heq hrun hent hborn;have:(execOp a.eval o).run C.P w= .ok .skip { w with heap:=w.heap.setIfInBounds b (.map ents' clock') }:=by simp[execOp,hop,hmx,hkx,hvx,hrun]
  unfold Oper.wp;rw[this];obtain⟨g1,g2⟩:=MapKept.heap_set (o':=.map ents' clock') h2;rw[heq] at hK
  obtain⟨hS,hW⟩:=hr.2.modify (x:=r) (o:=.rmap es' j' (some vu)) hOr rfl h1 (w':={ w with heap:=w.heap.setIfInBounds b (.map ents' clock') }) (λb' hb'=>g2 b' hb') (by simp) rfl ⟨rfl,λ_=>lR7 _⟩ rfl rfl
   (λhS=>⟨b,c,ents',clock',h1,g1,hent _ _ hS,hborn⟩)
  refine hK bs _ _ (λ_ _=>rfl) ⟨?_,hW⟩;rw[hd];exact hr.1.step hS
 rcases wjy hte hn hkK hkv ents.toList (pkR es) 0 (by simpa using hE.1) (λj e p q1 q2=>hE.2 j e p (by simpa using q1) q2) hks with⟨f1,f2⟩ | ⟨j,e,v,f1,f20,f3,f4,f5⟩
 ·cases vo with
  |some x=>exact absurd rfl (f2 _ (List.mem_of_getElem? (wiu hH)))
  |none=>
   refine fin _ _ (ents.push ⟨kv,vv,clock⟩) (clock+1) rfl ?_ (λw' M' hS=>⟨by simp[h3.1],λi e p hi hp=>?_⟩) ⟨by simp[h4.1],λi e hi=>?_⟩
   ·simp[Instr.mapUpdate,hund,htd,MapKept.run_getObj_map h2,hck,hfk,f1,MapKept.run_setObj_map _ h2,Result.andThen]
   ·rw[Array.getElem?_push] at hi;split at hi
    ·rename_i hie;simp only[sI7] at hi;subst hi;rw[hie,h3.1] at hp;simp at hp;subst hp;refine⟨hkn2 w' M' hS,λu hu _=>?_,λh=>?_⟩
     ·obtain rfl:=oJ7 hu;exact hvv.step hS
     ·rcases h with h | h
      ·cases h
      ·exact absurd (hie.trans h3.1) h
    ·have hlt:i<es.length:=by rw[← h3.1];exact(Array.getElem?_eq_some_iff.1 hi).1
     rw[List.getElem?_append_left hlt] at hp;obtain⟨x,y,z⟩:=h3.2 i e p hi hp;exact⟨x.step_ hS.far hS.heap hS.size nob (λ_ _ hh=>hh),λu hu hj=>absurd hj (by omega),λ_=>z (.inl rfl)⟩
   ·rw[Array.getElem?_push] at hi;split at hi
    ·rename_i hie;simp only[sI7] at hi;subst hi;rw[hie];exact h4.1
    ·exact h4.2 i e hi
 ·have f2:ents[j]?=some e:=by simpa using f20
  rw[Nat.zero_add] at f1
  cases vo with
  |none=>exact absurd rfl (wr1 hH _ (List.mem_of_getElem? f4))
  |some x=>
   obtain rfl:=ws1 hnd f4 (wiu hH);subst f3;refine fin _ _ (ents.modify j λe'=>{ e' with key:=e.key,val:=vv }) clock rfl ?_ (λw' M' hS=>⟨by simp[h3.1],λi e' p hi hp=>?_⟩) ⟨by simp[h4.1],λi e' hi=>?_⟩
   ·simp[Instr.mapUpdate,hund,htd,MapKept.run_getObj_map h2,hck,hfk,f1,f2,hst,MapKept.run_setObj_map _ h2,Result.andThen]
   ·rw[Array.getElem?_modify] at hi;split at hi
    ·rename_i hji;subst hji;rw[f2] at hi;simp only[Option.map_some,sI7] at hi;subst hi;obtain⟨x1,y1,z1⟩:=h3.2 j e p f2 hp;refine⟨x1.step_ hS.far hS.heap hS.size nob (λ_ _ hh=>hh),λu hu _=>?_,λh=>?_⟩
     ·obtain rfl:=oJ7 hu;exact hvv.step hS
     ·rcases h with h | h
      ·cases h
      ·exact absurd rfl h
    ·rename_i hji;obtain⟨x1,y1,z1⟩:=h3.2 i e' p hi hp;exact⟨x1.step_ hS.far hS.heap hS.size nob (λ_ _ hh=>hh),λu hu hj=>absurd hj.symm hji,λ_=>z1 (.inr λq=>hji q.symm)⟩
   ·rw[Array.getElem?_modify] at hi;split at hi
    ·rename_i hji;subst hji;rw[f2] at hi;simp only[Option.map_some,sI7] at hi;subst hi;exact h4.2 j e f2
    ·exact h4.2 i e' hi
end
end Go.Eng
namespace Go.Eng
def keyR(te:TE)(kt:TypeId):AV->Bool
 |.agg [a,b]=>match lk te kt with
  |some tk=>match tk.desc with
   |.array 2 e=>match lk te e with
    |some t=>isK t.desc a && isK t.desc b
    |none=>false
   |_=>false
  |none=>false
 |_=>false
theorem wji{te:TE}{kt:TypeId}{u:AV}(h:keyR te kt u=true):∃a b tk e t,u= .agg [a,b]/\lk te kt=some tk/\tk.desc= .array 2 e/\lk te e=some t/\isK t.desc a=true/\isK t.desc b=true:=by
 unfold keyR at h;split at h
 ·rename_i a b;split at h
  ·rename_i tk htk;split at h
   ·rename_i e he;split at h
    ·rename_i t ht;rw[bA7] at h;exact⟨a,b,tk,e,t,rfl,htk,he,ht,h.1,h.2⟩
    ·cases h
   ·cases h
  ·cases h
 ·cases h
section
variable {P:Program} {te:TE} {w:World} {M:Nat->Prop} {bs:Nat->Option Hd}
theorem wks{v:Value}{a b:AV}(h:V w M bs v (.agg [a,b])):∃x y:Value,v= .agg #[x,y]/\x.oneCell'=true/\y.oneCell'=true/\V w M bs x a/\V w M bs y b:=by
 obtain⟨vs,rfl,hl,h1,hv⟩:=wfk h;obtain⟨x,y,rfl⟩:∃x y,vs=#[x,y]:=by
  obtain⟨l⟩:=vs
  match l,hl with
  |[x,y],_=>exact⟨x,y,rfl⟩
 exact⟨x,y,rfl,h1 0 x rfl,h1 1 y rfl,hv 0 x a rfl rfl,hv 1 y b rfl rfl⟩
theorem wod(hte:TE.ok P te){e:TypeId}{t:TI}(ht:lk te e=some t)(hs:t.sz=1){a b:AV}(hk:isK t.desc a=true){x y:Value}(h1:x.oneCell'=true)(h2:y.oneCell'=true)(hx:V w M bs x a)(hy:V w M bs y b)(hb:isK t.desc b=true):
  (part e #[x,y] 0).run P w= .ok x w/\(part e #[x,y] 1).run P w= .ok y w:=by
 have one:∀(j:Nat) (z:Value),#[x,y][j]?=some z->z.oneCell'=true:=λj z hz=>by
  match j with
  |0=>simp at hz;exact hz ▸ h1
  |1=>simp at hz;exact hz ▸ h2
  |j+2=>simp at hz
 have val:∀(j:Nat) (z:Value) u,#[x,y][j]?=some z->[a,b][j]?=some u->V w M bs z u:=λj z u hz hu=>by
  match j with
  |0=>simp at hz hu;exact hz ▸ hu ▸ hx
  |1=>simp at hz hu;exact hz ▸ hu ▸ hy
  |j+2=>simp at hz
 have hp:=wf2 hk
 constructor
 ·obtain⟨v,hv,cv⟩:=wd6 hte ht (cs:=[a,b]) (a:=[a]) (off:=0) (λ_=>hs) rfl one val (by rw[hs];rfl);rw[hv];rw[hp] at cv;obtain⟨u,e1,hVu⟩:=cv;simp only[List.cons.injEq,and_true] at e1;subst e1;rw[(wfc hVu hx hk hk).2 rfl]
 ·obtain⟨v,hv,cv⟩:=wd6 hte ht (cs:=[a,b]) (a:=[b]) (off:=1) (λ_=>hs) rfl one val (by rw[hs];rfl);rw[hv];rw[hp] at cv;obtain⟨u,e1,hVu⟩:=cv;simp only[List.cons.injEq,and_true] at e1;subst e1;rw[(wfc hVu hy hb hb).2 rfl]
theorem run_sz(hte:TE.ok P te){e:TypeId}{t:TI}(ht:lk te e=some t)(hs:t.sz=1):(sizeOf e).run P w= .ok 1 w:=by
 obtain⟨_,⟨i,h1,h2,_⟩,_⟩:=hte e t ht;rw[run_sizeOf w h1];have:P.cellsOf e=1:=by simp[Program.cellsOf,h1,h2,hs]
 rw[this]
theorem ws3(hte:TE.ok P te)(hn:∀t ti,lk te t=some ti->waz ti.desc=false->ti.sz=1){kt:TypeId}{u0:AV}(h0:keyR te kt u0=true):KeyLaw P kt (keyR te kt):=by
 obtain⟨_,_,tk,e,t,_,htk,hd,ht,hk0,_⟩:=wji h0;have hu:P.underlying kt=some (.array 2 e):=by rw[(hte kt tk htk).1,hd]
 have hs:t.sz=1:=hn _ _ ht (wf2 hk0);have parts:∀ {u},keyR te kt u=true->∃a b,u= .agg [a,b]/\isK t.desc a=true/\isK t.desc b=true:=λ{u} h=>by
  obtain⟨a,b,tk',e',t',h1,h2,h3,h4,h5,h6⟩:=wji h;rw[htk] at h2;obtain rfl:=oJ7 h2;rw[hd] at h3;injection h3 with _ h3;subst h3;rw[ht] at h4;obtain rfl:=oJ7 h4;exact⟨a,b,h1,h5,h6⟩
 refine⟨λ{w M bs v u} em hu2 hv=>?_,λw v es=>run_findKey_eq w (by rw[hu]) v es,λ{w M bs v u} hu2 hv=>?_,λ{w M bs v v' u u'} hu2 hu' hv hv'=>?_⟩
 ·obtain⟨a,b,rfl,ka,kb⟩:=parts hu2;obtain⟨x,y,rfl,o1,o2,vx,vy⟩:=wks hv;obtain⟨p1,p2⟩:=wod hte ht hs ka o1 o2 vx vy kb;have c1:=MapKept.run_checkKey (P:=P) (w:=w) (hte _ _ ht).1 (wc6 vx ka) em 9998;have c2:=MapKept.run_checkKey (P:=P) (w:=w) (hte _ _ ht).1 (wc6 vy kb) em 9998;rw[show (10000:Nat)=9999+1 from rfl,Instr.checkKey];simp[run_underlying hu,Std.Legacy.Range.forIn_eq_forIn_range',Std.Legacy.Range.size,List.range',run_sz hte ht hs,p1,p2,c1,c2]
 ·obtain⟨a,b,rfl,ka,kb⟩:=parts hu2;obtain⟨x,y,rfl,o1,o2,vx,vy⟩:=wks hv;have hb:Instr.sameBits 10000 (.agg #[x,y]) (.agg #[x,y])=true:=by
   rw[show (10000:Nat)=9999+1 from rfl,Instr.sameBits];simp[MapKept.sameBits_self (wc6 vx ka) 9999,MapKept.sameBits_self (wc6 vy kb) 9999]
  simp[Instr.keyThatStays,hb]
 ·obtain⟨a,b,rfl,ka,kb⟩:=parts hu2;obtain⟨c,d,rfl,kc,kd⟩:=parts hu';obtain⟨x,y,rfl,o1,o2,vx,vy⟩:=wks hv;obtain⟨x',y',rfl,o1',o2',vx',vy'⟩:=wks hv';obtain⟨p1,p2⟩:=wod hte ht hs ka o1 o2 vx vy kb;obtain⟨q1,q2⟩:=wod hte ht hs kc o1' o2' vx' vy' kd;have hp:=wf2 ka;have e1:(Op.equalIn 9999 e x x').run P w= .ok (keq0 a c) w:=wf8 hte hn 1 9998 e t x x' [a] [c] _ ht (by rw[hp];exact⟨a,rfl,vx⟩) (by rw[hp];exact⟨c,rfl,vx'⟩) (wpu (d:=0) ht ka kc);have e2:(Op.equalIn 9999 e y y').run P w= .ok (keq0 b d) w:=wf8 hte hn 1 9998 e t y y' [b] [d] _ ht (by rw[hp];exact⟨b,rfl,vy⟩) (by rw[hp];exact⟨d,rfl,vy'⟩) (wpu (d:=0) ht kb kd);refine⟨keq0 a c && keq0 b d,?_,?_,λh=>?_⟩
  ·unfold Op.equal;rw[show Op.maxDepth=9999+1 from rfl,Op.equalIn]
   cases h1:keq0 a c<;>cases h2:keq0 b d<;>rw[h1] at e1<;>rw[h2] at e2<;>simp[run_underlying hu,Std.Legacy.Range.forIn_eq_forIn_range',Std.Legacy.Range.size,List.range',run_sz hte ht hs,p1,p2,q1,q2,e1,e2]
  ·rw[bA7,we9 ka kc,we9 kb kd];simp
  ·rw[bA7,we9 ka kc,we9 kb kd] at h;obtain⟨rfl,rfl⟩:=h;rw[(wfc vx vx' ka ka).2 rfl,(wfc vy vy' kb kb).2 rfl]
end
end Go.Eng
namespace Go.Eng
open Go.RowKit
section
variable {C:Ctx} {N:Nat} {o:Oper} {T T':Nat->Option AV} {O O':Nat->Option AObj} {k:Nat} {te:TE}
theorem wal.clear(hte:TE.ok C.P te){t e e':TypeId}{ti tie:TI}{x:Operand}{args:Array Operand}{argTypes:Array TypeId}{r sz off n n0:Nat}{f:Nat->List AV}{zs:List AV}
  (hop:o.op= .call { callee:=.builtin .clear,args:=args,argTypes:=argTypes }) (hd:wa1 N o.dst=true) (ha:args.toList=[x]) (hta:argTypes.toList=[t]) (hx:evO T x=some (.sub r sz off n)) (ht:lk te t=some ti) (htd:ti.desc= .slice e)
  (he:lk te e=some tie) (hO:O r=some (.row e' sz n0 f false)) (hz:avcs tie.zero.cells.toList=some zs) (hzl:zs.length=sz) (hoff:off<=n0):
  wal C N o T O k (.tuple []) [(r,.row e' sz off f false)]:=by
 intro E T' O' bs a w K Q hT hOs hr hf hK;have hxv:=wa2 hr.1 (wa4 hT hx);have hOr:=hOs _ _ hO;have hu1:=wa9 hte (w:=w) ht;rw[htd] at hu1;have hzr:=λw:World=>wd5 hte (w:=w) he;have hz':=wfi (w:=w) (M:=MB E O' bs) (bs:=bs) _ _ hz;have hzsz:tie.zero.cells.size=sz:=by rw[← hzl];simpa using hz'.1
 have hargs:args=#[x]:=by rw[← Array.toArray_toList (xs:=args),ha]
 have hats:argTypes=#[t]:=by rw[← Array.toArray_toList (xs:=argTypes),hta]
 subst hargs;subst hats;have hzone:∀m,∀v∈(Builtin.zeroCells tie.zero.cells m).toList,Value.oneCell' v=true:=by
  intro m v hv;unfold Builtin.zeroCells at hv;rw[Array.toList_map,List.mem_map] at hv;obtain⟨i,hi,rfl⟩:=hv;have hi:i<m * tie.zero.cells.size:=by simpa using hi
  have hpos:0<tie.zero.cells.size:=by
   rcases Nat.eq_zero_or_pos tie.zero.cells.size with h | h
   ·rw[h] at hi;simp at hi
   ·exact h
  have hlt:=Nat.mod_lt i hpos;refine hz'.2.1 (i % tie.zero.cells.size) _ ?_;rw[getElem!_pos tie.zero.cells _ hlt];simp
 have hzlen:∀m,(Builtin.zeroCells tie.zero.cells m).toList.length=m * sz:=by
  intro m;simp[Builtin.zeroCells,hzsz]
 have clear0:∀A c,(Builtin.clear_ #[t] o.type #[.slice A 0 c]).run C.P w= .ok (.tuple #[]) w:=by
  intro A c
  cases A<;>simp[Builtin.clear_,hu1]
 have fin:∀w',(Builtin.clear_ #[t] o.type #[a.eval x]).run C.P w= .ok (.tuple #[]) w'->(execOp a.eval o).run C.P w= .ok (.value (.tuple #[])) w':=by
  intro w' h;simp[execOp,hop,resolve,invoke,builtin,h]
 generalize hev:a.eval x=vx at hxv fin
 cases hxv with
 |subnil hb hn ho=>
  have h:=fin w (clear0 _ _);subst ho;have hn0:n0=0:=by
   rcases hr.2.obj r _ hOr with⟨_,q⟩ | ⟨b',c',vs,hb',_⟩
   ·exact q
   ·rw[hb] at hb';cases hb'
  subst hn0;have e0:up O' r (.row e' sz 0 f false)=O':=by
   funext i
   by_cases hi:r=i
   ·subst hi;rw[wao,hOr]
   ·rw[wan _ _ _ hi]
  obtain⟨hS,hW⟩:Step w (MB E O' bs) bs w (MB E (upL O' [(r,.row e' sz 0 f false)]) bs) bs/\WRep C E (upL O' [(r,.row e' sz 0 f false)]) bs w:=by
   show Step w (MB E O' bs) bs w (MB E (up O' r (.row e' sz 0 f false)) bs) bs/\WRep C E (up O' r (.row e' sz 0 f false)) bs w;rw[e0];exact⟨Step.refl _ _ _,hr.2⟩
  unfold Oper.wp;rw[h];exact hK bs _ _ (λ_ _=>rfl) ⟨(hr.1.step hS).putF hd (.tuple rfl (λj v u hv hu=>by simp at hv)),hW⟩
 |@sub _ _ _ _ _ b c A hb hn hcm hA=>
  rcases hr.2.obj r _ hOr with⟨q,_⟩ | ⟨b',c',vs,hb',hh,hnc',hcm',hsz,hln,hone,hval⟩
  ·rw[q] at hb;cases hb
  obtain⟨rfl,rfl⟩:b'=b/\c'=c:=by
   rw[hb'] at hb;injection hb with hb;injection hb with e1 e2;exact⟨e1,e2⟩
  obtain⟨vs',h1,h2,h3⟩:∃vs':Array Value,(Builtin.clear_ #[t] o.type #[.slice A n (c' - off)]).run C.P w= .ok (.tuple #[]) (w.setRow b' vs')/\vs'.size=vs.size/\∀j,j<off * sz->vs'[j]?=vs[j]?:=by
   rcases Nat.eq_zero_or_pos n with h0 | h0
   ·subst h0;exact⟨vs,by rw[setRow_self w b' vs e' (0,0) hh];exact clear0 _ _,rfl,λ_ _=>rfl⟩
   ·have hle:off * sz+n * sz<=vs.size:=by rw[hsz, ← Nat.add_mul];exact Nat.mul_le_mul_right _ hn
    have hst:=run_storeCells_at C.P b' (off * sz) e' (Builtin.zeroCells tie.zero.cells n).toList 0 vs w hh (by rw[hzlen];omega) (hzone n);rw[Nat.add_zero] at hst;refine⟨(vs.toList.take (off * sz)++(Builtin.zeroCells tie.zero.cells n).toList++vs.toList.drop (off * sz+(Builtin.zeroCells tie.zero.cells n).toList.length)).toArray,?_,?_,?_⟩
    ·rw[hA h0];have hn0:n≠0:=by omega
     obtain⟨m,rfl⟩:∃m,n=m+1:=⟨n - 1,by omega⟩;simp[Builtin.clear_,hu1,hzr,hst]
    ·simp only[List.size_toArray,lA7,hzlen,List.length_take,List.length_drop,Array.length_toList];omega
    ·intro j hj;simp only[List.getElem?_toArray,List.append_assoc];rw[List.getElem?_append_left (by simp;omega),List.getElem?_take,if_pos hj,Array.getElem?_toList]
  have h:=fin _ h1;obtain⟨hS,hW⟩:=hr.2.modify hOr rfl hb' (w':=w.setRow b' vs') (λk hk=>setRow_other w b' k _ hk) (size_setRow _ _ _) rfl ⟨rfl,λ_=>lR7 _⟩ rfl (o:=.row e' sz off f false) rfl λhS=>
   .inr ⟨b',c',vs',hb',setRow_heap w b' vs _ e' (0,0) hh,by omega,hcm',by rw[h2,hsz],λi hi=>hln i (by omega),λi hi j hj v hv=>by
    have hlt:(i+1) * sz<=off * sz:=Nat.mul_le_mul_right _ (by omega);rw[Nat.add_mul,Nat.one_mul] at hlt;rw[h3 _ (by omega)] at hv;exact hone i (by omega) j hj v hv,λi hi j v u hj hv hu=>by
    have hlt:(i+1) * sz<=off * sz:=Nat.mul_le_mul_right _ (by omega);rw[Nat.add_mul,Nat.one_mul] at hlt;rw[h3 _ (by omega)] at hv;exact(hval i (by omega) j v u hj hv hu).step hS⟩
  unfold Oper.wp;rw[h];exact hK bs _ _ (λ_ _=>rfl) ⟨(hr.1.step hS).putF hd (.tuple rfl (λj v u hv hu=>by simp at hv)),hW⟩
end
section
variable {C:Ctx} {N:Nat} {o:Oper} {T T':Nat->Option AV} {O O':Nat->Option AObj} {k:Nat} {te:TE}
theorem wal.mapEntryA(hte:TE.ok C.P te)(hn:∀t ti,lk te t=some ti->waz ti.desc=false->ti.sz=1){mt kt et:TypeId}{mx kx:Operand}{r idx:Nat}{es es':List (AV×AV)}{ku u0 zv:AV}{ti tk tie:TI}
  (hop:o.op= .mapEntry mt mx kx) (hd:wa1 N o.dst=true) (hm:evO T mx=some (.map r)) (hk:evO T kx=some ku) (ht:lk te mt=some ti) (htd:ti.desc= .map kt et) (_hkt:lk te kt=some tk) (het:lk te et=some tie)
  (hO:O r=some (.amap es)) (hkK:keyA te kt ku=true) (hz:wd1 tie.zero=some u0) (hks:(es.all λp=>keyA te kt p.1)=true)
  (hH:(∀(j:Nat) v,es[j]?=some (ku,v)->es'=es/\idx=j/\zv=v)/\((∀p∈es,p.1≠ku)->es'=es++[(ku,u0)]/\idx=es.length/\zv=u0)):
  wal C N o T O k (.tuple [zv,.int .i64 idx]) [(r,.amap es')]:=by
 intro E T' O' bs a w K Q hT hOs hr hf hK;have hmv:=wa2 hr.1 (wa4 hT hm);have hkv:=wa2 hr.1 (wa4 hT hk);have hOr:=hOs _ _ hO;obtain⟨b,c,ents,clock,h1,h2,h3,h4⟩:=hr.2.obj r _ hOr;generalize hmx:a.eval mx=mv at hmv;generalize hkx:a.eval kx=kv at hkv
 cases hmv with | map hbr=>
 rw[h1] at hbr;injection hbr with hbr;injection hbr with e1 e2;subst e1;subst e2;have hund:=wa9 hte (w:=w) ht;have hzr:=wd5 hte (w:=w) het;have hz':V w (MB E O' bs) bs tie.zero u0:=wfo hz;obtain⟨ks,rfl⟩:∃ks,ku= .agg ks:=by
  cases ku with
  |agg ks=>exact⟨ks,rfl⟩
  |_=>simp[keyA] at hkK
 obtain⟨tk2,fs,hk2,hfs,_⟩:=wdy hn hkK hkK;have hund2:C.P.underlying kt=some (.struct fs):=by rw[(hte kt tk2 hk2).1,hfs]
 have hck:=λem=>wkf hte hn hkK hkv em;have hfk:(Instr.findKey kt kv ents.toList).run C.P w=(Instr.findAsking kt kv ents.toList).run C.P w:=run_findKey_eq w (by rw[hund2]) kv ents.toList;have hst:=wig (P:=C.P) hn hkK hkv;have fin:∀ents' clock' v,(Instr.mapEntry mt (.map (some b)) kv).run C.P w= .ok (.tuple #[v,goInt idx]) { w with heap:=w.heap.setIfInBounds b (.map ents' clock') }->V w (MB E O' bs) bs v zv->
   (∀w' M',Step w (MB E O' bs) bs w' M' bs->wfn w' M' bs ents' es')->wgx ents' clock'->o.wp C.P a w K Q:=by
  intro ents' clock' v hrun hv hent hborn;have:(execOp a.eval o).run C.P w= .ok (.value (.tuple #[v,goInt idx])) { w with heap:=w.heap.setIfInBounds b (.map ents' clock') }:=by simp[execOp,hop,hmx,hkx,hrun]
  unfold Oper.wp;rw[this];obtain⟨g1,g2⟩:=MapKept.heap_set (o':=.map ents' clock') h2
  obtain⟨hS,hW⟩:=hr.2.modify (x:=r) (o:=.amap es') hOr rfl h1 (w':={ w with heap:=w.heap.setIfInBounds b (.map ents' clock') }) (λb' hb'=>g2 b' hb') (by simp) rfl ⟨rfl,λ_=>lR7 _⟩ rfl rfl
   (λhS=>⟨b,c,ents',clock',h1,g1,hent _ _ hS,hborn⟩)
  refine hK bs _ _ (λ_ _=>rfl) ⟨(hr.1.step hS).putF hd (.tuple rfl λj v u hv' hu=>?_),hW⟩
  match j with
  |0=>simp at hv' hu;subst hv';subst hu;exact hv.step hS
  |1=>simp at hv' hu;subst hv';subst hu;exact .int
  |j+2=>simp at hv'
 rcases wjy hte hn hkK hkv ents.toList es 0 (by simpa using h3.1) (λj e p q1 q2=>h3.2 j e p (by simpa using q1) q2) hks with⟨f1,f2⟩ | ⟨j,e,v,f1,f20,f3,f4,f5⟩
 ·obtain⟨rfl,rfl,rfl⟩:=hH.2 f2;have hcl:(clock:Int)=(es.length:Int):=by rw[h4.1,h3.1]
  refine fin (ents.push ⟨kv,tie.zero,clock⟩) (clock+1) tie.zero ?_ hz' (λw' M' hS=>⟨by simp[h3.1],λi e p hi hp=>?_⟩) ⟨by simp[h4.1],λi e hi=>?_⟩
  ·simp[Instr.mapEntry,hund,htd,MapKept.run_getObj_map h2,hck,hfk,f1,hzr,MapKept.run_setObj_map _ h2,Result.andThen,hcl]
  ·rw[Array.getElem?_push] at hi;split at hi
   ·rename_i hie;simp only[sI7] at hi;subst hi;rw[hie,h3.1] at hp;simp at hp;subst hp;exact⟨hkv.step hS,hz'.step hS⟩
   ·have hlt:i<es.length:=by rw[← h3.1];exact(Array.getElem?_eq_some_iff.1 hi).1
    rw[List.getElem?_append_left hlt] at hp;obtain⟨x,y⟩:=h3.2 i e p hi hp;exact⟨x.step hS,y.step hS⟩
  ·rw[Array.getElem?_push] at hi;split at hi
   ·rename_i hie;simp only[sI7] at hi;subst hi;rw[hie];exact h4.1
   ·exact h4.2 i e hi
 ·have f2:ents[j]?=some e:=by simpa using f20
  rw[Nat.zero_add] at f1;obtain⟨rfl,rfl,rfl⟩:=hH.1 j v f4;subst f3;have hborn:=h4.2 idx e f2;refine fin (ents.modify idx λe'=>{ e' with key:=e.key }) clock e.val ?_ f5 (λw' M' hS=>⟨by simp[h3.1],λi e' p hi hp=>?_⟩) ⟨by simp[h4.1],λi e' hi=>?_⟩
  ·simp[Instr.mapEntry,hund,htd,MapKept.run_getObj_map h2,hck,hfk,f1,f2,hst,MapKept.run_setObj_map _ h2,Result.andThen,hborn]
  ·rw[Array.getElem?_modify] at hi;split at hi
   ·rename_i hji;subst hji;rw[f2] at hi;simp only[Option.map_some,sI7] at hi;subst hi;obtain⟨x,y⟩:=h3.2 idx e p f2 hp;exact⟨x.step hS,y.step hS⟩
   ·obtain⟨x,y⟩:=h3.2 i e' p hi hp;exact⟨x.step hS,y.step hS⟩
  ·rw[Array.getElem?_modify] at hi;split at hi
   ·rename_i hji;subst hji;rw[f2] at hi;simp only[Option.map_some,sI7] at hi;subst hi;exact hborn
   ·exact h4.2 i e' hi
theorem wal.entryStore{mt:TypeId}{mx sx vx:Operand}{r:Nat}{kk:IntKind}{s:Int}{es:List (AV×AV)}{vu:AV}
  (hop:o.op= .entryStore mt mx sx vx) (hd:o.dst=none) (hm:evO T mx=some (.map r)) (hs:evO T sx=some (.int kk s)) (hv:evO T vx=some vu)
  (hO:O r=some (.amap es)) (h0:0<=s) (hl:s<es.length):wal C N o T O k .any [(r,.amap (es.set s.toNat ((es.getD s.toNat (.any,.any)).1,vu)))]:=by
 intro E T' O' bs a w K Q hT hOs hr hf hK;have hmv:=wa2 hr.1 (wa4 hT hm);have hsv:=(wa2 hr.1 (wa4 hT hs)).int_iff;have hvv:=wa2 hr.1 (wa4 hT hv);have hOr:=hOs _ _ hO;obtain⟨b,c,ents,clock,h1,h2,h3,h4⟩:=hr.2.obj r _ hOr;generalize hmx:a.eval mx=mv at hmv;generalize hvx:a.eval vx=vv at hvv
 cases hmv with | map hbr=>
 rw[h1] at hbr;injection hbr with hbr;injection hbr with e1 e2;subst e1;subst e2;obtain⟨j,rfl⟩:∃j:Nat,s=(j:Int):=⟨s.toNat,by omega⟩;simp only[tN7] at hK;have hj:j<es.length:=by omega
 have hje:j<ents.size:=by rw[h3.1];exact hj
 have hidx:ents.findIdx? (λe=>(e.born:Int)==(j:Int))=some j:=by
  rw[Array.findIdx?_eq_some_iff_getElem];refine⟨hje,?_,λi hi=>?_⟩
  ·have:=h4.2 j ents[j] (Array.getElem?_eq_getElem hje);simp[this]
  ·have:=h4.2 i ents[i] (Array.getElem?_eq_getElem (by omega));simp[this];omega
 have hrun:(Instr.entryStore mt (.map (some b)) (.int kk (j:Int)) vv).run C.P w= .ok () { w with heap:=w.heap.setIfInBounds b (.map (ents.modify j λe=>{ e with val:=vv }) clock) }:=by
  simp[Instr.entryStore,MapKept.run_getObj_map h2,asInt,asIntOf,hidx,MapKept.run_setObj_map _ h2,Result.andThen]
 have:(execOp a.eval o).run C.P w= .ok .skip { w with heap:=w.heap.setIfInBounds b (.map (ents.modify j λe=>{ e with val:=vv }) clock) }:=by simp[execOp,hop,hmx,hsv,hvx,hrun]
 unfold Oper.wp;rw[this];obtain⟨g1,g2⟩:=MapKept.heap_set (o':=.map (ents.modify j λe=>{ e with val:=vv }) clock) h2
 obtain⟨hS,hW⟩:=hr.2.modify (x:=r) (o:=.amap (es.set j ((es.getD j (.any,.any)).1,vu))) hOr rfl h1 (w':={ w with heap:=w.heap.setIfInBounds b (.map (ents.modify j λe=>{ e with val:=vv }) clock) }) (λb' hb'=>g2 b' hb') (by simp) rfl ⟨rfl,λ_=>lR7 _⟩ rfl rfl
  (λhS=>⟨b,c,_,clock,h1,g1,⟨by simp[h3.1],λi e' p hi hp=>by
   rw[Array.getElem?_modify] at hi;split at hi
   ·rename_i hji;subst hji;rw[Array.getElem?_eq_getElem hje] at hi;simp only[Option.map_some,sI7] at hi;subst hi;rw[List.getElem?_set_self hj] at hp;simp only[sI7] at hp;subst hp;obtain⟨x,_⟩:=h3.2 j ents[j] es[j] (Array.getElem?_eq_getElem hje) (List.getElem?_eq_getElem hj);have e:es[j].1=(es.getD j (.any,.any)).1:=by simp[hj]
    rw[e] at x;exact⟨x.step hS,hvv.step hS⟩
   ·rename_i hji;rw[List.getElem?_set_ne hji] at hp;obtain⟨x,y⟩:=h3.2 i e' p hi hp;exact⟨x.step hS,y.step hS⟩⟩,by simp[h4.1],λi e' hi=>by
   rw[Array.getElem?_modify] at hi;split at hi
   ·rename_i hji;subst hji;rw[Array.getElem?_eq_getElem hje] at hi;simp only[Option.map_some,sI7] at hi;subst hi;exact h4.2 j ents[j] (Array.getElem?_eq_getElem hje)
   ·exact h4.2 i e' hi⟩)
 refine hK bs _ _ (λ_ _=>rfl) ⟨?_,hW⟩;rw[hd];exact hr.1.step hS
end
end Go.Eng
namespace Go.Eng
open Go.Lib
def wau:AV->Int
 |.int _ n=>n
 |_=>0
def isU8:List AV->Bool
 |[.int .u8 _]=>true
 |_=>false
def wa7(m:Nat)(g:Nat->List AV):List UInt8:=(List.range m).map λi=>UInt8.ofNat (wau ((g i).headD .any)).toNat
def strG(s:List UInt8)(i:Nat):List AV:=[.int .u8 ((s.getD i 0).toNat:Int)]
theorem w3t{C:Ctx}{te:TE}(hte:TE.ok C.P te){E:Ent}{O:Nat->Option AObj}{bs:Nat->Option Hd}{w:World}{t t' e ty:TypeId}{ti tu tie:TI}
  (ht:lk te t=some ti) (hd:ti.desc= .slice e) (hu:lk te t'=some tu) (hud:tu.desc= .string) (he:lk te e=some tie) (hsz:tie.sz=1) (s:ByteArray):
  AppSrc C E O bs w e tie #[t,t'] ty (.string s) s.size (strG s.data.toList):=by
 have hut:C.P.underlying t=some (.slice e):=by rw[← hd];exact(hte t ti ht).1
 have huu:C.P.underlying t'=some .string:=by rw[← hud];exact(hte t' tu hu).1
 obtain⟨i,hi,his,hib,hiz⟩:=(hte e tie he).2.1;have hi1:i.size=1:=by rw[his,hsz]
 refine⟨strCells s,by rw[strCells_length,hsz,Nat.mul_one],strCells_oneCell s,λk _=>by rw[hsz];rfl,λk hk j u v hj hg hv=>?_,?_⟩
 ·have hj0:j=0:=by omega
  subst hj0;rw[hsz,Nat.mul_one,Nat.add_zero] at hv;have hlt:k<s.data.toList.length:=by rw[Array.length_toList];exact hk
  have e1:v= .int .u8 ((s.data.toList[k]).toNat:Int):=by
   unfold strCells at hv;rw[List.getElem?_map,List.getElem?_eq_getElem hlt] at hv;exact(oJ7 hv).symm
  have e2:u= .int .u8 ((s.data.toList[k]).toNat:Int):=by
   unfold strG at hg;have e3:s.data.toList.getD k 0=s.data.toList[k]:=by rw[List.getD_eq_getElem?_getD,List.getElem?_eq_getElem hlt];rfl
   rw[e3] at hg;exact(oJ7 hg).symm
  subst e1;subst e2;exact .int
 ·intro As n c olds ho hz h63 hb;have hmax:n+s.size<=9223372036854775807:=by simp only[maxLen] at h63;omega
  rw[hsz] at ho hz ⊢;simp only[Nat.mul_one] at ho ⊢
  rcases Nat.eq_zero_or_pos s.size with h0 | h0
  ·have hnc:n<=c:=by
    rcases ho with⟨h1,h2,_⟩ | ⟨b,vs,_,_,h,_⟩<;>omega
   have hf:=run_firstCells_string (P:=C.P) w 1 s;have hs0:strCells s=[]:=List.eq_nil_of_length_eq_zero (by rw[strCells_length,h0]);rw[hs0,h0] at hf;refine⟨.slice As n c,w,?_,.inl ⟨h0,rfl,rfl⟩⟩
   cases As with
   |none=>simp[Builtin.append_,run_underlying hut,run_underlying huu,sizeOf,typeInfo,hi,hi1,Builtin.lenOf,h0,hnc,hf]
   |some a=>simp[Builtin.append_,run_underlying hut,run_underlying huu,sizeOf,typeInfo,hi,hi1,Builtin.lenOf,h0,hnc,hf,storeCells]
  ·have cap_of:∀old,grownCap w (n+s.size) old e ≥ n+s.size/\grownCap w (n+s.size) old e<=maxLen:=λold=>⟨grownCap_ge w (n+s.size) old e,grownCap_le_maxLen w (n+s.size) old e h63⟩;have hzs:∀k,(Builtin.zeroCells tie.zero.cells k).size=k:=λk=>by rw[size_zeroCells,hz,Nat.mul_one]
   rcases ho with⟨rfl,rfl,rfl⟩ | ⟨b,vs,rfl,hh,hnc,hvs,rfl⟩
   ·cases As with
    |none=>
     have hr:=run_append_nil_string (P:=C.P) w t t' ty e i tie.zero hut huu hi hiz s h0 (by omega) (by rw[hib];simp only[Nat.zero_add] at hb;omega);refine⟨_,_,hr,.inr (.inr ⟨grownCap w s.size 0 e,Builtin.zeroCells tie.zero.cells (grownCap w s.size 0 e - s.size),?_,?_,?_,by simp,?_⟩)⟩
     ·have:=(cap_of 0).1;simpa using this
     ·have:=(cap_of 0).2;simpa using this
     ·rw[hzs];simp
     ·congr 2;apply Array.ext';simp[strCells]
    |some a=>
     have hr:=run_append_grow_string (P:=C.P) w t t' ty e i tie.zero hut huu hi hiz a 0 0 [] (by simp) (by simp) s (by omega) (by omega) (growslice_fits (by omega) (by rw[hib];exact hb));exact⟨_,_,hr,.inr (.inr ⟨grownCap w (0+s.size) 0 e,Builtin.zeroCells tie.zero.cells (grownCap w (0+s.size) 0 e - (0+s.size)),(cap_of 0).1,(cap_of 0).2,hzs _,rfl,rfl⟩)⟩
   ·by_cases hroom:n+s.size<=c
    ·have hr:=run_append_room_string (P:=C.P) w t t' ty e i hut huu hi hi1 b n c vs hh s hroom (by omega);refine⟨_,_,hr,.inr (.inl ⟨b,vs,h0,rfl,hh,hroom,rfl,hvs,rfl,?_⟩)⟩;rw[strCells_length]
    ·have hol:(vs.toList.take n).length=n * i.size:=by rw[hi1];simp;omega
     have holds:∀j u,(vs.toList.take n)[j]?=some u->w.cell? ((⟨b,0,none⟩:Addr).add j)=some u:=by
      intro j u hu;rw[Addr.add_lit,Nat.zero_add,cell_of_row w b j vs e (0,0) hh];rw[List.getElem?_take] at hu;split at hu
      ·simpa using hu
      ·cases hu
     have hr:=run_append_grow_string (P:=C.P) w t t' ty e i tie.zero hut huu hi hiz ⟨b,0,none⟩ n c _ hol holds s (by omega) (by omega) (growslice_fits (by omega) (by rw[hib];exact hb));exact⟨_,_,hr,.inr (.inr ⟨grownCap w (n+s.size) c e,Builtin.zeroCells tie.zero.cells (grownCap w (n+s.size) c e - (n+s.size)),(cap_of c).1,(cap_of c).2,hzs _,rfl,rfl⟩)⟩
theorem wal.appendStr{C:Ctx}{N:Nat}{o:Oper}{T:Nat->Option AV}{O:Nat->Option AObj}{k:Nat}{te:TE}(hte:TE.ok C.P te){t t' e:TypeId}{ti tu tie:TI}{x y:Operand}{args:Array Operand}{ats:Array TypeId}{s r:AV}{l:List (Nat×AObj)}{str:List UInt8}{P:Prop}
  (hop:o.op= .call { callee:=.builtin .append,args:=args,argTypes:=ats }) (ha:args.toList=[x,y]) (hat:ats.toList=[t,t']) (hd:wa1 N o.dst=true) (ht:lk te t=some ti) (hdd:ti.desc= .slice e) (hu:lk te t'=some tu) (hud:tu.desc= .string)
  (he:lk te e=some tie) (hsz:tie.sz=1) (hx:evO T x=some s) (hy:evO T y=some (.str str)) (h:∀O':Nat->Option AObj,Sub O O'->appA O' k e tie str.length (strG str) True s=some (r,l,P)) (hP:P):wal C N o T O k r l:=by
 obtain⟨args⟩:=args;obtain⟨ats⟩:=ats;have ha:args=[x,y]:=ha;have hat:ats=[t,t']:=hat;subst ha;subst hat;intro E T' O' bs a w K Q hT hO hr hf hK;obtain⟨h0,h0'⟩:=hf k (lR7 _) (by omega);have hyv:=wa2 hr.1 (wa4 hT hy);generalize hey:a.eval y=vy at hyv
 cases hyv with
 |str hs=>
  rename_i bstr;have hbs0:bstr.data.toList=str:=hs;subst hbs0;have hsz2:bstr.data.toList.length=bstr.size:=by rw[Array.length_toList];rfl
  have hex:execOp a.eval o=Functor.map Next.value (Builtin.append_ #[t,t'] o.type #[a.eval x,.string bstr]):=by
   simp[execOp,resolve,invoke,builtin,hop,hey]
  obtain⟨nx,v,w',bs',h1,h2,h3,h4,h5,h6⟩:=wuj (ty:=o.type) hr.2 hr.1 h0 h0' (wa4 hT hx) (λ_=>w3t hte ht hdd hu hud he hsz bstr) (by rw[← hsz2];exact h O' hO) hP;have hbs:∀r,¬ (k<=r/\r<k+16)->bs' r=bs r:=λr hr=>h3 r (by omega);unfold Oper.wp;have h1':(execOp a.eval o).run C.P w= .ok nx w':=by rw[hex];simpa using h1
  rw[h1']
  rcases h2 with rfl | ⟨rfl,rfl⟩
  ·exact hK bs' _ _ hbs ⟨(hr.1.step h4).putF hd h6,h5⟩
  ·exact hK bs' _ _ hbs ⟨(hr.1.step h4).putF hd h6,h5⟩
end Go.Eng
