/- The engine, part 41: bytes told as a text without a copy (unsafe.String over unsafe.SliceData). -/
import Derived.Test.YtgcboligphndhaaGreatDoorXg
import Derived.Laws.CopyRow
import Derived.Laws.BytesString
import Derived.Lib.AppendStr
import Derived.Lib.UnsafeStr
namespace Go.Eng
open Go.WideShapes
section
variable {C:Ctx} {N:Nat} {o:Oper} {T:Nat->Option AV} {O:Nat->Option AObj} {k:Nat} {te:TE}
theorem wau.lookupA(hte:TE.ok C.P te)(hn:∀t ti,lk te t=some ti->wa7 ti.desc=false->ti.sz=1){mt kt et:TypeId}{mx kx:Operand}{ok:Bool}{mu:AV}{es:List (AV×AV)}{ku u0 u:AV}{ti tk tie:TI}(res:Option AV)
  (hop:o.op= .lookup mt mx kx ok) (hd:wa9 N o.dst=true) (hm:evO T mx=some mu) (hk:evO T kx=some ku) (ht:lk te mt=some ti) (htd:ti.desc= .map kt et) (het:lk te et=some tie)
  (hO:mapA O mu=some es) (hkK:keyA te kt ku=true) (hz:∀(w:World) (M:Nat->Prop) (bs:Nat->Option Hd),V w M bs tie.zero u0) (hks:(es.all λp=>keyA te kt p.1)=true)
  (hu:(match ok with | true=>.tuple [res.getD u0,.bool res.isSome] | false=>res.getD u0)=u) (hH:Holds es ku res) (huniq:∀(j j':Nat) v v',es[j]?=some (ku,v)->es[j']?=some (ku,v')->v=v'):wau C N o T O k u []:=by
 have _:=tk;intro E T' O' bs a w K Q hT hOs hr hf hK;have hmv:=wbd hr.1 (wbf hT hm);have hkv:=wbd hr.1 (wbf hT hk);generalize hmx:a.eval mx=mv at hmv;generalize hkx:a.eval kx=kv at hkv;obtain⟨b,ents,clock,rfl,h2,h3⟩:=wva hr.2 hmv (wq4 hOs hO);have hund:=wby hte (w:=w) ht;have hzr:=wgc hte (w:=w) het;have fin:∀v,(Instr.lookup mt (.map (some b)) kv ok).run C.P w= .ok v w->V w (MB E O' bs) bs v u->o.wp C.P a w K Q:=by
  intro v hv hV;have:(execOp a.eval o).run C.P w= .ok (.value v) w:=by simp[execOp,hop,hmx,hkx,hv]
  unfold Oper.wp;rw[this];exact hK bs _ _ (λ_ _=>rfl) ⟨hr.1.putF hd hV,hr.2⟩
 obtain⟨ks,rfl⟩:∃ks,ku= .agg ks:=by
  cases ku with
  |agg ks=>exact⟨ks,rfl⟩
  |_=>simp[keyA] at hkK
 obtain⟨tk2,fs,hk2,hfs,_⟩:=wgl hn hkK hkK;have hund2:C.P.underlying kt=some (.struct fs):=by rw[(hte kt tk2 hk2).1,hfs]
 have hck:=λem=>wr8 hte hn hkK hkv em;have hfk:(Instr.findKey kt kv ents.toList).run C.P w=(Instr.findAsking kt kv ents.toList).run C.P w:=run_findKey_eq w (by rw[hund2]) kv ents.toList;have hst:=wp9 (P:=C.P) hn hkK hkv
 rcases wla hte hn hkK hkv ents.toList es 0 (by simpa using h3.1) (λj e p q1 q2=>h3.2 j e p (by simpa using q1) q2) hks with⟨f1,f2⟩ | ⟨j,e,v,f1,f20,f3,f4,f5⟩
 ·have hres:res=none:=by
   cases res with
   |none=>rfl
   |some v=>obtain⟨j,hj⟩:=hH;exact absurd rfl (f2 _ (List.mem_of_getElem? hj))
  subst hres;refine fin (if ok then .tuple #[tie.zero,.bool false] else tie.zero) ?_ ?_
  ·simp[Instr.lookup,hund,htd,MapKept.run_getObj_map h2,hck,hfk,f1,hzr,Result.andThen]
  ·subst hu;have hz':V w (MB E O' bs) bs tie.zero u0:=hz _ _ _
   cases ok with
   |false=>exact hz'
   |true=>
    refine .tuple rfl λj v u hv hu=>?_
    match j with
    |0=>simp at hv hu;subst hv;subst hu;exact hz'
    |1=>simp at hv hu;subst hv;subst hu;exact .bool
    |j+2=>simp at hv
 ·rw[Nat.zero_add] at f1;have hres:res=some v:=by
   cases res with
   |none=>exact absurd rfl (hH _ (List.mem_of_getElem? f4))
   |some v'=>obtain⟨j',hj'⟩:=hH;rw[huniq _ _ _ _ hj' f4]
  subst hres;refine fin (if ok then .tuple #[e.val,.bool true] else e.val) ?_ ?_
  ·simp[Instr.lookup,hund,htd,MapKept.run_getObj_map h2,hck,hfk,f1,Result.andThen]
  ·subst hu
   cases ok with
   |false=>exact f5
   |true=>
    refine .tuple rfl λj v u hv hu=>?_
    match j with
    |0=>simp at hv hu;subst hv;subst hu;exact f5
    |1=>simp at hv hu;subst hv;subst hu;exact .bool
    |j+2=>simp at hv
theorem wau.mapUpdateA(hte:TE.ok C.P te)(hn:∀t ti,lk te t=some ti->wa7 ti.desc=false->ti.sz=1){mt kt et:TypeId}{mx kx vx:Operand}{r:Nat}{es es':List (AV×AV)}{ku vu:AV}{ti tk:TI}
  (hop:o.op= .mapUpdate mt mx kx vx) (hd:o.dst=none) (hm:evO T mx=some (.map r)) (hk:evO T kx=some ku) (hv:evO T vx=some vu) (ht:lk te mt=some ti) (htd:ti.desc= .map kt et) (_hkt:lk te kt=some tk)
  (hO:O r=some (.amap es)) (hkK:keyA te kt ku=true) (hks:(es.all λp=>keyA te kt p.1)=true)
  (hH:(∀(j:Nat) v,es[j]?=some (ku,v)->es'=es.set j (ku,vu))/\((∀p∈es,p.1≠ku)->es'=es++[(ku,vu)])):wau C N o T O k .any [(r,.amap es')]:=by
 intro E T' O' bs a w K Q hT hOs hr hf hK;have hmv:=wbd hr.1 (wbf hT hm);have hkv:=wbd hr.1 (wbf hT hk);have hvv:=wbd hr.1 (wbf hT hv);have hOr:=hOs _ _ hO;obtain⟨b,c,ents,clock,h1,h2,h3,h4⟩:=hr.2.obj r _ hOr;generalize hmx:a.eval mx=mv at hmv;generalize hkx:a.eval kx=kv at hkv;generalize hvx:a.eval vx=vv at hvv
 cases hmv with | map hbr=>
 rw[h1] at hbr;injection hbr with hbr;injection hbr with e1 e2;subst e1;subst e2;have hund:=wby hte (w:=w) ht;obtain⟨ks,rfl⟩:∃ks,ku= .agg ks:=by
  cases ku with
  |agg ks=>exact⟨ks,rfl⟩
  |_=>simp[keyA] at hkK
 obtain⟨tk2,fs,hk2,hfs,_⟩:=wgl hn hkK hkK;have hund2:C.P.underlying kt=some (.struct fs):=by rw[(hte kt tk2 hk2).1,hfs]
 have hck:=λem=>wr8 hte hn hkK hkv em;have hfk:(Instr.findKey kt kv ents.toList).run C.P w=(Instr.findAsking kt kv ents.toList).run C.P w:=run_findKey_eq w (by rw[hund2]) kv ents.toList;have hst:=wp9 (P:=C.P) hn hkK hkv;have fin:∀ents' clock',(Instr.mapUpdate mt (.map (some b)) kv vv).run C.P w= .ok () { w with heap:=w.heap.setIfInBounds b (.map ents' clock') }->
   (∀w' M',Step w (MB E O' bs) bs w' M' bs->wh4 w' M' bs ents' es')->wpv ents' clock'->o.wp C.P a w K Q:=by
  intro ents' clock' hrun hent hborn;have:(execOp a.eval o).run C.P w= .ok .skip { w with heap:=w.heap.setIfInBounds b (.map ents' clock') }:=by simp[execOp,hop,hmx,hkx,hvx,hrun]
  unfold Oper.wp;rw[this];obtain⟨g1,g2⟩:=MapKept.heap_set (o':=.map ents' clock') h2
  obtain⟨hS,hW⟩:=hr.2.modify (x:=r) (o:=.amap es') hOr rfl h1 (w':={ w with heap:=w.heap.setIfInBounds b (.map ents' clock') }) (λb' hb'=>g2 b' hb') (by simp) rfl ⟨rfl,λ_=>lR7 _⟩ rfl rfl
   (λhS=>⟨b,c,ents',clock',h1,g1,hent _ _ hS,hborn⟩)
  refine hK bs _ _ (λ_ _=>rfl) ⟨?_,hW⟩;rw[hd];exact hr.1.step hS
 rcases wla hte hn hkK hkv ents.toList es 0 (by simpa using h3.1) (λj e p q1 q2=>h3.2 j e p (by simpa using q1) q2) hks with⟨f1,f2⟩ | ⟨j,e,v,f1,f20,f3,f4,f5⟩
 ·have he:=hH.2 f2;subst he;refine fin (ents.push ⟨kv,vv,clock⟩) (clock+1) ?_ (λw' M' hS=>⟨by simp[h3.1],λi e p hi hp=>?_⟩) ⟨by simp[h4.1],λi e hi=>?_⟩
  ·simp[Instr.mapUpdate,hund,htd,MapKept.run_getObj_map h2,hck,hfk,f1,MapKept.run_setObj_map _ h2,Result.andThen]
  ·rw[Array.getElem?_push] at hi;split at hi
   ·rename_i hie;simp only[sI7] at hi;subst hi;rw[hie,h3.1] at hp;simp at hp;subst hp;exact⟨hkv.step hS,hvv.step hS⟩
   ·have hlt:i<es.length:=by rw[← h3.1];exact(Array.getElem?_eq_some_iff.1 hi).1
    rw[List.getElem?_append_left hlt] at hp;obtain⟨x,y⟩:=h3.2 i e p hi hp;exact⟨x.step hS,y.step hS⟩
  ·rw[Array.getElem?_push] at hi;split at hi
   ·rename_i hie;simp only[sI7] at hi;subst hi;rw[hie];exact h4.1
   ·exact h4.2 i e hi
 ·have f2:ents[j]?=some e:=by simpa using f20
  rw[Nat.zero_add] at f1;have he:=hH.1 j v f4;subst he;subst f3;refine fin (ents.modify j λe'=>{ e' with key:=e.key,val:=vv }) clock ?_ (λw' M' hS=>⟨by simp[h3.1],λi e' p hi hp=>?_⟩) ⟨by simp[h4.1],λi e' hi=>?_⟩
  ·simp[Instr.mapUpdate,hund,htd,MapKept.run_getObj_map h2,hck,hfk,f1,f2,hst,MapKept.run_setObj_map _ h2,Result.andThen]
  ·rw[Array.getElem?_modify] at hi;split at hi
   ·rename_i hji;subst hji;rw[f2] at hi;simp only[Option.map_some,sI7] at hi;subst hi;have hlt:j<es.length:=(List.getElem?_eq_some_iff.1 f4).1;rw[List.getElem?_set_self hlt] at hp;simp only[sI7] at hp;subst hp;exact⟨hkv.step hS,hvv.step hS⟩
   ·rename_i hji;rw[List.getElem?_set_ne hji] at hp;obtain⟨x,y⟩:=h3.2 i e' p hi hp;exact⟨x.step hS,y.step hS⟩
  ·rw[Array.getElem?_modify] at hi;split at hi
   ·rename_i hji;subst hji;rw[f2] at hi;simp only[Option.map_some,sI7] at hi;subst hi;exact h4.2 j e f2
   ·exact h4.2 i e' hi
end
end Go.Eng
namespace Go.Eng
open Go.RowKit
section
variable {C:Ctx} {N:Nat} {o:Oper} {T T':Nat->Option AV} {O O':Nat->Option AObj} {k:Nat} {te:TE}
theorem wau.clear(hte:TE.ok C.P te){t e e':TypeId}{ti tie:TI}{x:Operand}{args:Array Operand}{argTypes:Array TypeId}{r sz off n n0:Nat}{f:Nat->List AV}{zs:List AV}
  (hop:o.op= .call { callee:=.builtin .clear,args:=args,argTypes:=argTypes }) (hd:wa9 N o.dst=true) (ha:args.toList=[x]) (hta:argTypes.toList=[t]) (hx:evO T x=some (.sub r sz off n)) (ht:lk te t=some ti) (htd:ti.desc= .slice e)
  (he:lk te e=some tie) (hO:O r=some (.row e' sz n0 f false)) (hz:avcs tie.zero.cells.toList=some zs) (hzl:zs.length=sz) (hoff:off<=n0):
  wau C N o T O k (.tuple []) [(r,.row e' sz off f false)]:=by
 intro E T' O' bs a w K Q hT hOs hr hf hK;have hxv:=wbd hr.1 (wbf hT hx);have hOr:=hOs _ _ hO;have hu1:=wby hte (w:=w) ht;rw[htd] at hu1;have hzr:=λw:World=>wgc hte (w:=w) he;have hz':=wgs (w:=w) (M:=MB E O' bs) (bs:=bs) _ _ hz;have hzsz:tie.zero.cells.size=sz:=by rw[← hzl];simpa using hz'.1
 have hargs:args=#[x]:=by rw[← Array.toArray_toList (xs:=args),ha]
 have hats:argTypes=#[t]:=by rw[← Array.toArray_toList (xs:=argTypes),hta]
 subst hargs;subst hats;have hzone:∀m,∀v∈(Builtin.zeroCells tie.zero.cells m).toList,Value.oneCell' v=true:=by
  intro m v hv;unfold Builtin.zeroCells at hv;rw[Array.toList_map,List.mem_map] at hv;obtain⟨i,hi,rfl⟩:=hv;have hi:i<m * tie.zero.cells.size:=by simpa using hi
  have hpos:0<tie.zero.cells.size:=by
   rcases Nat.eq_zero_or_pos tie.zero.cells.size with h | h
   ·rw[h] at hi;simp at hi
   ·exact h
  have hlt:=Nat.mod_lt i hpos;refine hz'.2.1 (i % tie.zero.cells.size) _ ?_;rw[getElem!_pos tie.zero.cells _ hlt];simp
 have hzlen:∀m,(Builtin.zeroCells tie.zero.cells m).toList.length=m * sz:=by
  intro m;simp[Builtin.zeroCells,hzsz]
 have clear0:∀A c,(Builtin.clear_ #[t] o.type #[.slice A 0 c]).run C.P w= .ok (.tuple #[]) w:=by
  intro A c
  cases A<;>simp[Builtin.clear_,hu1]
 have fin:∀w',(Builtin.clear_ #[t] o.type #[a.eval x]).run C.P w= .ok (.tuple #[]) w'->(execOp a.eval o).run C.P w= .ok (.value (.tuple #[])) w':=by
  intro w' h;simp[execOp,hop,resolve,invoke,builtin,h]
 generalize hev:a.eval x=vx at hxv fin
 cases hxv with
 |subnil hb hn ho=>
  have h:=fin w (clear0 _ _);subst ho;have hn0:n0=0:=by
   rcases hr.2.obj r _ hOr with⟨_,q⟩ | ⟨b',c',vs,hb',_⟩
   ·exact q
   ·rw[hb] at hb';cases hb'
  subst hn0;have e0:up O' r (.row e' sz 0 f false)=O':=by
   funext i
   by_cases hi:r=i
   ·subst hi;rw[wav,hOr]
   ·rw[wat _ _ _ hi]
  obtain⟨hS,hW⟩:Step w (MB E O' bs) bs w (MB E (upL O' [(r,.row e' sz 0 f false)]) bs) bs/\WRep C E (upL O' [(r,.row e' sz 0 f false)]) bs w:=by
   show Step w (MB E O' bs) bs w (MB E (up O' r (.row e' sz 0 f false)) bs) bs/\WRep C E (up O' r (.row e' sz 0 f false)) bs w;rw[e0];exact⟨Step.refl _ _ _,hr.2⟩
  unfold Oper.wp;rw[h];exact hK bs _ _ (λ_ _=>rfl) ⟨(hr.1.step hS).putF hd (.tuple rfl (λj v u hv hu=>by simp at hv)),hW⟩
 |@sub _ _ _ _ _ b c A hb hn hcm hA=>
  rcases hr.2.obj r _ hOr with⟨q,_⟩ | ⟨b',c',vs,hb',hh,hnc',hcm',hsz,hln,hone,hval⟩
  ·rw[q] at hb;cases hb
  obtain⟨rfl,rfl⟩:b'=b/\c'=c:=by
   rw[hb'] at hb;injection hb with hb;injection hb with e1 e2;exact⟨e1,e2⟩
  obtain⟨vs',h1,h2,h3⟩:∃vs':Array Value,(Builtin.clear_ #[t] o.type #[.slice A n (c' - off)]).run C.P w= .ok (.tuple #[]) (w.setRow b' vs')/\vs'.size=vs.size/\∀j,j<off * sz->vs'[j]?=vs[j]?:=by
   rcases Nat.eq_zero_or_pos n with h0 | h0
   ·subst h0;exact⟨vs,by rw[setRow_self w b' vs e' (0,0) hh];exact clear0 _ _,rfl,λ_ _=>rfl⟩
   ·have hle:off * sz+n * sz<=vs.size:=by rw[hsz, ← Nat.add_mul];exact Nat.mul_le_mul_right _ hn
    have hst:=run_storeCells_at C.P b' (off * sz) e' (Builtin.zeroCells tie.zero.cells n).toList 0 vs w hh (by rw[hzlen];omega) (hzone n);rw[Nat.add_zero] at hst;refine⟨(vs.toList.take (off * sz)++(Builtin.zeroCells tie.zero.cells n).toList++vs.toList.drop (off * sz+(Builtin.zeroCells tie.zero.cells n).toList.length)).toArray,?_,?_,?_⟩
    ·rw[hA h0];have hn0:n≠0:=by omega
     obtain⟨m,rfl⟩:∃m,n=m+1:=⟨n - 1,by omega⟩;simp[Builtin.clear_,hu1,hzr,hst]
    ·simp only[List.size_toArray,lA7,hzlen,List.length_take,List.length_drop,Array.length_toList];omega
    ·intro j hj;simp only[List.getElem?_toArray,List.append_assoc];rw[List.getElem?_append_left (by simp;omega),List.getElem?_take,if_pos hj,Array.getElem?_toList]
  have h:=fin _ h1;obtain⟨hS,hW⟩:=hr.2.modify hOr rfl hb' (w':=w.setRow b' vs') (λk hk=>setRow_other w b' k _ hk) (size_setRow _ _ _) rfl ⟨rfl,λ_=>lR7 _⟩ rfl (o:=.row e' sz off f false) rfl λhS=>
   .inr ⟨b',c',vs',hb',setRow_heap w b' vs _ e' (0,0) hh,by omega,hcm',by rw[h2,hsz],λi hi=>hln i (by omega),λi hi j hj v hv=>by
    have hlt:(i+1) * sz<=off * sz:=Nat.mul_le_mul_right _ (by omega);rw[Nat.add_mul,Nat.one_mul] at hlt;rw[h3 _ (by omega)] at hv;exact hone i (by omega) j hj v hv,λi hi j v u hj hv hu=>by
    have hlt:(i+1) * sz<=off * sz:=Nat.mul_le_mul_right _ (by omega);rw[Nat.add_mul,Nat.one_mul] at hlt;rw[h3 _ (by omega)] at hv;exact(hval i (by omega) j v u hj hv hu).step hS⟩
  unfold Oper.wp;rw[h];exact hK bs _ _ (λ_ _=>rfl) ⟨(hr.1.step hS).putF hd (.tuple rfl (λj v u hv hu=>by simp at hv)),hW⟩
end
section
variable {C:Ctx} {N:Nat} {o:Oper} {T T':Nat->Option AV} {O O':Nat->Option AObj} {k:Nat} {te:TE}
theorem wau.mapEntryA(hte:TE.ok C.P te)(hn:∀t ti,lk te t=some ti->wa7 ti.desc=false->ti.sz=1){mt kt et:TypeId}{mx kx:Operand}{r idx:Nat}{es es':List (AV×AV)}{ku u0 zv:AV}{ti tk tie:TI}
  (hop:o.op= .mapEntry mt mx kx) (hd:wa9 N o.dst=true) (hm:evO T mx=some (.map r)) (hk:evO T kx=some ku) (ht:lk te mt=some ti) (htd:ti.desc= .map kt et) (_hkt:lk te kt=some tk) (het:lk te et=some tie)
  (hO:O r=some (.amap es)) (hkK:keyA te kt ku=true) (hz:wf8 tie.zero=some u0) (hks:(es.all λp=>keyA te kt p.1)=true)
  (hH:(∀(j:Nat) v,es[j]?=some (ku,v)->es'=es/\idx=j/\zv=v)/\((∀p∈es,p.1≠ku)->es'=es++[(ku,u0)]/\idx=es.length/\zv=u0)):
  wau C N o T O k (.tuple [zv,.int .i64 idx]) [(r,.amap es')]:=by
 intro E T' O' bs a w K Q hT hOs hr hf hK;have hmv:=wbd hr.1 (wbf hT hm);have hkv:=wbd hr.1 (wbf hT hk);have hOr:=hOs _ _ hO;obtain⟨b,c,ents,clock,h1,h2,h3,h4⟩:=hr.2.obj r _ hOr;generalize hmx:a.eval mx=mv at hmv;generalize hkx:a.eval kx=kv at hkv
 cases hmv with | map hbr=>
 rw[h1] at hbr;injection hbr with hbr;injection hbr with e1 e2;subst e1;subst e2;have hund:=wby hte (w:=w) ht;have hzr:=wgc hte (w:=w) het;have hz':V w (MB E O' bs) bs tie.zero u0:=wpw hz;obtain⟨ks,rfl⟩:∃ks,ku= .agg ks:=by
  cases ku with
  |agg ks=>exact⟨ks,rfl⟩
  |_=>simp[keyA] at hkK
 obtain⟨tk2,fs,hk2,hfs,_⟩:=wgl hn hkK hkK;have hund2:C.P.underlying kt=some (.struct fs):=by rw[(hte kt tk2 hk2).1,hfs]
 have hck:=λem=>wr8 hte hn hkK hkv em;have hfk:(Instr.findKey kt kv ents.toList).run C.P w=(Instr.findAsking kt kv ents.toList).run C.P w:=run_findKey_eq w (by rw[hund2]) kv ents.toList;have hst:=wp9 (P:=C.P) hn hkK hkv;have fin:∀ents' clock' v,(Instr.mapEntry mt (.map (some b)) kv).run C.P w= .ok (.tuple #[v,goInt idx]) { w with heap:=w.heap.setIfInBounds b (.map ents' clock') }->V w (MB E O' bs) bs v zv->
   (∀w' M',Step w (MB E O' bs) bs w' M' bs->wh4 w' M' bs ents' es')->wpv ents' clock'->o.wp C.P a w K Q:=by
  intro ents' clock' v hrun hv hent hborn;have:(execOp a.eval o).run C.P w= .ok (.value (.tuple #[v,goInt idx])) { w with heap:=w.heap.setIfInBounds b (.map ents' clock') }:=by simp[execOp,hop,hmx,hkx,hrun]
  unfold Oper.wp;rw[this];obtain⟨g1,g2⟩:=MapKept.heap_set (o':=.map ents' clock') h2
  obtain⟨hS,hW⟩:=hr.2.modify (x:=r) (o:=.amap es') hOr rfl h1 (w':={ w with heap:=w.heap.setIfInBounds b (.map ents' clock') }) (λb' hb'=>g2 b' hb') (by simp) rfl ⟨rfl,λ_=>lR7 _⟩ rfl rfl
   (λhS=>⟨b,c,ents',clock',h1,g1,hent _ _ hS,hborn⟩)
  refine hK bs _ _ (λ_ _=>rfl) ⟨(hr.1.step hS).putF hd (.tuple rfl λj v u hv' hu=>?_),hW⟩
  match j with
  |0=>simp at hv' hu;subst hv';subst hu;exact hv.step hS
  |1=>simp at hv' hu;subst hv';subst hu;exact .int
  |j+2=>simp at hv'
 rcases wla hte hn hkK hkv ents.toList es 0 (by simpa using h3.1) (λj e p q1 q2=>h3.2 j e p (by simpa using q1) q2) hks with⟨f1,f2⟩ | ⟨j,e,v,f1,f20,f3,f4,f5⟩
 ·obtain⟨rfl,rfl,rfl⟩:=hH.2 f2;have hcl:(clock:Int)=(es.length:Int):=by rw[h4.1,h3.1]
  refine fin (ents.push ⟨kv,tie.zero,clock⟩) (clock+1) tie.zero ?_ hz' (λw' M' hS=>⟨by simp[h3.1],λi e p hi hp=>?_⟩) ⟨by simp[h4.1],λi e hi=>?_⟩
  ·simp[Instr.mapEntry,hund,htd,MapKept.run_getObj_map h2,hck,hfk,f1,hzr,MapKept.run_setObj_map _ h2,Result.andThen,hcl]
  ·rw[Array.getElem?_push] at hi;split at hi
   ·rename_i hie;simp only[sI7] at hi;subst hi;rw[hie,h3.1] at hp;simp at hp;subst hp;exact⟨hkv.step hS,hz'.step hS⟩
   ·have hlt:i<es.length:=by rw[← h3.1];exact(Array.getElem?_eq_some_iff.1 hi).1
    rw[List.getElem?_append_left hlt] at hp;obtain⟨x,y⟩:=h3.2 i e p hi hp;exact⟨x.step hS,y.step hS⟩
  ·rw[Array.getElem?_push] at hi;split at hi
   ·rename_i hie;simp only[sI7] at hi;subst hi;rw[hie];exact h4.1
   ·exact h4.2 i e hi
 ·have f2:ents[j]?=some e:=by simpa using f20
  rw[Nat.zero_add] at f1;obtain⟨rfl,rfl,rfl⟩:=hH.1 j v f4;subst f3;have hborn:=h4.2 idx e f2;refine fin (ents.modify idx λe'=>{ e' with key:=e.key }) clock e.val ?_ f5 (λw' M' hS=>⟨by simp[h3.1],λi e' p hi hp=>?_⟩) ⟨by simp[h4.1],λi e' hi=>?_⟩
  ·simp[Instr.mapEntry,hund,htd,MapKept.run_getObj_map h2,hck,hfk,f1,f2,hst,MapKept.run_setObj_map _ h2,Result.andThen,hborn]
  ·rw[Array.getElem?_modify] at hi;split at hi
   ·rename_i hji;subst hji;rw[f2] at hi;simp only[Option.map_some,sI7] at hi;subst hi;obtain⟨x,y⟩:=h3.2 idx e p f2 hp;exact⟨x.step hS,y.step hS⟩
   ·obtain⟨x,y⟩:=h3.2 i e' p hi hp;exact⟨x.step hS,y.step hS⟩
  ·rw[Array.getElem?_modify] at hi;split at hi
   ·rename_i hji;subst hji;rw[f2] at hi;simp only[Option.map_some,sI7] at hi;subst hi;exact hborn
   ·exact h4.2 i e' hi
theorem wau.entryStore{mt:TypeId}{mx sx vx:Operand}{r:Nat}{kk:IntKind}{s:Int}{es:List (AV×AV)}{vu:AV}
  (hop:o.op= .entryStore mt mx sx vx) (hd:o.dst=none) (hm:evO T mx=some (.map r)) (hs:evO T sx=some (.int kk s)) (hv:evO T vx=some vu)
  (hO:O r=some (.amap es)) (h0:0<=s) (hl:s<es.length):wau C N o T O k .any [(r,.amap (es.set s.toNat ((es.getD s.toNat (.any,.any)).1,vu)))]:=by
 intro E T' O' bs a w K Q hT hOs hr hf hK;have hmv:=wbd hr.1 (wbf hT hm);have hsv:=(wbd hr.1 (wbf hT hs)).int_iff;have hvv:=wbd hr.1 (wbf hT hv);have hOr:=hOs _ _ hO;obtain⟨b,c,ents,clock,h1,h2,h3,h4⟩:=hr.2.obj r _ hOr;generalize hmx:a.eval mx=mv at hmv;generalize hvx:a.eval vx=vv at hvv
 cases hmv with | map hbr=>
 rw[h1] at hbr;injection hbr with hbr;injection hbr with e1 e2;subst e1;subst e2;obtain⟨j,rfl⟩:∃j:Nat,s=(j:Int):=⟨s.toNat,by omega⟩;simp only[tN7] at hK;have hj:j<es.length:=by omega
 have hje:j<ents.size:=by rw[h3.1];exact hj
 have hidx:ents.findIdx? (λe=>(e.born:Int)==(j:Int))=some j:=by
  rw[Array.findIdx?_eq_some_iff_getElem];refine⟨hje,?_,λi hi=>?_⟩
  ·have:=h4.2 j ents[j] (Array.getElem?_eq_getElem hje);simp[this]
  ·have:=h4.2 i ents[i] (Array.getElem?_eq_getElem (by omega));simp[this];omega
 have hrun:(Instr.entryStore mt (.map (some b)) (.int kk (j:Int)) vv).run C.P w= .ok () { w with heap:=w.heap.setIfInBounds b (.map (ents.modify j λe=>{ e with val:=vv }) clock) }:=by
  simp[Instr.entryStore,MapKept.run_getObj_map h2,asInt,asIntOf,hidx,MapKept.run_setObj_map _ h2,Result.andThen]
 have:(execOp a.eval o).run C.P w= .ok .skip { w with heap:=w.heap.setIfInBounds b (.map (ents.modify j λe=>{ e with val:=vv }) clock) }:=by simp[execOp,hop,hmx,hsv,hvx,hrun]
 unfold Oper.wp;rw[this];obtain⟨g1,g2⟩:=MapKept.heap_set (o':=.map (ents.modify j λe=>{ e with val:=vv }) clock) h2
 obtain⟨hS,hW⟩:=hr.2.modify (x:=r) (o:=.amap (es.set j ((es.getD j (.any,.any)).1,vu))) hOr rfl h1 (w':={ w with heap:=w.heap.setIfInBounds b (.map (ents.modify j λe=>{ e with val:=vv }) clock) }) (λb' hb'=>g2 b' hb') (by simp) rfl ⟨rfl,λ_=>lR7 _⟩ rfl rfl
  (λhS=>⟨b,c,_,clock,h1,g1,⟨by simp[h3.1],λi e' p hi hp=>by
   rw[Array.getElem?_modify] at hi;split at hi
   ·rename_i hji;subst hji;rw[Array.getElem?_eq_getElem hje] at hi;simp only[Option.map_some,sI7] at hi;subst hi;rw[List.getElem?_set_self hj] at hp;simp only[sI7] at hp;subst hp;obtain⟨x,_⟩:=h3.2 j ents[j] es[j] (Array.getElem?_eq_getElem hje) (List.getElem?_eq_getElem hj);have e:es[j].1=(es.getD j (.any,.any)).1:=by simp[hj]
    rw[e] at x;exact⟨x.step hS,hvv.step hS⟩
   ·rename_i hji;rw[List.getElem?_set_ne hji] at hp;obtain⟨x,y⟩:=h3.2 i e' p hi hp;exact⟨x.step hS,y.step hS⟩⟩,by simp[h4.1],λi e' hi=>by
   rw[Array.getElem?_modify] at hi;split at hi
   ·rename_i hji;subst hji;rw[Array.getElem?_eq_getElem hje] at hi;simp only[Option.map_some,sI7] at hi;subst hi;exact h4.2 j ents[j] (Array.getElem?_eq_getElem hje)
   ·exact h4.2 i e' hi⟩)
 refine hK bs _ _ (λ_ _=>rfl) ⟨?_,hW⟩;rw[hd];exact hr.1.step hS
end
end Go.Eng
namespace Go.Eng
open Go.Lib
def war:AV->Int
 |.int _ n=>n
 |_=>0
def isU8:List AV->Bool
 |[.int .u8 _]=>true
 |_=>false
def waq(m:Nat)(g:Nat->List AV):List UInt8:=(List.range m).map λi=>UInt8.ofNat (war ((g i).headD .any)).toNat
def strG(s:List UInt8)(i:Nat):List AV:=[.int .u8 ((s.getD i 0).toNat:Int)]
theorem w55{C:Ctx}{te:TE}(hte:TE.ok C.P te){E:Ent}{O:Nat->Option AObj}{bs:Nat->Option Hd}{w:World}{t t' e ty:TypeId}{ti tu tie:TI}
  (ht:lk te t=some ti) (hd:ti.desc= .slice e) (hu:lk te t'=some tu) (hud:tu.desc= .string) (he:lk te e=some tie) (hsz:tie.sz=1) (s:ByteArray):
  AppSrc C E O bs w e tie #[t,t'] ty (.string s) s.size (strG s.data.toList):=by
 have hut:C.P.underlying t=some (.slice e):=by rw[← hd];exact(hte t ti ht).1
 have huu:C.P.underlying t'=some .string:=by rw[← hud];exact(hte t' tu hu).1
 obtain⟨i,hi,his,hib,hiz⟩:=(hte e tie he).2.1;have hi1:i.size=1:=by rw[his,hsz]
 refine⟨strCells s,by rw[strCells_length,hsz,Nat.mul_one],strCells_oneCell s,λk _=>by rw[hsz];rfl,λk hk j u v hj hg hv=>?_,?_⟩
 ·have hj0:j=0:=by omega
  subst hj0;rw[hsz,Nat.mul_one,Nat.add_zero] at hv;have hlt:k<s.data.toList.length:=by rw[Array.length_toList];exact hk
  have e1:v= .int .u8 ((s.data.toList[k]).toNat:Int):=by
   unfold strCells at hv;rw[List.getElem?_map,List.getElem?_eq_getElem hlt] at hv;exact(oJ7 hv).symm
  have e2:u= .int .u8 ((s.data.toList[k]).toNat:Int):=by
   unfold strG at hg;have e3:s.data.toList.getD k 0=s.data.toList[k]:=by rw[List.getD_eq_getElem?_getD,List.getElem?_eq_getElem hlt];rfl
   rw[e3] at hg;exact(oJ7 hg).symm
  subst e1;subst e2;exact .int
 ·intro As n c olds ho hz h63 hb;have hmax:n+s.size<=9223372036854775807:=by simp only[maxLen] at h63;omega
  rw[hsz] at ho hz ⊢;simp only[Nat.mul_one] at ho ⊢
  rcases Nat.eq_zero_or_pos s.size with h0 | h0
  ·have hnc:n<=c:=by
    rcases ho with⟨h1,h2,_⟩ | ⟨b,vs,_,_,h,_⟩<;>omega
   have hf:=run_firstCells_string (P:=C.P) w 1 s;have hs0:strCells s=[]:=List.eq_nil_of_length_eq_zero (by rw[strCells_length,h0]);rw[hs0,h0] at hf;refine⟨.slice As n c,w,?_,.inl ⟨h0,rfl,rfl⟩⟩
   cases As with
   |none=>simp[Builtin.append_,run_underlying hut,run_underlying huu,sizeOf,typeInfo,hi,hi1,Builtin.lenOf,h0,hnc,hf]
   |some a=>simp[Builtin.append_,run_underlying hut,run_underlying huu,sizeOf,typeInfo,hi,hi1,Builtin.lenOf,h0,hnc,hf,storeCells]
  ·have cap_of:∀old,grownCap w (n+s.size) old e ≥ n+s.size/\grownCap w (n+s.size) old e<=maxLen:=λold=>⟨grownCap_ge w (n+s.size) old e,grownCap_le_maxLen w (n+s.size) old e h63⟩;have hzs:∀k,(Builtin.zeroCells tie.zero.cells k).size=k:=λk=>by rw[size_zeroCells,hz,Nat.mul_one]
   rcases ho with⟨rfl,rfl,rfl⟩ | ⟨b,vs,rfl,hh,hnc,hvs,rfl⟩
   ·cases As with
    |none=>
     have hr:=run_append_nil_string (P:=C.P) w t t' ty e i tie.zero hut huu hi hiz s h0 (by omega) (by rw[hib];simp only[Nat.zero_add] at hb;omega);refine⟨_,_,hr,.inr (.inr ⟨grownCap w s.size 0 e,Builtin.zeroCells tie.zero.cells (grownCap w s.size 0 e - s.size),?_,?_,?_,by simp,?_⟩)⟩
     ·have:=(cap_of 0).1;simpa using this
     ·have:=(cap_of 0).2;simpa using this
     ·rw[hzs];simp
     ·congr 2;apply Array.ext';simp[strCells]
    |some a=>
     have hr:=run_append_grow_string (P:=C.P) w t t' ty e i tie.zero hut huu hi hiz a 0 0 [] (by simp) (by simp) s (by omega) (by omega) (growslice_fits (by omega) (by rw[hib];exact hb));exact⟨_,_,hr,.inr (.inr ⟨grownCap w (0+s.size) 0 e,Builtin.zeroCells tie.zero.cells (grownCap w (0+s.size) 0 e - (0+s.size)),(cap_of 0).1,(cap_of 0).2,hzs _,rfl,rfl⟩)⟩
   ·by_cases hroom:n+s.size<=c
    ·have hr:=run_append_room_string (P:=C.P) w t t' ty e i hut huu hi hi1 b n c vs hh s hroom (by omega);refine⟨_,_,hr,.inr (.inl ⟨b,vs,h0,rfl,hh,hroom,rfl,hvs,rfl,?_⟩)⟩;rw[strCells_length]
    ·have hol:(vs.toList.take n).length=n * i.size:=by rw[hi1];simp;omega
     have holds:∀j u,(vs.toList.take n)[j]?=some u->w.cell? ((⟨b,0,none⟩:Addr).add j)=some u:=by
      intro j u hu;rw[Addr.add_lit,Nat.zero_add,cell_of_row w b j vs e (0,0) hh];rw[List.getElem?_take] at hu;split at hu
      ·simpa using hu
      ·cases hu
     have hr:=run_append_grow_string (P:=C.P) w t t' ty e i tie.zero hut huu hi hiz ⟨b,0,none⟩ n c _ hol holds s (by omega) (by omega) (growslice_fits (by omega) (by rw[hib];exact hb));exact⟨_,_,hr,.inr (.inr ⟨grownCap w (n+s.size) c e,Builtin.zeroCells tie.zero.cells (grownCap w (n+s.size) c e - (n+s.size)),(cap_of c).1,(cap_of c).2,hzs _,rfl,rfl⟩)⟩
theorem wau.appendStr{C:Ctx}{N:Nat}{o:Oper}{T:Nat->Option AV}{O:Nat->Option AObj}{k:Nat}{te:TE}(hte:TE.ok C.P te){t t' e:TypeId}{ti tu tie:TI}{x y:Operand}{args:Array Operand}{ats:Array TypeId}{s r:AV}{l:List (Nat×AObj)}{str:List UInt8}{P:Prop}
  (hop:o.op= .call { callee:=.builtin .append,args:=args,argTypes:=ats }) (ha:args.toList=[x,y]) (hat:ats.toList=[t,t']) (hd:wa9 N o.dst=true) (ht:lk te t=some ti) (hdd:ti.desc= .slice e) (hu:lk te t'=some tu) (hud:tu.desc= .string)
  (he:lk te e=some tie) (hsz:tie.sz=1) (hx:evO T x=some s) (hy:evO T y=some (.str str)) (h:∀O':Nat->Option AObj,Sub O O'->appA O' k e tie str.length (strG str) True s=some (r,l,P)) (hP:P):wau C N o T O k r l:=by
 obtain⟨args⟩:=args;obtain⟨ats⟩:=ats;have ha:args=[x,y]:=ha;have hat:ats=[t,t']:=hat;subst ha;subst hat;intro E T' O' bs a w K Q hT hO hr hf hK;obtain⟨h0,h0'⟩:=hf k (lR7 _) (by omega);have hyv:=wbd hr.1 (wbf hT hy);generalize hey:a.eval y=vy at hyv
 cases hyv with
 |str hs=>
  rename_i bstr;have hbs0:bstr.data.toList=str:=hs;subst hbs0;have hsz2:bstr.data.toList.length=bstr.size:=by rw[Array.length_toList];rfl
  have hex:execOp a.eval o=Functor.map Next.value (Builtin.append_ #[t,t'] o.type #[a.eval x,.string bstr]):=by
   simp[execOp,resolve,invoke,builtin,hop,hey]
  obtain⟨nx,v,w',bs',h1,h2,h3,h4,h5,h6⟩:=wwm (ty:=o.type) hr.2 hr.1 h0 h0' (wbf hT hx) (λ_=>w55 hte ht hdd hu hud he hsz bstr) (by rw[← hsz2];exact h O' hO) hP;have hbs:∀r,¬ (k<=r/\r<k+16)->bs' r=bs r:=λr hr=>h3 r (by omega);unfold Oper.wp;have h1':(execOp a.eval o).run C.P w= .ok nx w':=by rw[hex];simpa using h1
  rw[h1']
  rcases h2 with rfl | ⟨rfl,rfl⟩
  ·exact hK bs' _ _ hbs ⟨(hr.1.step h4).putF hd h6,h5⟩
  ·exact hK bs' _ _ hbs ⟨(hr.1.step h4).putF hd h6,h5⟩
section
variable {C:Ctx} {E:Ent} {O:Nat->Option AObj} {bs:Nat->Option Hd} {w:World}
theorem WRep.burn(hW:WRep C E O bs w){x:Nat}{ox:AObj}(hO:O x=some ox)(hm:ox.mut=true){bx cx:Nat}(hb:bs x=some (.blk bx cx)){w':World}
  (hheap:∀b,b≠bx->w'.heap[b]?=w.heap[b]?) (hsize:w'.heap.size=w.heap.size) (h2:w'.os=w.os) (h3:TL C.cnt w' w) (h4:w'.output=w.output):
  Step w (MB E O bs) bs w' (MB E (up O x .dead) bs) bs/\WRep C E (up O x .dead) bs w':=by
 have hxm:mutB O bs bx:=⟨x,ox,cx,hO,hm,hb⟩;have back:∀b,mutB (up O x .dead) bs b->mutB O bs b:=by
  rintro b ⟨i,o',c',ho,hm',hbi⟩
  by_cases hr:x=i
  ·subst hr;rw[wav] at ho;injection ho with ho;subst ho;simp[AObj.mut] at hm'
  ·rw[wat _ _ _ hr] at ho;exact⟨i,o',c',ho,hm',hbi⟩
 refine hW.next (λb=>b=bx) (λi h hi=>hi) (λi b c' hi=>.inl hi) (λb hb'=>by subst hb';exact hxm) (λb _ hne=>hheap b hne) (by omega) (λb hb'=>.inl (back b hb')) (λhS i o' ho=>?_)
  (λi j o1 o2 b c1 c2 hi hj m1 m2 bi bj=>?_) (λi t sz n f b c' ho hb'=>?_) h2 ⟨h3.tape,h3.drawn⟩ h4
 ·by_cases hr:x=i
  ·subst hr;rw[wav] at ho;injection ho with ho;subst ho;exact .inr trivial
  ·rw[wat _ _ _ hr] at ho
   cases hmi:o'.mut with
   |true=>
    refine .inl ⟨ho,λb c' hbi e=>?_⟩;subst e;exact hr (hW.sep x i ox o' b cx c' hO ho hm hmi hb hbi)
   |false=>
    cases o' with
    |dead=>exact .inr trivial
    |row t sz n f fr=>
     have:fr=true:=by simpa[AObj.mut] using hmi
     subst this;refine .inl ⟨ho,λb c' hbi e=>?_⟩;subst e;exact hW.frz i t sz n f b c' ho hbi (.inr hxm)
    |_=>simp[AObj.mut] at hmi
 ·have bk:∀ {k:Nat} {o':AObj},up O x .dead k=some o'->o'.mut=true->O k=some o':=by
   intro k o' hk hmk
   by_cases hr:x=k
   ·subst hr;rw[wav] at hk;injection hk with hk;subst hk;simp[AObj.mut] at hmk
   ·rw[wat _ _ _ hr] at hk;exact hk
  exact hW.sep i j o1 o2 b c1 c2 (bk hi m1) (bk hj m2) m1 m2 bi bj
 ·by_cases hr:x=i
  ·subst hr;rw[wav] at ho;injection ho with ho;cases ho
  ·rw[wat _ _ _ hr] at ho;have hf:=hW.frz i t sz n f b c' ho hb';exact⟨λh=>hf (.inr (back b h)),λh=>hf (.inl h)⟩
end
theorem w4d(w:World)(g n b:Nat)(h:b≠g):(w.freeze ⟨g,0,none⟩ n).heap[b]?=w.heap[b]?:=by
 unfold World.freeze;split
 ·rfl
 ·show (w.heap.modify g _)[b]?=_;rw[Array.getElem?_modify,if_neg (Ne.symm h)]
theorem w4b(w:World)(g n:Nat):(w.freeze ⟨g,0,none⟩ n).heap.size=w.heap.size:=by
 unfold World.freeze;split
 ·rfl
 ·exact Array.size_modify ..
theorem w4c(w:World)(a:Addr)(n:Nat):(w.freeze a n).os=w.os/\(w.freeze a n).output=w.output/\(w.freeze a n).tape=w.tape/\(w.freeze a n).drawn=w.drawn:=by
 unfold World.freeze;split<;>exact⟨rfl,rfl,rfl,rfl⟩
section
variable {C:Ctx} {N:Nat} {o:Oper} {T:Nat->Option AV} {O:Nat->Option AObj} {k:Nat} {te:TE}
theorem wau.sliceData{x:Operand}{args:Array Operand}{ats:Array TypeId}{r n:Nat}(hop:o.op= .call { callee:=.builtin .unsafeSliceData,args:=args,argTypes:=ats })(ha:args.toList=[x])(hd:wa9 N o.dst=true)
  (hx:evO T x=some (.own r n)) {t:TypeId} {n0 sz:Nat} {f:Nat->List AV} (_hO:O r=some (.row t sz n0 f false)) (h0:0<n):wau C N o T O k (.eptr r sz 0 0) []:=by
 obtain⟨args⟩:=args;have ha:args=[x]:=ha;subst ha;intro E T' O' bs a w K Q hT hOs hr hf hK;have hxv:=wbd hr.1 (wbf hT hx);generalize hev:a.eval x=vx at hxv
 cases hxv with
 |ownnil _ hn=>omega
 |own hbr hnc hcm=>
  rename_i b c;have hrun:(execOp a.eval o).run C.P w= .ok (.value (.pointer (some ⟨b,0,none⟩))) w:=by
   have:=run_unsafeSliceData_row (P:=C.P) w ats o.type ⟨b,0,none⟩ n c (by omega);simp[execOp,resolve,invoke,builtin,hop,hev,this]
  unfold Oper.wp;rw[hrun];have hV:V w (MB E O' bs) bs (.pointer (some ⟨b,0,none⟩)) (.eptr r sz 0 0):=by
   have:=V.eptr (w:=w) (M:=MB E O' bs) (r:=r) (sz:=sz) (i:=0) (off:=0) hbr;simpa using this
  exact hK bs _ _ (λ_ _=>rfl) ⟨hr.1.putF hd hV,hr.2⟩
theorem w5n{m:Nat}{g:Nat->List AV}(hg:∀i,i<m->isU8 (g i)=true){j:Nat}{x:UInt8}(h:(waq m g)[j]?=some x):j<m/\∃n:Int,g j=[.int .u8 n]/\x=UInt8.ofNat n.toNat:=by
 unfold waq at h;rw[List.getElem?_map] at h
 rcases Nat.lt_or_ge j m with q | q
 ·rw[List.getElem?_range q] at h;have hgj:=hg j q;unfold isU8 at hgj;split at hgj
  ·rename_i n hh;refine⟨q,n,hh,?_⟩;have h:some (UInt8.ofNat (war ((g j).headD .any)).toNat)=some x:=h;rw[hh] at h;exact(oJ7 h).symm
  ·cases hgj
 ·rw[List.getElem?_eq_none (by simpa using q)] at h
  cases h
theorem wau.unsafeStr(hte:TE.ok C.P te){x y:Operand}{args:Array Operand}{ats:Array TypeId}{pt it e:TypeId}{tp tie:TI}{r n:Nat}{m:Int}{f:Nat->List AV}
  (hop:o.op= .call { callee:=.builtin .unsafeString,args:=args,argTypes:=ats }) (ha:args.toList=[x,y]) (hat:ats.toList=[pt,it]) (hd:wa9 N o.dst=true)
  (hx:evO T x=some (.eptr r 1 0 0)) (hy:evO T y=some (.int .i64 m)) (hp:lk te pt=some tp) (hpd:tp.desc= .pointer e) (he:lk te e=some tie) (hsz:tie.sz=1) (hO:O r=some (.row e 1 n f false))
  (h0:0<m) (hm:m<=n) (hg:∀i,i<m.toNat->isU8 (f i)=true) (hr8:∀i,i<m.toNat->∀q,f i=[.int .u8 q]->0<=q/\q<256):wau C N o T O k (.str (waq m.toNat f)) [(r,.dead)]:=by
 obtain⟨args⟩:=args;obtain⟨ats⟩:=ats;have ha:args=[x,y]:=ha;have hat:ats=[pt,it]:=hat;subst ha;subst hat;intro E T' O' bs a w K Q hT hOs hr hf hK;have hxv:=wbd hr.1 (wbf hT hx);have hyv:=(wbd hr.1 (wbf hT hy)).int_iff;generalize hev:a.eval x=vx at hxv
 cases hxv with
 |eptr hbr=>
  rename_i b c;have hOr:=hOs _ _ hO
  rcases hr.2.obj r _ hOr with⟨q1,q2⟩ | ⟨b',c',vs,hb',hh,hnc,hcm,hvs,hfl,hf1,hfV⟩
  ·rw[q1] at hbr;cases hbr
  ·rw[hb'] at hbr;injection hbr with hbr;injection hbr with e1 e2;subst e1;subst e2;have hup:C.P.underlying pt=some (.pointer e):=by rw[← hpd];exact(hte pt tp hp).1
   obtain⟨i,hi,his,_,_⟩:=(hte e tie he).2.1;have hc1:C.P.cellsOf e=1:=by unfold Program.cellsOf;rw[hi];show i.size=1;rw[his,hsz]
   have hlen:(waq m.toNat f).length=m.toNat:=by simp[waq]
   have hcell:∀j z,(waq m.toNat f)[j]?=some z->w.cell? ((⟨b',0,none⟩:Addr).add j)=some (.int .u8 z.toNat):=by
    intro j z hz;obtain⟨hj,q,hfj,rfl⟩:=w5n hg hz;rw[Addr.add_lit,Nat.zero_add,cell_of_row w b' j vs e (0,0) hh];have hjs:j<vs.size:=by rw[hvs];omega
    have:=hfV j (by omega) 0 (vs[j]) (.int .u8 q) (by omega) (by simp[hjs]) (by rw[hfj];rfl);have hi:=this.int_iff;rw[Array.getElem?_eq_getElem hjs,hi];obtain⟨b1,b2⟩:=hr8 j hj q hfj;have:((UInt8.ofNat q.toNat).toNat:Int)=q:=by
     rw[UInt8.toNat_ofNat'];omega
    rw[this]
   have hne:waq m.toNat f≠[]:=λz=>by rw[z] at hlen;simp at hlen;omega
   have hrun0:=run_unsafeString_row (P:=C.P) w pt it o.type e hup hc1 b' vs.size (by simp[World.shape?,hh]) (waq m.toNat f) hne (by rw[hlen,hvs];omega) (by rw[hlen];unfold maxLen at hcm;omega) hcell;have hml:((waq m.toNat f).length:Int)=m:=by rw[hlen];omega
   rw[hml] at hrun0;have hrun:(execOp a.eval o).run C.P w= .ok (.value (.string ⟨(waq m.toNat f).toArray⟩)) (w.freeze ⟨b',0,none⟩ (waq m.toNat f).length):=by
    simp[execOp,resolve,invoke,builtin,hop,hev,hyv,hrun0]
   obtain⟨g1,g2,g3,g4⟩:=w4c w ⟨b',0,none⟩ (waq m.toNat f).length;obtain⟨k1,k2⟩:=hr.2.burn hOr rfl hb' (w':=w.freeze ⟨b',0,none⟩ (waq m.toNat f).length) (λb hb=>w4d _ _ _ _ hb) (w4b _ _ _) g1 ⟨g3,λ_=>Nat.le_of_eq g4.symm⟩ g2;unfold Oper.wp;rw[hrun];exact hK bs _ _ (λ_ _=>rfl) ⟨(hr.1.step k1).putF hd (.str rfl),k2⟩
end
end Go.Eng
