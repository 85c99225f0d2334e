/- The weakest precondition as a function: operations and calls: it serves. -/
import Derived.Test.YtgcboligphndhaaGreatDoorWqc
import Derived.Lib.AppendStr
import Derived.Lib.UnsafeStr
import Derived.Laws.MakeOwn
import Derived.Maps.RangeRun
namespace Go.Eng
open Go.RowKit
section
variable {C:Ctx} {N:Nat} {o:Oper} {T T':Nat->Option AV} {O O':Nat->Option AObj} {k:Nat} {te:TE}
theorem way.mapEntryA(hte:TE.ok C.P te)(hn:∀t ti,lk te t=some ti->wa8 ti.desc=false->ti.sz=1){mt kt et:TypeId}{mx kx:Operand}{r idx:Nat}{es es':List (AV×AV)}{ku u0 zv:AV}{ti tk tie:TI}
  (hop:o.op= .mapEntry mt mx kx) (hd:wba N o.dst=true) (hm:evO T mx=some (.map r)) (hk:evO T kx=some ku) (ht:lk te mt=some ti) (htd:ti.desc= .map kt et) (_hkt:lk te kt=some tk) (het:lk te et=some tie)
  (hO:O r=some (.amap es)) (hkK:keyA te kt ku=true) (hz:wgc tie.zero=some u0) (hks:(es.all λp=>keyA te kt p.1)=true)
  (hH:(∀(j:Nat) v,es[j]?=some (ku,v)->es'=es/\idx=j/\zv=v)/\((∀p∈es,p.1≠ku)->es'=es++[(ku,u0)]/\idx=es.length/\zv=u0)):
  way C N o T O k (.tuple [zv,.int .i64 idx]) [(r,.amap es')]:=by
 intro E T' O' bs a w K Q hT hOs hr hf hK;have hmv:=wbe hr.1 (wbg hT hm);have hkv:=wbe hr.1 (wbg hT hk);have hOr:=hOs _ _ hO;obtain⟨b,c,ents,clock,h1,h2,h3,h4⟩:=hr.2.obj r _ hOr;generalize hmx:a.eval mx=mv at hmv;generalize hkx:a.eval kx=kv at hkv
 cases hmv with | map hbr=>
 rw[h1] at hbr;injection hbr with hbr;injection hbr with e1 e2;subst e1;subst e2;have hund:=wbt hte (w:=w) ht;have hzr:=wgh hte (w:=w) het;have hz':V w (MB E O' bs) bs tie.zero u0:=wqe hz;obtain⟨ks,rfl⟩:∃ks,ku= .agg ks:=by
  cases ku with
  |agg ks=>exact⟨ks,rfl⟩
  |_=>simp[keyA] at hkK
 obtain⟨tk2,fs,hk2,hfs,_⟩:=wgq hn hkK hkK;have hund2:C.P.underlying kt=some (.struct fs):=by rw[(hte kt tk2 hk2).1,hfs]
 have hck:=λem=>ws7 hte hn hkK hkv em;have hfk:(Instr.findKey kt kv ents.toList).run C.P w=(Instr.findAsking kt kv ents.toList).run C.P w:=run_findKey_eq w (by rw[hund2]) kv ents.toList;have hst:=wqy (P:=C.P) hn hkK hkv;have fin:∀ents' clock' v,(Instr.mapEntry mt (.map (some b)) kv).run C.P w= .ok (.tuple #[v,goInt idx]) { w with heap:=w.heap.setIfInBounds b (.map ents' clock') }->V w (MB E O' bs) bs v zv->
   (∀w' M',Step w (MB E O' bs) bs w' M' bs->wim w' M' bs ents' es')->wqd ents' clock'->o.wp C.P a w K Q:=by
  intro ents' clock' v hrun hv hent hborn;have:(execOp a.eval o).run C.P w= .ok (.value (.tuple #[v,goInt idx])) { w with heap:=w.heap.setIfInBounds b (.map ents' clock') }:=by simp[execOp,hop,hmx,hkx,hrun]
  unfold Oper.wp;rw[this];obtain⟨g1,g2⟩:=MapKept.heap_set (o':=.map ents' clock') h2
  obtain⟨hS,hW⟩:=hr.2.modify (x:=r) (o:=.amap es') hOr rfl h1 (w':={ w with heap:=w.heap.setIfInBounds b (.map ents' clock') }) (λb' hb'=>g2 b' hb') (by simp) rfl ⟨rfl,λ_=>lR7 _⟩ rfl rfl
   (λhS=>⟨b,c,ents',clock',h1,g1,hent _ _ hS,hborn⟩)
  refine hK bs _ _ (λ_ _=>rfl) ⟨(hr.1.step hS).putF hd (.tuple rfl λj v u hv' hu=>?_),hW⟩
  match j with
  |0=>simp at hv' hu;subst hv';subst hu;exact hv.step hS
  |1=>simp at hv' hu;subst hv';subst hu;exact .int
  |j+2=>simp at hv'
 rcases wlo hte hn hkK hkv ents.toList es 0 (by simpa using h3.1) (λj e p q1 q2=>h3.2 j e p (by simpa using q1) q2) hks with⟨f1,f2⟩ | ⟨j,e,v,f1,f20,f3,f4,f5⟩
 .obtain⟨rfl,rfl,rfl⟩:=hH.2 f2;have hcl:(clock:Int)=(es.length:Int):=by rw[h4.1,h3.1]
  refine fin (ents.push ⟨kv,tie.zero,clock⟩) (clock+1) tie.zero ?_ hz' (λw' M' hS=>⟨by simp[h3.1],λi e p hi hp=>?_⟩) ⟨by simp[h4.1],λi e hi=>?_⟩
  .simp[Instr.mapEntry,hund,htd,MapKept.run_getObj_map h2,hck,hfk,f1,hzr,MapKept.run_setObj_map _ h2,Result.andThen,hcl]
  .rw[Array.getElem?_push] at hi;split at hi
   .rename_i hie;simp only[sI7] at hi;subst hi;rw[hie,h3.1] at hp;simp at hp;subst hp;exact⟨hkv.step hS,hz'.step hS⟩
   .have hlt:i<es.length:=by rw[← h3.1];exact(Array.getElem?_eq_some_iff.1 hi).1
    rw[List.getElem?_append_left hlt] at hp;obtain⟨x,y⟩:=h3.2 i e p hi hp;exact⟨x.step hS,y.step hS⟩
  .rw[Array.getElem?_push] at hi;split at hi
   .rename_i hie;simp only[sI7] at hi;subst hi;rw[hie];exact h4.1
   .exact h4.2 i e hi
 .have f2:ents[j]?=some e:=by simpa using f20
  rw[Nat.zero_add] at f1;obtain⟨rfl,rfl,rfl⟩:=hH.1 j v f4;subst f3;have hborn:=h4.2 idx e f2;refine fin (ents.modify idx λe'=>{ e' with key:=e.key }) clock e.val ?_ f5 (λw' M' hS=>⟨by simp[h3.1],λi e' p hi hp=>?_⟩) ⟨by simp[h4.1],λi e' hi=>?_⟩
  .simp[Instr.mapEntry,hund,htd,MapKept.run_getObj_map h2,hck,hfk,f1,f2,hst,MapKept.run_setObj_map _ h2,Result.andThen,hborn]
  .rw[Array.getElem?_modify] at hi;split at hi
   .rename_i hji;subst hji;rw[f2] at hi;simp only[Option.map_some,sI7] at hi;subst hi;obtain⟨x,y⟩:=h3.2 idx e p f2 hp;exact⟨x.step hS,y.step hS⟩
   .obtain⟨x,y⟩:=h3.2 i e' p hi hp;exact⟨x.step hS,y.step hS⟩
  .rw[Array.getElem?_modify] at hi;split at hi
   .rename_i hji;subst hji;rw[f2] at hi;simp only[Option.map_some,sI7] at hi;subst hi;exact hborn
   .exact h4.2 i e' hi
theorem way.entryStore{mt:TypeId}{mx sx vx:Operand}{r:Nat}{kk:IntKind}{s:Int}{es:List (AV×AV)}{vu:AV}
  (hop:o.op= .entryStore mt mx sx vx) (hd:o.dst=none) (hm:evO T mx=some (.map r)) (hs:evO T sx=some (.int kk s)) (hv:evO T vx=some vu)
  (hO:O r=some (.amap es)) (h0:0<=s) (hl:s<es.length):way C N o T O k .any [(r,.amap (es.set s.toNat ((es.getD s.toNat (.any,.any)).1,vu)))]:=by
 intro E T' O' bs a w K Q hT hOs hr hf hK;have hmv:=wbe hr.1 (wbg hT hm);have hsv:=(wbe hr.1 (wbg hT hs)).int_iff;have hvv:=wbe hr.1 (wbg hT hv);have hOr:=hOs _ _ hO;obtain⟨b,c,ents,clock,h1,h2,h3,h4⟩:=hr.2.obj r _ hOr;generalize hmx:a.eval mx=mv at hmv;generalize hvx:a.eval vx=vv at hvv
 cases hmv with | map hbr=>
 rw[h1] at hbr;injection hbr with hbr;injection hbr with e1 e2;subst e1;subst e2;obtain⟨j,rfl⟩:∃j:Nat,s=(j:Int):=⟨s.toNat,by omega⟩;simp only[tN7] at hK;have hj:j<es.length:=by omega
 have hje:j<ents.size:=by rw[h3.1];exact hj
 have hidx:ents.findIdx? (λe=>(e.born:Int)==(j:Int))=some j:=by
  rw[Array.findIdx?_eq_some_iff_getElem];refine⟨hje,?_,λi hi=>?_⟩
  .have:=h4.2 j ents[j] (Array.getElem?_eq_getElem hje);simp[this]
  .have:=h4.2 i ents[i] (Array.getElem?_eq_getElem (by omega));simp[this];omega
 have hrun:(Instr.entryStore mt (.map (some b)) (.int kk (j:Int)) vv).run C.P w= .ok () { w with heap:=w.heap.setIfInBounds b (.map (ents.modify j λe=>{ e with val:=vv }) clock) }:=by
  simp[Instr.entryStore,MapKept.run_getObj_map h2,asInt,asIntOf,hidx,MapKept.run_setObj_map _ h2,Result.andThen]
 have:(execOp a.eval o).run C.P w= .ok .skip { w with heap:=w.heap.setIfInBounds b (.map (ents.modify j λe=>{ e with val:=vv }) clock) }:=by simp[execOp,hop,hmx,hsv,hvx,hrun]
 unfold Oper.wp;rw[this];obtain⟨g1,g2⟩:=MapKept.heap_set (o':=.map (ents.modify j λe=>{ e with val:=vv }) clock) h2
 obtain⟨hS,hW⟩:=hr.2.modify (x:=r) (o:=.amap (es.set j ((es.getD j (.any,.any)).1,vu))) hOr rfl h1 (w':={ w with heap:=w.heap.setIfInBounds b (.map (ents.modify j λe=>{ e with val:=vv }) clock) }) (λb' hb'=>g2 b' hb') (by simp) rfl ⟨rfl,λ_=>lR7 _⟩ rfl rfl
  (λhS=>⟨b,c,_,clock,h1,g1,⟨by simp[h3.1],λi e' p hi hp=>by
   rw[Array.getElem?_modify] at hi;split at hi
   .rename_i hji;subst hji;rw[Array.getElem?_eq_getElem hje] at hi;simp only[Option.map_some,sI7] at hi;subst hi;rw[List.getElem?_set_self hj] at hp;simp only[sI7] at hp;subst hp;obtain⟨x,_⟩:=h3.2 j ents[j] es[j] (Array.getElem?_eq_getElem hje) (List.getElem?_eq_getElem hj);have e:es[j].1=(es.getD j (.any,.any)).1:=by simp[hj]
    rw[e] at x;exact⟨x.step hS,hvv.step hS⟩
   .rename_i hji;rw[List.getElem?_set_ne hji] at hp;obtain⟨x,y⟩:=h3.2 i e' p hi hp;exact⟨x.step hS,y.step hS⟩⟩,by simp[h4.1],λi e' hi=>by
   rw[Array.getElem?_modify] at hi;split at hi
   .rename_i hji;subst hji;rw[Array.getElem?_eq_getElem hje] at hi;simp only[Option.map_some,sI7] at hi;subst hi;exact h4.2 j ents[j] (Array.getElem?_eq_getElem hje)
   .exact h4.2 i e' hi⟩)
 refine hK bs _ _ (λ_ _=>rfl) ⟨?_,hW⟩;rw[hd];exact hr.1.step hS
end
end Go.Eng
namespace Go.Eng
open Go.Lib
def wao:AV->Int
 |.int _ n=>n
 |_=>0
def isU8:List AV->Bool
 |[.int .u8 _]=>true
 |_=>false
def waq(m:Nat)(g:Nat->List AV):List UInt8:=(List.range m).map λi=>UInt8.ofNat (wao ((g i).headD .any)).toNat
def strG(s:List UInt8)(i:Nat):List AV:=[.int .u8 ((s.getD i 0).toNat:Int)]
theorem w83{C:Ctx}{te:TE}(hte:TE.ok C.P te){E:Ent}{O:Nat->Option AObj}{bs:Nat->Option Hd}{w:World}{t t' e ty:TypeId}{ti tu tie:TI}
  (ht:lk te t=some ti) (hd:ti.desc= .slice e) (hu:lk te t'=some tu) (hud:tu.desc= .string) (he:lk te e=some tie) (hsz:tie.sz=1) (s:ByteArray):
  AppSrc C E O bs w e tie #[t,t'] ty (.string s) s.size (strG s.data.toList):=by
 have hut:C.P.underlying t=some (.slice e):=by rw[← hd];exact(hte t ti ht).1
 have huu:C.P.underlying t'=some .string:=by rw[← hud];exact(hte t' tu hu).1
 obtain⟨i,hi,his,hib,hiz⟩:=(hte e tie he).2.1;have hi1:i.size=1:=by rw[his,hsz]
 refine⟨strCells s,by rw[strCells_length,hsz,Nat.mul_one],strCells_oneCell s,λk _=>by rw[hsz];rfl,λk hk j u v hj hg hv=>?_,?_⟩
 .have hj0:j=0:=by omega
  subst hj0;rw[hsz,Nat.mul_one,Nat.add_zero] at hv;have hlt:k<s.data.toList.length:=by rw[Array.length_toList];exact hk
  have e1:v= .int .u8 ((s.data.toList[k]).toNat:Int):=by
   unfold strCells at hv;rw[List.getElem?_map,List.getElem?_eq_getElem hlt] at hv;exact(oJ7 hv).symm
  have e2:u= .int .u8 ((s.data.toList[k]).toNat:Int):=by
   unfold strG at hg;have e3:s.data.toList.getD k 0=s.data.toList[k]:=by rw[List.getD_eq_getElem?_getD,List.getElem?_eq_getElem hlt];rfl
   rw[e3] at hg;exact(oJ7 hg).symm
  subst e1;subst e2;exact .int
 .intro As n c olds ho hz h63 hb;have hmax:n+s.size<=9223372036854775807:=by simp only[maxLen] at h63;omega
  rw[hsz] at ho hz ⊢;simp only[Nat.mul_one] at ho ⊢
  rcases Nat.eq_zero_or_pos s.size with h0 | h0
  .have hnc:n<=c:=by
    rcases ho with⟨h1,h2,_⟩ | ⟨b,vs,_,_,h,_⟩<;>omega
   have hf:=run_firstCells_string (P:=C.P) w 1 s;have hs0:strCells s=[]:=List.eq_nil_of_length_eq_zero (by rw[strCells_length,h0]);rw[hs0,h0] at hf;refine⟨.slice As n c,w,?_,.inl ⟨h0,rfl,rfl⟩⟩
   cases As with
   |none=>simp[Builtin.append_,run_underlying hut,run_underlying huu,sizeOf,typeInfo,hi,hi1,Builtin.lenOf,h0,hnc,hf]
   |some a=>simp[Builtin.append_,run_underlying hut,run_underlying huu,sizeOf,typeInfo,hi,hi1,Builtin.lenOf,h0,hnc,hf,storeCells]
  .have cap_of:∀old,grownCap w (n+s.size) old e ≥ n+s.size/\grownCap w (n+s.size) old e<=maxLen:=λold=>⟨grownCap_ge w (n+s.size) old e,grownCap_le_maxLen w (n+s.size) old e h63⟩;have hzs:∀k,(Builtin.zeroCells tie.zero.cells k).size=k:=λk=>by rw[size_zeroCells,hz,Nat.mul_one]
   rcases ho with⟨rfl,rfl,rfl⟩ | ⟨b,vs,rfl,hh,hnc,hvs,rfl⟩
   .cases As with
    |none=>
     have hr:=run_append_nil_string (P:=C.P) w t t' ty e i tie.zero hut huu hi hiz s h0 (by omega) (by rw[hib];simp only[Nat.zero_add] at hb;omega);refine⟨_,_,hr,.inr (.inr ⟨grownCap w s.size 0 e,Builtin.zeroCells tie.zero.cells (grownCap w s.size 0 e - s.size),?_,?_,?_,by simp,?_⟩)⟩
     .have:=(cap_of 0).1;simpa using this
     .have:=(cap_of 0).2;simpa using this
     .rw[hzs];simp
     .congr 2;apply Array.ext';simp[strCells]
    |some a=>
     have hr:=run_append_grow_string (P:=C.P) w t t' ty e i tie.zero hut huu hi hiz a 0 0 [] (by simp) (by simp) s (by omega) (by omega) (growslice_fits (by omega) (by rw[hib];exact hb));exact⟨_,_,hr,.inr (.inr ⟨grownCap w (0+s.size) 0 e,Builtin.zeroCells tie.zero.cells (grownCap w (0+s.size) 0 e - (0+s.size)),(cap_of 0).1,(cap_of 0).2,hzs _,rfl,rfl⟩)⟩
   .by_cases hroom:n+s.size<=c
    .have hr:=run_append_room_string (P:=C.P) w t t' ty e i hut huu hi hi1 b n c vs hh s hroom (by omega);refine⟨_,_,hr,.inr (.inl ⟨b,vs,h0,rfl,hh,hroom,rfl,hvs,rfl,?_⟩)⟩;rw[strCells_length]
    .have hol:(vs.toList.take n).length=n * i.size:=by rw[hi1];simp;omega
     have holds:∀j u,(vs.toList.take n)[j]?=some u->w.cell? ((⟨b,0,none⟩:Addr).add j)=some u:=by
      intro j u hu;rw[Addr.add_lit,Nat.zero_add,cell_of_row w b j vs e (0,0) hh];rw[List.getElem?_take] at hu;split at hu
      .simpa using hu
      .cases hu
     have hr:=run_append_grow_string (P:=C.P) w t t' ty e i tie.zero hut huu hi hiz ⟨b,0,none⟩ n c _ hol holds s (by omega) (by omega) (growslice_fits (by omega) (by rw[hib];exact hb));exact⟨_,_,hr,.inr (.inr ⟨grownCap w (n+s.size) c e,Builtin.zeroCells tie.zero.cells (grownCap w (n+s.size) c e - (n+s.size)),(cap_of c).1,(cap_of c).2,hzs _,rfl,rfl⟩)⟩
theorem way.appendStr{C:Ctx}{N:Nat}{o:Oper}{T:Nat->Option AV}{O:Nat->Option AObj}{k:Nat}{te:TE}(hte:TE.ok C.P te){t t' e:TypeId}{ti tu tie:TI}{x y:Operand}{args:Array Operand}{ats:Array TypeId}{s r:AV}{l:List (Nat×AObj)}{str:List UInt8}{P:Prop}
  (hop:o.op= .call { callee:=.builtin .append,args:=args,argTypes:=ats }) (ha:args.toList=[x,y]) (hat:ats.toList=[t,t']) (hd:wba N o.dst=true) (ht:lk te t=some ti) (hdd:ti.desc= .slice e) (hu:lk te t'=some tu) (hud:tu.desc= .string)
  (he:lk te e=some tie) (hsz:tie.sz=1) (hx:evO T x=some s) (hy:evO T y=some (.str str)) (h:∀O':Nat->Option AObj,Sub O O'->appA O' k e tie str.length (strG str) True s=some (r,l,P)) (hP:P):way C N o T O k r l:=by
 obtain⟨args⟩:=args;obtain⟨ats⟩:=ats;have ha:args=[x,y]:=ha;have hat:ats=[t,t']:=hat;subst ha;subst hat;intro E T' O' bs a w K Q hT hO hr hf hK;obtain⟨h0,h0'⟩:=hf k (lR7 _) (by omega);have hyv:=wbe hr.1 (wbg hT hy);generalize hey:a.eval y=vy at hyv
 cases hyv with
 |str hs=>
  rename_i bstr;have hbs0:bstr.data.toList=str:=hs;subst hbs0;have hsz2:bstr.data.toList.length=bstr.size:=by rw[Array.length_toList];rfl
  have hex:execOp a.eval o=Functor.map Next.value (Builtin.append_ #[t,t'] o.type #[a.eval x,.string bstr]):=by
   simp[execOp,resolve,invoke,builtin,hop,hey]
  obtain⟨nx,v,w',bs',h1,h2,h3,h4,h5,h6⟩:=wyp (ty:=o.type) hr.2 hr.1 h0 h0' (wbg hT hx) (λ_=>w83 hte ht hdd hu hud he hsz bstr) (by rw[← hsz2];exact h O' hO) hP;have hbs:∀r,¬ (k<=r/\r<k+16)->bs' r=bs r:=λr hr=>h3 r (by omega);unfold Oper.wp;have h1':(execOp a.eval o).run C.P w= .ok nx w':=by rw[hex];simpa using h1
  rw[h1']
  rcases h2 with rfl | ⟨rfl,rfl⟩
  .exact hK bs' _ _ hbs ⟨(hr.1.step h4).putF hd h6,h5⟩
  .exact hK bs' _ _ hbs ⟨(hr.1.step h4).putF hd h6,h5⟩
section
variable {C:Ctx} {E:Ent} {O:Nat->Option AObj} {bs:Nat->Option Hd} {w:World}
theorem WRep.burn(hW:WRep C E O bs w){x:Nat}{ox:AObj}(hO:O x=some ox)(hm:ox.mut=true){bx cx:Nat}(hb:bs x=some (.blk bx cx)){w':World}
  (hheap:∀b,b≠bx->w'.heap[b]?=w.heap[b]?) (hsize:w'.heap.size=w.heap.size) (h2:w'.os=w.os) (h3:TL C.cnt w' w) (h4:w'.output=w.output):
  Step w (MB E O bs) bs w' (MB E (up O x .dead) bs) bs/\WRep C E (up O x .dead) bs w':=by
 have hxm:mutB O bs bx:=⟨x,ox,cx,hO,hm,hb⟩;have back:∀b,mutB (up O x .dead) bs b->mutB O bs b:=by
  rintro b ⟨i,o',c',ho,hm',hbi⟩
  by_cases hr:x=i
  .subst hr;rw[waz] at ho;injection ho with ho;subst ho;simp[AObj.mut] at hm'
  .rw[wav _ _ _ hr] at ho;exact⟨i,o',c',ho,hm',hbi⟩
 refine hW.next (λb=>b=bx) (λi h hi=>hi) (λi b c' hi=>.inl hi) (λb hb'=>by subst hb';exact hxm) (λb _ hne=>hheap b hne) (by omega) (λb hb'=>.inl (back b hb')) (λhS i o' ho=>?_)
  (λi j o1 o2 b c1 c2 hi hj m1 m2 bi bj=>?_) (λi t sz n f b c' ho hb'=>?_) h2 ⟨h3.tape,h3.drawn⟩ h4
 .by_cases hr:x=i
  .subst hr;rw[waz] at ho;injection ho with ho;subst ho;exact .inr trivial
  .rw[wav _ _ _ hr] at ho
   cases hmi:o'.mut with
   |true=>
    refine .inl ⟨ho,λb c' hbi e=>?_⟩;subst e;exact hr (hW.sep x i ox o' b cx c' hO ho hm hmi hb hbi)
   |false=>
    cases o' with
    |dead=>exact .inr trivial
    |row t sz n f fr=>
     have:fr=true:=by simpa[AObj.mut] using hmi
     subst this;refine .inl ⟨ho,λb c' hbi e=>?_⟩;subst e;exact hW.frz i t sz n f b c' ho hbi (.inr hxm)
    |_=>simp[AObj.mut] at hmi
 .have bk:∀ {k:Nat} {o':AObj},up O x .dead k=some o'->o'.mut=true->O k=some o':=by
   intro k o' hk hmk
   by_cases hr:x=k
   .subst hr;rw[waz] at hk;injection hk with hk;subst hk;simp[AObj.mut] at hmk
   .rw[wav _ _ _ hr] at hk;exact hk
  exact hW.sep i j o1 o2 b c1 c2 (bk hi m1) (bk hj m2) m1 m2 bi bj
 .by_cases hr:x=i
  .subst hr;rw[waz] at ho;injection ho with ho;cases ho
  .rw[wav _ _ _ hr] at ho;have hf:=hW.frz i t sz n f b c' ho hb';exact⟨λh=>hf (.inr (back b h)),λh=>hf (.inl h)⟩
end
theorem w7d(w:World)(g n b:Nat)(h:b≠g):(w.freeze ⟨g,0,none⟩ n).heap[b]?=w.heap[b]?:=by
 unfold World.freeze;split
 .rfl
 .show (w.heap.modify g _)[b]?=_;rw[Array.getElem?_modify,if_neg (Ne.symm h)]
theorem w7b(w:World)(g n:Nat):(w.freeze ⟨g,0,none⟩ n).heap.size=w.heap.size:=by
 unfold World.freeze;split
 .rfl
 .exact Array.size_modify ..
theorem w7c(w:World)(a:Addr)(n:Nat):(w.freeze a n).os=w.os/\(w.freeze a n).output=w.output/\(w.freeze a n).tape=w.tape/\(w.freeze a n).drawn=w.drawn:=by
 unfold World.freeze;split<;>exact⟨rfl,rfl,rfl,rfl⟩
section
variable {C:Ctx} {N:Nat} {o:Oper} {T:Nat->Option AV} {O:Nat->Option AObj} {k:Nat} {te:TE}
theorem way.sliceData{x:Operand}{args:Array Operand}{ats:Array TypeId}{r n:Nat}(hop:o.op= .call { callee:=.builtin .unsafeSliceData,args:=args,argTypes:=ats })(ha:args.toList=[x])(hd:wba N o.dst=true)
  (hx:evO T x=some (.own r n)) {t:TypeId} {n0 sz:Nat} {f:Nat->List AV} (_hO:O r=some (.row t sz n0 f false)) (h0:0<n):way C N o T O k (.eptr r sz 0 0) []:=by
 obtain⟨args⟩:=args;have ha:args=[x]:=ha;subst ha;intro E T' O' bs a w K Q hT hOs hr hf hK;have hxv:=wbe hr.1 (wbg hT hx);generalize hev:a.eval x=vx at hxv
 cases hxv with
 |ownnil _ hn=>omega
 |own hbr hnc hcm=>
  rename_i b c;have hrun:(execOp a.eval o).run C.P w= .ok (.value (.pointer (some ⟨b,0,none⟩))) w:=by
   have:=run_unsafeSliceData_row (P:=C.P) w ats o.type ⟨b,0,none⟩ n c (by omega);simp[execOp,resolve,invoke,builtin,hop,hev,this]
  unfold Oper.wp;rw[hrun];have hV:V w (MB E O' bs) bs (.pointer (some ⟨b,0,none⟩)) (.eptr r sz 0 0):=by
   have:=V.eptr (w:=w) (M:=MB E O' bs) (r:=r) (sz:=sz) (i:=0) (off:=0) hbr;simpa using this
  exact hK bs _ _ (λ_ _=>rfl) ⟨hr.1.putF hd hV,hr.2⟩
theorem w8n{m:Nat}{g:Nat->List AV}(hg:∀i,i<m->isU8 (g i)=true){j:Nat}{x:UInt8}(h:(waq m g)[j]?=some x):j<m/\∃n:Int,g j=[.int .u8 n]/\x=UInt8.ofNat n.toNat:=by
 unfold waq at h;rw[List.getElem?_map] at h
 rcases Nat.lt_or_ge j m with q | q
 .rw[List.getElem?_range q] at h;have hgj:=hg j q;unfold isU8 at hgj;split at hgj
  .rename_i n hh;refine⟨q,n,hh,?_⟩;have h:some (UInt8.ofNat (wao ((g j).headD .any)).toNat)=some x:=h;rw[hh] at h;exact(oJ7 h).symm
  .cases hgj
 .rw[List.getElem?_eq_none (by simpa using q)] at h
  cases h
theorem way.unsafeStr(hte:TE.ok C.P te){x y:Operand}{args:Array Operand}{ats:Array TypeId}{pt it e:TypeId}{tp tie:TI}{r n:Nat}{m:Int}{f:Nat->List AV}
  (hop:o.op= .call { callee:=.builtin .unsafeString,args:=args,argTypes:=ats }) (ha:args.toList=[x,y]) (hat:ats.toList=[pt,it]) (hd:wba N o.dst=true)
  (hx:evO T x=some (.eptr r 1 0 0)) (hy:evO T y=some (.int .i64 m)) (hp:lk te pt=some tp) (hpd:tp.desc= .pointer e) (he:lk te e=some tie) (hsz:tie.sz=1) (hO:O r=some (.row e 1 n f false))
  (h0:0<m) (hm:m<=n) (hg:∀i,i<m.toNat->isU8 (f i)=true) (hr8:∀i,i<m.toNat->∀q,f i=[.int .u8 q]->0<=q/\q<256):way C N o T O k (.str (waq m.toNat f)) [(r,.dead)]:=by
 obtain⟨args⟩:=args;obtain⟨ats⟩:=ats;have ha:args=[x,y]:=ha;have hat:ats=[pt,it]:=hat;subst ha;subst hat;intro E T' O' bs a w K Q hT hOs hr hf hK;have hxv:=wbe hr.1 (wbg hT hx);have hyv:=(wbe hr.1 (wbg hT hy)).int_iff;generalize hev:a.eval x=vx at hxv
 cases hxv with
 |eptr hbr=>
  rename_i b c;have hOr:=hOs _ _ hO
  rcases hr.2.obj r _ hOr with⟨q1,q2⟩ | ⟨b',c',vs,hb',hh,hnc,hcm,hvs,hfl,hf1,hfV⟩
  .rw[q1] at hbr;cases hbr
  .rw[hb'] at hbr;injection hbr with hbr;injection hbr with e1 e2;subst e1;subst e2;have hup:C.P.underlying pt=some (.pointer e):=by rw[← hpd];exact(hte pt tp hp).1
   obtain⟨i,hi,his,_,_⟩:=(hte e tie he).2.1;have hc1:C.P.cellsOf e=1:=by unfold Program.cellsOf;rw[hi];show i.size=1;rw[his,hsz]
   have hlen:(waq m.toNat f).length=m.toNat:=by simp[waq]
   have hcell:∀j z,(waq m.toNat f)[j]?=some z->w.cell? ((⟨b',0,none⟩:Addr).add j)=some (.int .u8 z.toNat):=by
    intro j z hz;obtain⟨hj,q,hfj,rfl⟩:=w8n hg hz;rw[Addr.add_lit,Nat.zero_add,cell_of_row w b' j vs e (0,0) hh];have hjs:j<vs.size:=by rw[hvs];omega
    have:=hfV j (by omega) 0 (vs[j]) (.int .u8 q) (by omega) (by simp[hjs]) (by rw[hfj];rfl);have hi:=this.int_iff;rw[Array.getElem?_eq_getElem hjs,hi];obtain⟨b1,b2⟩:=hr8 j hj q hfj;have:((UInt8.ofNat q.toNat).toNat:Int)=q:=by
     rw[UInt8.toNat_ofNat'];omega
    rw[this]
   have hne:waq m.toNat f≠[]:=λz=>by rw[z] at hlen;simp at hlen;omega
   have hrun0:=run_unsafeString_row (P:=C.P) w pt it o.type e hup hc1 b' vs.size (by simp[World.shape?,hh]) (waq m.toNat f) hne (by rw[hlen,hvs];omega) (by rw[hlen];unfold maxLen at hcm;omega) hcell;have hml:((waq m.toNat f).length:Int)=m:=by rw[hlen];omega
   rw[hml] at hrun0;have hrun:(execOp a.eval o).run C.P w= .ok (.value (.string ⟨(waq m.toNat f).toArray⟩)) (w.freeze ⟨b',0,none⟩ (waq m.toNat f).length):=by
    simp[execOp,resolve,invoke,builtin,hop,hev,hyv,hrun0]
   obtain⟨g1,g2,g3,g4⟩:=w7c w ⟨b',0,none⟩ (waq m.toNat f).length;obtain⟨k1,k2⟩:=hr.2.burn hOr rfl hb' (w':=w.freeze ⟨b',0,none⟩ (waq m.toNat f).length) (λb hb=>w7d _ _ _ _ hb) (w7b _ _ _) g1 ⟨g3,λ_=>Nat.le_of_eq g4.symm⟩ g2;unfold Oper.wp;rw[hrun];exact hK bs _ _ (λ_ _=>rfl) ⟨(hr.1.step k1).putF hd (.str rfl),k2⟩
end
end Go.Eng
namespace Go.Eng
open Go.RowKit
def wfq:AV->Bool
 |.bool b=>b
 |_=>false
def wbh:AV->List UInt8
 |.str s=>s
 |_=>[]
theorem wvn:∀(l:List Int) (r:ByteArray),(l.foldl (λr n=>r.push (UInt8.ofNat n.toNat)) r).data.toList=r.data.toList++l.map λn=>UInt8.ofNat n.toNat
 |[],r=>by simp
 |n::l,r=>by
  simp only[List.foldl_cons,List.map_cons];rw[wvn l];simp[ByteArray.push]
section
variable {C:Ctx} {N:Nat} {o:Oper} {T:Nat->Option AV} {O:Nat->Option AObj} {k:Nat} {te:TE}
theorem way.bytesStr(hte:TE.ok C.P te){src dst e:TypeId}{ts td tie:TI}{x:Operand}{u:AV}{m:Nat}{g:Nat->List AV}{vc:Prop}(hop:o.op= .convert src dst x)(hd:wba N o.dst=true)(hs:lk te src=some ts)(hsd:ts.desc= .slice e)
  (he:lk te e=some tie) (hed:tie.desc= .int .u8) (hdd:lk te dst=some td) (htd:td.desc= .string) (hx:evO T x=some u) (hu:srcA O 1 u=some (m,g,vc)) (hvc:vc) (hg:∀i,i<m->isU8 (g i)=true):
  way C N o T O k (.str (waq m g)) []:=by
 intro E T' O' bs a w K Q hT hOs hr hf hK;have hxv:=wbe hr.1 (wbg hT hx);obtain⟨A,c,news,hv,hlen,hcell,h1,hgl,hV⟩:=wup hr.2 hxv (wqz hOs hu) hvc;rw[Nat.mul_one] at hlen;have h1':(P:Program)->P=C.P->P.underlying src=some (.slice e):=λP hP=>by rw[hP, ← hsd];exact(hte src ts hs).1
 have hu1:=h1' C.P rfl;have hu2:C.P.underlying e=some (.int .u8):=by rw[← hed];exact(hte e tie he).1
 have hu3:C.P.underlying dst=some .string:=by rw[← htd];exact(hte dst td hdd).1
 -- the cells are bytes
 let ns:List Int:=(List.range m).map λi=>wao ((g i).headD .any)
 have hns:news=ns.map (Value.int .u8):=by
  refine List.ext_getElem? λj=>?_
  rcases Nat.lt_or_ge j m with hj | hj
  .have hlt:j<news.length:=by omega
   have hgj:=hg j hj;obtain⟨n,hn⟩:∃n,g j=[.int .u8 n]:=by
    unfold isU8 at hgj;split at hgj
    .rename_i n hh;exact⟨n,hh⟩
    .cases hgj
   have:=hV j hj 0 (.int .u8 n) (news[j]) (by omega) (by rw[hn];rfl) (by simp[hlt]);have hi:=this.int_iff;simp[hlt,hi,ns,hj,hn,wao]
  .rw[List.getElem?_eq_none (by omega),List.getElem?_eq_none (by simp[ns];omega)]
 have hrun:∃b:ByteArray,(convert src dst (a.eval x)).run C.P w= .ok (.string b) w/\b.data.toList=waq m g:=by
  rw[hv,run_convert_bytes_string w src dst e A m c hu1 hu2 hu3]
  cases A with
  |none=>
   have hm0:m=0:=by
    rcases Nat.eq_zero_or_pos m with h | h
    .exact h
    .obtain⟨ad,had,_⟩:=hcell h;cases had
   subst hm0;exact⟨.empty,by simp[Conv.bytesToString],by simp[waq]⟩
  |some ad=>
   have hl:(loadCells ad m).run C.P w= .ok (ns.map (Value.int .u8)).toArray w:=by
    have:=run_loadCells_list (P:=C.P) w ad news (λj v hj=>by
     have hjm:j<m:=by rw[← hlen];exact(List.getElem?_eq_some_iff.1 hj).1
     obtain⟨ad',had,hc⟩:=hcell (by omega)
     cases had;exact hc j v hj)
    rw[hlen,hns] at this;exact this
   refine⟨_,run_bytesToString w ad m c ns hl,?_⟩;rw[wvn];have he0:ByteArray.empty.data.toList=[]:=rfl;rw[he0];simp[ns,waq]
 obtain⟨b,hb,hbl⟩:=hrun;have:(execOp a.eval o).run C.P w= .ok (.value (.string b)) w:=by simp[execOp,hop,hb]
 unfold Oper.wp;rw[this];exact hK bs _ _ (λ_ _=>rfl) ⟨hr.1.putF hd (.str hbl),hr.2⟩
theorem way.runeStr(hte:TE.ok C.P te){src dst:TypeId}{ts td:TI}{x:Operand}{q q':IntKind}{n:Int}(hop:o.op= .convert src dst x)(hd:wba N o.dst=true)(hs:lk te src=some ts)(hsd:ts.desc= .int q')
  (hdd:lk te dst=some td) (htd:td.desc= .string) (hx:evO T x=some (.int q n)):way C N o T O k (.str (Utf8.encode n).data.toList) []:=by
 intro E T' O' bs a w K Q hT hOs hr hf hK;have hxv:=(wbe hr.1 (wbg hT hx)).int_iff;have hu1:=wbt hte (w:=w) hs;have hu3:=wbt hte (w:=w) hdd;rw[hsd] at hu1;rw[htd] at hu3;have hrun:(convert src dst (.int q n)).run C.P w= .ok (.string (Utf8.encode n)) w:=by simp[convert,hu1,hu3,Conv.intToString]
 have:(execOp a.eval o).run C.P w= .ok (.value (.string (Utf8.encode n))) w:=by simp[execOp,hop,hxv,hrun]
 unfold Oper.wp;rw[this];exact hK bs _ _ (λ_ _=>rfl) ⟨hr.1.putF hd (.str rfl),hr.2⟩
theorem way.make(hte:TE.ok C.P te){t e:TypeId}{ti tie:TI}{lx cx:Operand}{kl kc:IntKind}{l c:Int}{zs:List AV}(hop:o.op= .makeSlice t lx cx)(hd:wba N o.dst=true)(ht:lk te t=some ti)(htd:ti.desc= .slice e)
  (he:lk te e=some tie) (hz:avcs tie.zero.cells.toList=some zs) (hzl:zs.length=tie.sz) (hl:evO T lx=some (.int kl l)) (hc:evO T cx=some (.int kc c)) (h0:0<=l) (hlc:l<=c) (hb:(tie.bytes:Int) * c<=281474976710656) (hm:c<=9223372036854775807):
  way C N o T O k (.own k l.toNat) [(k,.row e tie.sz l.toNat (λ_=>zs) false)]:=by
 intro E T' O' bs a w K Q hT hOs hr hf hK;obtain⟨f1,f2⟩:=hf k (lR7 _) (by omega);have hlv:=(wbe hr.1 (wbg hT hl)).int_iff;have hcv:=(wbe hr.1 (wbg hT hc)).int_iff;have hu1:C.P.underlying t=some (.slice e):=by rw[← htd];exact(hte t ti ht).1
 obtain⟨i,hi,hisz,hib,hiz⟩:=(hte e tie he).2.1;have hrun:=run_make (P:=C.P) w t e i tie.zero hu1 hi hiz kl kc l c h0 hlc (by rw[hib];exact hb) hm;have hz':=wgx (w:=w) (M:=MB E O' bs) (bs:=bs) _ _ hz;have hzsz:tie.zero.cells.size=zs.length:=by simpa using hz'.1
 have hcells:∀j,j<c.toNat * tie.sz->(madeCells tie.zero.cells (c.toNat * i.size))[j]?=tie.zero.cells[j % tie.sz]?:=by
  intro j hj;have hsz:0<tie.sz:=by
   rcases Nat.eq_zero_or_pos tie.sz with h | h
   .rw[h] at hj;simp at hj
   .exact h
  have hmod:j % tie.sz<tie.zero.cells.size:=by rw[hzsz,hzl];exact Nat.mod_lt _ hsz
  have e:j % tie.zero.cells.size=j % tie.sz:=by rw[hzsz,hzl]
  unfold madeCells;rw[hisz,Array.getElem?_eq_getElem hmod];simp only[Array.getElem?_map,Array.getElem?_range,hj,if_true,Option.map_some,e];exact congrArg some (getElem!_pos tie.zero.cells (j % tie.sz) hmod)
 have hcsz:(madeCells tie.zero.cells (c.toNat * i.size)).size=c.toNat * tie.sz:=by rw[size_madeCells,hisz]
 obtain⟨hS,hW⟩:=wja hr.2 f2 (w1:=w) rfl rfl ⟨rfl,λ_=>lR7 _⟩ rfl (vs:=madeCells tie.zero.cells (c.toNat * i.size)) (e:=e) (sz:=tie.sz) (n:=l.toNat) (c:=c.toNat) (f:=λ_=>zs) (by omega) (by unfold maxLen;omega) hcsz (λ_ _=>hzl)
  (λi' hi' j hj v hv=>by
   have hlt:i' * tie.sz+j<c.toNat * tie.sz:=by
    have:(i'+1) * tie.sz<=c.toNat * tie.sz:=Nat.mul_le_mul_right _ (by omega);rw[Nat.add_mul,Nat.one_mul] at this;omega
   rw[hcells _ hlt] at hv;exact hz'.2.1 _ v (by simpa using hv))
  (λi' hi' j v u hj hv hu=>by
   have hlt:i' * tie.sz+j<c.toNat * tie.sz:=by
    have:(i'+1) * tie.sz<=c.toNat * tie.sz:=Nat.mul_le_mul_right _ (by omega);rw[Nat.add_mul,Nat.one_mul] at this;omega
   rw[hcells _ hlt] at hv;have e1:(i' * tie.sz+j) % tie.sz=j:=by rw[Nat.mul_comm,Nat.mul_add_mod,Nat.mod_eq_of_lt hj]
   rw[e1] at hv;exact hz'.2.2 j v u (by simpa using hv) hu)
 have:(execOp a.eval o).run C.P w= .ok (.value (.slice (some ⟨w.heap.size,0,none⟩) l.toNat c.toNat)) (w.alloc (.cells (madeCells tie.zero.cells (c.toNat * i.size)) e)):=by
  simp[execOp,hop,hlv,hcv,hrun]
 unfold Oper.wp;rw[this];exact hK (up bs k (.blk w.heap.size c.toNat)) _ _ (λr hr=>wav _ _ _ (by omega)) ⟨(hr.1.step hS).putF hd (.own (waz _ _ _) (by omega) (by unfold maxLen;omega)),hW⟩
end
def keq:AV->AV->Bool
 |.str a,.str b=>decide (a=b)
 |.int k a,.int k' b=>decide (k=k') && decide (a=b)
 |.agg a,.agg b=>keqL a b
 |_,_=>false
def mget:List (AV×AV)->AV->Option AV
 |[],_=>none
 |p::l,k=>match keq p.1 k with
  |true=>some p.2
  |false=>mget l k
def mset:List (AV×AV)->AV->AV->List (AV×AV)
 |[],k,v=>[(k,v)]
 |p::l,k,v=>match keq p.1 k with
  |true=>(k,v)::l
  |false=>p::mset l k v
def wb9(d:TypeDesc)(es:List (AV×AV)):Prop:=(es.all λp=>isK d p.1)=true/\(es.map Prod.fst).Nodup
theorem wsf{d:TypeDesc}{a:AV}(h:isK d a=true):(d= .string/\∃s,a= .str s)∨∃k n,d= .int k/\a= .int k n:=by
 unfold isK at h;split at h
 .exact .inl ⟨rfl,_,rfl⟩
 .have:=of_decide_eq_true h;subst this;exact .inr ⟨_,_,rfl,rfl⟩
 .cases h
theorem wsa{d:TypeDesc}{a b:AV}(ha:isK d a=true)(hb:isK d b=true):keq a b=true↔a=b:=by
 rcases wsf ha with⟨rfl,s,rfl⟩ | ⟨k,n,rfl,rfl⟩
 .rcases wsf hb with⟨_,s',rfl⟩ | ⟨k',n',h,rfl⟩
  .simp[keq]
  .cases h
 .rcases wsf hb with⟨h,s',rfl⟩ | ⟨k',n',h,rfl⟩
  .cases h
  .cases h;simp[keq]
theorem wrw{K:AV->Bool}(hK:∀a b,K a=true->K b=true->(keq a b=true↔a=b)){k:AV}(hk:K k=true):∀ {es:List (AV×AV)},(es.all λp=>K p.1)=true->Holds es k (mget es k)
 |[],_=>by simp[mget,Holds]
 |p::l,h=>by
  simp only[List.all_cons,bA7] at h;simp only[mget]
  cases hb:keq p.1 k with
  |true=>
   have:=(hK _ _ h.1 hk).1 hb;exact⟨0,by simp[← this]⟩
  |false=>
   have ih:=wrw hK hk h.2;have hne:p.1≠k:=λe=>by rw[(hK _ _ h.1 hk).2 e] at hb;cases hb
   show Holds (p::l) k (mget l k)
   cases hm:mget l k with
   |none=>
    rw[hm] at ih;intro q hq
    rcases List.mem_cons.1 hq with rfl | hq
    .exact hne
    .exact ih q hq
   |some v=>
    rw[hm] at ih;obtain⟨j,hj⟩:=ih;exact⟨j+1,by simpa using hj⟩
theorem wr9{es:List (AV×AV)}(h:(es.map Prod.fst).Nodup){k:AV}{j j':Nat}{v v':AV}(h1:es[j]?=some (k,v))(h2:es[j']?=some (k,v')):j=j':=by
 have e1:(es.map Prod.fst)[j]?=some k:=by simp[h1]
 have e2:(es.map Prod.fst)[j']?=some k:=by simp[h2]
 exact(List.getElem?_inj (List.getElem?_eq_some_iff.1 e1).1 h).1 (e1.trans e2.symm)
theorem wrv{K:AV->Bool}(hK:∀a b,K a=true->K b=true->(keq a b=true↔a=b)){k v:AV}(hk:K k=true):∀ {es:List (AV×AV)},(es.all λp=>K p.1)=true->(es.map Prod.fst).Nodup->∀(j:Nat) (v':AV),es[j]?=some (k,v')->mset es k v=es.set j (k,v)
 |[],_,_,j,v',h=>by simp at h
 |p::l,h,hn,j,v',hj=>by
  simp only[List.all_cons,bA7] at h;simp only[mset]
  cases hb:keq p.1 k with
  |true=>
   have hp:=(hK _ _ h.1 hk).1 hb;have:j=0:=wr9 hn (k:=k) (v:=v') (v':=p.2) hj (by simp[← hp]);subst this;simp
  |false=>
   cases j with
   |zero=>
    simp at hj;subst hj;rw[(hK _ _ h.1 hk).2 rfl] at hb;cases hb
   |succ j=>
    simp only[List.map_cons,List.nodup_cons] at hn;rw[wrv hK hk h.2 hn.2 j v' (by simpa using hj)];simp
theorem wru{K:AV->Bool}(hK:∀a b,K a=true->K b=true->(keq a b=true↔a=b)){k v:AV}(hk:K k=true):∀ {es:List (AV×AV)},(es.all λp=>K p.1)=true->(∀p∈es,p.1≠k)->mset es k v=es++[(k,v)]
 |[],_,_=>rfl
 |p::l,h,hn=>by
  simp only[List.all_cons,bA7] at h;simp only[mset]
  cases hb:keq p.1 k with
  |true=>exact absurd ((hK _ _ h.1 hk).1 hb) (hn p (by simp))
  |false=>
   rw[wru hK hk h.2 λq hq=>hn q (List.mem_cons_of_mem _ hq)];simp
theorem wjh{te:TE}{kt:TypeId}(hn:∀t ti,lk te t=some ti->wa8 ti.desc=false->ti.sz=1):∀a b:AV,keyA te kt a=true->keyA te kt b=true->(keq a b=true↔a=b):=by
 intro a b ha hb
 cases a with
 |agg xs=>
  cases b with
  |agg ys=>
   obtain⟨_,_,_,_,_,h1,h2,_⟩:=wgq hn ha hb;simp only[keq,wla h1 h2,AV.agg.injEq]
  |_=>simp[keyA] at hb
 |_=>simp[keyA] at ha
def wbu(te:TE)(kt:TypeId)(es:List (AV×AV)):Prop:=(es.all λp=>keyA te kt p.1)=true/\(es.map Prod.fst).Nodup
def vwS:AV->Nat
 |.view s _ _=>s
 |_=>0
def vwN:AV->Nat
 |.view _ n _=>n
 |_=>0
def vwF:AV->Nat->List AV
 |.view _ _ f=>f
 |_=>λ_=>[]
def zv0:AV->AV
 |.nil=>.view 0 0 λ_=>[]
 |x=>x
def zvA:AV->AV
 |.agg cs=>.agg (cs.map zv0)
 |x=>x
theorem wzn{w:World}{M:Nat->Prop}{bs:Nat->Option Hd}{v:Value}{u:AV}(h:V w M bs v u):V w M bs v (zv0 u):=by
 cases u with
 |nil=>
  cases h;exact .view ⟨0,0,none⟩ (λ_ _=>default) (lR7 _) (zL7 _) (λh=>absurd h (Nat.lt_irrefl 0)) (λi h=>absurd h (nZ7 i)) (λi h=>absurd h (nZ7 i)) (λi h=>absurd h (nZ7 i)) (λi h=>absurd h (nZ7 i))
 |_=>exact h
theorem wtq{w:World}{M:Nat->Prop}{bs:Nat->Option Hd}{v:Value}{u:AV}(h:V w M bs v u):V w M bs v (zvA u):=by
 cases u with
 |agg cs=>
  cases h with | agg hl h1 hv=>
  refine .agg (by simp[hl]) h1 λj v u hj hu=>?_;rw[List.getElem?_map] at hu;obtain⟨u0,h0,rfl⟩:=Option.map_eq_some_iff.1 hu;exact wzn (hv j v u0 hj h0)
 |_=>exact h
def shape0:AV->AV->AV
 |.bool _,x=>.bool (wfq x)
 |.int k _,x=>.int k (wao x)
 |.str _,x=>.str (wbh x)
 |.nil,x=>.view (vwS x) (vwN x) (vwF x)
 |_,x=>x
def was(x:AV)(j:Nat):AV:=match x with
 |.agg cs=>cs.getD j .any
 |_=>.any
def shapeL(x:AV):Nat->List AV->List AV
 |_,[]=>[]
 |j,z::zs=>shape0 z (was x j)::shapeL x (j+1) zs
def wcr:AV->AV->AV
 |.bool _,x=>.bool (wfq x)
 |.int k _,x=>.int k (wao x)
 |.str _,x=>.str (wbh x)
 |.agg zs,x=>.agg (shapeL x 0 zs)
 |_,x=>x
abbrev XOut:=AV×List (Nat×AObj)×Prop
def ment(u0:AV):List (AV×AV)->AV->List (AV×AV)
 |[],k=>[(k,u0)]
 |p::l,k=>match keq p.1 k with
  |true=>p::l
  |false=>p::ment u0 l k
def midx:List (AV×AV)->AV->Nat
 |[],_=>0
 |p::l,k=>match keq p.1 k with
  |true=>0
  |false=>midx l k+1
theorem wwn{K:AV->Bool}(hK:∀a b,K a=true->K b=true->(keq a b=true↔a=b)){k u0:AV}(hk:K k=true):∀ {es:List (AV×AV)},(es.all λp=>K p.1)=true->(es.map Prod.fst).Nodup->∀(j:Nat) (v:AV),es[j]?=some (k,v)->ment u0 es k=es/\midx es k=j/\(mget es k).getD u0=v
 |[],_,_,j,v,h=>by simp at h
 |p::l,ha,hn,j,v,h=>by
  simp only[List.all_cons,bA7] at ha;obtain⟨hn1,hn2⟩:=List.nodup_cons.1 (show (p.1::l.map Prod.fst).Nodup from hn);unfold ment midx mget
  cases j with
  |zero=>
   simp only[List.getElem?_cons_zero,sI7] at h;subst h;rw[(hK k k hk hk).2 rfl];exact⟨rfl,rfl,rfl⟩
  |succ j=>
   simp only[List.getElem?_cons_succ] at h;obtain⟨i1,i2,i3⟩:=wwn hK (u0:=u0) hk ha.2 hn2 j v h;have hne:keq p.1 k=false:=by
    cases q:keq p.1 k with
    |false=>rfl
    |true=>
     have e:=(hK p.1 k ha.1 hk).1 q;exact absurd (List.mem_map.2 ⟨_,List.mem_of_getElem? h,rfl⟩) (by rw[← e];exact hn1)
   rw[hne];exact⟨by show p::ment u0 l k=_;rw[i1],by show midx l k+1=_;rw[i2],i3⟩
theorem wwm{K:AV->Bool}(hK:∀a b,K a=true->K b=true->(keq a b=true↔a=b)){k u0:AV}(hk:K k=true):∀ {es:List (AV×AV)},(es.all λp=>K p.1)=true->(∀p∈es,p.1≠k)->ment u0 es k=es++[(k,u0)]/\midx es k=es.length/\(mget es k).getD u0=u0
 |[],_,_=>⟨rfl,rfl,rfl⟩
 |p::l,ha,hn=>by
  simp only[List.all_cons,bA7] at ha;obtain⟨i1,i2,i3⟩:=wwm hK (u0:=u0) hk ha.2 λq hq=>hn q (List.mem_cons_of_mem _ hq);have hne:keq p.1 k=false:=by
   cases q:keq p.1 k with
   |false=>rfl
   |true=>exact absurd ((hK p.1 k ha.1 hk).1 q) (hn p (List.mem_cons_self ..))
  unfold ment midx mget;rw[hne];exact⟨by show p::ment u0 l k=_;rw[i1];rfl,by show midx l k+1=_;rw[i2];rfl,i3⟩
def wci(te:TE)(T:Nat->Option AV)(O:Nat->Option AObj)(k:Nat)(dst:Option Tmp):Op->Option (Bool×XOut×XOut)
 |.lookup mt mx kx ok=>match evO T mx,evO T kx,lk te mt with
  |some mu,some ku,some ti=>match ti.desc with
   |.map kt et=>match lk te kt,lk te et,mapA O mu with
    |some tk,some tie,some es=>match wgc tie.zero,isK tk.desc ku with
     |some u0,true=>some (true,((match ok with
       |true=>.tuple [wcr u0 ((mget es ku).getD (zvA u0)),.bool (mget es ku).isSome]
       |false=>wcr u0 ((mget es ku).getD (zvA u0))),[],wb9 tk.desc es/\wcr u0 ((mget es ku).getD (zvA u0))=(mget es ku).getD (zvA u0)),(.any,[],True))
     |some u0,false=>match keyA te kt ku with
      |true=>some (true,((match ok with
       |true=>.tuple [wcr u0 ((mget es ku).getD (zvA u0)),.bool (mget es ku).isSome]
       |false=>wcr u0 ((mget es ku).getD (zvA u0))),[],wbu te kt es/\wcr u0 ((mget es ku).getD (zvA u0))=(mget es ku).getD (zvA u0)),(.any,[],True))
      |false=>none
     |_,_=>none
    |_,_,_=>none
   |_=>none
  |_,_,_=>none
 |.mapUpdate mt mx kx vx=>match evO T mx,evO T kx,evO T vx,lk te mt with
  |some (.map r),some ku,some vu,some ti=>match ti.desc,dst with
   |.map kt _,none=>match lk te kt,O r with
    |some tk,some (.amap es)=>match isK tk.desc ku with
     |true=>some (true,(.any,[(r,.amap (mset es ku vu))],wb9 tk.desc es),(.any,[],True))
     |false=>match keyA te kt ku with
      |true=>some (true,(.any,[(r,.amap (mset es ku vu))],wbu te kt es),(.any,[],True))
      |false=>none
    |_,_=>none
   |_,_=>none
  |_,_,_,_=>none
 |.next x true=>match evO T x with
  |some (.ptr r 0)=>match O r with
   |some (.siter s pos)=>some (decide (pos<s.length),(.tuple [.bool true,.int .i64 pos,.int .i32 (wbs s pos).1],[(r,.siter s (pos+(wbs s pos).2))],True),(.tuple [.bool false],[],True))
   |_=>none
  |_=>none
 |.convert src dst x=>match lk te src,lk te dst,evO T x with
  |some ts,some td,some u=>match ts.desc,td.desc with
   |.slice e,.string=>match lk te e with
    |some tie=>match tie.desc with
     |.int .u8=>match srcA O 1 u with
      |some (m,g,vc)=>some (true,(.str (waq m g),[],vc/\∀i,i<m->isU8 (g i)=true),(.any,[],True))
      |none=>none
     |_=>none
    |none=>none
   |.int _,.string=>match u with
    |.int _ n=>some (true,(.str (Utf8.encode n).data.toList,[],True),(.any,[],True))
    |_=>none
   |_,_=>none
  |_,_,_=>none
 |.makeSlice t lx cx=>match lk te t,evO T lx,evO T cx with
  |some ti,some (.int _ l),some (.int _ c)=>match ti.desc with
   |.slice e=>match lk te e with
    |some tie=>match avcs tie.zero.cells.toList with
     |some zs=>match Nat.beq zs.length tie.sz with
      |true=>some (true,(.own k l.toNat,[(k,.row e tie.sz l.toNat (λ_=>zs) false)],0<=l/\l<=c/\(tie.bytes:Int) * c<=281474976710656/\c<=9223372036854775807),(.any,[],True))
      |false=>none
     |none=>none
    |none=>none
   |_=>none
  |_,_,_=>none
 |.mapEntry mt mx kx=>match evO T mx,evO T kx,lk te mt with
  |some (.map r),some ku,some ti=>match ti.desc with
   |.map kt et=>match lk te kt,lk te et,O r with
    |some _,some tie,some (.amap es)=>match wgc tie.zero,keyA te kt ku with
     |some u0,true=>some (true,(.tuple [wcr u0 ((mget es ku).getD u0),.int .i64 (midx es ku)],[(r,.amap (ment u0 es ku))],wbu te kt es/\wcr u0 ((mget es ku).getD u0)=(mget es ku).getD u0),(.any,[],True))
     |_,_=>none
    |_,_,_=>none
   |_=>none
  |_,_,_=>none
 |.entryStore _ mx sx vx=>match dst,evO T mx,evO T sx,evO T vx with
  |none,some (.map r),some (.int _ s),some vu=>match O r with
   |some (.amap es)=>some (true,(.any,[(r,.amap (es.set s.toNat ((es.getD s.toNat (.any,.any)).1,vu)))],0<=s/\s<es.length),(.any,[],True))
   |_=>none
  |_,_,_,_=>none
 |.call { callee:=.builtin .clear,args,argTypes }=>match args.toList,argTypes.toList with
  |[x],[t]=>match evO T x,lk te t with
   |some (.sub r sz off _n),some ti=>match ti.desc with
    |.slice e=>match lk te e,O r with
     |some tie,some (.row e' sz' n0 f false)=>match avcs tie.zero.cells.toList with
      |some zs=>match Nat.beq zs.length sz,Nat.beq sz' sz with
       |true,true=>some (true,(.tuple [],[(r,.row e' sz' off f false)],off<=n0),(.any,[],True))
       |_,_=>none
      |none=>none
     |_,_=>none
    |_=>none
   |_,_=>none
  |_,_=>none
 |.call { callee:=.builtin .append,args,argTypes }=>match args.toList,argTypes.toList with
  |[x,y],[t,t']=>match evO T x,evO T y,lk te t,lk te t' with
   |some s,some (.str str),some ti,some tu=>match ti.desc,tu.desc with
    |.slice e,.string=>match lk te e with
     |some tie=>match Nat.beq tie.sz 1,appA O k e tie str.length (strG str) True s with
      |true,some (r,l,P)=>some (true,(r,l,P),(.any,[],True))
      |_,_=>none
     |none=>none
    |_,_=>none
   |_,_,_,_=>none
  |_,_=>none
 |.call { callee:=.builtin .unsafeSliceData,args,argTypes:=_ }=>match args.toList with
  |[x]=>match evO T x with
   |some (.own r n)=>match O r with
    |some (.row _ sz _ _ false)=>some (true,(.eptr r sz 0 0,[],0<n),(.any,[],True))
    |_=>none
   |_=>none
  |_=>none
 |.call { callee:=.builtin .unsafeString,args,argTypes }=>match args.toList,argTypes.toList with
  |[x,y],[pt,_]=>match evO T x,evO T y,lk te pt with
   |some (.eptr r 1 0 0),some (.int .i64 m),some tp=>match tp.desc with
    |.pointer e=>match lk te e,O r with
     |some tie,some (.row e' 1 n f false)=>match Nat.beq tie.sz 1,Nat.beq e e' with
      |true,true=>some (true,(.str (waq m.toNat f),[(r,.dead)],0<m/\m<=n/\(∀i,i<m.toNat->isU8 (f i)=true)/\∀i,i<m.toNat->∀q,f i=[.int .u8 q]->0<=q/\q<256),(.any,[],True))
      |_,_=>none
     |_,_=>none
    |_=>none
   |_,_,_=>none
  |_,_=>none
 |_=>none
section
variable {C:Ctx} {N:Nat} {o:Oper} {T T':Nat->Option AV} {O O':Nat->Option AObj} {k:Nat} {te:TE}
theorem wx4(hT:Sub T T')(hO:Sub O O'){dst:Option Tmp}{op:Op}{r:Bool×XOut×XOut}(h:wci te T O k dst op=some r):wci te T' O' k dst op=some r:=by
 have e1:∀ {x u},evO T x=some u->evO T' x=some u:=λh=>wbg hT h;have e4:∀ {r o},O r=some o->O' r=some o:=λh=>hO _ _ h;have e5:∀ {sz u r},srcA O sz u=some r->srcA O' sz u=some r:=λh=>wqz hO h;have e7:∀ {u r},mapA O u=some r->mapA O' u=some r:=λh=>wr0 hO h;have e6:∀ {fresh e tie m g vc s r},appA O fresh e tie m g vc s=some r->appA O' fresh e tie m g vc s=some r:=λh=>wtg hO h;unfold wci at h ⊢;split at h
 all_goals (try simp only[] at h ⊢)
 all_goals (repeat' (split at h))
 all_goals (try (cases h;done))
 all_goals (try (exact h))
 all_goals (try (grind;done))
theorem wx3(hte:TE.ok C.P te)(hn:∀t ti,lk te t=some ti->wa8 ti.desc=false->ti.sz=1){b:Bool}{x1 x2:XOut}(h:wci te T O k o.dst o.op=some (b,x1,x2))(hd:wba N o.dst=true):
  (b=true->x1.2.2->way C N o T O k x1.1 x1.2.1)/\(b=false->x2.2.2->way C N o T O k x2.1 x2.2.1):=by
 unfold wci at h;split at h
 .rename_i mt mx kx ok hop;split at h
  .rename_i mu ku ti hm hk ht;split at h
   .rename_i kt et htd;split at h
    .rename_i tk tie es hkt het hO;split at h
     .rename_i u0 hz hkK;simp only[sI7,pI7] at h;obtain⟨rfl,rfl,rfl⟩:=h;refine⟨λ_ hv=>?_,λh=>(by cases h)⟩;obtain⟨⟨h1,h2⟩,h3⟩:=hv;refine way.lookup hte (mget es ku) hop hd hm hk ht htd hkt het hO hkK (λ_ _ _=>wtq (wqe hz)) h1 ?_ (wrw (λ_ _ a b=>wsa a b) hkK h1) (λj j' v v' q1 q2=>?_)
      .cases ok<;>simp[h3]
      .have:=wr9 h2 q1 q2;subst this;rw[q1] at q2;simpa using q2
     .rename_i u0 hz hkK0;split at h
      .rename_i hkK;simp only[sI7,pI7] at h;obtain⟨rfl,rfl,rfl⟩:=h;refine⟨λ_ hv=>?_,λh=>(by cases h)⟩;obtain⟨⟨h1,h2⟩,h3⟩:=hv;refine way.lookupA (tk:=tk) hte hn (mget es ku) hop hd hm hk ht htd het hO hkK (λ_ _ _=>wtq (wqe hz)) h1 ?_ (wrw (wjh hn) hkK h1) (λj j' v v' q1 q2=>?_)
       .cases ok<;>simp[h3]
       .have:=wr9 h2 q1 q2;subst this;rw[q1] at q2;simpa using q2
      .cases h
     .cases h
    .cases h
   .cases h
  .cases h
 .rename_i mt mx kx vx hop;split at h
  .rename_i r ku vu ti hm hk hv ht;split at h
   .rename_i kt et htd hdst;split at h
    .rename_i tk es hkt hO;split at h
     .rename_i hkK;simp only[sI7,pI7] at h;obtain⟨rfl,rfl,rfl⟩:=h;refine⟨λ_ hvc=>?_,λh=>(by cases h)⟩;obtain⟨h1,h2⟩:=hvc;exact way.mapUpdate hte hop hdst hm hk hv ht htd hkt hO hkK h1 ⟨λj v hj=>wrv (λ_ _ a b=>wsa a b) hkK h1 h2 j v hj,λhn=>wru (λ_ _ a b=>wsa a b) hkK h1 hn⟩
     .split at h
      .rename_i hkK;simp only[sI7,pI7] at h;obtain⟨rfl,rfl,rfl⟩:=h;refine⟨λ_ hvc=>?_,λh=>(by cases h)⟩;obtain⟨h1,h2⟩:=hvc;exact way.mapUpdateA hte hn hop hdst hm hk hv ht htd hkt hO hkK h1 ⟨λj v hj=>wrv (wjh hn) hkK h1 h2 j v hj,λhne=>wru (wjh hn) hkK h1 hne⟩
      .cases h
    .cases h
   .cases h
  .cases h
 .rename_i x hop;split at h
  .rename_i r hx;split at h
   .rename_i s pos hO;simp only[sI7,pI7] at h;obtain⟨rfl,rfl,rfl⟩:=h;exact⟨λhb _=>way.nextIn hop hd hx hO (of_decide_eq_true hb),λhb _=>way.nextOut hop hd hx hO (of_decide_eq_false hb)⟩
   .cases h
  .cases h
 .rename_i src dst x hop;split at h
  .rename_i ts td u hs hdd hx;split at h
   .rename_i e hsd htd;split at h
    .rename_i tie he;split at h
     .rename_i hed;split at h
      .rename_i m g vc hu;simp only[sI7,pI7] at h;obtain⟨rfl,rfl,rfl⟩:=h;exact⟨λ_ hv=>way.bytesStr hte hop hd hs hsd he hed hdd htd hx hu hv.1 hv.2,λh=>(by cases h)⟩
      .cases h
     .cases h
    .cases h
   .rename_i q hsd htd;split at h
    .simp only[sI7,pI7] at h;obtain⟨rfl,rfl,rfl⟩:=h;exact⟨λ_ _=>way.runeStr hte hop hd hs hsd hdd htd hx,λh=>(by cases h)⟩
    .cases h
   .cases h
  .cases h
 .rename_i t lx cx hop;split at h
  .rename_i ti kl l kc c ht hl hc;split at h
   .rename_i e htd;split at h
    .rename_i tie he;split at h
     .rename_i zs hz;split at h
      .rename_i hzl;simp only[sI7,pI7] at h;obtain⟨rfl,rfl,rfl⟩:=h;exact⟨λ_ hv=>way.make hte hop hd ht htd he hz (Nat.eq_of_beq_eq_true hzl) hl hc hv.1 hv.2.1 hv.2.2.1 hv.2.2.2,λh=>(by cases h)⟩
      .cases h
     .cases h
    .cases h
   .cases h
  .cases h
 .rename_i mt mx kx hop;split at h
  .rename_i r ku ti hm hk ht;split at h
   .rename_i kt et htd;split at h
    .rename_i tk tie es hkt het hO;split at h
     .rename_i u0 hz hkK;simp only[sI7,pI7] at h;obtain⟨rfl,rfl,rfl⟩:=h;refine⟨λ_ hv=>?_,λh=>(by cases h)⟩;obtain⟨⟨h1,h2⟩,h3⟩:=hv;dsimp only
      rw[h3];exact way.mapEntryA hte hn hop hd hm hk ht htd hkt het hO hkK hz h1 ⟨λj v hj=>wwn (wjh hn) hkK h1 h2 j v hj,λhne=>wwm (wjh hn) hkK h1 hne⟩
     .cases h
    .cases h
   .cases h
  .cases h
 .rename_i mt mx sx vx hop;split at h
  .rename_i r kk s vu hdst hm hs hv;split at h
   .rename_i es hO;simp only[sI7,pI7] at h;obtain⟨rfl,rfl,rfl⟩:=h;exact⟨λ_ hvc=>way.entryStore hop hdst hm hs hv hO hvc.1 hvc.2,λh=>(by cases h)⟩
   .cases h
  .cases h
 .rename_i args argTypes hop;split at h
  .rename_i x t hargs htys;split at h
   .rename_i r sz off n ti hx ht;split at h
    .rename_i e htd;split at h
     .rename_i tie e' sz' n0 f he hO;split at h
      .rename_i zs hz;split at h
       .rename_i hzl hsz;simp only[sI7,pI7] at h;obtain⟨rfl,rfl,rfl⟩:=h;obtain rfl:=Nat.eq_of_beq_eq_true hsz;exact⟨λ_ hv=>way.clear hte hop hd hargs htys hx ht htd he hO hz (Nat.eq_of_beq_eq_true hzl) hv,λh=>(by cases h)⟩
       .cases h
      .cases h
     .cases h
    .cases h
   .cases h
  .cases h
 .rename_i args argTypes hop;split at h
  .rename_i x y t t' hargs htys;split at h
   .rename_i s str ti tu hx hy ht hu;split at h
    .rename_i e hdd hud;split at h
     .rename_i tie he;split at h
      .rename_i r l P hsz ha;simp only[sI7,pI7] at h;obtain⟨rfl,rfl,rfl⟩:=h;exact⟨λ_ hv=>way.appendStr hte hop hargs htys hd ht hdd hu hud he (Nat.eq_of_beq_eq_true hsz) hx hy (λO' hO=>wtg hO ha) hv,λh=>(by cases h)⟩
      .cases h
     .cases h
    .cases h
   .cases h
  .cases h
 .rename_i args argTypes hop;split at h
  .rename_i x hargs;split at h
   .rename_i r n hx;split at h
    .rename_i t sz n0 f hO;simp only[sI7,pI7] at h;obtain⟨rfl,rfl,rfl⟩:=h;exact⟨λ_ hv=>way.sliceData hop hargs hd hx hO hv,λh=>(by cases h)⟩
    .cases h
   .cases h
  .cases h
 .rename_i args argTypes hop;split at h
  .rename_i x y pt it hargs htys;split at h
   .rename_i r m tp hx hy hp;split at h
    .rename_i e hpd;split at h
     .rename_i tie e' n f he hO;split at h
      .rename_i hsz hee;simp only[sI7,pI7] at h;obtain⟨rfl,rfl,rfl⟩:=h;obtain rfl:=Nat.eq_of_beq_eq_true hee;exact⟨λ_ hv=>way.unsafeStr hte hop hargs htys hd hx hy hp hpd he (Nat.eq_of_beq_eq_true hsz) hO hv.1 hv.2.1 hv.2.2.1 hv.2.2.2,λh=>(by cases h)⟩
      .cases h
     .cases h
    .cases h
   .cases h
  .cases h
 .cases h
end
end Go.Eng
namespace Go.Eng
open Go.ChangeMaps (setBlock)
theorem AOps.nextMap {C : Ctx} {m N : Nat} {ops : Array Oper} {rest : List Oper} {Q : Exit → St → Prop} {o : Oper} {T : List (Nat × AV)} {O : List (Nat × AObj)} {nx : Nat} {dec : List Nat} {x : Operand} {r mm n0 ty c0 : Nat} {left : List Nat} {es : List (AV × AV)}
    (hg : o.guard = none) (hop : o.op = .next x false) (hd : wba N o.dst = true) (hx : evO (lk T) x = some (.ptr r 0)) (hO : lk O r = some (.miter mm n0 (ty :: c0 :: left))) (hM : lk O mm = some (.amap es)) (hn : n0 = es.length)
    (h0 : left = [] → AOps C m N ops rest Q ⟨putT o.dst (.tuple [.bool false]) T, O, nx, dec⟩)
    (hs : ∀ i, i ∈ left → AOps C m N ops rest Q ⟨putT o.dst (.tuple [.bool true, .any, .any]) T, (r, .miter mm n0 (ty :: i :: left.erase i)) :: O, nx, dec⟩) : AOps C m N ops (o :: rest) Q ⟨T, O, nx, dec⟩ := by
  intro E hE bs a w hr
  refine wpList_plain hg fun K hK => ?_
  obtain ⟨⟨hF, hW⟩, hnx, hm⟩ := hr
  obtain ⟨b, c, bm, cm, seen, h1, h2, h3, nd, hlt, hiff, _⟩ := hW.obj r _ hO
  simp only [List.drop_succ_cons, List.drop_zero] at nd hlt hiff
  obtain ⟨bm', cm', ents, clock, g1, g2, hent, hborn⟩ := hW.obj mm _ hM
  rw [h2] at g1
  injection g1 with g1
  injection g1 with e1 e2
  subst e1; subst e2
  have hsz : ents.size = n0 := by rw [hent.1, hn]
  have hev := wbe hF hx
  generalize hmx : a.eval x = mv at hev
  have hmv : mv = .pointer (some ⟨b, 0, none⟩) := by
    cases hev with
    | ptr hb =>
      rw [h1] at hb
      injection hb with hb
      injection hb with e1 e2
      subst e1
      rfl
  subst hmv
  have hold : ∀ y ∈ ents.toList, y.born < n0 := by
    intro y hy
    obtain ⟨j, hj⟩ := List.getElem?_of_mem hy
    have hj' : ents[j]? = some y := by simpa using hj
    rw [hborn.2 j y hj', ← hsz]
    exact (Array.getElem?_eq_some_iff.1 hj').1
  rcases run_next_at (P := C.P) w o.type b bm n0 n0 seen ents clock h3 g2 hold (lR7 _) with ⟨z1, z2⟩ | ⟨e, z1, w1, z2, z3⟩
  · have hl : left = [] := by
      cases hleft : left with
      | nil => rfl
      | cons i l =>
        have hi : i ∈ left := by rw [hleft]; exact List.mem_cons_self ..
        have hin := hlt i hi
        have hin' : i < ents.size := by omega
        have hc := (hiff i hin).1 hi
        have hm : ents[i] ∈ leftOf ents seen := by
          unfold leftOf
          rw [Array.mem_filter]
          refine ⟨by simp, ?_⟩
          rw [hborn.2 i _ (Array.getElem?_eq_getElem hin')]
          simpa using hc
        have : leftOf ents seen = #[] := Array.eq_empty_of_size_eq_zero z1
        rw [this] at hm
        simp at hm
    have run : (execOp a.eval o).run C.P w = .ok (.value (.tuple #[.bool false])) w := by simp [execOp, hop, hmx, z2]
    unfold Oper.wp
    rw [run]
    refine hK _ _ (h0 hl E hE bs _ _ ⟨⟨hF.putT hd (.tuple rfl fun j v u hv hu => ?_), hW⟩, hnx, hm⟩)
    match j with
    | 0 => simp at hv hu; subst hv; subst hu; exact .bool
    | j + 1 => simp at hv
  · unfold leftOf at z1
    have hz := Array.mem_filter.1 (Array.mem_toList_iff.1 z1)
    obtain ⟨i, hi⟩ := Array.getElem?_of_mem hz.1
    have hbi := hborn.2 i e hi
    have hin : i < ents.size := (Array.getElem?_eq_some_iff.1 hi).1
    have hil : i ∈ left := (hiff i (by omega)).2 (by have := hz.2; rw [hbi] at this; simpa using this)
    have run : (execOp a.eval o).run C.P w = .ok (.value (.tuple #[.bool true, e.key, e.val])) (setBlock w1 b (.mapIter (some bm) n0 (seen.push e.born) clock)) := by simp [execOp, hop, hmx, z3]
    have hblt : b < w.heap.size := (Array.getElem?_eq_some_iff.1 h3).1
    have hclk : clock = n0 := by rw [hborn.1, hsz]
    obtain ⟨hS, hW'⟩ := hW.modify (x := r) (o := .miter mm n0 (ty :: i :: left.erase i)) hO rfl h1 (w' := setBlock w1 b (.mapIter (some bm) n0 (seen.push e.born) clock))
      (fun b' hb' => by
        rcases z2 with rfl | rfl
        · simp [setBlock, Ne.symm hb']
        · show (w.heap.setIfInBounds b _)[b']? = _
          simp [Ne.symm hb'])
      (by rcases z2 with rfl | rfl
          · simp [setBlock]
          · show (w.heap.setIfInBounds b _).size = _
            simp)
      (by rcases z2 with rfl | rfl <;> rfl) (by rcases z2 with rfl | rfl <;> exact ⟨rfl, fun _ => by first | exact lR7 _ | exact Nat.le_succ _⟩) (by rcases z2 with rfl | rfl <;> rfl) rfl
      (fun hS => ⟨b, c, bm, cm, seen.push e.born, h1, h2, by
          rcases z2 with rfl | rfl
          · simp [setBlock, hblt, hclk]
          · show (w.heap.setIfInBounds b _)[b]? = _
            simp [hblt, hclk],
        nd.erase i, fun j hj => hlt j (List.mem_of_mem_erase hj), fun j hj => by
          show j ∈ left.erase i ↔ (seen.push e.born).contains j = false
          rw [nd.mem_erase_iff, hiff j hj, hbi, Array.contains_push]
          by_cases hji : j = i
          · subst hji; simp
          · simp [hji], fun j hj hjn => by
          simp only [List.getElem?_cons_succ, List.getElem?_cons_zero, sI7] at hj
          subst hj
          rw [hbi]; simp⟩)
    unfold Oper.wp
    rw [run]
    refine hK _ _ (hs i hil E hE bs _ _ ⟨⟨?_, ?_⟩, fun r' hr' => ⟨?_, (hnx r' hr').2⟩, hm⟩)
    · show FRep _ (MB E (lk ((r, .miter mm n0 (ty :: i :: left.erase i)) :: O)) bs) bs N (lk (putT o.dst _ T)) _
      rw [wk4]
      refine (hF.step hS).putT hd (.tuple rfl fun j v u hv hu => ?_)
      match j with
      | 0 => simp at hv hu; subst hv; subst hu; exact .bool
      | 1 => simp at hv hu; subst hv; subst hu; exact .any
      | 2 => simp at hv hu; subst hv; subst hu; exact .any
      | j + 3 => simp at hv
    · show WRep C E (lk ((r, .miter mm n0 (ty :: i :: left.erase i)) :: O)) bs _
      rw [wk4]; exact hW'
    · show lk ((r, .miter mm n0 (ty :: i :: left.erase i)) :: O) r' = none
      rw [wax]
      have hne : ¬ r = r' := fun e => by subst e; have := (hnx r hr').1; rw [hO] at this; cases this
      simp only [hne, if_false]
      exact (hnx r' hr').1
theorem way.entry{C:Ctx}{N:Nat}{o:Oper}{T:Nat->Option AV}{O:Nat->Option AObj}{k:Nat}{x:Operand}{r mm n0 ty c0:Nat}{left:List Nat}{es:List (AV×AV)}{ku vu:AV}
  (hop:o.op= .entry x) (hd:wba N o.dst=true) (hx:evO T x=some (.ptr r 0)) (hO:O r=some (.miter mm n0 (ty::c0::left))) (hM:O mm=some (.amap es)) (hn:n0=es.length) (hc:es[c0]?=some (ku,vu)):
  way C N o T O k (.tuple [ku,vu]) []:=by
 intro E T' O' bs a w K Q hT hOs hr hf hK;obtain⟨b,c,bm,cm,seen,h1,h2,h3,nd,hlt,hiff,hcur⟩:=hr.2.obj r _ (hOs _ _ hO);obtain⟨bm',cm',ents,clock,g1,g2,hent,hborn⟩:=hr.2.obj mm _ (hOs _ _ hM);rw[h2] at g1;injection g1 with g1;injection g1 with e1 e2;subst e1;subst e2;have hlt0:c0<es.length:=(List.getElem?_eq_some_iff.1 hc).1;have hsz:ents.size=n0:=by rw[hent.1,hn]
 have hclk:clock=n0:=by rw[hborn.1,hsz]
 have hback:=hcur c0 (by simp) (by omega);have hin:c0<ents.size:=by omega
 have hei:ents[c0]?=some ents[c0]:=Array.getElem?_eq_getElem hin;have hev:=wbe hr.1 (wbg hT hx);generalize hmx:a.eval x=mv at hev;have hmv:mv= .pointer (some ⟨b,0,none⟩):=by
  cases hev with
  |ptr hb=>
   rw[h1] at hb;injection hb with hb;injection hb with e1 e2;subst e1;rfl
 subst hmv;have hfind:ents.find? (λy=>y.born==c0)=some ents[c0]:=by
  rw[Array.find?_eq_some_iff_getElem];refine⟨by rw[hborn.2 c0 _ hei];simp,c0,hin,rfl,λj hj=>?_⟩;have:=hborn.2 j _ (Array.getElem?_eq_getElem (by omega:j<ents.size));simp[this];omega
 have hv:(Instr.entry (.pointer (some ⟨b,0,none⟩))).run C.P w= .ok (.tuple #[ents[c0].key,ents[c0].val]) w:=by
  simp only[Instr.entry,getObj,Sem.run_bind,Sem.run,h3,g2,Result.andThen,hback,hclk,bne_self_eq_false,Bool.false_eq_true,if_false,hfind];rfl
 obtain⟨V1,V2⟩:=hent.2 c0 _ _ hei hc;have:(execOp a.eval o).run C.P w= .ok (.value (.tuple #[ents[c0].key,ents[c0].val])) w:=by simp[execOp,hop,hmx,hv]
 unfold Oper.wp;rw[this];refine hK bs _ _ (λ_ _=>rfl) ⟨hr.1.putF hd (.tuple rfl λj v u hv hu=>?_),hr.2⟩
 match j with
 |0=>simp at hv hu;subst hv;subst hu;exact V1
 |1=>simp at hv hu;subst hv;subst hu;exact V2
 |j+2=>simp at hv
end Go.Eng
namespace Go.Eng
def wab(b:Bool)(P Q:Prop):Prop:=match b with
 |true=>P
 |false=>Q
theorem waw{b:Bool}{P Q:Prop}(h1:b=true->P)(h2:b=false->Q):wab b P Q:=by
 cases b with
 |true=>exact h1 rfl
 |false=>exact h2 rfl
theorem wbv{b:Bool}{P Q:Prop}(h:wab b P Q):(b=true->P)/\(b=false->Q):=by
 cases b with
 |true=>exact⟨λ_=>h,λh=>(nomatch h)⟩
 |false=>exact⟨λh=>(nomatch h),λ_=>h⟩
@[simp] theorem condP_true {P Q:Prop}:wab true P Q=P:=rfl
@[simp] theorem condP_false {P Q:Prop}:wab false P Q=Q:=rfl
abbrev Spec:=List AV->List AObj->Option (AV×List (Nat×AObj)×Prop)
abbrev wbp:=List AV->List AObj->(AV->List (Nat×AObj)->Prop)->Prop
inductive CSpec where
 |det (S:Spec)
 |rel (S:wbp)
abbrev war:=St->(Exit->St->Prop)->Prop
structure Env where
 te:TE
 calls:List (Nat×CSpec)
 loops:List (Nat×war)
 m:Nat
 N:Nat
 fuel:Nat:=0
mutual
def refsA:AV->List Nat
 |.ptr r _=>[r]
 |.eptr r _ _ _=>[r]
 |.own r _=>[r]
 |.sub r _ _ _=>[r]
 |.map r=>[r]
 |.func _ l=>refsL l
 |.iface _ v=>refsA v
 |.agg l=>refsL l
 |.tuple l=>refsL l
 |_=>[]
def refsL:List AV->List Nat
 |[]=>[]
 |u::l=>refsA u++refsL l
end
def refsO(te:TE):AObj->List Nat
 |.cells cs t=>match lk te t with
  |some _=>refsL cs
  |none=>[]
 |.miter m _ _=>[m]
 |_=>[]
def wbw(te:TE)(O:List (Nat×AObj)):Nat->List Nat->List Nat->List Nat
 |0,_,seen=>seen
 |_+1,[],seen=>seen
 |k+1,r::todo,seen=>match hasN seen r with
  |true=>wbw te O k todo seen
  |false=>match lk O r with
   |some o=>match o.mut with
    |true=>wbw te O k (todo++refsO te o) (seen++[r])
    |false=>wbw te O k todo seen
   |none=>wbw te O k todo seen
def wcg:AObj->Prop->Prop
 |.row _ _ n f _,P=>(∀i,i<n->nrefL (f i)=true)/\P
 |_,P=>P
def wch:List (Nat×AObj)->Prop->Prop
 |[],P=>P
 |o::l,P=>wcg o.2 (wch l P)
def wi1:List AObj->Prop->Prop
 |[],P=>P
 |o::l,P=>wcg o (wi1 l P)
def rnO?(σ:Nat->Option Nat):AObj->Option AObj
 |.cells cs t=>some (.cells (AV.rnL σ cs) t)
 |.row t sz n f fr=>some (.row t sz n f fr)
 |.amap es=>some (.amap (es.map λp=>(p.1.rn σ,p.2.rn σ)))
 |.siter s p=>some (.siter s p)
 |.miter m n l=>match σ m with
  |some m'=>some (.miter m' n l)
  |none=>none
 |.dead=>some .dead
def wd5(ρ:Nat->Option Nat)(O:Nat->Option AObj):List Nat->Option (List AObj)
 |[]=>some []
 |r::l=>match O r with
  |some o=>match o.mut with
   |true=>match rnO? ρ o with
    |some o'=>match wd5 ρ O l with
     |some l'=>some (o'::l')
     |none=>none
    |none=>none
   |false=>none
  |none=>none
def unsA:Option AV->Bool
 |some (.int .u8 _)=>true
 |some (.int .u16 _)=>true
 |some (.int .u32 _)=>true
 |some (.int .u64 _)=>true
 |_=>false
def wfr(pass:List Nat)(k:Nat):List (Nat×AObj)->Option (List (Nat×AObj))
 |[]=>some []
 |p::l=>match rnO? (sig pass k) p.2,wfr pass k l with
  |some o,some l'=>some ((sigN pass k p.1,o)::l')
  |_,_=>none
def wai:List (Nat×AObj)->List (Nat×AObj)->Prop
 |[],[]=>True
 |(r,.row t sz n f fr)::l,(r',.row t' sz' n' f' fr')::l'=>(r=r'/\t=t'/\sz=sz'/\n=n'/\fr=fr'/\∀i,i<n->f i=f' i)/\wai l l'
 |p::l,p'::l'=>p=p'/\wai l l'
 |_,_=>False
def wsl:List (Nat×AObj)->Bool
 |[]=>false
 |(_,.row _ _ _ _ _)::_=>true
 |_::l=>wsl l
def rowR(O:List (Nat×AObj))(R:List (Nat×AObj)->Prop):Prop:=match wsl O with
 |true=>∃O',wai O O'/\R O'
 |false=>R O
def wkb(T:Nat->Option AV):Op->Bool
 |.move _=>true
 |.assign _=>true
 |.pick _ _ _=>true
 |.nilCheck _=>true
 |.unOp .not _ _=>true
 |.fieldAddr _ _ _=>true
 |.field _ _ _=>true
 |.build _ _=>true
 |.extract _ _=>true
 |.makeFunc _ _ _=>true
 |.makeInterface _ _=>true
 |.call _=>true
 |.load _ x=>match evO T x with
  |some (.ptr _ _)=>true
  |some (.vptr _)=>true
  |_=>false
 |.binOp op _ x _ _=>match op with
  |.add=>unsA (evO T x)
  |.sub=>unsA (evO T x)
  |.mul=>unsA (evO T x)
  |.eql=>true
  |.neq=>true
  |.lss=>true
  |.leq=>true
  |.gtr=>true
  |.geq=>true
  |_=>false
 |_=>false
def wkc(te:TE)(T:Nat->Option AV):Op->Bool
 |.alloc _=>true
 |.box _ _=>true
 |.makeMap _ _=>true
 |.range _ _=>true
 |.store t x y=>match evO T x with
  |some (.ptr _ _)=>match evO T y,lk te t with
   |some u,some ti=>match wee u with
    |some new=>Nat.beq new.length ti.sz
    |none=>false
   |_,_=>false
  |_=>false
 |_=>false
def vcP(b:Bool)(v P:Prop):Prop:=match b with
 |true=>P
 |false=>v/\P
def wky(l:List (Nat×AObj))(nx:Nat):Bool:=match l with
 |[]=>true
 |p::l=>Nat.ble p.1 nx && wky l nx
def wrr(l:List (Nat×AObj))(nx:Nat):Bool:=l.all λp=>Nat.blt p.1 (nx+16)
abbrev KT:=List (Nat×AV)->List (Nat×AObj)->Nat->Prop
def wqi(G:Env)(o:Oper)(T:List (Nat×AV))(O:List (Nat×AObj))(nx:Nat)(K:KT):Prop:=
 match o.op with
 |.call { callee:=.value fo,args,argTypes:=_ }=>match evO (lk T) fo with
  |some (.func f cap)=>match evL (lk T) args.toList with
   |some as=>match lk G.calls f with
    |some (.rel S)=>match wbw G.te O 64 (refsL (as++cap)) [] with
     |pass=>match ndB pass with
      |true=>match wd5 (idxN pass) (lk O) pass with
       |some cobjs=>wi1 cobjs (S (AV.rnL (idxN pass) (as++cap)) cobjs λU Os=>match ndB (Os.map Prod.fst),wfr pass nx Os with
        |true,some O2=>wch Os (K (putT o.dst (U.rn (sig pass nx)) T) (ov O2 (ov (deads pass) O)) (nx+16))
        |_,_=>False)
       |none=>False
      |false=>False
    |some (.det S)=>match wbw G.te O 64 (refsL (as++cap)) [] with
     |pass=>match ndB pass with
      |true=>match wd5 (idxN pass) (lk O) pass with
       |some cobjs=>match S (AV.rnL (idxN pass) (as++cap)) cobjs with
        |some (U,Os,vc)=>match ndB (Os.map Prod.fst),wfr pass nx Os with
         |true,some O2=>wi1 cobjs (vc/\wch Os (K (putT o.dst (U.rn (sig pass nx)) T) (ov O2 (ov (deads pass) O)) (nx+16)))
         |_,_=>False
        |none=>False
       |none=>False
      |false=>False
    |none=>False
   |none=>False
  |_=>False
 |_=>False
def nextT(te:TE)(t:TypeId):Option (AV×AV):=match lk te t with
 |some ti=>match ti.desc with
  |.map kt vt=>match lk te kt,lk te vt with
   |some tk,some tv=>match wgc tk.zero,wgc tv.zero with
    |some zk,some zv=>some (zk,zv)
    |_,_=>none
   |_,_=>none
  |_=>none
 |none=>none
def wqg(o:Oper)(x:Operand)(T:List (Nat×AV))(O:List (Nat×AObj))(nx:Nat)(K:KT):Prop:=
 match evO (lk T) x with
 |some (.ptr r 0)=>match lk O r with
  |some (.miter mm n0 (ty::_::left))=>match lk O mm with
   |some (.amap es)=>n0=es.length/\(left=[]->K (putT o.dst (.tuple [.bool false]) T) O nx)/\
     ∀i:Nat,i∈left->K (putT o.dst (.tuple [.bool true,.any,.any]) T) (ov [(r,.miter mm n0 (ty::i::left.erase i))] O) nx
   |_=>False
  |_=>False
 |_=>False
def wqh(G:Env)(o:Oper)(x:Operand)(T:List (Nat×AV))(O:List (Nat×AObj))(nx:Nat)(K:KT):Prop:=
 match evO (lk T) x with
 |some (.ptr r 0)=>match lk O r with
  |some (.miter mm n0 (ty::c::_))=>match lk O mm,nextT G.te ty with
   |some (.amap es),some (zk,zv)=>(n0=es.length/\c<n0/\wcr zk (es.getD c (.any,.any)).1=(es.getD c (.any,.any)).1/\wcr zv (es.getD c (.any,.any)).2=(es.getD c (.any,.any)).2)/\
     K (putT o.dst (.tuple [wcr zk (es.getD c (.any,.any)).1,wcr zv (es.getD c (.any,.any)).2]) T) O (nx+16)
   |_,_=>False
  |_=>False
 |_=>False
def wp1(G:Env)(o:Oper)(T:List (Nat×AV))(O:List (Nat×AObj))(nx:Nat)(K:KT):Prop:=
 match wba G.N o.dst with
 |true=>match wb7 G.te (lk T) (lk O) o.op with
  |some (u,v)=>vcP (wkb (lk T) o.op) v (K (putT o.dst u T) O nx)
  |none=>match wb8 G.te (lk T) (lk O) nx o.op with
   |some (u,l,v)=>match wky l nx with
    |true=>vcP (wkc G.te (lk T) o.op) v (K (putT o.dst u T) (ov l O) (nx+1))
    |false=>False
   |none=>match wci G.te (lk T) (lk O) nx o.dst o.op with
    |some (b,x1,x2)=>match wrr x1.2.1 nx && wrr x2.2.1 nx with
     |true=>wab b (x1.2.2/\K (putT o.dst x1.1 T) (ov x1.2.1 O) (nx+16)) (x2.2.2/\K (putT o.dst x2.1 T) (ov x2.2.1 O) (nx+16))
     |false=>False
    |none=>match o.op with
     |.next x false=>wqg o x T O nx K
     |.entry x=>wqh G o x T O nx K
     |_=>wqi G o T O nx K
 |false=>False
def wes(G:Env)(opl:List Oper)(K:St->Prop):List Oper->KT
 |[],T,O,nx=>K ⟨T,O,nx,[]⟩
 |o::rest,T,O,nx=>match o.guard with
  |none=>wp1 G o T O nx (wes G opl K rest)
  |some _=>match gslot opl o with
   |some (d,want)=>match lk T d with
    |some (.bool b)=>match Nat.blt d G.N && wba G.N o.dst with
     |true=>wab b
      (match want with
       |true=>wp1 G o ((d,.bool true)::rm d T) O nx (wes G opl K rest)
       |false=>wes G opl K rest (putT o.dst (.tuple []) ((d,.bool true)::rm d T)) O nx)
      (match want with
       |false=>wp1 G o ((d,.bool false)::rm d T) O nx (wes G opl K rest)
       |true=>wes G opl K rest (putT o.dst (.tuple []) ((d,.bool false)::rm d T)) O nx)
     |false=>False
    |some (.tuple [])=>match wba G.N o.dst with
     |true=>wes G opl K rest (putT o.dst (.tuple []) T) O nx
     |false=>False
    |_=>False
   |none=>False
structure DRow where
 o:Oper
 T:List (Nat×AV)
 O:List (Nat×AObj)
 p:PEnt
def frc(n:Nat)(k:Nat->Bool):Bool:=match n with
 |0=>k 0
 |n+1=>k (Nat.succ n)
theorem whk(n:Nat)(k:Nat->Bool):frc n k=k n:=by cases n<;>rfl
def frcL:List Nat->(List Nat->Bool)->Bool
 |[],k=>k []
 |x::l,k=>frc x λx=>frcL l λl=>k (x::l)
theorem wxs:∀(l:List Nat) (k:List Nat->Bool),frcL l k=k l
 |[],_=>rfl
 |x::l,k=>by rw[frcL,whk,wxs l]
def frcO:Option Nat->(Option Nat->Bool)->Bool
 |none,k=>k none
 |some x,k=>frc x λx=>k (some x)
theorem frcO_eq:∀(l:Option Nat) (k:Option Nat->Bool),frcO l k=k l
 |none,_=>rfl
 |some x,k=>by rw[frcO,whk]
def bitN(m j:Nat):Bool:=Nat.beq (Nat.land (Nat.shiftRight m j) 1) 1
def whu(e:Edge):Bool:=match e.ground with
 |.textOnly _=>false
 |.gcOnly _=>false
 |_=>true
def getM:List Nat->Nat->Nat
 |[],_=>0
 |m::_,0=>m
 |_::l,i+1=>getM l i
def afM(ms:List Nat):List Edge->Nat
 |[]=>0
 |e::l=>match whu e with
  |true=>Nat.lor (Nat.lor (Nat.pow 2 e.on) (getM ms e.on)) (afM ms l)
  |false=>afM ms l
def wkf:List Nat->Nat->(List Nat->Bool)->Bool
 |[],m,k=>k [m]
 |x::l,m,k=>wkf l m λl=>k (x::l)
theorem wus:∀(l:List Nat) (m:Nat) (k:List Nat->Bool),wkf l m k=k (l++[m])
 |[],_,_=>rfl
 |x::l,m,k=>by rw[wkf,wus l];rfl
def wk2:List Oper->List Nat->(List Nat->Bool)->Bool
 |[],ms,k=>k ms
 |o::l,ms,k=>frc (afM ms o.after.toList) λm=>wkf ms m λms=>wk2 l ms k
def masks:List Oper->List Nat->List Nat
 |[],ms=>ms
 |o::l,ms=>masks l (ms++[afM ms o.after.toList])
theorem wwp:∀(l:List Oper) (ms:List Nat) (k:List Nat->Bool),wk2 l ms k=k (masks l ms)
 |[],_,_=>rfl
 |o::l,ms,k=>by rw[wk2,whk,wus,wwp l];rfl
structure MR where
 i:Nat
 m:Nat
 d:Option Nat
 l:List Nat
def mrK:Nat->List Oper->List Nat->List DRow->(List MR->Bool)->Bool
 |i,o::ol,m::ms,w::ws,k=>frcO o.dst λd=>frcL (w.p.l.map Prod.fst) λl=>frc (Nat.succ i) λi'=>mrK i' ol ms ws λrs=>k (⟨i,m,d,l⟩::rs)
 |_,[],[],[],k=>k []
 |_,_,_,_,_=>false
def unord(i mi:Nat)(r:MR):Bool:=match Nat.beq i r.i with
 |true=>false
 |false=>match bitN mi r.i with
  |true=>false
  |false=> !bitN r.m i
def consK:Option Nat->List Nat->(List Nat->Bool)->Bool
 |none,a,k=>k a
 |some d,a,k=>k (d::a)
def appK:List Nat->List Nat->(List Nat->Bool)->Bool
 |[],b,k=>k b
 |x::l,b,k=>appK l (x::b) k
def hidK(i mi:Nat):List MR->List Nat->List Nat->(List Nat->List Nat->Bool)->Bool
 |[],a,b,k=>k a b
 |r::rs,a,b,k=>match unord i mi r with
  |true=>consK r.d a λa=>appK r.l b λb=>hidK i mi rs a b k
  |false=>hidK i mi rs a b k
def wgk(te:TE)(h:List Nat×List Nat)(k:Nat)(o:Oper)(T:List (Nat×AV))(O:List (Nat×AObj)):Bool:=
 match wb7 te (hide h.1 (lk T)) (hide h.2 (lk O)) o.op with
 |some _=>true
 |none=>match wb7 te (lk T) (lk O) o.op with
   |some _=>false
   |none=>match wb8 te (hide h.1 (lk T)) (hide h.2 (lk O)) k o.op with
     |some _=>true
     |none=>match wb8 te (lk T) (lk O) k o.op with
       |some _=>false
       |none=>match wci te (hide h.1 (lk T)) (hide h.2 (lk O)) k o.dst o.op with
        |some _=>true
        |none=>match wci te (lk T) (lk O) k o.dst o.op with
         |some _=>false
         |none=>match o.op with
         |.call { callee:=.value fo,args,argTypes:=_ }=>match evO (hide h.1 (lk T)) fo with
           |some (.func _ cap)=>match evL (hide h.1 (lk T)) args.toList with
             |some as=>(wbw te O 64 (refsL (as++cap)) []).all λx=> !(hasN h.2 x)
             |none=>false
           |_=>false
         |_=>false
def wd8(G:Env)(opl:List Oper)(h:List Nat×List Nat)(k:Nat)(r:DRow):Bool:=
 (match r.o.guard with
  |none=>r.p.want
  |some _=>match gslot opl r.o with
   |some (d,_)=> !(hasN h.1 d)
   |none=>false) &&
 (match r.p.want with
  |false=>true
  |true=>wgk G.te h k r.o r.T r.O)
def wiz(r:MR)(h1 h2:List Nat):Bool:=(match r.d with
 |some d=> !hasN h1 d
 |none=>true) && r.l.all λx=> !hasN h2 x
def wi5(nx:Nat)(r:MR)(x:Nat):Bool:=Nat.blt x nx || Nat.beq (Nat.div (Nat.sub x nx) 16) r.i || bitN r.m (Nat.div (Nat.sub x nx) 16)
def goK(G:Env)(opl:List Oper)(nx:Nat)(all:List MR):Nat->List MR->List DRow->Bool
 |_,[],[]=>true
 |k,r::rs,w::ws=>Nat.blt r.m (Nat.pow 2 r.i) && (r.l.all (wi5 nx r) && ((hidK r.i r.m all [] [] λh1 h2=>wiz r h1 h2 && wd8 G opl (h1,h2) k w) && frc (Nat.add k 16) λk=>goK G opl nx all k rs ws))
 |_,_,_=>false
def wpD1(G:Env)(o:Oper)(T:List (Nat×AV))(O:List (Nat×AObj))(k:Nat)(K:AV->List (Nat×AObj)->Prop):Prop:=
 match wba G.N o.dst with
 |true=>match wb7 G.te (lk T) (lk O) o.op with
   |some (u,v)=>vcP (wkb (lk T) o.op) v (K u [])
   |none=>match wb8 G.te (lk T) (lk O) k o.op with
     |some (u,l,v)=>vcP (wkc G.te (lk T) o.op) v (K u l)
     |none=>match wci G.te (lk T) (lk O) k o.dst o.op with
      |some (b,x1,x2)=>wab b (x1.2.2/\K x1.1 x1.2.1) (x2.2.2/\K x2.1 x2.2.1)
      |none=>match o.op with
       |.call { callee:=.value fo,args,argTypes:=_ }=>match evO (lk T) fo with
         |some (.func f cap)=>match evL (lk T) args.toList with
           |some as=>match lk G.calls f with
             |some (.det S)=>match wbw G.te O 64 (refsL (as++cap)) [] with
               |pass=>match ndB pass with
                 |true=>match wd5 (idxN pass) (lk O) pass with
                   |some cobjs=>match S (AV.rnL (idxN pass) (as++cap)) cobjs with
                     |some (U,Os,vc)=>match ndB (Os.map Prod.fst),wfr pass k Os with
                       |true,some O2=>wi1 cobjs (vc/\wch Os (K (U.rn (sig pass k)) (O2++deads pass)))
                       |_,_=>False
                     |none=>False
                   |none=>False
                 |false=>False
             |_=>False
           |none=>False
         |_=>False
       |_=>False
 |false=>False
def ws1(G:Env)(opl:List Oper)(nx0:Nat)(rows:List DRow):Bool:=wk2 opl [] λms=>mrK 0 opl ms rows λrs=>frc nx0 λnx=>goK G opl nx rs nx rs rows
def wpD(G:Env)(opl:List Oper)(T0:List (Nat×AV))(O0:List (Nat×AObj))(nx0:Nat)(K:St->Prop):List Oper->List DRow->KT
 |[],rows,T,O,nx=>match ws1 G opl nx0 rows with
  |true=>K ⟨T,O,nx,[]⟩
  |false=>False
 |o::rest,rows,T,O,nx=>
  match o.guard with
  |none=>wpD1 G o T O nx λu l=>wpD G opl T0 O0 nx0 K rest (rows++[⟨o,T,O,⟨true,u,l⟩⟩]) (putT o.dst u T) (l++O) (nx+16)
  |some _=>match gslot opl o with
   |some (d,want)=>match lk T d with
    |some (.bool b)=>match wba G.N o.dst with
     |true=>wab b
      (match want,(d,AV.bool true)::rm d T with
       |true,T=>wpD1 G o T O nx λu l=>wpD G opl T0 O0 nx0 K rest (rows++[⟨o,T,O,⟨true,u,l⟩⟩]) (putT o.dst u T) (l++O) (nx+16)
       |false,T=>wpD G opl T0 O0 nx0 K rest (rows++[⟨o,T,O,⟨false,.tuple [],[]⟩⟩]) (putT o.dst (.tuple []) T) O (nx+16))
      (match want,(d,AV.bool false)::rm d T with
       |false,T=>wpD1 G o T O nx λu l=>wpD G opl T0 O0 nx0 K rest (rows++[⟨o,T,O,⟨true,u,l⟩⟩]) (putT o.dst u T) (l++O) (nx+16)
       |true,T=>wpD G opl T0 O0 nx0 K rest (rows++[⟨o,T,O,⟨false,.tuple [],[]⟩⟩]) (putT o.dst (.tuple []) T) O (nx+16))
     |false=>False
    |some (.tuple [])=>match wba G.N o.dst with
     |true=>wpD G opl T0 O0 nx0 K rest (rows++[⟨o,T,O,⟨false,.tuple [],[]⟩⟩]) (putT o.dst (.tuple []) T) O (nx+16)
     |false=>False
    |_=>False
   |none=>False
def wfm:Code->Nat
 |.region id _ _=>id
 |.seq a _=>wfm a
 |.block _ a=>wfm a
 |.loop a=>wfm a
 |.cond _ a _=>wfm a
 |.scope a=>wfm a
 |_=>0
def iterP(B:(Exit->St->Prop)->St->Prop):Nat->(Exit->St->Prop)->St->Prop
 |0,_,_=>False
 |n+1,Q,s=>B (wew (iterP B n Q) Q) s
def wvx(Q:Exit->St->Prop):Exit->St->Prop
 |.goto _,_=>False
 |e,s=>Q e s
def wpC(G:Env):Code->(Exit->St->Prop)->St->Prop
 |.skip,Q,s=>Q .normal s
 |.label _,Q,s=>Q .normal s
 |.exit id,Q,s=>Q (.exit id) s
 |.ret,Q,s=>Q .ret s
 |.seq x y,Q,s=>wpC G x (wew (wpC G y Q) Q) s
 |.block id x,Q,s=>wpC G x (wl9 id Q) s
 |.cond c x y,Q,s=>match evO (lk s.T) c with
  |some (.bool b)=>wab b (wpC G x Q s) (wpC G y Q s)
  |_=>False
 |.region id ops draw,Q,s=>match lk G.loops (id+1000) with
  |some L=>L s Q
  |none=>match draw with
   |false=>wes G ops.toList (Q .normal) ops.toList s.T s.O s.nx
   |true=>wpD G ops.toList s.T s.O s.nx (Q .normal) ops.toList [] s.T s.O s.nx
 |.loop x,Q,s=>match lk G.loops (wfm x) with
  |some L=>L s Q
  |none=>iterP (wpC G x) G.fuel Q s
 |.scope x,Q,s=>wpC G x (wvx Q) s
 |.goto l,Q,s=>Q (.goto l) s
 |_,_,_=>False
def numR(m:Nat):List Nat->Nat->List (Nat×Nat)
 |[],_=>[]
 |r::l,k=>match Nat.blt r m with
  |true=>numR m l k
  |false=>(r,k)::numR m l (k+1)
def canO(m:Nat)(ρ:List (Nat×Nat))(O:List (Nat×AObj)):List (Nat×Nat)->Option (List (Nat×AObj))
 |[]=>some []
 |(r,k)::l=>match canO m ρ O l with
  |some O'=>match lk O r with
   |some o=>match o.mut with
    |true=>match rnO? (ren m ρ) o with
     |some o'=>some ((k,o')::O')
     |none=>none
    |false=>some O'
   |none=>some O'
  |none=>none
def canT(ρ:Nat->Option Nat)(T:List (Nat×AV)):List Nat->Option (List (Nat×AV))
 |[]=>some []
 |d::l=>match lk T d,canT ρ T l with
  |some u,some T'=>some ((d,u.rn ρ)::T')
  |_,_=>none
def refsT(T:List (Nat×AV)):List Nat->List Nat
 |[]=>[]
 |d::l=>match lk T d with
  |some u=>refsA u++refsT T l
  |none=>refsT T l
def canon(te:TE)(m:Nat)(F:List Nat)(s:St):Option St:=
 match numR m (wbw te s.O 64 (List.range m++refsT s.T F) []) m with
 |ρ=>match whc m (m+ρ.length) ρ with
  |true=>match canT (ren m ρ) s.T F,canO m ρ s.O (((List.range m).map λr=>(r,r))++ρ) with
   |some T',some O'=>some ⟨T',O',m+ρ.length,[]⟩
   |_,_=>none
  |false=>none
def TEq(T T':List (Nat×AV)):Prop:=T=T'
def canonIs(te:TE)(m:Nat)(F:List Nat)(s1 s:St):Prop:=match canon te m F s1 with
 |some s2=>match wsl s2.O with
  |true=>match Nat.beq s2.nx s.nx with
   |true=>TEq s2.T s.T/\wai s2.O s.O
   |false=>False
  |false=>some s2=some s
 |none=>False
def tmpsR:List ResultVar->Bool
 |[]=>true
 |.tmp _::l=>tmpsR l
 |_=>false
def finP(te:TE)(rs:List ResultVar)(m:Nat)(R:AV->List (Nat×AObj)->Prop)(s:St):Prop:=
 match resA te (lk s.T) (lk s.O) rs with
 |some (us,vc)=>match numR m (wbw te s.O 64 (List.range m++refsL us) []) m with
  |ρ=>match whc m (m+ρ.length) ρ && Nat.ble ρ.length 16 with
   |true=>match canO m ρ s.O (((List.range m).map λr=>(r,r))++ρ) with
    |some O'=>vcP (tmpsR rs) vc (wch O' (rowR O' (R ((one us).rn (ren m ρ)))))
    |none=>False
   |false=>False
 |none=>False
def endP(te:TE)(rs:List ResultVar)(m:Nat)(R:AV->List (Nat×AObj)->Prop):Exit->St->Prop
 |.normal,s=>finP te rs m R s
 |.ret,s=>finP te rs m R s
 |_,_=>False
def we5(fn:Func):Code:=match fn.body with
 |some c=>c
 |none=>.skip
def wpFn(te:TE)(calls:List (Nat×CSpec))(loops:List (Nat×war))(fuel:Nat)(fn:Func)(args:List AV)(objs:List AObj)(R:AV->List (Nat×AObj)->Prop):Prop:=
 wpC ⟨te,calls,loops,objs.length,fn.ntmps,fuel⟩ (we5 fn) (endP te fn.results.toList objs.length R) ⟨enum 0 args,enum 0 objs,objs.length,[]⟩
def wbk(L:List (Nat×war)):Code->List (Code×war)
 |.seq x y=>wbk L x++wbk L y
 |.block _ x=>wbk L x
 |.scope x=>wbk L x
 |.cond _ x y=>wbk L x++wbk L y
 |.loop x=>match lk L (wfm x) with
  |some l=>[(.loop x,l)]
  |none=>wbk L x
 |.region id ops d=>match lk L (id+1000) with
  |some l=>[(.region id ops d,l)]
  |none=>[]
 |_=>[]
def wfk(i:Nat):Code->Option Code
 |.seq x y=>match wfk i x with
  |some c=>some c
  |none=>wfk i y
 |.block _ x=>wfk i x
 |.scope x=>wfk i x
 |.cond _ x y=>match wfk i x with
  |some c=>some c
  |none=>wfk i y
 |.loop x=>match Nat.beq (wfm x) i with
  |true=>some x
  |false=>wfk i x
 |_=>none
def wfe(i:Nat):Code->Option Code
 |.seq x y=>match wfe i x with
  |some c=>some c
  |none=>wfe i y
 |.block _ x=>wfe i x
 |.scope x=>wfe i x
 |.cond _ x y=>match wfe i x with
  |some c=>some c
  |none=>wfe i y
 |.loop x=>wfe i x
 |.region id ops d=>match Nat.beq id i with
  |true=>some (.region id ops d)
  |false=>none
 |_=>none
def wa2(fn:Func)(i:Nat):Code:=match wfk i (we5 fn) with
 |some c=>c
 |none=>.skip
def wam(fn:Func)(i:Nat):Code:=.loop (wa2 fn i)
def regC(fn:Func)(i:Nat):Code:=match wfe i (we5 fn) with
 |some c=>c
 |none=>.skip
def wah(C:Ctx)(f:FuncId)(S:Spec):Prop:=∀args objs U Os vc,S args objs=some (U,Os,vc)->vc->ADet C f args objs U Os
def wa4(C:Ctx)(f:FuncId)(S:wbp):Prop:=∀args objs R,S args objs R->wal C f args objs R
def wgb(C:Ctx)(f:FuncId):CSpec->Prop
 |.det S=>wah C f S
 |.rel S=>wa4 C f S
structure EnvOK (C:Ctx) (G:Env):Prop where
 te:TE.ok C.P G.te
 one:∀t ti,lk G.te t=some ti->wa8 ti.desc=false->ti.sz=1
 calls:∀f S,lk G.calls f=some S->wgb C f S
theorem wvd{o:AObj}{P:Prop}(h:wcg o P):wcg o True/\P:=by
 cases o<;>first | exact⟨⟨h.1,trivial⟩,h.2⟩ | exact⟨trivial,h⟩
theorem wdv:∀ {l:List (Nat×AObj)} {P:Prop},wch l P->(∀p∈l,wcg p.2 True)/\P
 |[],_,h=>⟨λp hp=>by simp at hp,h⟩
 |o::l,P,h=>by
  obtain⟨h1,h2⟩:=wvd h;obtain⟨h3,h4⟩:=wdv h2;refine⟨λp hp=>?_,h4⟩
  rcases List.mem_cons.1 hp with rfl | hp
  .exact h1
  .exact h3 p hp
theorem wkp:∀ {l:List AObj} {P:Prop},wi1 l P->(∀o∈l,wcg o True)/\P
 |[],_,h=>⟨λp hp=>by simp at hp,h⟩
 |o::l,P,h=>by
  obtain⟨h1,h2⟩:=wvd h;obtain⟨h3,h4⟩:=wkp h2;refine⟨λp hp=>?_,h4⟩
  rcases List.mem_cons.1 hp with rfl | hp
  .exact h1
  .exact h3 p hp
theorem wre{σ:Nat->Option Nat}{o o':AObj}(h:rnO? σ o=some o')(hv:wcg o' True):OLe σ o o':=by
 cases o with
 |miter m n l=>
  simp only[rnO?] at h;split at h
  .rename_i m' hm;simp only[sI7] at h;subst h;exact⟨hm,rfl,rfl⟩
  .cases h
 |row t sz n f fr=>
  simp only[rnO?,sI7] at h;subst h;exact⟨rfl,rfl,rfl,rfl,λi hi=>rnL_nref σ _ (hv.1 i hi)⟩
 |_=>
  simp only[rnO?,sI7] at h;subst h;simp[OLe]
theorem w07{σ:Nat->Option Nat}{o o':AObj}(h:rnO? σ o=some o')(hv:wcg o True):wcg o' True:=by
 cases o with
 |miter m n l=>
  simp only[rnO?] at h;split at h
  .simp only[sI7] at h;subst h;trivial
  .cases h
 |row t sz n f fr=>
  simp only[rnO?,sI7] at h;subst h;exact hv
 |_=>
  simp only[rnO?,sI7] at h;subst h;trivial
theorem wku{ρ:Nat->Option Nat}{O:Nat->Option AObj}:∀ {l:List Nat} {l':List AObj},wd5 ρ O l=some l'->(∀o∈l',wcg o True)->wcp ρ O l l'
 |[],l',h,_=>by simp only[wd5,sI7] at h;subst h;trivial
 |r::l,l',h,hv=>by
  simp only[wd5] at h;split at h
  .rename_i o ho;split at h
   .rename_i hm;split at h
    .rename_i o' ho';split at h
     .rename_i l2 hl;simp only[sI7] at h;subst h;exact⟨⟨o,ho,hm,wre ho' (hv o' (by simp))⟩,wku hl λo ho=>hv o (List.mem_cons_of_mem _ ho)⟩
     .cases h
    .cases h
   .cases h
  .cases h
theorem wtc{pass:List Nat}{k:Nat}:∀ {Os O2 Oall:List (Nat×AObj)},wfr pass k Os=some O2->(∀p∈Os,wcg p.2 True)->(∀p∈Os,lk Oall p.1=some p.2)->wbx (sig pass k) Oall O2
 |[],O2,Oall,h,_,_=>by simp only[wfr,sI7] at h;subst h;trivial
 |p::l,O2,Oall,h,hv,hl=>by
  simp only[wfr] at h;split at h
  .rename_i o l' ho hl';simp only[sI7] at h;subst h;exact⟨⟨p.1,p.2,wq2 _ _ _,hl p (by simp),wre ho (w07 ho (hv p (by simp)))⟩,wtc hl' (λq hq=>hv q (List.mem_cons_of_mem _ hq)) λq hq=>hl q (List.mem_cons_of_mem _ hq)⟩
  .cases h
theorem lk_all{l:List (Nat×AObj)}(h:ndB (l.map Prod.fst)=true):∀p∈l,lk l p.1=some p.2:=λ_ hp=>wr1 (wfh h) hp
theorem wir{b:Bool}{v P:Prop}(hb:b=true->v)(h:vcP b v P):v/\P:=by
 cases b with
 |true=>exact⟨hb rfl,h⟩
 |false=>exact h
theorem wv0:∀ {l:List (Nat×AObj)} {nx:Nat},wky l nx=true->∀p∈l,p.1<=nx
 |[],_,_,p,hp=>by simp at hp
 |x::l,nx,h,p,hp=>by
  simp only[wky,bA7] at h
  rcases List.mem_cons.1 hp with rfl | hp
  .exact Nat.le_of_ble_eq_true h.1
  .exact wv0 h.2 p hp
theorem w8t{d:TypeDesc}{op:BinOp}{a b u:AV}{v:Prop}(h:binA d op a b=some (u,v))(ho:op= .eql∨op= .neq∨op= .lss∨op= .leq∨op= .gtr∨op= .geq):v:=by
 unfold binA at h
 rcases ho with rfl | rfl | rfl | rfl | rfl | rfl<;>(repeat' (split at h))<;>simp_all
theorem w13{te:TE}{op:BinOp}{t:TypeId}{y:Operand}{a b u:AV}{v:Prop}(h:opA te op t y a b=some (u,v))(ho:op= .eql∨op= .neq∨op= .lss∨op= .leq∨op= .gtr∨op= .geq):v:=by
 unfold opA at h;split at h
 .split at h
  .split at h
   .split at h<;>simp_all
   .cases h
  .split at h
   .exact w8t h ho
   .cases h
 .cases h
theorem w82{k:IntKind}{n m:Int}{u:AV}{v:Prop}(h:wgy k m=some (u,v))(hu:unsA (some (.int k n))=true):v:=by
 cases k<;>simp_all [unsA,wgy]
theorem w8v{d:TypeDesc}{op:BinOp}{k:IntKind}{n:Int}{b u:AV}{v:Prop}(h:binA d op (.int k n) b=some (u,v))(ho:op= .add∨op= .sub∨op= .mul)(hu:unsA (some (.int k n))=true):v:=by
 cases b with
 |int k' m=>
  rcases ho with rfl | rfl | rfl<;>simp only[binA] at h<;>split at h<;>first | exact w82 h hu | cases h
 |_=>rcases ho with rfl | rfl | rfl<;>simp[binA] at h
theorem w80{te:TE}{op:BinOp}{t:TypeId}{y:Operand}{a b u:AV}{v:Prop}(h:opA te op t y a b=some (u,v))(ho:op= .add∨op= .sub∨op= .mul)(hu:unsA (some a)=true):v:=by
 cases a with
 |int k n=>
  unfold opA at h;split at h
  .split at h
   .rename_i h1 h2;cases h2
   .split at h
    .exact w8v h ho hu
    .cases h
  .cases h
 |_=>cases hu
theorem wt7{te:TE}{T:Nat->Option AV}{O:Nat->Option AObj}{op:Op}{u:AV}{v:Prop}(h:wb7 te T O op=some (u,v))(ht:wkb T op=true):v:=by
 unfold wkb at ht;split at ht
 all_goals (try (cases ht;done))
 all_goals (try (simp only[wb7] at h;(repeat' (split at h))<;>simp_all;done))
 · --load
  rename_i t x;simp only[wb7] at h;split at h
  .rename_i w hw;unfold wdw at h;rw[hw] at ht;split at h
   .split at h
    .rename_i g vc hg;have:vc:=by
      unfold wff at hg;split at hg
      .split at hg<;>simp_all
      .simp at ht
      .simp_all
      .cases hg
     repeat' (split at h)
     all_goals (first | (cases h;done) | (simp only[sI7,pI7] at h;obtain⟨_,rfl⟩:=h;exact this))
    .cases h
   .cases h
  .cases h
 .rename_i op t x y tt;simp only[wb7] at h;split at h
  .rename_i a b ha hb;rw[ha] at ht
   cases op
   case add | sub | mul=>exact w80 h (by simp) ht
   case eql | neq | lss | leq | gtr | geq=>exact w13 h (by simp)
   all_goals (cases ht)
  .cases h
theorem wt8{te:TE}{T:Nat->Option AV}{O:Nat->Option AObj}{fresh:Nat}{op:Op}{u:AV}{l:List (Nat×AObj)}{v:Prop}(h:wb8 te T O fresh op=some (u,l,v))(ht:wkc te T op=true):v:=by
 unfold wkc at ht;split at ht
 all_goals (try (cases ht;done))
 all_goals (try (simp only[wb8] at h;(repeat' (split at h))<;>simp_all;done))
section
variable {C:Ctx} {G:Env} (hG:EnvOK C G) {m:Nat} {ops:Array Oper} {rest:List Oper} {Q:Exit->St->Prop} {o:Oper} {T:List (Nat×AV)} {O:List (Nat×AObj)} {nx:Nat} {dec:List Nat}
include hG
theorem wzs{K:KT}(hg:o.guard=none)(hd:wba G.N o.dst=true)(h:wqi G o T O nx K)(hK:∀T O nx,K T O nx->AOps C m G.N ops rest Q ⟨T,O,nx,[]⟩):AOps C m G.N ops (o::rest) Q ⟨T,O,nx,[]⟩:=by
 unfold wqi at h;split at h
 .rename_i fo args at_ hop;split at h
  .rename_i f cap hf;split at h
   .rename_i as ha;have hpass:∀ {l:List Nat} {l':List AObj},wcp (idxN (wbw G.te O 64 (refsL (as++cap)) [])) (lk O) l l'->wer (idxN (wbw G.te O 64 (refsL (as++cap)) [])) O l l':=by
     intro l
     induction l with
     |nil=>intro l' h;cases l' with
      |nil=>trivial
      |cons _ _=>exact h.elim
     |cons x l ih=>intro l' h;cases l' with
      |nil=>exact h.elim
      |cons y l'=>exact⟨h.1,ih h.2⟩
    have fin:∀(O' O2:List (Nat×AObj)) (U:AV),ndB (O'.map Prod.fst)=true->wfr (wbw G.te O 64 (refsL (as++cap)) []) nx O'=some O2->(∀p∈O',wcg p.2 True)->
      K (putT o.dst (U.rn (sig (wbw G.te O 64 (refsL (as++cap)) []) nx)) T) (ov O2 (ov (deads (wbw G.te O 64 (refsL (as++cap)) [])) O)) (nx+16)->
      ∃u2 O2,U.rn (sig (wbw G.te O 64 (refsL (as++cap)) []) nx)=u2/\wbx (sig (wbw G.te O 64 (refsL (as++cap)) []) nx) O' O2/\AOps C m G.N ops rest Q ⟨putT o.dst u2 T,O2++(deads (wbw G.te O 64 (refsL (as++cap)) [])++O),nx+16,[]⟩:=by
     intro O' O2 U hnk hb hv hk;refine⟨_,O2,rfl,wtc hb hv (lk_all hnk),?_⟩;refine AOps.congrO (O':=ov O2 (ov (deads (wbw G.te O 64 (refsL (as++cap)) [])) O)) ?_ (hK _ _ _ hk);rw[we0];funext r;rw[wc7,wc7,we0]
    split at h
    .rename_i S hS;dsimp only at h;split at h
     .rename_i hnd;split at h
      .rename_i cobjs hobj;obtain⟨hv,h⟩:=wkp h;have hc:=(hG.calls f _ hS:wa4 C f S) _ _ _ h;refine AOps.call (s:=⟨T,O,nx,[]⟩) _ hop hg hd hf ha (wfh hnd) (hpass (wku hobj hv)) hc ?_;intro u O' hR;split at hR
       .rename_i O2 hnk hb;obtain⟨hv',hk⟩:=wdv hR;exact fin O' O2 u hnk hb hv' hk
       .exact hR.elim
      .exact h.elim
     .exact h.elim
    .rename_i S hS;dsimp only at h;split at h
     .rename_i hnd;split at h
      .rename_i cobjs hobj;split at h
       .rename_i U Os vc hUS;split at h
        .rename_i O2 hnk hb;obtain⟨hv,hvc,h⟩:=wkp h;obtain⟨hv',hk⟩:=wdv h;refine AOps.call (s:=⟨T,O,nx,[]⟩) _ hop hg hd hf ha (wfh hnd) (hpass (wku hobj hv)) ((hG.calls f _ hS:wah C f S) _ _ _ _ _ hUS hvc) ?_;rintro u O' ⟨rfl,rfl⟩;exact fin O' O2 u hnk hb hv' hk
        .exact h.elim
       .exact h.elim
      .exact h.elim
     .exact h.elim
    .exact h.elim
   .exact h.elim
  .exact h.elim
 .exact h.elim
theorem wzq{K:KT}{x:Operand}(hg:o.guard=none)(hd:wba G.N o.dst=true)(hop:o.op= .next x false)(h:wqg o x T O nx K)(hK:∀T O nx,K T O nx->AOps C m G.N ops rest Q ⟨T,O,nx,[]⟩):AOps C m G.N ops (o::rest) Q ⟨T,O,nx,[]⟩:=by
 have _:=hG;unfold wqg at h;split at h
 .rename_i r hx;split at h
  .rename_i mm n0 ty c0 left hO;split at h
   .rename_i es hM;obtain⟨hn,h0,h1⟩:=h;refine AOps.nextMap hg hop hd hx hO hM hn (λhl=>hK _ _ _ (h0 hl)) (λi hi=>?_);refine AOps.congrO (O':=ov [(r,.miter mm n0 (ty::i::left.erase i))] O) ?_ (hK _ _ _ (h1 i hi));rw[we0];rfl
   .exact h.elim
  .exact h.elim
 .exact h.elim
theorem wzr{K:KT}{x:Operand}(hg:o.guard=none)(hd:wba G.N o.dst=true)(hop:o.op= .entry x)(h:wqh G o x T O nx K)(hK:∀T O nx,K T O nx->AOps C m G.N ops rest Q ⟨T,O,nx,[]⟩):AOps C m G.N ops (o::rest) Q ⟨T,O,nx,[]⟩:=by
 have _:=hG;unfold wqh at h;split at h
 .rename_i r hx;split at h
  .rename_i mm n0 ty c0 left hO;split at h
   .rename_i es zk zv hM _;obtain⟨⟨hn,hc,e1,e2⟩,hk⟩:=h;rw[e1,e2] at hk;have hg2:es[c0]?=some ((es.getD c0 (.any,.any)).1,(es.getD c0 (.any,.any)).2):=by
     have:c0<es.length:=by omega
     simp[List.getD,this]
    exact AOps.step hg (way.entry hop hd hx hO hM hn hg2) rfl rfl rfl rfl (hK _ _ _ hk)
   .exact h.elim
  .exact h.elim
 .exact h.elim
theorem wj6{K:KT}(hg:o.guard=none)(h:wp1 G o T O nx K)(hK:∀T O nx,K T O nx->AOps C m G.N ops rest Q ⟨T,O,nx,[]⟩):AOps C m G.N ops (o::rest) Q ⟨T,O,nx,[]⟩:=by
 unfold wp1 at h;split at h
 .rename_i hd;split at h
  .rename_i u v hu;obtain⟨h1,h2⟩:=wir (wt7 hu) h;exact AOps.pure (s:=⟨T,O,nx,[]⟩) hG.te hG.one hg hu hd h1 (hK _ _ _ h2)
  .split at h
   .rename_i u l v hu;split at h
    .rename_i hn;obtain⟨h1,h2⟩:=wir (wt8 hu) h;refine AOps.eff (s:=⟨T,O,nx,[]⟩) hG.te hg hu hd (wv0 hn) h1 ?_;refine AOps.congrO (O':=ov l O) ?_ (hK _ _ _ h2);rw[we0]
    .exact h.elim
   .split at h
    .rename_i b x1 x2 hx;split at h
     .rename_i hn;simp only[bA7] at hn;obtain⟨k1,k2⟩:=wx3 hG.te hG.one (N:=G.N) hx hd;have fin:∀x:XOut,wrr x.2.1 nx=true->way C G.N o (lk T) (lk O) nx x.1 x.2.1->K (putT o.dst x.1 T) (ov x.2.1 O) (nx+16)->AOps C m G.N ops (o::rest) Q ⟨T,O,nx,[]⟩:=by
       intro x hnx hs hk;refine AOps.step hg hs hnx rfl rfl rfl ?_;refine AOps.congrO (O':=ov x.2.1 O) ?_ (hK _ _ _ hk);rw[we0]
      obtain⟨h1,h2⟩:=wbv h
      cases hb:b with
      |true=>exact fin x1 hn.1 (k1 hb (h1 hb).1) (h1 hb).2
      |false=>exact fin x2 hn.2 (k2 hb (h2 hb).1) (h2 hb).2
     .exact h.elim
    .split at h
     .rename_i x hop;exact wzq hG hg hd hop h hK
     .rename_i x hop;exact wzr hG hg hd hop h hK
     .exact wzs hG hg hd h hK
 .exact h.elim
theorem wtx{opl:List Oper}{K:KT}(h:wp1 G o T O nx K){d:Nat}{want:Bool}(hgs:gslot opl o=some (d,want))(hT:lk T d=some (.bool want))(hK:∀T O nx,K T O nx->AOps C m G.N opl.toArray rest Q ⟨T,O,nx,[]⟩):
  AOps C m G.N opl.toArray (o::rest) Q ⟨T,O,nx,[]⟩:=
 AOps.yes (s:=⟨T,O,nx,[]⟩) hgs hT (wj6 hG (o:=unguard o) rfl h hK)
omit hG in
theorem AOps.noU{opl:List Oper}{d:Nat}{want:Bool}(hg:gslot opl o=some (d,want))(hT:(∃b,lk T d=some (.bool b)/\(b==want)=false)∨lk T d=some (.tuple []))(hd:wba G.N o.dst=true)
  (k:AOps C m G.N opl.toArray rest Q ⟨putT o.dst (.tuple []) T,O,nx,[]⟩):AOps C m G.N opl.toArray (o::rest) Q ⟨T,O,nx,[]⟩:=by
 intro E hE bs a w hr;have hw:Region.wanted o (yielded opl.toArray a.tmps)=false:=by
  rcases hT with⟨b,hT,hb⟩ | hT
  .rw[wt1 hr.1.1 hg hT,hb]
  .exact wt0 hr.1.1 hg hT
 unfold wpList;rw[hw];exact k E hE bs _ _ ⟨⟨hr.1.1.putT hd wzh,hr.1.2⟩,hr.2⟩
theorem wtt{opl:List Oper}{K:St->Prop}(hK:∀s,K s->Q .normal s):∀(l:List Oper) (T:List (Nat×AV)) (O:List (Nat×AObj)) (nx:Nat),wes G opl K l T O nx->AOps C m G.N opl.toArray l Q ⟨T,O,nx,[]⟩
 |[],T,O,nx,h=>AOps.nil (hK _ h)
 |o::rest,T,O,nx,h=>by
  have ih:=wtt (opl:=opl) hK rest;simp only[wes] at h;split at h
  .rename_i hg;exact wj6 hG hg h ih
  .split at h
   .rename_i d want hgs;split at h
    .rename_i b hT;split at h
     .rename_i hb;simp only[bA7] at hb;have e:∀b',AOps C m G.N opl.toArray (o::rest) Q ⟨(d,.bool b')::rm d T,O,nx,[]⟩->AOps C m G.N opl.toArray (o::rest) Q ⟨(d,.bool b')::rm d T,O,nx,[d]⟩:=λ_ h=>h;have hl:∀b',lk ((d,AV.bool b')::rm d T) d=some (.bool b'):=λb'=>by rw[wax];simp
      refine AOps.split (s:=⟨T,O,nx,[]⟩) d hb.1 hT (λhh=>e _ ?_) (λhh=>e _ ?_)
      .have h:=(wbv h).1 hh;split at h
       .exact wtx hG h hgs (hl _) ih
       .exact AOps.noU hgs (.inl ⟨_,hl _,rfl⟩) hb.2 (ih _ _ _ h)
      .have h:=(wbv h).2 hh;split at h
       .exact wtx hG h hgs (hl _) ih
       .exact AOps.noU hgs (.inl ⟨_,hl _,rfl⟩) hb.2 (ih _ _ _ h)
     .exact h.elim
    .rename_i hT;split at h
     .rename_i hd;exact AOps.noU hgs (.inr hT) hd (ih _ _ _ h)
     .exact h.elim
    .exact h.elim
   .exact h.elim
end
end Go.Eng
