/- The engine, part 35: the next entry of a map, whichever it is. -/
import Derived.Test.YtmcdngcjakjnmaaGreatDoorJvh
import Derived.Lib.UnsafeStr
import Derived.Laws.MakeOwn
import Derived.Maps.RangeRun
namespace Go.Eng
open Go.Lib
section
variable {C:Ctx} {E:Ent} {O:Nat->Option AObj} {bs:Nat->Option Hd} {w:World}
theorem WRep.burn(hW:WRep C E O bs w){x:Nat}{ox:AObj}(hO:O x=some ox)(hm:ox.mut=true){bx cx:Nat}(hb:bs x=some (.blk bx cx)){w':World}
  (hheap:∀b,b≠bx->w'.heap[b]?=w.heap[b]?) (hsize:w'.heap.size=w.heap.size) (h2:w'.os=w.os) (h3:TL C.cnt w' w) (h4:w'.output=w.output):
  Step w (MB E O bs) bs w' (MB E (up O x .dead) bs) bs/\WRep C E (up O x .dead) bs w':=by
 have hxm:mutB O bs bx:=⟨x,ox,cx,hO,hm,hb⟩;have back:∀b,mutB (up O x .dead) bs b->mutB O bs b:=by
  rintro b ⟨i,o',c',ho,hm',hbi⟩
  by_cases hr:x=i
  ·subst hr;rw[was] at ho;injection ho with ho;subst ho;simp[AObj.mut] at hm'
  ·rw[waq _ _ _ hr] at ho;exact⟨i,o',c',ho,hm',hbi⟩
 refine hW.next (λb=>b=bx) (λi h hi=>hi) (λi b c' hi=>.inl hi) (λb hb'=>by subst hb';exact hxm) (λb _ hne=>hheap b hne) (by omega) (λb hb'=>.inl (back b hb')) (λhS i o' ho=>?_)
  (λi j o1 o2 b c1 c2 hi hj m1 m2 bi bj=>?_) (λi t sz n f b c' ho hb'=>?_) h2 ⟨h3.tape,h3.drawn⟩ h4
 ·by_cases hr:x=i
  ·subst hr;rw[was] at ho;injection ho with ho;subst ho;exact .inr trivial
  ·rw[waq _ _ _ hr] at ho
   cases hmi:o'.mut with
   |true=>
    refine .inl ⟨ho,λb c' hbi e=>?_⟩;subst e;exact hr (hW.sep x i ox o' b cx c' hO ho hm hmi hb hbi)
   |false=>
    cases o' with
    |dead=>exact .inr trivial
    |row t sz n f fr=>
     have:fr=true:=by simpa[AObj.mut] using hmi
     subst this;refine .inl ⟨ho,λb c' hbi e=>?_⟩;subst e;exact hW.frz i t sz n f b c' ho hbi (.inr hxm)
    |_=>simp[AObj.mut] at hmi
 ·have bk:∀ {k:Nat} {o':AObj},up O x .dead k=some o'->o'.mut=true->O k=some o':=by
   intro k o' hk hmk
   by_cases hr:x=k
   ·subst hr;rw[was] at hk;injection hk with hk;subst hk;simp[AObj.mut] at hmk
   ·rw[waq _ _ _ hr] at hk;exact hk
  exact hW.sep i j o1 o2 b c1 c2 (bk hi m1) (bk hj m2) m1 m2 bi bj
 ·by_cases hr:x=i
  ·subst hr;rw[was] at ho;injection ho with ho;cases ho
  ·rw[waq _ _ _ hr] at ho;have hf:=hW.frz i t sz n f b c' ho hb';exact⟨λh=>hf (.inr (back b h)),λh=>hf (.inl h)⟩
end
theorem w5f(w:World)(g n b:Nat)(h:b≠g):(w.freeze ⟨g,0,none⟩ n).heap[b]?=w.heap[b]?:=by
 unfold World.freeze;split
 ·rfl
 ·show (w.heap.modify g _)[b]?=_;rw[Array.getElem?_modify,if_neg (Ne.symm h)]
theorem w5d(w:World)(g n:Nat):(w.freeze ⟨g,0,none⟩ n).heap.size=w.heap.size:=by
 unfold World.freeze;split
 ·rfl
 ·exact Array.size_modify ..
theorem w5e(w:World)(a:Addr)(n:Nat):(w.freeze a n).os=w.os/\(w.freeze a n).output=w.output/\(w.freeze a n).tape=w.tape/\(w.freeze a n).drawn=w.drawn:=by
 unfold World.freeze;split<;>exact⟨rfl,rfl,rfl,rfl⟩
section
variable {C:Ctx} {N:Nat} {o:Oper} {T:Nat->Option AV} {O:Nat->Option AObj} {k:Nat} {te:TE}
theorem wao.sliceData{x:Operand}{args:Array Operand}{ats:Array TypeId}{r n:Nat}(hop:o.op= .call { callee:=.builtin .unsafeSliceData,args:=args,argTypes:=ats })(ha:args.toList=[x])(hd:wa4 N o.dst=true)
  (hx:evO T x=some (.own r n)) {t:TypeId} {n0 sz:Nat} {f:Nat->List AV} (_hO:O r=some (.row t sz n0 f false)) (h0:0<n):wao C N o T O k (.eptr r sz 0 0) []:=by
 obtain⟨args⟩:=args;have ha:args=[x]:=ha;subst ha;intro E T' O' bs a w K Q hT hOs hr hf hK;have hxv:=wa6 hr.1 (wa7 hT hx);generalize hev:a.eval x=vx at hxv
 cases hxv with
 |ownnil _ hn=>omega
 |own hbr hnc hcm=>
  rename_i b c;have hrun:(execOp a.eval o).run C.P w= .ok (.value (.pointer (some ⟨b,0,none⟩))) w:=by
   have:=run_unsafeSliceData_row (P:=C.P) w ats o.type ⟨b,0,none⟩ n c (by omega);simp[execOp,resolve,invoke,builtin,hop,hev,this]
  unfold Oper.wp;rw[hrun];have hV:V w (MB E O' bs) bs (.pointer (some ⟨b,0,none⟩)) (.eptr r sz 0 0):=by
   have:=V.eptr (w:=w) (M:=MB E O' bs) (r:=r) (sz:=sz) (i:=0) (off:=0) hbr;simpa using this
  exact hK bs _ _ (λ_ _=>rfl) ⟨hr.1.putF hd hV,hr.2⟩
theorem w6s{m:Nat}{g:Nat->List AV}(hg:∀i,i<m->isU8 (g i)=true){j:Nat}{x:UInt8}(h:(wbe m g)[j]?=some x):j<m/\∃n:Int,g j=[.int .u8 n]/\x=UInt8.ofNat n.toNat:=by
 unfold wbe at h;rw[List.getElem?_map] at h
 rcases Nat.lt_or_ge j m with q | q
 ·rw[List.getElem?_range q] at h;have hgj:=hg j q;unfold isU8 at hgj;split at hgj
  ·rename_i n hh;refine⟨q,n,hh,?_⟩;have h:some (UInt8.ofNat (way ((g j).headD .any)).toNat)=some x:=h;rw[hh] at h;exact(oJ7 h).symm
  ·cases hgj
 ·rw[List.getElem?_eq_none (by simpa using q)] at h
  cases h
theorem wao.unsafeStr(hte:TE.ok C.P te){x y:Operand}{args:Array Operand}{ats:Array TypeId}{pt it e:TypeId}{tp tie:TI}{r n:Nat}{m:Int}{f:Nat->List AV}
  (hop:o.op= .call { callee:=.builtin .unsafeString,args:=args,argTypes:=ats }) (ha:args.toList=[x,y]) (hat:ats.toList=[pt,it]) (hd:wa4 N o.dst=true)
  (hx:evO T x=some (.eptr r 1 0 0)) (hy:evO T y=some (.int .i64 m)) (hp:lk te pt=some tp) (hpd:tp.desc= .pointer e) (he:lk te e=some tie) (hsz:tie.sz=1) (hO:O r=some (.row e 1 n f false))
  (h0:0<m) (hm:m<=n) (hg:∀i,i<m.toNat->isU8 (f i)=true) (hr8:∀i,i<m.toNat->∀q,f i=[.int .u8 q]->0<=q/\q<256):wao C N o T O k (.str (wbe m.toNat f)) [(r,.dead)]:=by
 obtain⟨args⟩:=args;obtain⟨ats⟩:=ats;have ha:args=[x,y]:=ha;have hat:ats=[pt,it]:=hat;subst ha;subst hat;intro E T' O' bs a w K Q hT hOs hr hf hK;have hxv:=wa6 hr.1 (wa7 hT hx);have hyv:=(wa6 hr.1 (wa7 hT hy)).int_iff;generalize hev:a.eval x=vx at hxv
 cases hxv with
 |eptr hbr=>
  rename_i b c;have hOr:=hOs _ _ hO
  rcases hr.2.obj r _ hOr with⟨q1,q2⟩ | ⟨b',c',vs,hb',hh,hnc,hcm,hvs,hfl,hf1,hfV⟩
  ·rw[q1] at hbr;cases hbr
  ·rw[hb'] at hbr;injection hbr with hbr;injection hbr with e1 e2;subst e1;subst e2;have hup:C.P.underlying pt=some (.pointer e):=by rw[← hpd];exact(hte pt tp hp).1
   obtain⟨i,hi,his,_,_⟩:=(hte e tie he).2.1;have hc1:C.P.cellsOf e=1:=by unfold Program.cellsOf;rw[hi];show i.size=1;rw[his,hsz]
   have hlen:(wbe m.toNat f).length=m.toNat:=by simp[wbe]
   have hcell:∀j z,(wbe m.toNat f)[j]?=some z->w.cell? ((⟨b',0,none⟩:Addr).add j)=some (.int .u8 z.toNat):=by
    intro j z hz;obtain⟨hj,q,hfj,rfl⟩:=w6s hg hz;rw[Addr.add_lit,Nat.zero_add,cell_of_row w b' j vs e (0,0) hh];have hjs:j<vs.size:=by rw[hvs];omega
    have:=hfV j (by omega) 0 (vs[j]) (.int .u8 q) (by omega) (by simp[hjs]) (by rw[hfj];rfl);have hi:=this.int_iff;rw[Array.getElem?_eq_getElem hjs,hi];obtain⟨b1,b2⟩:=hr8 j hj q hfj;have:((UInt8.ofNat q.toNat).toNat:Int)=q:=by
     rw[UInt8.toNat_ofNat'];omega
    rw[this]
   have hne:wbe m.toNat f≠[]:=λz=>by rw[z] at hlen;simp at hlen;omega
   have hrun0:=run_unsafeString_row (P:=C.P) w pt it o.type e hup hc1 b' vs.size (by simp[World.shape?,hh]) (wbe m.toNat f) hne (by rw[hlen,hvs];omega) (by rw[hlen];unfold maxLen at hcm;omega) hcell;have hml:((wbe m.toNat f).length:Int)=m:=by rw[hlen];omega
   rw[hml] at hrun0;have hrun:(execOp a.eval o).run C.P w= .ok (.value (.string ⟨(wbe m.toNat f).toArray⟩)) (w.freeze ⟨b',0,none⟩ (wbe m.toNat f).length):=by
    simp[execOp,resolve,invoke,builtin,hop,hev,hyv,hrun0]
   obtain⟨g1,g2,g3,g4⟩:=w5e w ⟨b',0,none⟩ (wbe m.toNat f).length;obtain⟨k1,k2⟩:=hr.2.burn hOr rfl hb' (w':=w.freeze ⟨b',0,none⟩ (wbe m.toNat f).length) (λb hb=>w5f _ _ _ _ hb) (w5d _ _ _) g1 ⟨g3,λ_=>Nat.le_of_eq g4.symm⟩ g2;unfold Oper.wp;rw[hrun];exact hK bs _ _ (λ_ _=>rfl) ⟨(hr.1.step k1).putF hd (.str rfl),k2⟩
end
end Go.Eng
namespace Go.Eng
open Go.RowKit
def wcs:AV->Bool
 |.bool b=>b
 |_=>false
def wco:AV->List UInt8
 |.str s=>s
 |_=>[]
theorem wt1:∀(l:List Int) (r:ByteArray),(l.foldl (λr n=>r.push (UInt8.ofNat n.toNat)) r).data.toList=r.data.toList++l.map λn=>UInt8.ofNat n.toNat
 |[],r=>by simp
 |n::l,r=>by
  simp only[List.foldl_cons,List.map_cons];rw[wt1 l];simp[ByteArray.push]
section
variable {C:Ctx} {N:Nat} {o:Oper} {T:Nat->Option AV} {O:Nat->Option AObj} {k:Nat} {te:TE}
theorem wao.bytesStr(hte:TE.ok C.P te){src dst e:TypeId}{ts td tie:TI}{x:Operand}{u:AV}{m:Nat}{g:Nat->List AV}{vc:Prop}(hop:o.op= .convert src dst x)(hd:wa4 N o.dst=true)(hs:lk te src=some ts)(hsd:ts.desc= .slice e)
  (he:lk te e=some tie) (hed:tie.desc= .int .u8) (hdd:lk te dst=some td) (htd:td.desc= .string) (hx:evO T x=some u) (hu:srcA O 1 u=some (m,g,vc)) (hvc:vc) (hg:∀i,i<m->isU8 (g i)=true):
  wao C N o T O k (.str (wbe m g)) []:=by
 intro E T' O' bs a w K Q hT hOs hr hf hK;have hxv:=wa6 hr.1 (wa7 hT hx);obtain⟨A,c,news,hv,hlen,hcell,h1,hgl,hV⟩:=wsz hr.2 hxv (wp4 hOs hu) hvc;rw[Nat.mul_one] at hlen;have h1':(P:Program)->P=C.P->P.underlying src=some (.slice e):=λP hP=>by rw[hP, ← hsd];exact(hte src ts hs).1
 have hu1:=h1' C.P rfl;have hu2:C.P.underlying e=some (.int .u8):=by rw[← hed];exact(hte e tie he).1
 have hu3:C.P.underlying dst=some .string:=by rw[← htd];exact(hte dst td hdd).1
 -- the cells are bytes
 let ns:List Int:=(List.range m).map λi=>way ((g i).headD .any)
 have hns:news=ns.map (Value.int .u8):=by
  refine List.ext_getElem? λj=>?_
  rcases Nat.lt_or_ge j m with hj | hj
  ·have hlt:j<news.length:=by omega
   have hgj:=hg j hj;obtain⟨n,hn⟩:∃n,g j=[.int .u8 n]:=by
    unfold isU8 at hgj;split at hgj
    ·rename_i n hh;exact⟨n,hh⟩
    ·cases hgj
   have:=hV j hj 0 (.int .u8 n) (news[j]) (by omega) (by rw[hn];rfl) (by simp[hlt]);have hi:=this.int_iff;simp[hlt,hi,ns,hj,hn,way]
  ·rw[List.getElem?_eq_none (by omega),List.getElem?_eq_none (by simp[ns];omega)]
 have hrun:∃b:ByteArray,(convert src dst (a.eval x)).run C.P w= .ok (.string b) w/\b.data.toList=wbe m g:=by
  rw[hv,run_convert_bytes_string w src dst e A m c hu1 hu2 hu3]
  cases A with
  |none=>
   have hm0:m=0:=by
    rcases Nat.eq_zero_or_pos m with h | h
    ·exact h
    ·obtain⟨ad,had,_⟩:=hcell h;cases had
   subst hm0;exact⟨.empty,by simp[Conv.bytesToString],by simp[wbe]⟩
  |some ad=>
   have hl:(loadCells ad m).run C.P w= .ok (ns.map (Value.int .u8)).toArray w:=by
    have:=run_loadCells_list (P:=C.P) w ad news (λj v hj=>by
     have hjm:j<m:=by rw[← hlen];exact(List.getElem?_eq_some_iff.1 hj).1
     obtain⟨ad',had,hc⟩:=hcell (by omega)
     cases had;exact hc j v hj)
    rw[hlen,hns] at this;exact this
   refine⟨_,run_bytesToString w ad m c ns hl,?_⟩;rw[wt1];have he0:ByteArray.empty.data.toList=[]:=rfl;rw[he0];simp[ns,wbe]
 obtain⟨b,hb,hbl⟩:=hrun;have:(execOp a.eval o).run C.P w= .ok (.value (.string b)) w:=by simp[execOp,hop,hb]
 unfold Oper.wp;rw[this];exact hK bs _ _ (λ_ _=>rfl) ⟨hr.1.putF hd (.str hbl),hr.2⟩
theorem wao.runeStr(hte:TE.ok C.P te){src dst:TypeId}{ts td:TI}{x:Operand}{q q':IntKind}{n:Int}(hop:o.op= .convert src dst x)(hd:wa4 N o.dst=true)(hs:lk te src=some ts)(hsd:ts.desc= .int q')
  (hdd:lk te dst=some td) (htd:td.desc= .string) (hx:evO T x=some (.int q n)):wao C N o T O k (.str (Utf8.encode n).data.toList) []:=by
 intro E T' O' bs a w K Q hT hOs hr hf hK;have hxv:=(wa6 hr.1 (wa7 hT hx)).int_iff;have hu1:=wbh hte (w:=w) hs;have hu3:=wbh hte (w:=w) hdd;rw[hsd] at hu1;rw[htd] at hu3;have hrun:(convert src dst (.int q n)).run C.P w= .ok (.string (Utf8.encode n)) w:=by simp[convert,hu1,hu3,Conv.intToString]
 have:(execOp a.eval o).run C.P w= .ok (.value (.string (Utf8.encode n))) w:=by simp[execOp,hop,hxv,hrun]
 unfold Oper.wp;rw[this];exact hK bs _ _ (λ_ _=>rfl) ⟨hr.1.putF hd (.str rfl),hr.2⟩
theorem wao.make(hte:TE.ok C.P te){t e:TypeId}{ti tie:TI}{lx cx:Operand}{kl kc:IntKind}{l c:Int}{zs:List AV}(hop:o.op= .makeSlice t lx cx)(hd:wa4 N o.dst=true)(ht:lk te t=some ti)(htd:ti.desc= .slice e)
  (he:lk te e=some tie) (hz:avcs tie.zero.cells.toList=some zs) (hzl:zs.length=tie.sz) (hl:evO T lx=some (.int kl l)) (hc:evO T cx=some (.int kc c)) (h0:0<=l) (hlc:l<=c) (hb:(tie.bytes:Int) * c<=281474976710656) (hm:c<=9223372036854775807):
  wao C N o T O k (.own k l.toNat) [(k,.row e tie.sz l.toNat (λ_=>zs) false)]:=by
 intro E T' O' bs a w K Q hT hOs hr hf hK;obtain⟨f1,f2⟩:=hf k (lR7 _) (by omega);have hlv:=(wa6 hr.1 (wa7 hT hl)).int_iff;have hcv:=(wa6 hr.1 (wa7 hT hc)).int_iff;have hu1:C.P.underlying t=some (.slice e):=by rw[← htd];exact(hte t ti ht).1
 obtain⟨i,hi,hisz,hib,hiz⟩:=(hte e tie he).2.1;have hrun:=run_make (P:=C.P) w t e i tie.zero hu1 hi hiz kl kc l c h0 hlc (by rw[hib];exact hb) hm;have hz':=wf9 (w:=w) (M:=MB E O' bs) (bs:=bs) _ _ hz;have hzsz:tie.zero.cells.size=zs.length:=by simpa using hz'.1
 have hcells:∀j,j<c.toNat * tie.sz->(madeCells tie.zero.cells (c.toNat * i.size))[j]?=tie.zero.cells[j % tie.sz]?:=by
  intro j hj;have hsz:0<tie.sz:=by
   rcases Nat.eq_zero_or_pos tie.sz with h | h
   ·rw[h] at hj;simp at hj
   ·exact h
  have hmod:j % tie.sz<tie.zero.cells.size:=by rw[hzsz,hzl];exact Nat.mod_lt _ hsz
  have e:j % tie.zero.cells.size=j % tie.sz:=by rw[hzsz,hzl]
  unfold madeCells;rw[hisz,Array.getElem?_eq_getElem hmod];simp only[Array.getElem?_map,Array.getElem?_range,hj,if_true,Option.map_some,e];exact congrArg some (getElem!_pos tie.zero.cells (j % tie.sz) hmod)
 have hcsz:(madeCells tie.zero.cells (c.toNat * i.size)).size=c.toNat * tie.sz:=by rw[size_madeCells,hisz]
 obtain⟨hS,hW⟩:=wio hr.2 f2 (w1:=w) rfl rfl ⟨rfl,λ_=>lR7 _⟩ rfl (vs:=madeCells tie.zero.cells (c.toNat * i.size)) (e:=e) (sz:=tie.sz) (n:=l.toNat) (c:=c.toNat) (f:=λ_=>zs) (by omega) (by unfold maxLen;omega) hcsz (λ_ _=>hzl)
  (λi' hi' j hj v hv=>by
   have hlt:i' * tie.sz+j<c.toNat * tie.sz:=by
    have:(i'+1) * tie.sz<=c.toNat * tie.sz:=Nat.mul_le_mul_right _ (by omega);rw[Nat.add_mul,Nat.one_mul] at this;omega
   rw[hcells _ hlt] at hv;exact hz'.2.1 _ v (by simpa using hv))
  (λi' hi' j v u hj hv hu=>by
   have hlt:i' * tie.sz+j<c.toNat * tie.sz:=by
    have:(i'+1) * tie.sz<=c.toNat * tie.sz:=Nat.mul_le_mul_right _ (by omega);rw[Nat.add_mul,Nat.one_mul] at this;omega
   rw[hcells _ hlt] at hv;have e1:(i' * tie.sz+j) % tie.sz=j:=by rw[Nat.mul_comm,Nat.mul_add_mod,Nat.mod_eq_of_lt hj]
   rw[e1] at hv;exact hz'.2.2 j v u (by simpa using hv) hu)
 have:(execOp a.eval o).run C.P w= .ok (.value (.slice (some ⟨w.heap.size,0,none⟩) l.toNat c.toNat)) (w.alloc (.cells (madeCells tie.zero.cells (c.toNat * i.size)) e)):=by
  simp[execOp,hop,hlv,hcv,hrun]
 unfold Oper.wp;rw[this];exact hK (up bs k (.blk w.heap.size c.toNat)) _ _ (λr hr=>waq _ _ _ (by omega)) ⟨(hr.1.step hS).putF hd (.own (was _ _ _) (by omega) (by unfold maxLen;omega)),hW⟩
end
def keq:AV->AV->Bool
 |.str a,.str b=>decide (a=b)
 |.int k a,.int k' b=>decide (k=k') && decide (a=b)
 |.agg a,.agg b=>keqL a b
 |_,_=>false
def mget:List (AV×AV)->AV->Option AV
 |[],_=>none
 |p::l,k=>match keq p.1 k with
  |true=>some p.2
  |false=>mget l k
def mset:List (AV×AV)->AV->AV->List (AV×AV)
 |[],k,v=>[(k,v)]
 |p::l,k,v=>match keq p.1 k with
  |true=>(k,v)::l
  |false=>p::mset l k v
def wjj(d:TypeDesc)(es:List (AV×AV)):Prop:=(es.all λp=>isK d p.1)=true/\(es.map Prod.fst).Nodup
theorem wrf{d:TypeDesc}{a:AV}(h:isK d a=true):(d= .string/\∃s,a= .str s)∨∃k n,d= .int k/\a= .int k n:=by
 unfold isK at h;split at h
 ·exact .inl ⟨rfl,_,rfl⟩
 ·have:=of_decide_eq_true h;subst this;exact .inr ⟨_,_,rfl,rfl⟩
 ·cases h
theorem wrc{d:TypeDesc}{a b:AV}(ha:isK d a=true)(hb:isK d b=true):keq a b=true↔a=b:=by
 rcases wrf ha with⟨rfl,s,rfl⟩ | ⟨k,n,rfl,rfl⟩
 ·rcases wrf hb with⟨_,s',rfl⟩ | ⟨k',n',h,rfl⟩
  ·simp[keq]
  ·cases h
 ·rcases wrf hb with⟨h,s',rfl⟩ | ⟨k',n',h,rfl⟩
  ·cases h
  ·cases h;simp[keq]
theorem wir{K:AV->Bool}(hK:∀a b,K a=true->K b=true->(keq a b=true↔a=b)){k:AV}(hk:K k=true):∀ {es:List (AV×AV)},(es.all λp=>K p.1)=true->wjl es k (mget es k)
 |[],_=>by simp[mget,wjl]
 |p::l,h=>by
  simp only[List.all_cons,bA7] at h;simp only[mget]
  cases hb:keq p.1 k with
  |true=>
   have:=(hK _ _ h.1 hk).1 hb;exact⟨0,by simp[← this]⟩
  |false=>
   have ih:=wir hK hk h.2;have hne:p.1≠k:=λe=>by rw[(hK _ _ h.1 hk).2 e] at hb;cases hb
   show wjl (p::l) k (mget l k)
   cases hm:mget l k with
   |none=>
    rw[hm] at ih;intro q hq
    rcases List.mem_cons.1 hq with rfl | hq
    ·exact hne
    ·exact ih q hq
   |some v=>
    rw[hm] at ih;obtain⟨j,hj⟩:=ih;exact⟨j+1,by simpa using hj⟩
theorem wiv{es:List (AV×AV)}(h:(es.map Prod.fst).Nodup){k:AV}{j j':Nat}{v v':AV}(h1:es[j]?=some (k,v))(h2:es[j']?=some (k,v')):j=j':=by
 have e1:(es.map Prod.fst)[j]?=some k:=by simp[h1]
 have e2:(es.map Prod.fst)[j']?=some k:=by simp[h2]
 exact(List.getElem?_inj (List.getElem?_eq_some_iff.1 e1).1 h).1 (e1.trans e2.symm)
theorem wkm{K:AV->Bool}(hK:∀a b,K a=true->K b=true->(keq a b=true↔a=b)){k v:AV}(hk:K k=true):∀ {es:List (AV×AV)},(es.all λp=>K p.1)=true->(es.map Prod.fst).Nodup->∀(j:Nat) (v':AV),es[j]?=some (k,v')->mset es k v=es.set j (k,v)
 |[],_,_,j,v',h=>by simp at h
 |p::l,h,hn,j,v',hj=>by
  simp only[List.all_cons,bA7] at h;simp only[mset]
  cases hb:keq p.1 k with
  |true=>
   have hp:=(hK _ _ h.1 hk).1 hb;have:j=0:=wiv hn (k:=k) (v:=v') (v':=p.2) hj (by simp[← hp]);subst this;simp
  |false=>
   cases j with
   |zero=>
    simp at hj;subst hj;rw[(hK _ _ h.1 hk).2 rfl] at hb;cases hb
   |succ j=>
    simp only[List.map_cons,List.nodup_cons] at hn;rw[wkm hK hk h.2 hn.2 j v' (by simpa using hj)];simp
theorem wkl{K:AV->Bool}(hK:∀a b,K a=true->K b=true->(keq a b=true↔a=b)){k v:AV}(hk:K k=true):∀ {es:List (AV×AV)},(es.all λp=>K p.1)=true->(∀p∈es,p.1≠k)->mset es k v=es++[(k,v)]
 |[],_,_=>rfl
 |p::l,h,hn=>by
  simp only[List.all_cons,bA7] at h;simp only[mset]
  cases hb:keq p.1 k with
  |true=>exact absurd ((hK _ _ h.1 hk).1 hb) (hn p (by simp))
  |false=>
   rw[wkl hK hk h.2 λq hq=>hn q (List.mem_cons_of_mem _ hq)];simp
theorem wrd{te:TE}{kt:TypeId}:∀a b:AV,keyR te kt a=true->keyR te kt b=true->(keq a b=true↔a=b):=by
 intro x y hx hy;obtain⟨a,b,tk,e,t,rfl,h1,h2,h3,ha,hb⟩:=wky hx;obtain⟨c,d,tk',e',t',rfl,g1,g2,g3,hc,hd⟩:=wky hy;rw[h1] at g1;obtain rfl:=oJ7 g1;rw[h2] at g2;injection g2 with _ g2;subst g2;rw[h3] at g3;obtain rfl:=oJ7 g3;simp only[keq,keqL,bA7,Bool.and_true,wf1 ha hc,wf1 hb hd,AV.agg.injEq,List.cons.injEq,and_true]
theorem wgx{te:TE}{kt:TypeId}(hn:∀t ti,lk te t=some ti->wa2 ti.desc=false->ti.sz=1):∀a b:AV,keyA te kt a=true->keyA te kt b=true->(keq a b=true↔a=b):=by
 intro a b ha hb
 cases a with
 |agg xs=>
  cases b with
  |agg ys=>
   obtain⟨_,_,_,_,_,h1,h2,_⟩:=wel hn ha hb;simp only[keq,wgw h1 h2,AV.agg.injEq]
  |_=>simp[keyA] at hb
 |_=>simp[keyA] at ha
def wh4(te:TE)(kt:TypeId)(es:List (AV×AV)):Prop:=(es.all λp=>keyR te kt p.1)=true/\(es.map Prod.fst).Nodup
def wa9(te:TE)(kt:TypeId)(es:List (AV×AV)):Prop:=(es.all λp=>keyA te kt p.1)=true/\(es.map Prod.fst).Nodup
def vwS:AV->Nat
 |.view s _ _=>s
 |_=>0
def vwN:AV->Nat
 |.view _ n _=>n
 |_=>0
def vwF:AV->Nat->List AV
 |.view _ _ f=>f
 |_=>λ_=>[]
def zv0:AV->AV
 |.nil=>.view 0 0 λ_=>[]
 |x=>x
def zvA:AV->AV
 |.agg cs=>.agg (cs.map zv0)
 |x=>x
theorem wxk{w:World}{M:Nat->Prop}{bs:Nat->Option Hd}{v:Value}{u:AV}(h:V w M bs v u):V w M bs v (zv0 u):=by
 cases u with
 |nil=>
  cases h;exact .view ⟨0,0,none⟩ (λ_ _=>default) (lR7 _) (zL7 _) (λh=>absurd h (Nat.lt_irrefl 0)) (λi h=>absurd h (nZ7 i)) (λi h=>absurd h (nZ7 i)) (λi h=>absurd h (nZ7 i)) (λi h=>absurd h (nZ7 i))
 |_=>exact h
theorem wpq{w:World}{M:Nat->Prop}{bs:Nat->Option Hd}{v:Value}{u:AV}(h:V w M bs v u):V w M bs v (zvA u):=by
 cases u with
 |agg cs=>
  cases h with | agg hl h1 hv=>
  refine .agg (by simp[hl]) h1 λj v u hj hu=>?_;rw[List.getElem?_map] at hu;obtain⟨u0,h0,rfl⟩:=Option.map_eq_some_iff.1 hu;exact wxk (hv j v u0 hj h0)
 |_=>exact h
def shape0:AV->AV->AV
 |.bool _,x=>.bool (wcs x)
 |.int k _,x=>.int k (way x)
 |.str _,x=>.str (wco x)
 |.nil,x=>.view (vwS x) (vwN x) (vwF x)
 |_,x=>x
def wcr(x:AV)(j:Nat):AV:=match x with
 |.agg cs=>cs.getD j .any
 |_=>.any
def shapeL(x:AV):Nat->List AV->List AV
 |_,[]=>[]
 |j,z::zs=>shape0 z (wcr x j)::shapeL x (j+1) zs
def vN:AV->Nat
 |.view _ n _=>n
 |_=>0
def vF:AV->Nat->List AV
 |.view _ _ f=>f
 |_=>λ_=>[]
def wb5:AV->AV->AV
 |.bool _,x=>.bool (wcs x)
 |.int k _,x=>.int k (way x)
 |.str _,x=>.str (wco x)
 |.agg zs,x=>.agg (shapeL x 0 zs)
 |.view sz _ _,x=>.view sz (vN x) (vF x)
 |_,x=>x
def slE(te:TE):TypeDesc->Option Nat
 |.slice e=>match lk te e with
  |some x=>some x.sz
  |none=>none
 |_=>none
def nof:Nat->List AV:=λ_=>[]
theorem V.nilNo{w:World}{M:Nat->Prop}{bs:Nat->Option Hd}{v:Value}{u:AV}{sz:Nat}(h:V w M bs v u)(hu:u= .nil):V w M bs v (.view sz 0 nof):=by
 subst hu
 cases h;exact .view ⟨0,0,none⟩ (λ_ _=>default) (lR7 _) (zL7 _) (λh=>absurd h (Nat.lt_irrefl 0)) (λi h=>absurd h (nZ7 i)) (λi h=>absurd h (nZ7 i)) (λi h=>absurd h (nZ7 i)) (λi h=>absurd h (nZ7 i))
abbrev XOut:=AV×List (Nat×AObj)×Prop
def ment(u0:AV):List (AV×AV)->AV->List (AV×AV)
 |[],k=>[(k,u0)]
 |p::l,k=>match keq p.1 k with
  |true=>p::l
  |false=>p::ment u0 l k
def midx:List (AV×AV)->AV->Nat
 |[],_=>0
 |p::l,k=>match keq p.1 k with
  |true=>0
  |false=>midx l k+1
theorem wux{K:AV->Bool}(hK:∀a b,K a=true->K b=true->(keq a b=true↔a=b)){k u0:AV}(hk:K k=true):∀ {es:List (AV×AV)},(es.all λp=>K p.1)=true->(es.map Prod.fst).Nodup->∀(j:Nat) (v:AV),es[j]?=some (k,v)->ment u0 es k=es/\midx es k=j/\(mget es k).getD u0=v
 |[],_,_,j,v,h=>by simp at h
 |p::l,ha,hn,j,v,h=>by
  simp only[List.all_cons,bA7] at ha;obtain⟨hn1,hn2⟩:=List.nodup_cons.1 (show (p.1::l.map Prod.fst).Nodup from hn);unfold ment midx mget
  cases j with
  |zero=>
   simp only[List.getElem?_cons_zero,sI7] at h;subst h;rw[(hK k k hk hk).2 rfl];exact⟨rfl,rfl,rfl⟩
  |succ j=>
   simp only[List.getElem?_cons_succ] at h;obtain⟨i1,i2,i3⟩:=wux hK (u0:=u0) hk ha.2 hn2 j v h;have hne:keq p.1 k=false:=by
    cases q:keq p.1 k with
    |false=>rfl
    |true=>
     have e:=(hK p.1 k ha.1 hk).1 q;exact absurd (List.mem_map.2 ⟨_,List.mem_of_getElem? h,rfl⟩) (by rw[← e];exact hn1)
   rw[hne];exact⟨by show p::ment u0 l k=_;rw[i1],by show midx l k+1=_;rw[i2],i3⟩
theorem wuw{K:AV->Bool}(hK:∀a b,K a=true->K b=true->(keq a b=true↔a=b)){k u0:AV}(hk:K k=true):∀ {es:List (AV×AV)},(es.all λp=>K p.1)=true->(∀p∈es,p.1≠k)->ment u0 es k=es++[(k,u0)]/\midx es k=es.length/\(mget es k).getD u0=u0
 |[],_,_=>⟨rfl,rfl,rfl⟩
 |p::l,ha,hn=>by
  simp only[List.all_cons,bA7] at ha;obtain⟨i1,i2,i3⟩:=wuw hK (u0:=u0) hk ha.2 λq hq=>hn q (List.mem_cons_of_mem _ hq);have hne:keq p.1 k=false:=by
   cases q:keq p.1 k with
   |false=>rfl
   |true=>exact absurd ((hK p.1 k ha.1 hk).1 q) (hn p (List.mem_cons_self ..))
  unfold ment midx mget;rw[hne];exact⟨by show p::ment u0 l k=_;rw[i1];rfl,by show midx l k+1=_;rw[i2];rfl,i3⟩
def rmA(O:Nat->Option AObj):AV->Option (List (AV×Value)×Nat×Option AV)
 |.map r=>match O r with
  |some (.rmap es j v)=>some (es,j,v)
  |_=>none
 |_=>none
theorem wy9{O O':Nat->Option AObj}(hO:Sub O O'){u:AV}{x:List (AV×Value)×Nat×Option AV}(h:rmA O u=some x):rmA O' u=some x:=by
 unfold rmA at h ⊢;split at h
 ·rename_i r;split at h
  ·rename_i es j v hr;rw[hO _ _ hr];exact h
  ·cases h
 ·cases h
theorem wy8{O:Nat->Option AObj}{u:AV}{es:List (AV×AV)}(h:mapA O u=some es):rmA O u=none:=by
 cases u with
 |map r=>
  have h:(match O r with | some (.amap es)=>some es | _=>none)=some es:=h
  show (match O r with | some (.rmap es j v)=>some (es,j,v) | _=>none)=none
  split
  ·rename_i es' j v hr;rw[hr] at h;cases h
  ·rfl
 |_=>rfl
theorem rmA_map{O:Nat->Option AObj}{u:AV}{es:List (AV×Value)}{j:Nat}{v:Option AV}(h:rmA O u=some (es,j,v)):∃r,u= .map r/\O r=some (.rmap es j v):=by
 cases u with
 |map r=>
  have h:(match O r with | some (.rmap es j v)=>some (es,j,v) | _=>none)=some (es,j,v):=h
  split at h
  ·rename_i es' j' v' hr;injection h with h;injection h with h1 h;injection h with h2 h3;exact⟨r,rfl,by rw[hr,h1,h2,h3]⟩
  ·cases h
 |_=>cases h
def wb7(te:TE)(T:Nat->Option AV)(O:Nat->Option AObj)(k:Nat)(dst:Option Tmp):Op->Option (Bool×XOut×XOut)
 |.lookup mt mx kx ok=>match evO T mx,evO T kx,lk te mt with
   |some mu,some ku,some ti=>match ti.desc with
     |.map kt et=>match rmA O mu with
      |some (es,j,v)=>match lk te et,ok with
       |some tie,false=>match weq tie.zero,keyA te kt ku with
         |some u0,true=>some (true,((rlk es j ku u0 v).1,[],wa9 te kt (pkR es)/\(rlk es j ku u0 v).2),(.any,[],True))
         |_,_=>none
       |_,_=>none
      |none=>match lk te kt,lk te et,mapA O mu with
       |some tk,some tie,some es=>match weq tie.zero,isK tk.desc ku with
         |some u0,true=>some (true,((match ok with
             |true=>.tuple [wb5 u0 ((mget es ku).getD (zvA u0)),.bool (mget es ku).isSome]
             |false=>wb5 u0 ((mget es ku).getD (zvA u0))),[],wjj tk.desc es/\wb5 u0 ((mget es ku).getD (zvA u0))=(mget es ku).getD (zvA u0)),(.any,[],True))
         |some u0,false=>match keyA te kt ku with
           |true=>match slE te tie.desc,u0,ok with
            |some sz,.nil,false=>some (true,(wb5 (.view sz 0 nof) ((mget es ku).getD (.view sz 0 nof)),[],wa9 te kt es/\wb5 (.view sz 0 nof) ((mget es ku).getD (.view sz 0 nof))=(mget es ku).getD (.view sz 0 nof)),(.any,[],True))
            |_,_,_=>some (true,((match ok with
             |true=>.tuple [wb5 u0 ((mget es ku).getD (zvA u0)),.bool (mget es ku).isSome]
             |false=>wb5 u0 ((mget es ku).getD (zvA u0))),[],wa9 te kt es/\wb5 u0 ((mget es ku).getD (zvA u0))=(mget es ku).getD (zvA u0)),(.any,[],True))
           |false=>match keyR te kt ku with
            |true=>some (true,((match ok with
             |true=>.tuple [wb5 u0 ((mget es ku).getD (zvA u0)),.bool (mget es ku).isSome]
             |false=>wb5 u0 ((mget es ku).getD (zvA u0))),[],wh4 te kt es/\wb5 u0 ((mget es ku).getD (zvA u0))=(mget es ku).getD (zvA u0)),(.any,[],True))
            |false=>none
         |_,_=>none
       |_,_,_=>none
     |_=>none
   |_,_,_=>none
 |.mapUpdate mt mx kx vx=>match evO T mx,evO T kx,evO T vx,lk te mt with
   |some (.map r),some ku,some vu,some ti=>match ti.desc,dst with
     |.map kt _,none=>match lk te kt,O r with
       |some tk,some (.amap es)=>match isK tk.desc ku with
         |true=>some (true,(.any,[(r,.amap (mset es ku vu))],wjj tk.desc es),(.any,[],True))
         |false=>match keyA te kt ku with
           |true=>some (true,(.any,[(r,.amap (mset es ku vu))],wa9 te kt es),(.any,[],True))
           |false=>match keyR te kt ku with
             |true=>some (true,(.any,[(r,.amap (mset es ku vu))],wh4 te kt es),(.any,[],True))
             |false=>none
       |some _,some (.rmap es j v)=>match keyA te kt ku,nref ku with
         |true,true=>some (true,(.any,[(r,(rup es j ku vu v).1)],wa9 te kt (pkR es)/\(rup es j ku vu v).2),(.any,[],True))
         |_,_=>none
       |_,_=>none
     |_,_=>none
   |_,_,_,_=>none
 |.next x true=>match evO T x with
   |some (.ptr r 0)=>match O r with
     |some (.siter s pos)=>some (decide (pos<s.length),(.tuple [.bool true,.int .i64 pos,.int .i32 (wbp s pos).1],[(r,.siter s (pos+(wbp s pos).2))],True),(.tuple [.bool false],[],True))
     |_=>none
   |_=>none
 |.convert src dst x=>match lk te src,lk te dst,evO T x with
   |some ts,some td,some u=>match ts.desc,td.desc with
     |.slice e,.string=>match lk te e with
       |some tie=>match tie.desc with
         |.int .u8=>match srcA O 1 u with
           |some (m,g,vc)=>some (true,(.str (wbe m g),[],vc/\∀i,i<m->isU8 (g i)=true),(.any,[],True))
           |none=>none
         |_=>none
       |none=>none
     |.int _,.string=>match u with
       |.int _ n=>some (true,(.str (Utf8.encode n).data.toList,[],True),(.any,[],True))
       |_=>none
     |_,_=>none
   |_,_,_=>none
 |.makeSlice t lx cx=>match lk te t,evO T lx,evO T cx with
   |some ti,some (.int _ l),some (.int _ c)=>match ti.desc with
     |.slice e=>match lk te e with
       |some tie=>match avcs tie.zero.cells.toList with
         |some zs=>match Nat.beq zs.length tie.sz with
           |true=>some (true,(.own k l.toNat,[(k,.row e tie.sz l.toNat (λ_=>zs) false)],0<=l/\l<=c/\(tie.bytes:Int) * c<=281474976710656/\c<=9223372036854775807),(.any,[],True))
           |false=>none
         |none=>none
       |none=>none
     |_=>none
   |_,_,_=>none
 |.mapEntry mt mx kx=>match evO T mx,evO T kx,lk te mt with
   |some (.map r),some ku,some ti=>match ti.desc with
     |.map kt et=>match lk te kt,lk te et,O r with
       |some _,some tie,some (.amap es)=>match weq tie.zero,keyA te kt ku with
         |some u0,true=>some (true,(.tuple [wb5 u0 ((mget es ku).getD u0),.int .i64 (midx es ku)],[(r,.amap (ment u0 es ku))],wa9 te kt es/\wb5 u0 ((mget es ku).getD u0)=(mget es ku).getD u0),(.any,[],True))
         |_,_=>none
       |_,_,_=>none
     |_=>none
   |_,_,_=>none
 |.entryStore _ mx sx vx=>match dst,evO T mx,evO T sx,evO T vx with
   |none,some (.map r),some (.int _ s),some vu=>match O r with
     |some (.amap es)=>some (true,(.any,[(r,.amap (es.set s.toNat ((es.getD s.toNat (.any,.any)).1,vu)))],0<=s/\s<es.length),(.any,[],True))
     |_=>none
   |_,_,_,_=>none
 |.call { callee:=.builtin .clear,args,argTypes }=>match args.toList,argTypes.toList with
   |[x],[t]=>match evO T x,lk te t with
     |some (.sub r sz off _n),some ti=>match ti.desc with
       |.slice e=>match lk te e,O r with
         |some tie,some (.row e' sz' n0 f false)=>match avcs tie.zero.cells.toList with
           |some zs=>match Nat.beq zs.length sz,Nat.beq sz' sz with
             |true,true=>some (true,(.tuple [],[(r,.row e' sz' off f false)],off<=n0),(.any,[],True))
             |_,_=>none
           |none=>none
         |_,_=>none
       |_=>none
     |_,_=>none
   |_,_=>none
 |.call { callee:=.builtin .append,args,argTypes }=>match args.toList,argTypes.toList with
   |[x,y],[t,t']=>match evO T x,evO T y,lk te t,lk te t' with
     |some s,some (.str str),some ti,some tu=>match ti.desc,tu.desc with
       |.slice e,.string=>match lk te e with
         |some tie=>match Nat.beq tie.sz 1,appA O k e tie str.length (strG str) True s with
           |true,some (r,l,P)=>some (true,(r,l,P),(.any,[],True))
           |_,_=>none
         |none=>none
       |_,_=>none
     |_,_,_,_=>none
   |_,_=>none
 |.call { callee:=.builtin .unsafeSliceData,args,argTypes:=_ }=>match args.toList with
   |[x]=>match evO T x with
     |some (.own r n)=>match O r with
       |some (.row _ sz _ _ false)=>some (true,(.eptr r sz 0 0,[],0<n),(.any,[],True))
       |_=>none
     |_=>none
   |_=>none
 |.call { callee:=.builtin .unsafeString,args,argTypes }=>match args.toList,argTypes.toList with
   |[x,y],[pt,_]=>match evO T x,evO T y,lk te pt with
     |some (.eptr r 1 0 0),some (.int .i64 m),some tp=>match tp.desc with
       |.pointer e=>match lk te e,O r with
         |some tie,some (.row e' 1 n f false)=>match Nat.beq tie.sz 1,Nat.beq e e' with
           |true,true=>some (true,(.str (wbe m.toNat f),[(r,.dead)],0<m/\m<=n/\(∀i,i<m.toNat->isU8 (f i)=true)/\∀i,i<m.toNat->∀q,f i=[.int .u8 q]->0<=q/\q<256),(.any,[],True))
           |_,_=>none
         |_,_=>none
       |_=>none
     |_,_,_=>none
   |_,_=>none
 |_=>none
section
variable {C:Ctx} {N:Nat} {o:Oper} {T T':Nat->Option AV} {O O':Nat->Option AObj} {k:Nat} {te:TE}
theorem wwa(hT:Sub T T')(hO:Sub O O'){dst:Option Tmp}{op:Op}{r:Bool×XOut×XOut}(h:wb7 te T O k dst op=some r):wb7 te T' O' k dst op=some r:=by
 have e1:∀ {x u},evO T x=some u->evO T' x=some u:=λh=>wa7 hT h;have e4:∀ {r o},O r=some o->O' r=some o:=λh=>hO _ _ h;have e5:∀ {sz u r},srcA O sz u=some r->srcA O' sz u=some r:=λh=>wp4 hO h;have e7:∀ {u r},mapA O u=some r->mapA O' u=some r:=λh=>wqz hO h;have e8:∀ {u r},rmA O u=some r->rmA O' u=some r:=λh=>wy9 hO h;have e9:∀ {u r},mapA O' u=some r->rmA O' u=none:=λh=>wy8 h;have e6:∀ {fresh e tie m g vc s r},appA O fresh e tie m g vc s=some r->appA O' fresh e tie m g vc s=some r:=λh=>wsd hO h;unfold wb7 at h ⊢;split at h
 all_goals (try simp only[] at h ⊢)
 all_goals (repeat' (split at h))
 all_goals (try (cases h;done))
 all_goals (try (exact h))
 all_goals (try (grind;done))
theorem wv9(hte:TE.ok C.P te)(hn:∀t ti,lk te t=some ti->wa2 ti.desc=false->ti.sz=1){b:Bool}{x1 x2:XOut}(h:wb7 te T O k o.dst o.op=some (b,x1,x2))(hd:wa4 N o.dst=true):
  (b=true->x1.2.2->wao C N o T O k x1.1 x1.2.1)/\(b=false->x2.2.2->wao C N o T O k x2.1 x2.2.1):=by
 unfold wb7 at h;split at h
 ·rename_i mt mx kx ok hop;split at h
  ·rename_i mu ku ti hm hk ht;split at h
   ·rename_i kt et htd;split at h
    ·rename_i es j v hR;obtain⟨r,rfl,hO⟩:=rmA_map hR;split at h
     ·rename_i tie het;split at h
      ·rename_i u0 hz hkK;simp only[sI7,pI7] at h;obtain⟨rfl,rfl,rfl⟩:=h;refine⟨λ_ hv=>?_,λh=>(by cases h)⟩;obtain⟨⟨h1,h2⟩,h3⟩:=hv;exact wao.rlookup hte hn hop hd hm hk ht htd het hO hkK (λ_ _ _=>wgj hz) h1 h2 h3
      ·cases h
     ·cases h
    split at h
    ·rename_i tk tie es hkt het hO;split at h
     ·rename_i u0 hz hkK;simp only[sI7,pI7] at h;obtain⟨rfl,rfl,rfl⟩:=h;refine⟨λ_ hv=>?_,λh=>(by cases h)⟩;obtain⟨⟨h1,h2⟩,h3⟩:=hv;refine wao.lookup hte (mget es ku) hop hd hm hk ht htd hkt het hO hkK (λ_ _ _=>wpq (wgj hz)) h1 ?_ (wir (λ_ _ a b=>wrc a b) hkK h1) (λj j' v v' q1 q2=>?_)
      ·cases ok<;>simp[h3]
      ·have:=wiv h2 q1 q2;subst this;rw[q1] at q2;simpa using q2
     ·rename_i u0 hz hkK0;split at h
      ·rename_i hkK;split at h
       ·rename_i sz _;simp only[sI7,pI7] at h;obtain⟨rfl,rfl,rfl⟩:=h;refine⟨λ_ hv=>?_,λh=>(by cases h)⟩;obtain⟨⟨h1,h2⟩,h3⟩:=hv;refine wao.lookupA (tk:=tk) (u0:=.view sz 0 nof) hte (wrb hte hn hkK) (mget es ku) hop hd hm hk ht htd het hO hkK (λ_ _ _=>(wgj hz).nilNo rfl) h1 ?_ (wir (wgx hn) hkK h1) (λj j' v v' q1 q2=>?_)
        ·simp[h3]
        ·have:=wiv h2 q1 q2;subst this;rw[q1] at q2;simpa using q2
       rename_i u0 ok _ _ _ _;simp only[sI7,pI7] at h;obtain⟨rfl,rfl,rfl⟩:=h;refine⟨λ_ hv=>?_,λh=>(by cases h)⟩;obtain⟨⟨h1,h2⟩,h3⟩:=hv;refine wao.lookupA (tk:=tk) hte (wrb hte hn hkK) (mget es ku) hop hd hm hk ht htd het hO hkK (λ_ _ _=>wpq (wgj hz)) h1 ?_ (wir (wgx hn) hkK h1) (λj j' v v' q1 q2=>?_)
       ·cases ok<;>simp[h3]
       ·have:=wiv h2 q1 q2;subst this;rw[q1] at q2;simpa using q2
      ·split at h
       ·rename_i hkK;simp only[sI7,pI7] at h;obtain⟨rfl,rfl,rfl⟩:=h;refine⟨λ_ hv=>?_,λh=>(by cases h)⟩;obtain⟨⟨h1,h2⟩,h3⟩:=hv;refine wao.lookupA (tk:=tk) hte (wvc hte hn hkK) (mget es ku) hop hd hm hk ht htd het hO hkK (λ_ _ _=>wpq (wgj hz)) h1 ?_ (wir wrd hkK h1) (λj j' v v' q1 q2=>?_)
        ·cases ok<;>simp[h3]
        ·have:=wiv h2 q1 q2;subst this;rw[q1] at q2;simpa using q2
       ·cases h
     ·cases h
    ·cases h
   ·cases h
  ·cases h
 ·rename_i mt mx kx vx hop;split at h
  ·rename_i r ku vu ti hm hk hv ht;split at h
   ·rename_i kt et htd hdst;split at h
    ·rename_i tk es hkt hO;split at h
     ·rename_i hkK;simp only[sI7,pI7] at h;obtain⟨rfl,rfl,rfl⟩:=h;refine⟨λ_ hvc=>?_,λh=>(by cases h)⟩;obtain⟨h1,h2⟩:=hvc;exact wao.mapUpdate hte hop hdst hm hk hv ht htd hkt hO hkK h1 ⟨λj v hj=>wkm (λ_ _ a b=>wrc a b) hkK h1 h2 j v hj,λhn=>wkl (λ_ _ a b=>wrc a b) hkK h1 hn⟩
     ·split at h
      ·rename_i hkK;simp only[sI7,pI7] at h;obtain⟨rfl,rfl,rfl⟩:=h;refine⟨λ_ hvc=>?_,λh=>(by cases h)⟩;obtain⟨h1,h2⟩:=hvc;exact wao.mapUpdateA hte (wrb hte hn hkK) hop hdst hm hk hv ht htd hkt hO hkK h1 ⟨λj v hj=>wkm (wgx hn) hkK h1 h2 j v hj,λhne=>wkl (wgx hn) hkK h1 hne⟩
      ·split at h
       ·rename_i hkK;simp only[sI7,pI7] at h;obtain⟨rfl,rfl,rfl⟩:=h;refine⟨λ_ hvc=>?_,λh=>(by cases h)⟩;obtain⟨h1,h2⟩:=hvc;exact wao.mapUpdateA hte (wvc hte hn hkK) hop hdst hm hk hv ht htd hkt hO hkK h1 ⟨λj v hj=>wkm wrd hkK h1 h2 j v hj,λhne=>wkl wrd hkK h1 hne⟩
       ·cases h
    ·rename_i tk es j v hkt hO;split at h
     ·rename_i hkK hkn;simp only[sI7,pI7] at h;obtain⟨rfl,rfl,rfl⟩:=h;refine⟨λ_ hvc=>?_,λh=>(by cases h)⟩;obtain⟨⟨h1,h2⟩,h3⟩:=hvc;exact wao.rupdate hte hn hop hdst hm hk hv ht htd hO hkK hkn h1 h2 h3
     ·cases h
    ·cases h
   ·cases h
  ·cases h
 ·rename_i x hop;split at h
  ·rename_i r hx;split at h
   ·rename_i s pos hO;simp only[sI7,pI7] at h;obtain⟨rfl,rfl,rfl⟩:=h;exact⟨λhb _=>wao.nextIn hop hd hx hO (of_decide_eq_true hb),λhb _=>wao.nextOut hop hd hx hO (of_decide_eq_false hb)⟩
   ·cases h
  ·cases h
 ·rename_i src dst x hop;split at h
  ·rename_i ts td u hs hdd hx;split at h
   ·rename_i e hsd htd;split at h
    ·rename_i tie he;split at h
     ·rename_i hed;split at h
      ·rename_i m g vc hu;simp only[sI7,pI7] at h;obtain⟨rfl,rfl,rfl⟩:=h;exact⟨λ_ hv=>wao.bytesStr hte hop hd hs hsd he hed hdd htd hx hu hv.1 hv.2,λh=>(by cases h)⟩
      ·cases h
     ·cases h
    ·cases h
   ·rename_i q hsd htd;split at h
    ·simp only[sI7,pI7] at h;obtain⟨rfl,rfl,rfl⟩:=h;exact⟨λ_ _=>wao.runeStr hte hop hd hs hsd hdd htd hx,λh=>(by cases h)⟩
    ·cases h
   ·cases h
  ·cases h
 ·rename_i t lx cx hop;split at h
  ·rename_i ti kl l kc c ht hl hc;split at h
   ·rename_i e htd;split at h
    ·rename_i tie he;split at h
     ·rename_i zs hz;split at h
      ·rename_i hzl;simp only[sI7,pI7] at h;obtain⟨rfl,rfl,rfl⟩:=h;exact⟨λ_ hv=>wao.make hte hop hd ht htd he hz (Nat.eq_of_beq_eq_true hzl) hl hc hv.1 hv.2.1 hv.2.2.1 hv.2.2.2,λh=>(by cases h)⟩
      ·cases h
     ·cases h
    ·cases h
   ·cases h
  ·cases h
 ·rename_i mt mx kx hop;split at h
  ·rename_i r ku ti hm hk ht;split at h
   ·rename_i kt et htd;split at h
    ·rename_i tk tie es hkt het hO;split at h
     ·rename_i u0 hz hkK;simp only[sI7,pI7] at h;obtain⟨rfl,rfl,rfl⟩:=h;refine⟨λ_ hv=>?_,λh=>(by cases h)⟩;obtain⟨⟨h1,h2⟩,h3⟩:=hv;dsimp only
      rw[h3];exact wao.mapEntryA hte hn hop hd hm hk ht htd hkt het hO hkK hz h1 ⟨λj v hj=>wux (wgx hn) hkK h1 h2 j v hj,λhne=>wuw (wgx hn) hkK h1 hne⟩
     ·cases h
    ·cases h
   ·cases h
  ·cases h
 ·rename_i mt mx sx vx hop;split at h
  ·rename_i r kk s vu hdst hm hs hv;split at h
   ·rename_i es hO;simp only[sI7,pI7] at h;obtain⟨rfl,rfl,rfl⟩:=h;exact⟨λ_ hvc=>wao.entryStore hop hdst hm hs hv hO hvc.1 hvc.2,λh=>(by cases h)⟩
   ·cases h
  ·cases h
 ·rename_i args argTypes hop;split at h
  ·rename_i x t hargs htys;split at h
   ·rename_i r sz off n ti hx ht;split at h
    ·rename_i e htd;split at h
     ·rename_i tie e' sz' n0 f he hO;split at h
      ·rename_i zs hz;split at h
       ·rename_i hzl hsz;simp only[sI7,pI7] at h;obtain⟨rfl,rfl,rfl⟩:=h;obtain rfl:=Nat.eq_of_beq_eq_true hsz;exact⟨λ_ hv=>wao.clear hte hop hd hargs htys hx ht htd he hO hz (Nat.eq_of_beq_eq_true hzl) hv,λh=>(by cases h)⟩
       ·cases h
      ·cases h
     ·cases h
    ·cases h
   ·cases h
  ·cases h
 ·rename_i args argTypes hop;split at h
  ·rename_i x y t t' hargs htys;split at h
   ·rename_i s str ti tu hx hy ht hu;split at h
    ·rename_i e hdd hud;split at h
     ·rename_i tie he;split at h
      ·rename_i r l P hsz ha;simp only[sI7,pI7] at h;obtain⟨rfl,rfl,rfl⟩:=h;exact⟨λ_ hv=>wao.appendStr hte hop hargs htys hd ht hdd hu hud he (Nat.eq_of_beq_eq_true hsz) hx hy (λO' hO=>wsd hO ha) hv,λh=>(by cases h)⟩
      ·cases h
     ·cases h
    ·cases h
   ·cases h
  ·cases h
 ·rename_i args argTypes hop;split at h
  ·rename_i x hargs;split at h
   ·rename_i r n hx;split at h
    ·rename_i t sz n0 f hO;simp only[sI7,pI7] at h;obtain⟨rfl,rfl,rfl⟩:=h;exact⟨λ_ hv=>wao.sliceData hop hargs hd hx hO hv,λh=>(by cases h)⟩
    ·cases h
   ·cases h
  ·cases h
 ·rename_i args argTypes hop;split at h
  ·rename_i x y pt it hargs htys;split at h
   ·rename_i r m tp hx hy hp;split at h
    ·rename_i e hpd;split at h
     ·rename_i tie e' n f he hO;split at h
      ·rename_i hsz hee;simp only[sI7,pI7] at h;obtain⟨rfl,rfl,rfl⟩:=h;obtain rfl:=Nat.eq_of_beq_eq_true hee;exact⟨λ_ hv=>wao.unsafeStr hte hop hargs htys hd hx hy hp hpd he (Nat.eq_of_beq_eq_true hsz) hO hv.1 hv.2.1 hv.2.2.1 hv.2.2.2,λh=>(by cases h)⟩
      ·cases h
     ·cases h
    ·cases h
   ·cases h
  ·cases h
 ·cases h
end
end Go.Eng
namespace Go.Eng
open Go.ChangeMaps (setBlock)
theorem AOps.nextMap {C : Ctx} {m N : Nat} {ops : Array Oper} {rest : List Oper} {Q : Exit → St → Prop} {o : Oper} {T : List (Nat × AV)} {O : List (Nat × AObj)} {nx : Nat} {dec : List Nat} {x : Operand} {r mm n0 ty c0 : Nat} {left : List Nat} {es : List (AV × AV)}
    (hg : o.guard = none) (hop : o.op = .next x false) (hd : wa4 N o.dst = true) (hx : evO (lk T) x = some (.ptr r 0)) (hO : lk O r = some (.miter mm n0 (ty :: c0 :: left))) (hM : lk O mm = some (.amap es)) (hn : n0 = es.length)
    (h0 : left = [] → AOps C m N ops rest Q ⟨putT o.dst (.tuple [.bool false]) T, O, nx, dec⟩)
    (hs : ∀ i, i ∈ left → AOps C m N ops rest Q ⟨putT o.dst (.tuple [.bool true, .any, .any]) T, (r, .miter mm n0 (ty :: i :: left.erase i)) :: O, nx, dec⟩) : AOps C m N ops (o :: rest) Q ⟨T, O, nx, dec⟩ := by
  intro E hE bs a w hr
  refine wpList_plain hg fun K hK => ?_
  obtain ⟨⟨hF, hW⟩, hnx, hm⟩ := hr
  obtain ⟨b, c, bm, cm, seen, h1, h2, h3, nd, hlt, hiff, _⟩ := hW.obj r _ hO
  simp only [List.drop_succ_cons, List.drop_zero] at nd hlt hiff
  obtain ⟨bm', cm', ents, clock, g1, g2, hent, hborn⟩ := hW.obj mm _ hM
  rw [h2] at g1
  injection g1 with g1
  injection g1 with e1 e2
  subst e1; subst e2
  have hsz : ents.size = n0 := by rw [hent.1, hn]
  have hev := wa6 hF hx
  generalize hmx : a.eval x = mv at hev
  have hmv : mv = .pointer (some ⟨b, 0, none⟩) := by
    cases hev with
    | ptr hb =>
      rw [h1] at hb
      injection hb with hb
      injection hb with e1 e2
      subst e1
      rfl
  subst hmv
  have hold : ∀ y ∈ ents.toList, y.born < n0 := by
    intro y hy
    obtain ⟨j, hj⟩ := List.getElem?_of_mem hy
    have hj' : ents[j]? = some y := by simpa using hj
    rw [hborn.2 j y hj', ← hsz]
    exact (Array.getElem?_eq_some_iff.1 hj').1
  rcases run_next_at (P := C.P) w o.type b bm n0 n0 seen ents clock h3 g2 hold (lR7 _) with ⟨z1, z2⟩ | ⟨e, z1, w1, z2, z3⟩
  · have hl : left = [] := by
      cases hleft : left with
      | nil => rfl
      | cons i l =>
        have hi : i ∈ left := by rw [hleft]; exact List.mem_cons_self ..
        have hin := hlt i hi
        have hin' : i < ents.size := by omega
        have hc := (hiff i hin).1 hi
        have hm : ents[i] ∈ leftOf ents seen := by
          unfold leftOf
          rw [Array.mem_filter]
          refine ⟨by simp, ?_⟩
          rw [hborn.2 i _ (Array.getElem?_eq_getElem hin')]
          simpa using hc
        have : leftOf ents seen = #[] := Array.eq_empty_of_size_eq_zero z1
        rw [this] at hm
        simp at hm
    have run : (execOp a.eval o).run C.P w = .ok (.value (.tuple #[.bool false])) w := by simp [execOp, hop, hmx, z2]
    unfold Oper.wp
    rw [run]
    refine hK _ _ (h0 hl E hE bs _ _ ⟨⟨hF.putT hd (.tuple rfl fun j v u hv hu => ?_), hW⟩, hnx, hm⟩)
    match j with
    | 0 => simp at hv hu; subst hv; subst hu; exact .bool
    | j + 1 => simp at hv
  · unfold leftOf at z1
    have hz := Array.mem_filter.1 (Array.mem_toList_iff.1 z1)
    obtain ⟨i, hi⟩ := Array.getElem?_of_mem hz.1
    have hbi := hborn.2 i e hi
    have hin : i < ents.size := (Array.getElem?_eq_some_iff.1 hi).1
    have hil : i ∈ left := (hiff i (by omega)).2 (by have := hz.2; rw [hbi] at this; simpa using this)
    have run : (execOp a.eval o).run C.P w = .ok (.value (.tuple #[.bool true, e.key, e.val])) (setBlock w1 b (.mapIter (some bm) n0 (seen.push e.born) clock)) := by simp [execOp, hop, hmx, z3]
    have hblt : b < w.heap.size := (Array.getElem?_eq_some_iff.1 h3).1
    have hclk : clock = n0 := by rw [hborn.1, hsz]
    obtain ⟨hS, hW'⟩ := hW.modify (x := r) (o := .miter mm n0 (ty :: i :: left.erase i)) hO rfl h1 (w' := setBlock w1 b (.mapIter (some bm) n0 (seen.push e.born) clock))
      (fun b' hb' => by
        rcases z2 with rfl | rfl
        · simp [setBlock, Ne.symm hb']
        · show (w.heap.setIfInBounds b _)[b']? = _
          simp [Ne.symm hb'])
      (by rcases z2 with rfl | rfl
          · simp [setBlock]
          · show (w.heap.setIfInBounds b _).size = _
            simp)
      (by rcases z2 with rfl | rfl <;> rfl) (by rcases z2 with rfl | rfl <;> exact ⟨rfl, fun _ => by first | exact lR7 _ | exact Nat.le_succ _⟩) (by rcases z2 with rfl | rfl <;> rfl) rfl
      (fun hS => ⟨b, c, bm, cm, seen.push e.born, h1, h2, by
          rcases z2 with rfl | rfl
          · simp [setBlock, hblt, hclk]
          · show (w.heap.setIfInBounds b _)[b]? = _
            simp [hblt, hclk],
        nd.erase i, fun j hj => hlt j (List.mem_of_mem_erase hj), fun j hj => by
          show j ∈ left.erase i ↔ (seen.push e.born).contains j = false
          rw [nd.mem_erase_iff, hiff j hj, hbi, Array.contains_push]
          by_cases hji : j = i
          · subst hji; simp
          · simp [hji], fun j hj hjn => by
          simp only [List.getElem?_cons_succ, List.getElem?_cons_zero, sI7] at hj
          subst hj
          rw [hbi]; simp⟩)
    unfold Oper.wp
    rw [run]
    refine hK _ _ (hs i hil E hE bs _ _ ⟨⟨?_, ?_⟩, fun r' hr' => ⟨?_, (hnx r' hr').2⟩, hm⟩)
    · show FRep _ (MB E (lk ((r, .miter mm n0 (ty :: i :: left.erase i)) :: O)) bs) bs N (lk (putT o.dst _ T)) _
      rw [wkt]
      refine (hF.step hS).putT hd (.tuple rfl fun j v u hv hu => ?_)
      match j with
      | 0 => simp at hv hu; subst hv; subst hu; exact .bool
      | 1 => simp at hv hu; subst hv; subst hu; exact .any
      | 2 => simp at hv hu; subst hv; subst hu; exact .any
      | j + 3 => simp at hv
    · show WRep C E (lk ((r, .miter mm n0 (ty :: i :: left.erase i)) :: O)) bs _
      rw [wkt]; exact hW'
    · show lk ((r, .miter mm n0 (ty :: i :: left.erase i)) :: O) r' = none
      rw [wa0]
      have hne : ¬ r = r' := fun e => by subst e; have := (hnx r hr').1; rw [hO] at this; cases this
      simp only [hne, if_false]
      exact (hnx r' hr').1
theorem wao.entry{C:Ctx}{N:Nat}{o:Oper}{T:Nat->Option AV}{O:Nat->Option AObj}{k:Nat}{x:Operand}{r mm n0 ty c0:Nat}{left:List Nat}{es:List (AV×AV)}{ku vu:AV}
  (hop:o.op= .entry x) (hd:wa4 N o.dst=true) (hx:evO T x=some (.ptr r 0)) (hO:O r=some (.miter mm n0 (ty::c0::left))) (hM:O mm=some (.amap es)) (hn:n0=es.length) (hc:es[c0]?=some (ku,vu)):
  wao C N o T O k (.tuple [ku,vu]) []:=by
 intro E T' O' bs a w K Q hT hOs hr hf hK;obtain⟨b,c,bm,cm,seen,h1,h2,h3,nd,hlt,hiff,hcur⟩:=hr.2.obj r _ (hOs _ _ hO);obtain⟨bm',cm',ents,clock,g1,g2,hent,hborn⟩:=hr.2.obj mm _ (hOs _ _ hM);rw[h2] at g1;injection g1 with g1;injection g1 with e1 e2;subst e1;subst e2;have hlt0:c0<es.length:=(List.getElem?_eq_some_iff.1 hc).1;have hsz:ents.size=n0:=by rw[hent.1,hn]
 have hclk:clock=n0:=by rw[hborn.1,hsz]
 have hback:=hcur c0 (by simp) (by omega);have hin:c0<ents.size:=by omega
 have hei:ents[c0]?=some ents[c0]:=Array.getElem?_eq_getElem hin;have hev:=wa6 hr.1 (wa7 hT hx);generalize hmx:a.eval x=mv at hev;have hmv:mv= .pointer (some ⟨b,0,none⟩):=by
  cases hev with
  |ptr hb=>
   rw[h1] at hb;injection hb with hb;injection hb with e1 e2;subst e1;rfl
 subst hmv;have hfind:ents.find? (λy=>y.born==c0)=some ents[c0]:=by
  rw[Array.find?_eq_some_iff_getElem];refine⟨by rw[hborn.2 c0 _ hei];simp,c0,hin,rfl,λj hj=>?_⟩;have:=hborn.2 j _ (Array.getElem?_eq_getElem (by omega:j<ents.size));simp[this];omega
 have hv:(Instr.entry (.pointer (some ⟨b,0,none⟩))).run C.P w= .ok (.tuple #[ents[c0].key,ents[c0].val]) w:=by
  simp only[Instr.entry,getObj,Sem.run_bind,Sem.run,h3,g2,Result.andThen,hback,hclk,bne_self_eq_false,Bool.false_eq_true,if_false,hfind];rfl
 obtain⟨V1,V2⟩:=hent.2 c0 _ _ hei hc;have:(execOp a.eval o).run C.P w= .ok (.value (.tuple #[ents[c0].key,ents[c0].val])) w:=by simp[execOp,hop,hmx,hv]
 unfold Oper.wp;rw[this];refine hK bs _ _ (λ_ _=>rfl) ⟨hr.1.putF hd (.tuple rfl λj v u hv hu=>?_),hr.2⟩
 match j with
 |0=>simp at hv hu;subst hv;subst hu;exact V1
 |1=>simp at hv hu;subst hv;subst hu;exact V2
 |j+2=>simp at hv
end Go.Eng
