/- The engine, part 14: what a call promises; operations one after the other. -/
import Derived.Test.YtmcdngcjakjnmaaGreatDoorJvc
namespace Go.Eng
def appA(O:Nat->Option AObj)(fresh:Nat)(e:TypeId)(tie:TI)(m:Nat)(g:Nat->List AV)(vc:Prop)(s:AV):Option (AV×List (Nat×AObj)×Prop):=
 match s with
 |.own r n=>match O r with
  |some (.row e' sz n0 f false)=>some (.own fresh (n+m),[(fresh,.row e tie.sz (n+m) (apF n f g) false),(r,.dead)],
    vc/\n<=n0/\sz=tie.sz/\e'=e/\tie.zero.cells.size=tie.sz/\n+m<=maxLen/\(n+m) * tie.bytes<=140737488355328)
  |_=>none
 |.nil=>some (.own fresh m,[(fresh,.row e tie.sz m g false)],vc/\tie.zero.cells.size=tie.sz/\m<=maxLen/\m * tie.bytes<=140737488355328)
 |.empty=>some (.own fresh m,[(fresh,.row e tie.sz m g false)],vc/\tie.zero.cells.size=tie.sz/\m<=maxLen/\m * tie.bytes<=140737488355328)
 |_=>none
def wb2(te:TE)(T:Nat->Option AV)(O:Nat->Option AObj)(fresh:Nat):Op->Option (AV×List (Nat×AObj)×Prop)
 |.alloc t=>match wh7 te t with
  |some z=>some (.ptr fresh 0,[(fresh,.cells z t)],True)
  |none=>none
 |.box t x=>match evO T x with
  |some u=>match wd3 u with
   |some cs=>some (.ptr fresh 0,[(fresh,.cells cs t)],True)
   |none=>none
  |none=>none
 |.buildSlice t len parts=>match lk te t with
  |some ti=>match ti.desc with
   |.slice e=>match lk te e,wh7 te e with
    |some tie,some z=>match wck T (λi=>some (i * tie.sz,tie.sz)) (List.replicate len z).flatten parts.toList with
     |some cs=>some (.own fresh len,[(fresh,.row e tie.sz len (war tie.sz cs) false)],len * tie.sz<=16777216/\z.length=tie.sz/\len<=maxLen)
     |none=>none
    |_,_=>none
   |_=>none
  |none=>none
 |.makeMap _ none=>some (.map fresh,[(fresh,.amap [])],True)
 |.range t x=>match evO T x,lk te t with
  |some (.str s),some ti=>match ti.desc with
   |.string=>some (.ptr fresh 0,[(fresh,.siter s 0)],True)
   |_=>none
  |some (.map m),some ti=>match ti.desc with
   |.map _ _=>match O m with
    |some (.amap es)=>some (.ptr fresh 0,[(fresh,.miter m es.length (t::es.length::List.range es.length))],True)
    |_=>none
   |_=>none
  |_,_=>none
 |.store t x y=>match evO T x,evO T y,lk te t with
  |some p,some u,some ti=>match wd3 u with
   |some new=>match p with
    |.ptr r off=>match O r with
     |some (.cells cs tt)=>match wcp cs off new with
      |some cs'=>some (.any,[(r,.cells cs' tt)],new.length=ti.sz)
      |none=>none
     |_=>none
    |.eptr r sz i off=>match O r with
     |some (.row tt sz' n f false)=>match wcp (f i) off new with
      |some cs'=>some (.any,[(r,.row tt sz' n (λk=>if k=i then cs' else f k) false)],new.length=ti.sz/\i<n/\sz=sz')
      |none=>none
     |_=>none
    |_=>none
   |none=>none
  |_,_,_=>none
 |.call { callee:=.builtin .append,args,argTypes }=>match args.toList,argTypes.toList with
  |[x,y],[t,t']=>match Nat.beq t t',evO T x,evO T y,lk te t with
   |true,some s,some u,some ti=>match ti.desc with
    |.slice e=>match lk te e with
     |some tie=>match srcA O tie.sz u with
      |some (m,g,vc)=>appA O fresh e tie m g vc s
      |none=>none
     |none=>none
    |_=>none
   |_,_,_,_=>none
  |_,_=>none
 |_=>none
theorem wy1{P:Program}{w:World}{t e:TypeId}{len sz:Nat}{z:Value}{parts:Array (Nat×Value)}{vs:Array Value}(hu:(underlying t).run P w= .ok (.slice e) w)(hsz:(sizeOf e).run P w= .ok sz w)(hz:(zeroValue e).run P w= .ok z w)
  (hlim:len * sz<=16777216) (_hzs:z.cells.size=sz) (hf:Instr.fill (λi=>some (i * sz,sz)) ((Array.range (len * sz)).map (z.cells[· % z.cells.size]!)) parts.toList=some vs) (hvs:vs.size=len * sz):
  (Instr.buildSlice t len parts).run P w= .ok (.slice (some ⟨w.heap.size,0,none⟩) len len) (w.alloc (.cells vs e)):=by
 have hn:¬ (len * sz > 2 ^ 24):=by omega
 unfold Instr.buildSlice;simp only[Sem.run_bind,hu,hsz,Result.andThen_ok,if_neg hn]
 by_cases h0:len * sz=0
 ·have e1:∀f:Nat->Value,(Array.range (len * sz)).map f=#[]:=λf=>Array.eq_empty_of_size_eq_zero (by simp[h0]);rw[e1] at hf;simp only[if_pos h0,e1,hf];simp[newRow]
 ·simp only[if_neg h0,Sem.run_bind,hz,Sem.run_pure,Result.andThen_ok,hf];simp[newRow]
def wh5(C:Ctx)(E:Ent)(O:Nat->Option AObj)(bs:Nat->Option Hd)(w:World)(s:Sem Next)(fresh:Nat)(u:AV)(l:List (Nat×AObj)):Prop:=
 ∃nx v w' bs',s.run C.P w= .ok nx w'/\(nx= .value v∨nx= .skip/\v=undef)/\(∀i,i≠fresh->bs' i=bs i)/\Step w (MB E O bs) bs w' (MB E (upL O l) bs') bs'/\WRep C E (upL O l) bs' w'/\V w' (MB E (upL O l) bs') bs' v u
section
variable {C:Ctx} {te:TE} (hte:TE.ok C.P te) {E:Ent} {O:Nat->Option AObj} {bs:Nat->Option Hd} {w:World} (hW:WRep C E O bs w) {N:Nat} {T:Nat->Option AV} {a:Act} (hF:FRep w (MB E O bs) bs N T a) {fresh:Nat} (hO:O fresh=none) (hb:bs fresh=none)
include hte hW
omit hte in
theorem wuk(hb:bs fresh=none){vs:Array Value}{cs:List AV}(hc:wc0 w (MB E O bs) bs vs cs)(t:TypeId):
  Step w (MB E O bs) bs (w.alloc (.cells vs t)) (MB E (up O fresh (.cells cs t)) (up bs fresh (.blk w.heap.size 0))) (up bs fresh (.blk w.heap.size 0))/\WRep C E (up O fresh (.cells cs t)) (up bs fresh (.blk w.heap.size 0)) (w.alloc (.cells vs t)):=by
 refine hW.new hb rfl rfl ⟨rfl,λ_=>lR7 _⟩ rfl (.cells vs t) (.cells cs t) 0 (λ_ _ _ _=>by simp) λhS hn=>?_;exact⟨w.heap.size,0,vs,was _ _ _,hn,hc.1,hc.2.1,λj v u hv hu=>(hc.2.2 j v u hv hu).step hS⟩
omit hte in
theorem wio(hb:bs fresh=none){w1:World}(h1:w1.heap=w.heap)(h2:w1.os=w.os)(h3:TL C.cnt w1 w)(h4:w1.output=w.output){vs:Array Value}{e:TypeId}{sz n c:Nat}{f:Nat->List AV}(hnc:n<=c)(hcm:c<=maxLen)(hvs:vs.size=c * sz)
  (hl:∀i,i<n->(f i).length=sz) (ho:∀i,i<n->∀j,j<sz->∀v:Value,vs[i * sz+j]?=some v->v.oneCell'=true)
  (hV:∀i,i<n->∀(j:Nat) v u,j<sz->vs[i * sz+j]?=some v->(f i)[j]?=some u->V w (MB E O bs) bs v u):
  Step w (MB E O bs) bs (w1.alloc (.cells vs e)) (MB E (up O fresh (.row e sz n f false)) (up bs fresh (.blk w.heap.size c))) (up bs fresh (.blk w.heap.size c))/\
   WRep C E (up O fresh (.row e sz n f false)) (up bs fresh (.blk w.heap.size c)) (w1.alloc (.cells vs e)):=by
 refine hW.new hb h1 h2 h3 h4 (.cells vs e) (.row e sz n f false) c (λ_ _ _ _=>by simp) λhS hn=>?_;exact .inr ⟨w.heap.size,c,vs,was _ _ _,hn,hnc,hcm,hvs,hl,ho,λi hi j v u hj hv hu=>(hV i hi j v u hj hv hu).step hS⟩
def AppSrc(C:Ctx)(E:Ent)(O:Nat->Option AObj)(bs:Nat->Option Hd)(w:World)(e:TypeId)(tie:TI)(ats:Array TypeId)(ty:TypeId)(vy:Value)(m:Nat)(g:Nat->List AV):Prop:=
 ∃news:List Value,news.length=m * tie.sz/\(∀u∈news,u.oneCell'=true)/\(∀i,i<m->(g i).length=tie.sz)/\
   (∀i,i<m->∀(j:Nat) u v,j<tie.sz->(g i)[j]?=some u->news[i * tie.sz+j]?=some v->V w (MB E O bs) bs v u)/\
   ∀ {As:Option Addr} {n c:Nat} (olds:List Value),((n=0/\c=0/\olds=[])∨∃b vs,As=some ⟨b,0,none⟩/\w.heap[b]?=some (.cells vs e (0,0))/\n<=c/\vs.size=c * tie.sz/\olds=vs.toList.take (n * tie.sz))->
     tie.zero.cells.size=tie.sz->n+m<=maxLen->(n+m) * tie.bytes<=140737488355328->
     ∃v' w',(Builtin.append_ ats ty #[.slice As n c,vy]).run C.P w= .ok v' w'/\
       ((m=0/\v'= .slice As n c/\w'=w)∨
        (∃b vs,0<m/\As=some ⟨b,0,none⟩/\w.heap[b]?=some (.cells vs e (0,0))/\n+m<=c/\v'= .slice As (n+m) c/\vs.size=c * tie.sz/\olds=vs.toList.take (n * tie.sz)/\
           w'=w.setRow b (vs.toList.take (n * tie.sz)++news++vs.toList.drop (n * tie.sz+news.length)).toArray)∨
        (∃cap zs,n+m<=cap/\cap<=maxLen/\zs.size=(cap - (n+m)) * tie.sz/\v'= .slice (some ⟨w.heap.size,0,none⟩) (n+m) cap/\w'=w.drew.alloc (.cells (olds.toArray++news.toArray++zs) e)))
omit hte in
theorem wwm{x:Operand}{s r:AV}{tie:TI}{e:TypeId}{m:Nat}{g:Nat->List AV}{vc P:Prop}{l:List (Nat×AObj)}{ats:Array TypeId}{ty:TypeId}{vy:Value}
  (hF:FRep w (MB E O bs) bs N T a) (hO:O fresh=none) (hb:bs fresh=none)
  (hx:evO T x=some s) (hsrc:vc->AppSrc C E O bs w e tie ats ty vy m g)
  (h:appA O fresh e tie m g vc s=some (r,l,P)) (hP:P):
  wh5 C E O bs w (do pure (.value (← Builtin.append_ ats ty #[a.eval x,vy]))) fresh r l:=by
 have hsx:=wa6 hF hx;have wrap:∀(s:Sem Value) v w',s.run C.P w= .ok v w'->(do pure (.value (← s)):Sem Next).run C.P w= .ok (.value v) w':=by
  intro s v w' hs;simp[hs]
 -- what is appended to something without capacity
 have fromNone:∀(O1:Nat->Option AObj) (_:WRep C E O1 bs w) (_:Step w (MB E O bs) bs w (MB E O1 bs) bs) (As:Option Addr),a.eval x= .slice As 0 0->vc->tie.zero.cells.size=tie.sz->m<=maxLen->m * tie.bytes<=140737488355328->
   ∀(f:Nat->List AV),(∀i,f i=g i)->
   ∃nx v w' bs',(do pure (.value (← Builtin.append_ ats ty #[a.eval x,vy])):Sem Next).run C.P w= .ok nx w'/\(nx= .value v∨nx= .skip/\v=undef)/\(∀i,i≠fresh->bs' i=bs i)/\
    Step w (MB E O bs) bs w' (MB E (up O1 fresh (.row e tie.sz m f false)) bs') bs'/\WRep C E (up O1 fresh (.row e tie.sz m f false)) bs' w'/\V w' (MB E (up O1 fresh (.row e tie.sz m f false)) bs') bs' v (.own fresh m):=by
  intro O1 hW1 hS1 As hev hvc hz hm hbb f hfg;obtain rfl:f=g:=funext hfg;obtain⟨news,hl,h1,hgl,hgV,hrun⟩:=hsrc hvc;obtain⟨v',w',hr,hcase⟩:=hrun (As:=As) (n:=0) (c:=0) [] (.inl ⟨rfl,rfl,rfl⟩) hz (by omega) (by simpa using hbb);rw[← hev] at hr
  rcases hcase with⟨hm0,rfl,rfl⟩ | ⟨b,vs,h0,_,_,hbad,_⟩ | ⟨cap,zs,hc1,hc2,hzs,rfl,rfl⟩
  ·subst hm0;obtain⟨k1,k2⟩:=hW1.newnil hb e tie.sz f (n:=0) rfl;exact⟨_,_,_,up bs fresh .nil,wrap _ _ _ hr,.inl rfl,λi hi=>waq _ _ _ (Ne.symm hi),hS1.trans k1,k2,.ownnil (was _ _ _) rfl⟩
  ·omega
  ·simp only[Nat.zero_add] at hc1 hzs hr ⊢;have hsize:((([]:List Value).toArray++news.toArray++zs).size)=cap * tie.sz:=by
    simp only[Array.size_append,List.size_toArray,List.length_nil,Nat.zero_add,hl,hzs, ← Nat.add_mul];congr 1;omega
   have hget:∀i,i<m->∀j,j<tie.sz->((([]:List Value).toArray++news.toArray++zs))[i * tie.sz+j]?=news[i * tie.sz+j]?:=by
    intro i hi j hj;have hlt:i * tie.sz+j<news.length:=by
     rw[hl];have:(i+1) * tie.sz<=m * tie.sz:=Nat.mul_le_mul_right _ (by omega);rw[Nat.add_mul,Nat.one_mul] at this;omega
    rw[Array.getElem?_append_left (by simpa using hlt)];simp
   obtain⟨k1,k2⟩:=wio hW1 hb (w1:=w.drew) rfl rfl ⟨rfl,λ_=>Nat.le_succ _⟩ rfl (e:=e) (f:=f) hc1 hc2 hsize hgl
    (λi hi j hj v hv'=>by rw[hget i hi j hj] at hv';exact h1 v (List.mem_of_getElem? hv')) (λi hi j v u hj hv' hu=>by rw[hget i hi j hj] at hv';exact(hgV i hi j u v hj hu hv').step hS1)
   exact⟨_,_,_,up bs fresh (.blk w.heap.size cap),wrap _ _ _ hr,.inl rfl,λi hi=>waq _ _ _ (Ne.symm hi),hS1.trans k1,k2,.own (was _ _ _) hc1 hc2⟩
 unfold appA at h;split at h
 ·rename_i r0 n;split at h
  ·rename_i e' sz n0 f ho;simp only[sI7,pI7] at h;obtain⟨rfl,rfl,rfl⟩:=h;obtain⟨hvc,hn0,rfl,rfl,hz,h63,hbb⟩:=hP;generalize hev:a.eval x=vx at hsx
   cases hsx with
   |ownnil hbr hn=>
    rename_i As;subst hn;obtain⟨k1,k2⟩:=hW.kill r0;have:=fromNone _ k2 k1 As hev hvc hz (by omega) (by simpa using hbb) (apF 0 f g) (λi=>by simp[apF]);simpa only[wh5,upL,Nat.zero_add,hev] using this
   |own hbr hnc hcm=>
    rename_i b c;have hrf:r0≠fresh:=by rintro rfl;rw[ho] at hO;cases hO
    rcases hW.obj r0 _ ho with⟨q1,q2⟩ | ⟨b',c',vs,hb',hh,hnc',hcm',hvs,hfl,hf1,hfV⟩
    ·rw[q1] at hbr;cases hbr
    ·rw[hb'] at hbr;injection hbr with hbr;injection hbr with e1 e2;subst e1;subst e2;obtain⟨news,hl,h1,hgl,hgV,hrun⟩:=hsrc hvc;obtain⟨v',w',hr,hcase⟩:=hrun (As:=some ⟨b',0,none⟩) (n:=n) (c:=c') (vs.toList.take (n * tie.sz)) (.inr ⟨b',vs,rfl,hh,hnc,hvs,rfl⟩) hz h63 hbb;have hnle:n * tie.sz<=vs.size:=by rw[hvs];exact Nat.mul_le_mul_right _ hnc
     -- the cells, whichever array holds them
     have cellsOf:∀(ws:Array Value),(∀i,i<n * tie.sz->ws[i]?=vs[i]?)->(∀j,j<m * tie.sz->ws[n * tie.sz+j]?=news[j]?)->
       (∀i,i<n+m->(apF n f g i).length=tie.sz)/\(∀i,i<n+m->∀j,j<tie.sz->∀v:Value,ws[i * tie.sz+j]?=some v->v.oneCell'=true)/\
       ∀i,i<n+m->∀(j:Nat) v u,j<tie.sz->ws[i * tie.sz+j]?=some v->(apF n f g i)[j]?=some u->V w (MB E O bs) bs v u:=by
      intro ws w1 w2;have lo:∀i,i<n->∀j,j<tie.sz->ws[i * tie.sz+j]?=vs[i * tie.sz+j]?:=by
       intro i hi j hj;refine w1 _ ?_;have:(i+1) * tie.sz<=n * tie.sz:=Nat.mul_le_mul_right _ (by omega);rw[Nat.add_mul,Nat.one_mul] at this;omega
      have hi':∀i,n<=i->i<n+m->∀j,j<tie.sz->ws[i * tie.sz+j]?=news[(i - n) * tie.sz+j]?:=by
       intro i hi hi2 j hj;have:(i - n+1) * tie.sz<=m * tie.sz:=Nat.mul_le_mul_right _ (by omega);rw[Nat.add_mul,Nat.one_mul] at this;rw[← w2 _ (by omega), ← Nat.add_assoc, ← Nat.add_mul,show n+(i - n)=i by omega]
      refine⟨λi hi=>?_,λi hi j hj v hv'=>?_,λi hi j v u hj hv' hu=>?_⟩
      ·unfold apF;split
       ·exact hfl i (by omega)
       ·exact hgl _ (by omega)
      ·rcases Nat.lt_or_ge i n with hin | hin
       ·rw[lo i hin j hj] at hv';exact hf1 i (by omega) j hj v hv'
       ·rw[hi' i hin hi j hj] at hv';exact h1 v (List.mem_of_getElem? hv')
      ·unfold apF at hu
       rcases Nat.lt_or_ge i n with hin | hin
       ·rw[if_pos hin] at hu;rw[lo i hin j hj] at hv';exact hfV i (by omega) j v u hj hv' hu
       ·rw[if_neg (by omega)] at hu;rw[hi' i hin hi j hj] at hv';exact hgV (i - n) (by omega) j u v hj hu hv'
     rcases hcase with⟨rfl,rfl,rfl⟩ | ⟨b2,vs2,h0,hAs,hh2,hroom,rfl,hvs2,_,rfl⟩ | ⟨cap,zs,hc1,hc2,hzs,rfl,rfl⟩
     ·have hnews:news=[]:=List.eq_nil_of_length_eq_zero (by simpa using hl);subst hnews;obtain⟨c1,c2,c3⟩:=cellsOf vs (λ_ _=>rfl) (λj hj=>by simp at hj);obtain⟨k1,k2⟩:=hW.move ho rfl hb' hO hb (w':=w') (λ_ _=>rfl) rfl rfl ⟨rfl,λ_=>lR7 _⟩ rfl (.row e' tie.sz (n+0) (apF n f g) false) rfl c' λhS=>
       .inr ⟨b',c',vs,was _ _ _,hh,by omega,hcm,hvs,c1,c2,λi hi j v u hj hv' hu=>(c3 i hi j v u hj hv' hu).step hS⟩
      exact⟨_,_,_,up bs fresh (.blk b' c'),wrap _ _ _ hr,.inl rfl,λi hi=>waq _ _ _ (Ne.symm hi),k1,k2,.own (was _ _ _) (by omega) hcm⟩
     ·injection hAs with hAs;injection hAs with hAs;subst hAs;rw[hh] at hh2;injection hh2 with hh2;injection hh2 with hh2;subst hh2;have hfit:n * tie.sz+m * tie.sz<=vs.size:=by rw[hvs, ← Nat.add_mul];exact Nat.mul_le_mul_right _ hroom
      have hlen:(vs.toList.take (n * tie.sz)).length=n * tie.sz:=by simp;omega
      obtain⟨c1,c2,c3⟩:=cellsOf (vs.toList.take (n * tie.sz)++news++vs.toList.drop (n * tie.sz+news.length)).toArray
       (λi hi=>by
        simp only[List.getElem?_toArray,List.append_assoc];rw[List.getElem?_append_left (by omega),List.getElem?_take,if_pos hi,Array.getElem?_toList])
       (λj hj=>by
        simp only[List.getElem?_toArray,List.append_assoc];rw[List.getElem?_append_right (by omega),hlen,Nat.add_sub_cancel_left,List.getElem?_append_left (by omega)])
      obtain⟨k1,k2⟩:=hW.move ho rfl hb' hO hb (w':=w.setRow b' _) (λk hk=>setRow_other w b' k _ hk) (size_setRow _ _ _) rfl ⟨rfl,λ_=>lR7 _⟩ rfl (.row e' tie.sz (n+m) (apF n f g) false) rfl c' λhS=>
       .inr ⟨b',c',_,was _ _ _,setRow_heap w b' vs _ e' (0,0) hh,hroom,hcm,by simp only[List.size_toArray,lA7,hlen,hl,List.length_drop,Array.length_toList];omega,c1,c2,λi hi j v u hj hv' hu=>(c3 i hi j v u hj hv' hu).step hS⟩
      exact⟨_,_,_,up bs fresh (.blk b' c'),wrap _ _ _ hr,.inl rfl,λi hi=>waq _ _ _ (Ne.symm hi),k1,k2,.own (was _ _ _) hroom hcm⟩
     ·obtain⟨q1,q2⟩:=hW.kill r0;have hlen:(vs.toList.take (n * tie.sz)).length=n * tie.sz:=by simp;omega
      obtain⟨c1,c2,c3⟩:=cellsOf ((vs.toList.take (n * tie.sz)).toArray++news.toArray++zs)
       (λi hi=>by
        rw[Array.append_assoc,Array.getElem?_append_left (by simpa[hlen] using hi),List.getElem?_toArray,List.getElem?_take,if_pos hi,Array.getElem?_toList])
       (λj hj=>by
        rw[Array.append_assoc,Array.getElem?_append_right (by simp only[List.size_toArray,hlen];omega)];simp only[List.size_toArray,hlen,Nat.add_sub_cancel_left];rw[Array.getElem?_append_left (by simpa[hl] using hj),List.getElem?_toArray])
      obtain⟨k1,k2⟩:=wio q2 hb (w1:=w.drew) rfl rfl ⟨rfl,λ_=>Nat.le_succ _⟩ rfl (e:=e') (f:=apF n f g) hc1 hc2
       (by simp only[Array.size_append,List.size_toArray,hlen,hl,hzs, ← Nat.add_mul];congr 1;omega) c1 c2 (λi hi j v u hj hv' hu=>(c3 i hi j v u hj hv' hu).step q1)
      exact⟨_,_,_,up bs fresh (.blk w.heap.size cap),wrap _ _ _ hr,.inl rfl,λi hi=>waq _ _ _ (Ne.symm hi),q1.trans k1,k2,.own (was _ _ _) hc1 hc2⟩
  ·cases h
 ·simp only[sI7,pI7] at h;obtain⟨rfl,rfl,rfl⟩:=h;obtain⟨hvc,hz,h63,hbb⟩:=hP;generalize hev:a.eval x=vx at hsx
  cases hsx;have:=fromNone O hW (Step.refl _ _ _) none hev hvc hz h63 hbb g (λ_=>rfl);simpa only[wh5,upL,hev] using this
 ·simp only[sI7,pI7] at h;obtain⟨rfl,rfl,rfl⟩:=h;obtain⟨hvc,hz,h63,hbb⟩:=hP;generalize hev:a.eval x=vx at hsx
  cases hsx;rename_i As;have:=fromNone O hW (Step.refl _ _ _) As hev hvc hz h63 hbb g (λ_=>rfl);simpa only[wh5,upL,hev] using this
 ·cases h
theorem w5y{t:TypeId}{x y:Operand}{s u r:AV}{ti tie:TI}{e:TypeId}{m:Nat}{g:Nat->List AV}{vc P:Prop}{l:List (Nat×AObj)}{ty:TypeId}
  (hF:FRep w (MB E O bs) bs N T a) (hO:O fresh=none) (hb:bs fresh=none)
  (hx:evO T x=some s) (hy:evO T y=some u) (ht:lk te t=some ti) (hd:ti.desc= .slice e) (he:lk te e=some tie) (hs:srcA O tie.sz u=some (m,g,vc))
  (h:appA O fresh e tie m g vc s=some (r,l,P)) (hP:P):
  wh5 C E O bs w (do pure (.value (← Builtin.append_ #[t,t] ty #[a.eval x,a.eval y]))) fresh r l:=by
 have hsy:=wa6 hF hy;refine wwm hW hF hO hb hx (λhvc=>?_) h hP;obtain⟨A,c',news,hv,hl,hA,h1,hgl,hgV⟩:=wsz hW hsy hs hvc;exact⟨news,hl,h1,hgl,hgV,λolds ho hz h63 hb=>by rw[hv];exact run_app hte ht hd he hz olds ho news hl hA h1 h63 hb⟩
theorem wwc(hF:FRep w (MB E O bs) bs N T a)(hO:O fresh=none)(hb:bs fresh=none){o:Oper}{u:AV}{l:List (Nat×AObj)}{vc:Prop}(h:wb2 te T O fresh o.op=some (u,l,vc))(hvc:vc):
  wh5 C E O bs w (execOp a.eval o) fresh u l:=by
 have ev:=λ{x:Operand} {u:AV} (h:evO T x=some u)=>wa6 hF h;have wrap:∀(s:Sem Value) v w',s.run C.P w= .ok v w'->(do pure (.value (← s)):Sem Next).run C.P w= .ok (.value v) w':=by
  intro s v w' hs;simp[hs]
 have wrapU:∀(s:Sem Unit) w',s.run C.P w= .ok () w'->(do s;pure .skip:Sem Next).run C.P w= .ok .skip w':=by
  intro s w' hs;simp[hs]
 obtain⟨dst,op,ty,pos,after,guard⟩:=o;simp only at h;unfold wb2 at h;split at h
 ·rename_i t;split at h
  ·rename_i z hz;simp only[sI7,pI7] at h;obtain⟨rfl,rfl,rfl⟩:=h;unfold wh7 at hz;split at hz
   ·rename_i ti hti;have hc:wc0 w (MB E O bs) bs ti.zero.cells z:=by simpa using wf9 (w:=w) (M:=MB E O bs) (bs:=bs) _ _ hz
    obtain⟨k1,k2⟩:=wuk hW hb hc t;refine⟨_,.pointer (some ⟨w.heap.size,0,none⟩),_,_,wrap _ _ _ ?_,.inl rfl,λi hi=>waq _ _ _ (Ne.symm hi),k1,k2,.ptr (was _ _ _)⟩;simp[Instr.alloc,wet hte (w:=w) hti,newVar,newRow]
   ·cases hz
  ·cases h
 ·rename_i t x;split at h
  ·rename_i ux hx;split at h
   ·rename_i cs hcs;simp only[sI7,pI7] at h;obtain⟨rfl,rfl,rfl⟩:=h;obtain⟨k1,k2⟩:=wuk hW hb (wr7 (ev hx) hcs) t;refine⟨_,.pointer (some ⟨w.heap.size,0,none⟩),_,_,wrap _ _ _ ?_,.inl rfl,λi hi=>waq _ _ _ (Ne.symm hi),k1,k2,.ptr (was _ _ _)⟩;simp[Instr.box,newVar,newRow]
   ·cases h
  ·cases h
 ·rename_i t len parts;split at h
  ·rename_i ti hti;split at h
   ·rename_i e hd;split at h
    ·rename_i tie z hte' hz;split at h
     ·rename_i cs hcs;simp only[sI7,pI7] at h;obtain⟨rfl,rfl,rfl⟩:=h;obtain⟨hlim,hzl,hlm⟩:=hvc;unfold wh7 at hz;rw[hte'] at hz;have hc:wc0 w (MB E O bs) bs tie.zero.cells z:=by simpa using wf9 (w:=w) (M:=MB E O bs) (bs:=bs) _ _ hz
      have hu:=wbh hte (w:=w) hti;rw[hd] at hu;have hsz:=wc3 hte (w:=w) hte';have hzr:=wet hte (w:=w) hte';have hzs:tie.zero.cells.size=tie.sz:=by rw[hc.1,hzl]
      -- the zeros, laid row on row
      have hlen:(List.replicate len z).flatten.length=len * tie.sz:=by simp[hzl]
      have hget:∀j,j<len * tie.sz->(List.replicate len z).flatten[j]?=z[j % tie.sz]?:=by
       intro j hj;clear hlen hcs hlim hlm
       induction len generalizing j with
       |zero=>simp at hj
       |succ len ih=>
        rw[List.replicate_succ,List.flatten_cons]
        rcases Nat.lt_or_ge j tie.sz with h1 | h1
        ·rw[List.getElem?_append_left (by omega),Nat.mod_eq_of_lt h1]
        ·rw[List.getElem?_append_right (by omega),hzl,ih _ (by rw[Nat.add_mul,Nat.one_mul] at hj;omega),Nat.mod_eq_sub_mod h1]
      have hc0:wc0 w (MB E O bs) bs ((Array.range (len * tie.sz)).map (tie.zero.cells[· % tie.zero.cells.size]!)) (List.replicate len z).flatten:=by
       have at_:∀(j:Nat) (x:Value),((Array.range (len * tie.sz)).map (tie.zero.cells[· % tie.zero.cells.size]!))[j]?=some x->j<len * tie.sz/\tie.zero.cells[j % tie.sz]?=some x:=by
        intro j x hx;simp only[Array.getElem?_map,Array.getElem?_range] at hx;split at hx
        ·rename_i hj;simp only[Option.map_some,sI7] at hx;refine⟨hj,?_⟩;have hpos:0<tie.sz:=by
          rcases Nat.eq_zero_or_pos tie.sz with h | h
          ·rw[h] at hj;simp at hj
          ·exact h
         have hlt:j % tie.sz<tie.zero.cells.size:=by rw[hzs];exact Nat.mod_lt _ hpos
         rw[← hx,hzs];simp[hlt]
        ·cases hx
       refine⟨by simp[hzl],λj x hx=>hc.2.1 _ _ (at_ j x hx).2,λj x y hx hy=>?_⟩;obtain⟨hj,hx⟩:=at_ j x hx;rw[hget j hj] at hy;exact hc.2.2 _ _ _ hx hy
      obtain⟨vs,hf,hcv⟩:=wlh hF _ _ _ _ hc0 hcs;have hcl:cs.length=len * tie.sz:=by
       have:∀(ps:List (Nat×Operand)) (c0 r:List AV),wck T (λi=>some (i * tie.sz,tie.sz)) c0 ps=some r->r.length=c0.length:=by
        intro ps
        induction ps with
        |nil=>intro c0 r h;simp only[wck,sI7] at h;subst h;rfl
        |cons p ps ih=>
         intro c0 r h;obtain⟨i,x⟩:=p;simp only[wck] at h;split at h
         ·split at h
          ·split at h
           ·split at h
            ·rename_i hs;rw[ih _ _ h,(wgl _ _ _ _ hs).1]
            ·cases h
           ·cases h
          ·cases h
         ·cases h
       rw[this _ _ _ hcs,hlen]
      obtain⟨g1,g2⟩:=w6i tie.sz len cs hcl
      obtain⟨k1,k2⟩:=wio hW hb (w1:=w) rfl rfl ⟨rfl,λ_=>lR7 _⟩ rfl (vs:=vs) (e:=e) (sz:=tie.sz) (n:=len) (c:=len) (f:=war tie.sz cs) (lR7 _) hlm (by rw[hcv.1,hcl]) g1
       (λi hi j hj v hv=>hcv.2.1 _ _ hv) (λi hi j v u hj hv hu=>hcv.2.2 _ _ _ hv (g2 i hi j u hj hu))
      refine⟨_,.slice (some ⟨w.heap.size,0,none⟩) len len,_,_,wrap _ _ _ ?_,.inl rfl,λi hi=>waq _ _ _ (Ne.symm hi),k1,k2,.own (was _ _ _) (lR7 _) hlm⟩;exact wy1 hu hsz hzr hlim hzs (by simpa using hf) (by rw[hcv.1,hcl])
     ·cases h
    ·cases h
   ·cases h
  ·cases h
 ·simp only[sI7,pI7] at h;obtain⟨rfl,rfl,rfl⟩:=h;obtain⟨k1,k2⟩:=hW.new hb (w1:=w) rfl rfl ⟨rfl,λ_=>lR7 _⟩ rfl (.map #[] 0) (.amap []) 0 (λ_ _ _ _=>by simp) λhS hn=>
   ⟨w.heap.size,0,#[],0,was _ _ _,hn,⟨rfl,λj e p he=>by simp at he⟩,⟨rfl,λi e he=>by simp at he⟩⟩
  refine⟨_,.map (some w.heap.size),_,_,wrap _ _ _ ?_,.inl rfl,λi hi=>waq _ _ _ (Ne.symm hi),k1,k2,.map (was _ _ _)⟩;simp[Instr.makeMap]
 ·rename_i t x;split at h
  ·rename_i s ti hx hti;have hu:=wbh hte (w:=w) hti;split at h
   ·rename_i hd;rw[hd] at hu;simp only[sI7,pI7] at h;obtain⟨rfl,rfl,rfl⟩:=h;have hs:=ev hx;generalize hz:a.eval x=v at hs
    cases hs with
    |str hs=>
     rename_i b;obtain⟨k1,k2⟩:=hW.new hb (w1:=w) rfl rfl ⟨rfl,λ_=>lR7 _⟩ rfl (.stringIter b 0) (.siter s 0) 0 (λ_ _ _ _=>by simp) λhS hn=>⟨w.heap.size,0,b,was _ _ _,hn,hs⟩;refine⟨_,.pointer (some ⟨w.heap.size,0,none⟩),_,_,wrap _ _ _ ?_,.inl rfl,λi hi=>waq _ _ _ (Ne.symm hi),k1,k2,.ptr (was _ _ _)⟩;simp[hz,Instr.range,hu]
   ·cases h
  ·rename_i m ti hx hti;have hu:=wbh hte (w:=w) hti;split at h
   ·rename_i kt et hd;rw[hd] at hu;split at h
    ·rename_i es ho;simp only[sI7,pI7] at h;obtain⟨rfl,rfl,rfl⟩:=h;obtain⟨bm,cm,ents,clock,hbm,hh,he,hborn⟩:=hW.obj m _ ho;have hs:=ev hx;generalize hz:a.eval x=v at hs
     cases hs with
     |map hb'=>
      rename_i b' c';rw[hbm] at hb';injection hb' with hb';injection hb' with e1 e2;subst e1;have hc:clock=es.length:=by rw[hborn.1,he.1]
      obtain⟨k1,k2⟩:=hW.new hb (w1:=w) rfl rfl ⟨rfl,λ_=>lR7 _⟩ rfl (.mapIter (some bm) clock #[] clock) (.miter m es.length (t::es.length::List.range es.length)) 0 (λ_ _ _ _=>by simp) λhS hn=>
       ⟨w.heap.size,0,bm,cm,#[],was _ _ _,hS.bs _ _ hbm,by rw[← hc];exact hn,List.nodup_range,λi hi=>by simpa using hi,λi hi=>by simp[hi],λi hi hlt=>by simp at hi;omega⟩
      refine⟨_,.pointer (some ⟨w.heap.size,0,none⟩),_,_,wrap _ _ _ ?_,.inl rfl,λi hi=>waq _ _ _ (Ne.symm hi),k1,k2,.ptr (was _ _ _)⟩;simp[hz,Instr.range,hu,getObj,Sem.run,hh]
    ·cases h
   ·cases h
  ·cases h
 ·rename_i t x y;split at h
  ·rename_i p ux ti hx hy hti;split at h
   ·rename_i new hnew;obtain⟨n1,n2,n3⟩:=wr7 (ev hy) hnew;have hsz:=wc3 hte (w:=w) hti;have hpt:=ev hx
    -- the store itself
    have run:∀g off vs tt,a.eval x= .pointer (some ⟨g,off,none⟩)->w.heap[g]?=some (.cells vs tt (0,0))->off+new.length<=vs.size->new.length=ti.sz->
      (Instr.storeAt t (a.eval x) (a.eval y)).run C.P w= .ok () (w.setRow g (vs.toList.take off++(a.eval y).cells.toList++vs.toList.drop (off+(a.eval y).cells.toList.length)).toArray):=by
     intro g off vs tt hev hg hle heq;have hst:=run_storeCells_at C.P g off tt (a.eval y).cells.toList 0 vs w hg (by simpa[n1] using hle) (λv hv=>by
      obtain⟨j,hj,e⟩:=List.mem_iff_getElem.1 hv;exact n2 j v (by rw[← Array.getElem?_toList,List.getElem?_eq_getElem hj,e]))
     simp only[Nat.add_zero] at hst;have hsize:(a.eval y).cells.size=ti.sz:=by rw[n1,heq]
     rw[hev];simp[Instr.storeAt,Instr.sureAddr,storeVar,hsz,hsize,hst]
    have cellsAt:∀(vs:Array Value) (off:Nat) (k:Nat),off+new.length<=vs.size->
      ((vs.toList.take off++(a.eval y).cells.toList++vs.toList.drop (off+(a.eval y).cells.toList.length)).toArray)[k]?=if off<=k/\k<off+new.length then (a.eval y).cells[k - off]? else vs[k]?:=by
     intro vs off k hle;have hl1:(vs.toList.take off).length=off:=by simp;omega
     have hl2:(a.eval y).cells.toList.length=new.length:=by simpa using n1
     simp only[List.getElem?_toArray,List.append_assoc,hl2]
     rcases Nat.lt_or_ge k off with h1 | h1
     ·rw[List.getElem?_append_left (by omega),List.getElem?_take,if_pos h1,if_neg (by omega),Array.getElem?_toList]
     ·rw[List.getElem?_append_right (by omega),hl1]
      rcases Nat.lt_or_ge k (off+new.length) with h2 | h2
      ·rw[List.getElem?_append_left (by omega),if_pos ⟨h1,h2⟩,Array.getElem?_toList]
      ·rw[List.getElem?_append_right (by omega),hl2,List.getElem?_drop,if_neg (by omega),Array.getElem?_toList];congr 1;omega
    have sizeAt:∀(vs:Array Value) (off:Nat),off+new.length<=vs.size->((vs.toList.take off++(a.eval y).cells.toList++vs.toList.drop (off+(a.eval y).cells.toList.length)).toArray).size=vs.size:=by
     intro vs off hle;have hl2:(a.eval y).cells.size=new.length:=n1;simp[hl2];omega
    split at h
    ·rename_i r off;split at h
     ·rename_i cs tt ho;split at h
      ·rename_i cs' hsp;simp only[sI7,pI7] at h;obtain⟨rfl,rfl,rfl⟩:=h;obtain⟨s1,s2,s3⟩:=wgl _ _ _ _ hsp;obtain⟨b,c,vs,hbr,hh,hvs,o1,oV⟩:=hW.obj r _ ho;generalize hz:a.eval x=vx at hpt
       cases hpt with
       |ptr hb'=>
        rw[hbr] at hb';injection hb' with hb';injection hb' with e1 e2;subst e1;have hr:=run b off vs tt hz hh (by omega) hvc;obtain⟨k1,k2⟩:=hW.modify ho rfl hbr (w':=w.setRow b _) (λk hk=>setRow_other w b k _ hk) (size_setRow _ _ _) rfl ⟨rfl,λ_=>lR7 _⟩ rfl (o:=.cells cs' tt) rfl λhS=>
         ⟨b,c,_,hbr,setRow_heap w b vs _ tt (0,0) hh,by rw[sizeAt vs off (by omega),hvs,s1],λj v hv=>by
          rw[cellsAt vs off j (by omega)] at hv;split at hv
          ·exact n2 _ _ hv
          ·exact o1 _ _ hv,λj v u hv hu=>by
          rw[cellsAt vs off j (by omega)] at hv;rw[s3 j] at hu;split at hv
          ·rename_i hj;rw[if_pos hj] at hu;exact(n3 _ _ _ hv hu).step hS
          ·rename_i hj;rw[if_neg hj] at hu;exact(oV _ _ _ hv hu).step hS⟩
        exact⟨_,undef,_,bs,wrapU _ _ hr,.inr ⟨rfl,rfl⟩,λ_ _=>rfl,k1,k2,.any⟩
      ·cases h
     ·cases h
    ·rename_i r sz i off;split at h
     ·rename_i tt sz' n f ho;split at h
      ·rename_i cs' hsp;simp only[sI7,pI7] at h;obtain⟨rfl,rfl,rfl⟩:=h;obtain⟨hvc,hin,rfl⟩:=hvc;obtain⟨s1,s2,s3⟩:=wgl _ _ _ _ hsp
       rcases hW.obj r _ ho with⟨q1,q2⟩ | ⟨b,c,vs,hbr,hh,hnc,hcm,hvs,fl,o1,oV⟩
       ·omega
       generalize hz:a.eval x=vx at hpt
       cases hpt with
       |eptr hb'=>
        rw[hbr] at hb';injection hb' with hb';injection hb' with e1 e2;subst e1;have hfl:=fl i hin;have hle:(i+1) * sz<=c * sz:=Nat.mul_le_mul_right _ (by omega);rw[Nat.add_mul,Nat.one_mul] at hle;have hfit:i * sz+off+new.length<=vs.size:=by omega
        have hr:=run b (i * sz+off) vs tt hz hh hfit hvc;have other:∀i',i'≠i->∀j,j<sz->¬ (i * sz+off<=i' * sz+j/\i' * sz+j<i * sz+off+new.length):=by
         intro i' hne j hj hh
         rcases Nat.lt_or_ge i' i with h1 | h1
         ·have:(i'+1) * sz<=i * sz:=Nat.mul_le_mul_right _ (by omega);rw[Nat.add_mul,Nat.one_mul] at this;omega
         ·have:(i+1) * sz<=i' * sz:=Nat.mul_le_mul_right _ (by omega);rw[Nat.add_mul,Nat.one_mul] at this;omega
        have same:∀j,(i * sz+off<=i * sz+j/\i * sz+j<i * sz+off+new.length)↔(off<=j/\j<off+new.length):=by intro j;omega
        obtain⟨k1,k2⟩:=hW.modify ho rfl hbr (w':=w.setRow b _) (λk hk=>setRow_other w b k _ hk) (size_setRow _ _ _) rfl ⟨rfl,λ_=>lR7 _⟩ rfl (o:=.row tt sz n (λk=>if k=i then cs' else f k) false) rfl λhS=>
         .inr ⟨b,c,_,hbr,setRow_heap w b vs _ tt (0,0) hh,hnc,hcm,by rw[sizeAt vs _ hfit,hvs],λk hk=>by
          show (if k=i then cs' else f k).length=sz
          by_cases hki:k=i
          ·rw[if_pos hki,s1,hfl]
          ·rw[if_neg hki];exact fl k hk,λk hk j hj v hv=>by
          rw[cellsAt vs _ _ hfit] at hv;split at hv
          ·exact n2 _ _ hv
          ·exact o1 k hk j hj v hv,λk hk j v u hj hv hu=>by
          rw[cellsAt vs _ _ hfit] at hv;replace hu:(if k=i then cs' else f k)[j]?=some u:=hu
          by_cases hki:k=i
          ·subst hki;rw[if_pos rfl,s3 j] at hu;simp only[same] at hv;split at hv
           ·rename_i hjj;rw[if_pos hjj] at hu;rw[show k * sz+j - (k * sz+off)=j - off by omega] at hv;exact(n3 _ _ _ hv hu).step hS
           ·rename_i hjj;rw[if_neg hjj] at hu;exact(oV k hk j v u hj hv hu).step hS
          ·rw[if_neg hki] at hu;rw[if_neg (other k hki j hj)] at hv;exact(oV k hk j v u hj hv hu).step hS⟩
        exact⟨_,undef,_,bs,wrapU _ _ hr,.inr ⟨rfl,rfl⟩,λ_ _=>rfl,k1,k2,.any⟩
      ·cases h
     ·cases h
    ·cases h
   ·cases h
  ·cases h
 ·rename_i args argTypes;split at h
  ·rename_i x y t t' hargs htys;split at h
   ·rename_i s u ti htt hx hy hti;have htt:=Nat.eq_of_beq_eq_true htt;subst htt;split at h
    ·rename_i e hd;split at h
     ·rename_i tie he;split at h
      ·rename_i m g vc' hs;have e1:args=#[x,y]:=by apply Array.toList_inj.1;simpa using hargs
       have e2:argTypes=#[t,t]:=by apply Array.toList_inj.1;simpa using htys
       subst e1;subst e2;have:=w5y (ty:=ty) hte hW hF hO hb hx hy hti hd he hs h hvc;obtain⟨nx,v,w',bs',h1,h2⟩:=this;exact⟨nx,v,w',bs',by simpa[execOp,resolve,invoke,builtin] using h1,h2⟩
      ·cases h
     ·cases h
    ·cases h
   ·cases h
  ·cases h
 ·cases h
end
mutual
def AV.rn(ρ:Nat->Option Nat):AV->AV
 |.ptr r o=>match ρ r with
  |some k=>.ptr k o
  |none=>.any
 |.eptr r s i o=>match ρ r with
  |some k=>.eptr k s i o
  |none=>.any
 |.own r n=>match ρ r with
  |some k=>.own k n
  |none=>.any
 |.sub r s o n=>match ρ r with
  |some k=>.sub k s o n
  |none=>.any
 |.map r=>match ρ r with
  |some k=>.map k
  |none=>.any
 |.func f l=>.func f (AV.rnL ρ l)
 |.iface t v=>.iface t (AV.rn ρ v)
 |.agg l=>.agg (AV.rnL ρ l)
 |.tuple l=>.tuple (AV.rnL ρ l)
 |.any=>.any
 |.bool b=>.bool b
 |.int k n=>.int k n
 |.str s=>.str s
 |.nilptr=>.nilptr
 |.vptr g=>.vptr g
 |.nil=>.nil
 |.empty=>.empty
 |.view sz n f=>.view sz n f
 |.nilmap=>.nilmap
 |.vmap n f=>.vmap n f
 |.nilfunc=>.nilfunc
 |.nilIface=>.nilIface
def AV.rnL(ρ:Nat->Option Nat):List AV->List AV
 |[]=>[]
 |u::l=>AV.rn ρ u::AV.rnL ρ l
end
theorem wew(ρ:Nat->Option Nat):∀(l:List AV) (j:Nat),(AV.rnL ρ l)[j]?=(l[j]?).map (AV.rn ρ)
 |[],j=>by simp[AV.rnL]
 |u::l,0=>by simp[AV.rnL]
 |u::l,j+1=>by simp[AV.rnL,wew ρ l j]
theorem wev(ρ:Nat->Option Nat):∀l:List AV,(AV.rnL ρ l).length=l.length
 |[]=>rfl
 |u::l=>by simp[AV.rnL,wev ρ l]
theorem V.rn{w:World}{M:Nat->Prop}{bs:Nat->Option Hd}{v:Value}{u:AV}(h:V w M bs v u):∀(ρ:Nat->Option Nat) (bs':Nat->Option Hd),(∀r k x,ρ r=some k->bs r=some x->bs' k=some x)->V w M bs' v (u.rn ρ):=by
 induction h with
 |any=>exact λρ bs' s=>.any
 |bool=>exact λρ bs' s=>.bool
 |int=>exact λρ bs' s=>.int
 |str h=>exact λρ bs' s=>.str h
 |nilptr=>exact λρ bs' s=>.nilptr
 |ptr h=>
  intro ρ bs' s;simp only[AV.rn];split
  ·rename_i k hk;exact .ptr (s _ _ _ hk h)
  ·exact .any
 |eptr h=>
  intro ρ bs' s;simp only[AV.rn];split
  ·rename_i k hk;exact .eptr (s _ _ _ hk h)
  ·exact .any
 |vptr cv hM hb hc h1 hv ih=>exact λρ bs' s=>.vptr cv hM hb hc h1 hv
 |nil=>exact λρ bs' s=>.nil
 |empty=>exact λρ bs' s=>.empty
 |view ad cv hn hcm hA hl hc h1 hv ih=>exact λρ bs' s=>.view ad cv hn hcm hA hl hc h1 hv
 |own h hn hcm=>
  intro ρ bs' s;simp only[AV.rn];split
  ·rename_i k hk;exact .own (s _ _ _ hk h) hn hcm
  ·exact .any
 |ownnil h hn=>
  intro ρ bs' s;simp only[AV.rn];split
  ·rename_i k hk;exact .ownnil (s _ _ _ hk h) hn
  ·exact .any
 |sub h hn hcm hA=>
  intro ρ bs' s;simp only[AV.rn];split
  ·rename_i k hk;exact .sub (s _ _ _ hk h) hn hcm hA
  ·exact .any
 |subnil h hn ho=>
  intro ρ bs' s;simp only[AV.rn];split
  ·rename_i k hk;exact .subnil (s _ _ _ hk h) hn ho
  ·exact .any
 |nilmap=>exact λρ bs' s=>.nilmap
 |vmap hM hb hm hn hk hv ihk ihv=>exact λρ bs' s=>.vmap hM hb hm hn hk hv
 |map h=>
  intro ρ bs' s;simp only[AV.rn];split
  ·rename_i k hk;exact .map (s _ _ _ hk h)
  ·exact .any
 |func hl hv ih=>
  intro ρ bs' s;refine .func (by rw[wev];exact hl) λj v u h1 h2=>?_;rw[wew] at h2;obtain⟨u',hu,rfl⟩:=Option.map_eq_some_iff.1 h2;exact ih j v u' h1 hu ρ bs' s
 |nilfunc=>exact λρ bs' s=>.nilfunc
 |nilIface=>exact λρ bs' s=>.nilIface
 |iface h ih=>exact λρ bs' s=>.iface (ih ρ bs' s)
 |agg hl h1 hv ih=>
  intro ρ bs' s;refine .agg (by rw[wev];exact hl) h1 λj v u h1 h2=>?_;rw[wew] at h2;obtain⟨u',hu,rfl⟩:=Option.map_eq_some_iff.1 h2;exact ih j v u' h1 hu ρ bs' s
 |tuple hl hv ih=>
  intro ρ bs' s;refine .tuple (by rw[wev];exact hl) λj v u h1 h2=>?_;rw[wew] at h2;obtain⟨u',hu,rfl⟩:=Option.map_eq_some_iff.1 h2;exact ih j v u' h1 hu ρ bs' s
def OLe(ρ:Nat->Option Nat):AObj->AObj->Prop
 |.cells cs t,.cells cs' t'=>AV.rnL ρ cs=cs'/\t=t'
 |.row t sz n f fr,.row t' sz' n' f' fr'=>t=t'/\sz=sz'/\n=n'/\fr=fr'/\∀i,i<n->AV.rnL ρ (f i)=f' i
 |.amap es,.amap es'=>es.map (λp=>(p.1.rn ρ,p.2.rn ρ))=es'
 |.siter s p,.siter s' p'=>s=s'/\p=p'
 |.miter m n l,.miter m' n' l'=>ρ m=some m'/\n=n'/\l=l'
 |.rmap es j v,.rmap es' j' v'=>es=es'/\j=j'/\v.map (λu=>u.rn ρ)=v'
 |.dead,.dead=>True
 |_,_=>False
theorem OLe.mut{ρ:Nat->Option Nat}{o o':AObj}(h:OLe ρ o o'):o.mut=o'.mut:=by
 cases o<;>cases o'<;>simp_all [OLe,AObj.mut]
theorem OLe.ok{w:World}{M:Nat->Prop}{bs bs':Nat->Option Hd}{ρ:Nat->Option Nat}{o o':AObj}{r k:Nat}(h:OLe ρ o o')(hs:∀r k x,ρ r=some k->bs r=some x->bs' k=some x)(hr:ρ r=some k)(hok:wdc w M bs r o):wdc w M bs' k o':=by
 cases o with
 |cells cs t=>
  cases o'<;>simp only[OLe] at h;obtain⟨rfl,rfl⟩:=h;obtain⟨b,c,vs,h1,h2,h3,h4,h5⟩:=hok;refine⟨b,c,vs,hs _ _ _ hr h1,h2,by rw[wev];exact h3,h4,λj v u hv hu=>?_⟩;rw[wew] at hu;obtain⟨u',hu',rfl⟩:=Option.map_eq_some_iff.1 hu;exact(h5 j v u' hv hu').rn ρ bs' hs
 |row t sz n f fr=>
  cases o'<;>simp only[OLe] at h;obtain⟨rfl,rfl,rfl,rfl,hf⟩:=h
  rcases hok with⟨h1,h2⟩ | ⟨b,c,vs,h1,h2,h3,h4,h5,h6,h7,h8⟩
  ·exact .inl ⟨hs _ _ _ hr h1,h2⟩
  ·refine .inr ⟨b,c,vs,hs _ _ _ hr h1,h2,h3,h4,h5,λi hi=>by rw[← hf i hi,wev];exact h6 i hi,h7,λi hi j v u hj hv hu=>?_⟩;rw[← hf i hi,wew] at hu;obtain⟨u',hu',rfl⟩:=Option.map_eq_some_iff.1 hu;exact(h8 i hi j v u' hj hv hu').rn ρ bs' hs
 |amap es=>
  cases o'<;>simp only[OLe] at h;subst h;obtain⟨b,c,ents,clock,h1,h2,h3,h4⟩:=hok;refine⟨b,c,ents,clock,hs _ _ _ hr h1,h2,⟨by simpa using h3.1,λj e p he hp=>?_⟩,h4⟩;simp only[List.getElem?_map] at hp;obtain⟨p',hp',rfl⟩:=Option.map_eq_some_iff.1 hp;obtain⟨a1,a2⟩:=h3.2 j e p' he hp';exact⟨a1.rn ρ bs' hs,a2.rn ρ bs' hs⟩
 |siter s p=>
  cases o'<;>simp only[OLe] at h;obtain⟨rfl,rfl⟩:=h;obtain⟨b,c,bytes,h1,h2,h3⟩:=hok;exact⟨b,c,bytes,hs _ _ _ hr h1,h2,h3⟩
 |miter m n l=>
  cases o'<;>simp only[OLe] at h;obtain⟨hm,rfl,rfl⟩:=h;obtain⟨b,c,bm,cm,seen,h1,h2,h3,h4⟩:=hok;exact⟨b,c,bm,cm,seen,hs _ _ _ hr h1,hs _ _ _ hm h2,h3,h4⟩
 |rmap es j v=>
  cases o'<;>simp only[OLe] at h;obtain⟨rfl,rfl,rfl⟩:=h;obtain⟨b,c,ents,clock,h1,h2,h3,h4⟩:=hok;refine⟨b,c,ents,clock,hs _ _ _ hr h1,h2,⟨h3.1,λi e p he hp=>?_⟩,h4⟩;obtain⟨a1,a2,a3⟩:=h3.2 i e p he hp;refine⟨a1,λu hu hj=>?_,λh=>a3 (h.imp (λq=>by simpa using q) id)⟩;obtain⟨u',hu',rfl⟩:=Option.map_eq_some_iff.1 hu;exact(a2 u' hu' hj).rn ρ bs' hs
 |dead=>
  cases o'<;>simp only[OLe] at h;trivial
def RepS(C:Ctx)(E:Ent)(N:Nat)(s:St)(bs:Nat->Option Hd)(a:Act)(w:World):Prop:=
 Rep C E N (lk s.T) (lk s.O) bs a w/\(∀r,s.nx<=r->lk s.O r=none/\bs r=none)/\E.m<=s.nx
structure Weak (m:Nat) (ρ:Nat->Option Nat) (s s':St):Prop where
 own:∀r,r<m->ρ r=some r
 inj:∀r r' k,ρ r=some k->ρ r'=some k->r=r'
 T:∀d u',lk s'.T d=some u'->∃u,lk s.T d=some u/\u.rn ρ=u'
 O:∀k o',lk s'.O k=some o'->∃r o,ρ r=some k/\lk s.O r=some o/\OLe ρ o o'
 lt:∀r k,ρ r=some k->k<s'.nx
 nx:m<=s'.nx
open Classical in
theorem RepS.weak{C:Ctx}{E:Ent}{N:Nat}{s s':St}{bs:Nat->Option Hd}{a:Act}{w:World}{ρ:Nat->Option Nat}(h:RepS C E N s bs a w)(hw:Weak E.m ρ s s'):∃bs',RepS C E N s' bs' a w/\∀v u,V w (MB E (lk s.O) bs) bs v u->V w (MB E (lk s'.O) bs') bs' v (u.rn ρ):=by
 obtain⟨⟨hF,hW⟩,hnx,hm⟩:=h
 -- each new name lies where the old one lay
 let bs':Nat->Option Hd:=λk=>if hk:∃r,ρ r=some k then bs (Classical.choose hk) else none
 have at_:∀r k,ρ r=some k->bs' k=bs r:=by
  intro r k hr;have hk:∃r,ρ r=some k:=⟨r,hr⟩;show (if hk:∃r,ρ r=some k then bs (Classical.choose hk) else none)=bs r
  rw[dif_pos hk,hw.inj _ _ _ (Classical.choose_spec hk) hr]
 have none_:∀k,(¬ ∃r,ρ r=some k)->bs' k=none:=by
  intro k hk;show (if hk:∃r,ρ r=some k then bs (Classical.choose hk) else none)=none
  rw[dif_neg hk]
 have hs:∀r k x,ρ r=some k->bs r=some x->bs' k=some x:=λr k x hr hx=>by rw[at_ r k hr];exact hx
 have back:∀k h,bs' k=some h->∃r,ρ r=some k/\bs r=some h:=by
  intro k h hk
  by_cases hex:∃r,ρ r=some k
  ·obtain⟨r,hr⟩:=hex;exact⟨r,hr,by rw[← at_ r k hr];exact hk⟩
  ·rw[none_ k hex] at hk;cases hk
 have hmb:∀b,mutB (lk s'.O) bs' b->mutB (lk s.O) bs b:=by
  rintro b ⟨k,o',c,ho,hm',hb⟩;obtain⟨r,o,hr,hor,hle⟩:=hw.O k o' ho;exact⟨r,o,c,hor,by rw[hle.mut];exact hm',by rw[← at_ r k hr];exact hb⟩
 have hMB:∀b,MB E (lk s'.O) bs' b->MB E (lk s.O) bs b:=λb hb=>hb.imp id (hmb b);have vm:∀ {bs0:Nat->Option Hd} {v:Value} {u:AV},V w (MB E (lk s.O) bs) bs0 v u->V w (MB E (lk s'.O) bs') bs0 v u:=λh=>
  h.step_ (λb _ hb hb'=>hb (hMB b hb')) (λ_ _ _=>rfl) (lR7 _) _ λ_ _ hh=>hh
 refine⟨bs',⟨⟨⟨hF.1,hF.2.1,λd u' hu'=>?_⟩,?_⟩,λr hr=>⟨?_,?_⟩,hw.nx⟩,λv u h=>vm (h.rn ρ bs' hs)⟩
 ·obtain⟨u,hu,rfl⟩:=hw.T d u' hu';obtain⟨v,hv,hV⟩:=hF.2.2 d u hu;exact⟨v,hv,vm (hV.rn ρ bs' hs)⟩
 ·exact {
   obj:=λk o' ho=>by
    obtain⟨r,o,hr,hor,hle⟩:=hw.O k o' ho;have hok:=hle.ok hs hr (hW.obj r o hor);exact hok.step ⟨λ_ _ h=>h,λb _ hb hb'=>hb (hMB b hb'),λ_ _ _=>rfl,lR7 _⟩ λ_ _ _=>rfl
   sep:=λk k' o1 o2 b c c' h1 h2 m1 m2 b1 b2=>by
    obtain⟨r,o,hr,hor,hle⟩:=hw.O k o1 h1;obtain⟨r',o',hr',hor',hle'⟩:=hw.O k' o2 h2;have:=hW.sep r r' o o' b c c' hor hor' (by rw[hle.mut];exact m1) (by rw[hle'.mut];exact m2) (by rw[← at_ r k hr];exact b1) (by rw[← at_ r' k' hr'];exact b2);subst this;rw[hr] at hr';injection hr'
   out:=λb hb=>hW.out b (hmb b hb)
   frz:=λk t sz n f b c ho hb hM=>by
    obtain⟨r,o,hr,hor,hle⟩:=hw.O k _ ho
    cases o<;>simp only[OLe] at hle;obtain⟨rfl,rfl,rfl,rfl,_⟩:=hle;exact hW.frz r _ _ _ _ b c hor (by rw[← at_ r k hr];exact hb) (hMB b hM)
   high:=λb hb=>hW.high b (hMB b hb)
   lt:=λk b c hb=>by
    obtain⟨r,_,hbr⟩:=back k _ hb;exact hW.lt r b c hbr
   outlt:=hW.outlt
   keep:=hW.keep
   old:=λb hb=>hW.old b (hmb b hb)
   size:=hW.size
   pre:=λr h hr hb=>by rw[at_ r r (hw.own r hr)];exact hW.pre r h hr hb
   os:=hW.os
   tape:=hW.tape
   output:=hW.output
   laid:=hW.laid
   gle:=hW.gle }
 ·cases hl:lk s'.O r with
  |none=>rfl
  |some o'=>
   obtain⟨r0,o,hr0,_⟩:=hw.O r o' hl;have:=hw.lt _ _ hr0;omega
 ·refine none_ r λ⟨r0,hr0⟩=>?_;have:=hw.lt _ _ hr0;omega
def QC(C:Ctx)(E:Ent)(N:Nat)(Q:Exit->St->Prop):Exit->Act->World->Prop:=λe a w=>∃s bs,Q e s/\RepS C E N s bs a w
def AWP(C:Ctx)(m N:Nat)(c:Code)(Q:Exit->St->Prop)(s:St):Prop:=
 ∀E:Ent,E.m=m->∀bs a w,RepS C E N s bs a w->c.wp C.P (QC C E N Q) a w
def AOps(C:Ctx)(m N:Nat)(ops:Array Oper)(l:List Oper)(Q:Exit->St->Prop)(s:St):Prop:=
 ∀E:Ent,E.m=m->∀bs a w,RepS C E N s bs a w->wpList C.P ops (QC C E N Q) l a w
def lkL(objs:List AObj)(r:Nat):Option AObj:=objs[r]?
def wjm(P : Program)(f : FuncId) : Prop := ∃fn, P.funcs[f]? = some fn /\ fn.body.isNone = false /\ (fn.name == "runtime.NumGoroutine") = false
def waw(C:Ctx)(f:FuncId)(args:List AV)(objs:List AObj)(R:AV->List (Nat×AObj)->Prop):Prop:=
 wjm C.P f/\∀(E:Ent) (bs:Nat->Option Hd) (w:World) (cargs:List Value),E.w0=w->E.m=objs.length->E.bs0=bs->WRep C E (lkL objs) bs w->(∀r,objs.length<=r->bs r=none)->
  cargs.length=args.length->(∀(j:Nat) v u,cargs[j]?=some v->args[j]?=some u->V w (MB E (lkL objs) bs) bs v u)->
  Calls C.P f cargs.toArray w λe w'=>∃v u O' bs',e= .returned v/\R u O'/\WRep C E (lk O') bs' w'/\V w' (MB E (lk O') bs') bs' v u/\∀r,objs.length+16<=r->lk O' r=none/\bs' r=none
theorem waw.mono{C:Ctx}{f:FuncId}{args:List AV}{objs:List AObj}{R R':AV->List (Nat×AObj)->Prop}(h:waw C f args objs R)(k:∀u O,R u O->R' u O):waw C f args objs R':=by
 refine⟨h.1,λE bs w cargs h1 h2 h3 h4 h5 h6 h7=>?_⟩;refine(h.2 E bs w cargs h1 h2 h3 h4 h5 h6 h7).mono ?_;rintro e w' ⟨v,u,O',bs',r1,r2,r3⟩;exact⟨v,u,O',bs',r1,k _ _ r2,r3⟩
section
variable {C:Ctx} {m N:Nat} {ops:Array Oper} {l rest:List Oper} {Q:Exit->St->Prop} {s:St} {o:Oper}
theorem AOps.nil(h:Q .normal s):AOps C m N ops [] Q s:=λ_ _ bs _ _ hr=>⟨s,bs,h,hr⟩
def rm{α:Type}(d:Nat):List (Nat×α)->List (Nat×α)
 |[]=>[]
 |(j,x)::l=>match Nat.beq j d with
  |true=>rm d l
  |false=>(j,x)::rm d l
theorem wfw{α:Type}(d:Nat)(u:α)(l:List (Nat×α)):lk ((d,u)::rm d l)=lk ((d,u)::l):=by
 funext i;rw[wa0,wa0]
 by_cases h:d=i
 ·simp[h]
 ·simp only[h,if_false]
  induction l with
  |nil=>rfl
  |cons p l ih=>
   obtain⟨j,x⟩:=p;simp only[rm];split
   ·rename_i hj;have:=Nat.eq_of_beq_eq_true hj;subst this;rw[ih,wa0];simp[h]
   ·rw[wa0,wa0,ih]
def putT(d:Option Tmp)(u:AV)(T:List (Nat×AV)):List (Nat×AV):=match d with
 |some d=>(d,u)::rm d T
 |none=>T
def wa4(N:Nat):Option Tmp->Bool
 |some d=>Nat.blt d N
 |none=>true
theorem FRep.putT{w:World}{M:Nat->Prop}{bs:Nat->Option Hd}{T:List (Nat×AV)}{a:Act}(h:FRep w M bs N (lk T) a){d:Option Tmp}(hd:wa4 N d=true){v:Value}{u:AV}(hv:V w M bs v u):
  FRep w M bs N (lk (putT d u T)) (a.put d v):=by
 cases d with
 |none=>exact h
 |some d=>
  have:d<N:=by simpa[wa4,Nat.blt_eq] using hd
  show FRep w M bs N (lk ((d,u)::rm d T)) _;rw[wfw];exact FRep.put h this hv
theorem AOps.pure{te:TE}(hte:TE.ok C.P te)(hn:∀t ti,lk te t=some ti->wa2 ti.desc=false->ti.sz=1){u:AV}{vc:Prop}(hg:o.guard=none)(h:wb1 te (lk s.T) (lk s.O) o.op=some (u,vc))(hd:wa4 N o.dst=true)(hvc:vc)
  (k:AOps C m N ops rest Q { s with T:=putT o.dst u s.T }):AOps C m N ops (o::rest) Q s:=by
 intro E hE bs a w hr;refine wpList_plain hg λK hK=>?_;obtain⟨v,h1,h2⟩:=wwb hte hn hr.1.2 hr.1.1 h hvc;unfold Oper.wp;rw[h1];exact hK _ _ (k E hE bs _ _ ⟨⟨hr.1.1.putT hd h2,hr.1.2⟩,hr.2⟩)
theorem AOps.eff{te:TE}(hte:TE.ok C.P te){u:AV}{l:List (Nat×AObj)}{vc:Prop}(hg:o.guard=none)(h:wb2 te (lk s.T) (lk s.O) s.nx o.op=some (u,l,vc))(hd:wa4 N o.dst=true)(hl:∀p∈l,p.1<=s.nx)(hvc:vc)
  (k:AOps C m N ops rest Q { s with T:=putT o.dst u s.T,O:=l++s.O,nx:=s.nx+1 }):AOps C m N ops (o::rest) Q s:=by
 intro E hE bs a w hr;refine wpList_plain hg λK hK=>?_;obtain⟨h0,h0'⟩:=hr.2.1 s.nx (lR7 _);obtain⟨nx,v,w',bs',h1,h2,h3,h4,h5,h6⟩:=wwc hte hr.1.2 hr.1.1 h0 h0' h hvc;have hlu:lk (l++s.O)=upL (lk s.O) l:=lk_upL l s.O;have hrep:∀v',V w' (MB E (upL (lk s.O) l) bs') bs' v' u->RepS C E N { s with T:=putT o.dst u s.T,O:=l++s.O,nx:=s.nx+1 } bs' (a.put o.dst v') w':=λv' hv'=>by
  refine⟨⟨?_,?_⟩,λr hrr=>?_,Nat.le_succ_of_le hr.2.2⟩
  ·show FRep w' (MB E (lk (l++s.O)) bs') bs' N (lk (putT o.dst u s.T)) (a.put o.dst v');rw[hlu];exact(hr.1.1.step h4).putT hd hv'
  ·show WRep C E (lk (l++s.O)) bs' w';rw[hlu];exact h5
  ·show lk (l++s.O) r=none/\bs' r=none;have hrr':s.nx+1<=r:=hrr;obtain⟨q1,q2⟩:=hr.2.1 r (by omega);refine⟨?_,by rw[h3 r (by omega)];exact q2⟩;rw[hlu];have:∀l:List (Nat×AObj),(∀p∈l,p.1<=s.nx)->upL (lk s.O) l r=none:=by
    intro l
    induction l with
    |nil=>exact λ_=>q1
    |cons p l ih=>
     intro hp;obtain⟨i,x⟩:=p;have:i<=s.nx:=hp (i,x) (by simp);simp only[upL];rw[waq _ _ _ (by omega)];exact ih λp hp'=>hp p (List.mem_cons_of_mem _ hp')
   exact this l hl
 unfold Oper.wp;rw[h1]
 rcases h2 with rfl | ⟨rfl,rfl⟩
 ·exact hK _ _ (k E hE bs' _ _ (hrep v h6))
 ·exact hK _ _ (k E hE bs' _ _ (hrep _ h6))
def gslot(ops:List Oper)(o:Oper):Option (Nat×Bool):=match o.guard with
 |some (j,w)=>match ops[j]? with
  |some x=>match x.dst with
   |some d=>some (d,w)
   |none=>none
  |none=>none
 |none=>none
theorem w46{E:Ent}{bs:Nat->Option Hd}{a:Act}{w:World}{opl:List Oper}(hr:RepS C E N s bs a w){d:Nat}{want b:Bool}(hg:gslot opl o=some (d,want))(hT:lk s.T d=some (.bool b)):
  Region.wanted o (yielded opl.toArray a.tmps)=(b==want):=by
 unfold gslot at hg;split at hg
 ·rename_i j w hj;split at hg
  ·rename_i x hx;split at hg
   ·rename_i d' hd;simp only[sI7,pI7] at hg;obtain⟨rfl,rfl⟩:=hg;obtain⟨v,hv,hV⟩:=hr.1.1.2.2 d' _ hT
    cases hV;simp only[Region.wanted,hj,yielded,List.getElem?_toArray,hx,Option.bind_some,hd];simp only[hv]
    cases b<;>cases w<;>rfl
   ·cases hg
  ·cases hg
 ·cases hg
def unguard(o:Oper):Oper:={ o with guard:=none }
theorem AOps.yes{opl:List Oper}{d:Nat}{want:Bool}(hg:gslot opl o=some (d,want))(hT:lk s.T d=some (.bool want))(k:AOps C m N opl.toArray (unguard o::rest) Q s):AOps C m N opl.toArray (o::rest) Q s:=by
 intro E hE bs a w hr;have:=k E hE bs a w hr;have hw:=w46 hr hg hT;have hw':Region.wanted (unguard o) (yielded opl.toArray a.tmps)=true:=by simp[Region.wanted,unguard]
 unfold wpList at this ⊢;rw[hw,beq_self_eq_true];rw[hw'] at this;exact this
theorem AOps.split{b:Bool}(d:Nat)(_hd:Nat.blt d N=true)(hT:lk s.T d=some (.bool b))(h1:b=true->AOps C m N ops l Q { s with T:=(d,.bool true)::rm d s.T,dec:=d::s.dec })(h2:b=false->AOps C m N ops l Q { s with T:=(d,.bool false)::rm d s.T,dec:=d::s.dec }):
  AOps C m N ops l Q s:=by
 have key:∀b',b=b'->AOps C m N ops l Q { s with T:=(d,.bool b')::rm d s.T,dec:=d::s.dec }->AOps C m N ops l Q s:=by
  rintro b' rfl h E hE bs a w hr;refine h E hE bs a w ⟨⟨⟨hr.1.1.1,hr.1.1.2.1,λi u hu=>?_⟩,hr.1.2⟩,hr.2⟩;have hu':lk ((d,.bool b)::rm d s.T) i=some u:=hu;rw[wfw,wa0] at hu';split at hu'
  ·rename_i e;simp only[sI7] at hu';subst hu';have e':d=i:=e;subst e';exact hr.1.1.2.2 d _ hT
  ·exact hr.1.1.2.2 i u hu'
 cases hb:b with
 |true=>exact key true hb (h1 hb)
 |false=>exact key false hb (h2 hb)
end
def hasN:List Nat->Nat->Bool
 |[],_=>false
 |d::l,i=>match Nat.beq d i with
  |true=>true
  |false=>hasN l i
end Go.Eng
