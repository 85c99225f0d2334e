/- The engine, part 19: what an operation gives depends on what it looks at alone. -/
import Derived.Test.YtgcboligphndhaaGreatDoorWqa
namespace Go.Eng
section
variable {C:Ctx} {E:Ent} {O:Nat->Option AObj} {bs:Nat->Option Hd} {w:World}
theorem WRep.move(hW:WRep C E O bs w){x:Nat}{ox:AObj}(hx:O x=some ox)(hm:ox.mut=true){bx cx:Nat}(hbx:bs x=some (.blk bx cx)){r:Nat}(hO:O r=none)(hb:bs r=none){w':World}
  (hheap:∀b,b≠bx->w'.heap[b]?=w.heap[b]?) (hsize:w'.heap.size=w.heap.size) (h2:w'.os=w.os) (h3:TL C.cnt w' w) (h4:w'.output=w.output) (o:AObj) (hmo:o.mut=true) (c:Nat)
  (hok:Step w (MB E O bs) bs w' (MB E (up (up O x .dead) r o) (up bs r (.blk bx c))) (up bs r (.blk bx c))->weq w' (MB E (up (up O x .dead) r o) (up bs r (.blk bx c))) (up bs r (.blk bx c)) r o):
  Step w (MB E O bs) bs w' (MB E (up (up O x .dead) r o) (up bs r (.blk bx c))) (up bs r (.blk bx c))/\WRep C E (up (up O x .dead) r o) (up bs r (.blk bx c)) w':=by
 have hxr:x≠r:=by rintro rfl;rw[hx] at hO;cases hO
 have hxm:mutB O bs bx:=⟨x,ox,cx,hx,hm,hbx⟩;have back:∀k o',up (up O x .dead) r o k=some o'->o'.mut=true->(k=r/\o'=o)∨(k≠r/\k≠x/\O k=some o'):=by
  intro k o' hk hmk
  by_cases hr:r=k
  .subst hr;rw[waz] at hk;injection hk with hk;exact .inl ⟨rfl,hk.symm⟩
  .rw[wav _ _ _ hr] at hk
   by_cases hxk:x=k
   .subst hxk;rw[waz] at hk;injection hk with hk;subst hk;simp[AObj.mut] at hmk
   .rw[wav _ _ _ hxk] at hk;exact .inr ⟨Ne.symm hr,Ne.symm hxk,hk⟩
 have hmb:∀b,mutB (up (up O x .dead) r o) (up bs r (.blk bx c)) b->mutB O bs b:=by
  rintro b ⟨i,o',c',ho,hm',hbi⟩
  rcases back i o' ho hm' with⟨rfl,rfl⟩ | ⟨h1,_,h3⟩
  .rw[waz] at hbi;injection hbi with hbi;injection hbi with e1 e2;subst e1;exact hxm
  .rw[wav _ _ _ (Ne.symm h1)] at hbi;exact⟨i,o',c',h3,hm',hbi⟩
 refine hW.next (λb=>b=bx) (λi h hi=>?_) (λi b c' hi=>?_) (λb hb'=>by subst hb';exact hxm) (λb _ hne=>hheap b hne) (by omega) (λb hb'=>.inl (hmb b hb')) (λhS i o' ho=>?_)
  (λi j o1 o2 b c1 c2 hi hj m1 m2 bi bj=>?_) (λi t sz n f b c' ho hb'=>?_) h2 h3 h4
 .rw[wav]
  .exact hi
  .rintro rfl;rw[hb] at hi;cases hi
 .by_cases hr:r=i
  .subst hr;rw[waz] at hi;injection hi with hi;injection hi with e1 e2;subst e1;exact .inr (.inr hxm)
  .rw[wav _ _ _ hr] at hi;exact .inl hi
 .by_cases hr:r=i
  .subst hr;rw[waz] at ho;injection ho with ho;subst ho;exact .inr (hok hS)
  .rw[wav _ _ _ hr] at ho
   by_cases hxi:x=i
   .subst hxi;rw[waz] at ho;injection ho with ho;subst ho;exact .inr trivial
   .rw[wav _ _ _ hxi] at ho
    cases hmi:o'.mut with
    |true=>
     refine .inl ⟨ho,λb c' hbi e=>?_⟩;subst e;exact hxi (hW.sep x i ox o' b cx c' hx ho hm hmi hbx hbi)
    |false=>
     cases o' with
     |dead=>exact .inr trivial
     |row t sz n f fr=>
      have:fr=true:=by simpa[AObj.mut] using hmi
      subst this;refine .inl ⟨ho,λb c' hbi e=>?_⟩;subst e;exact hW.frz i t sz n f b c' ho hbi (.inr hxm)
     |_=>simp[AObj.mut] at hmi
 .rcases back i o1 hi m1 with⟨rfl,rfl⟩ | ⟨a1,a2,a3⟩
  .rcases back j o2 hj m2 with⟨rfl,rfl⟩ | ⟨b1,b2,b3⟩
   .rfl
   .rw[waz] at bi;injection bi with bi;injection bi with e1 e2;subst e1;rw[wav _ _ _ (Ne.symm b1)] at bj;exact absurd (hW.sep j x o2 ox bx c2 cx b3 hx m2 hm bj hbx) b2
  .rw[wav _ _ _ (Ne.symm a1)] at bi
   rcases back j o2 hj m2 with⟨rfl,rfl⟩ | ⟨b1,b2,b3⟩
   .rw[waz] at bj;injection bj with bj;injection bj with e1 e2;subst e1;exact absurd (hW.sep i x o1 ox bx c1 cx a3 hx m1 hm bi hbx) a2
   .rw[wav _ _ _ (Ne.symm b1)] at bj;exact hW.sep i j o1 o2 b c1 c2 a3 b3 m1 m2 bi bj
 .by_cases hr:r=i
  .subst hr;rw[waz] at ho;injection ho with ho;subst ho;simp[AObj.mut] at hmo
  .rw[wav _ _ _ hr] at ho hb'
   by_cases hxi:x=i
   .subst hxi;rw[waz] at ho;injection ho with ho;cases ho
   .rw[wav _ _ _ hxi] at ho;have hf:=hW.frz i t sz n f b c' ho hb';exact⟨λh=>hf (.inr (hmb b h)),λh=>hf (.inl h)⟩
theorem WRep.newnil(hW:WRep C E O bs w){r:Nat}(hb:bs r=none)(t:TypeId)(sz:Nat)(f:Nat->List AV){n:Nat}(hn:n=0):
  Step w (MB E O bs) bs w (MB E (up O r (.row t sz n f false)) (up bs r .nil)) (up bs r .nil)/\WRep C E (up O r (.row t sz n f false)) (up bs r .nil) w:=by
 have nb:∀i b c,up bs r .nil i=some (.blk b c)->bs i=some (.blk b c)/\i≠r:=by
  intro i b c hi
  by_cases hr:r=i
  .subst hr;rw[waz] at hi;injection hi with hi;cases hi
  .rw[wav _ _ _ hr] at hi;exact⟨hi,Ne.symm hr⟩
 have hmb:∀b,mutB (up O r (.row t sz n f false)) (up bs r .nil) b->mutB O bs b:=by
  rintro b ⟨i,o',c',ho,hm',hbi⟩;obtain⟨h1,h2⟩:=nb i b c' hbi;rw[wav _ _ _ (Ne.symm h2)] at ho;exact⟨i,o',c',ho,hm',h1⟩
 refine hW.next (λ_=>False) (λi h hi=>?_) (λi b c' hi=>.inl (nb i b c' hi).1) (λb hb'=>hb'.elim) (λb _ _=>rfl) (lR7 _) (λb hb'=>.inl (hmb b hb')) (λhS i o' ho=>?_)
  (λi j o1 o2 b c1 c2 hi hj m1 m2 bi bj=>?_) (λi t' sz' n' f' b c' ho hb'=>?_) rfl ⟨rfl,λ_=>lR7 _⟩ rfl
 .rw[wav]
  .exact hi
  .rintro rfl;rw[hb] at hi;cases hi
 .by_cases hr:r=i
  .subst hr;rw[waz] at ho;injection ho with ho;subst ho;exact .inr (.inl ⟨waz _ _ _,hn⟩)
  .rw[wav _ _ _ hr] at ho;exact .inl ⟨ho,λ_ _ _ h=>h⟩
 .obtain⟨b1,r1⟩:=nb i b c1 bi;obtain⟨b2,r2⟩:=nb j b c2 bj;rw[wav _ _ _ (Ne.symm r1)] at hi;rw[wav _ _ _ (Ne.symm r2)] at hj;exact hW.sep i j o1 o2 b c1 c2 hi hj m1 m2 b1 b2
 .obtain⟨b1,r1⟩:=nb i b c' hb';rw[wav _ _ _ (Ne.symm r1)] at ho;have hf:=hW.frz i t' sz' n' f' b c' ho b1;exact⟨λh=>hf (.inr (hmb b h)),λh=>hf (.inl h)⟩
end
theorem run_app{P:Program}{te:TE}(hte:TE.ok P te){w:World}{t e:TypeId}{ti tie:TI}(ht:lk te t=some ti)(hd:ti.desc= .slice e)(he:lk te e=some tie)(hz:tie.zero.cells.size=tie.sz)
   {ty:TypeId} {As:Option Addr} {n c:Nat} (olds:List Value)
   (hs:(n=0/\c=0/\olds=[])∨∃b vs,As=some ⟨b,0,none⟩/\w.heap[b]?=some (.cells vs e (0,0))/\n<=c/\vs.size=c * tie.sz/\olds=vs.toList.take (n * tie.sz))
   {A:Option Addr} {m c':Nat} (news:List Value) (hl:news.length=m * tie.sz) (hA:0<m->∃ad,A=some ad/\∀j u,news[j]?=some u->w.cell? (ad.add j)=some u) (h1:∀u∈news,u.oneCell'=true)
   (h63:n+m<=maxLen) (hb:(n+m) * tie.bytes<=140737488355328):
   ∃v' w',(Builtin.append_ #[t,t] ty #[.slice As n c,.slice A m c']).run P w= .ok v' w'/\
     ((m=0/\v'= .slice As n c/\w'=w)∨
      (∃b vs,0<m/\As=some ⟨b,0,none⟩/\w.heap[b]?=some (.cells vs e (0,0))/\n+m<=c/\v'= .slice As (n+m) c/\vs.size=c * tie.sz/\olds=vs.toList.take (n * tie.sz)/\
         w'=w.setRow b (vs.toList.take (n * tie.sz)++news++vs.toList.drop (n * tie.sz+news.length)).toArray)∨
      (∃cap zs,n+m<=cap/\cap<=maxLen/\zs.size=(cap - (n+m)) * tie.sz/\v'= .slice (some ⟨w.heap.size,0,none⟩) (n+m) cap/\w'=w.drew.alloc (.cells (olds.toArray++news.toArray++zs) e))):=by
 obtain⟨hu,_,_⟩:=hte t ti ht;rw[hd] at hu;obtain⟨_,⟨i,hi,his,hib,hiz⟩,_⟩:=hte e tie he;have hmax:n+m<=9223372036854775807:=by simp only[maxLen] at h63;omega
 rcases Nat.eq_zero_or_pos m with h0 | h0
 · subst h0;have hnews:news=[]:=List.eq_nil_of_length_eq_zero (by simpa using hl);subst hnews;refine⟨.slice As n c,w,?_,.inl ⟨rfl,rfl,rfl⟩⟩;have hnc:n<=c:=by
     rcases hs with⟨h1,h2,_⟩ | ⟨b,vs,_,_,h,_⟩<;>omega
   have hf:(Builtin.firstCells i.size 0 (.slice A 0 c')).run P w= .ok #[] w:=by
     cases A with
     |none=>simp[Builtin.firstCells]
     |some a=>simp[Builtin.firstCells,loadCells,loadCellsFrom]
   cases As with
   |none=>simp[Builtin.append_,run_underlying hu,sizeOf,typeInfo,hi,Builtin.lenOf,hnc,hf]
   |some a=>simp[Builtin.append_,run_underlying hu,sizeOf,typeInfo,hi,Builtin.lenOf,hnc,hf,storeCells]
 · obtain⟨ad,rfl,hnews⟩:=hA h0;have cap_of:∀old,grownCap w (n+m) old e ≥ n+m/\grownCap w (n+m) old e<=maxLen:=λold=>⟨grownCap_ge w (n+m) old e,grownCap_le_maxLen w (n+m) old e h63⟩
   rcases hs with⟨rfl,rfl,rfl⟩ | ⟨b,vs,rfl,hh,hnc,hvs,rfl⟩
   · cases As with
     |none=>
       have hr:=run_append_nil (P:=P) w t ty e i tie.zero hu hi hiz ad m c' news (by rw[his];exact hl) hnews h0 (by omega) (by rw[hib];simp only[Nat.zero_add] at hb;omega);refine⟨_,_,hr,.inr (.inr ⟨grownCap w m 0 e,Builtin.zeroCells tie.zero.cells (grownCap w m 0 e - m),?_,?_,?_,by simp,by simp⟩)⟩
       · have:=(cap_of 0).1;simpa using this
       · have:=(cap_of 0).2;simpa using this
       · rw[size_zeroCells,hz];simp
     |some a=>
       have hr:=run_append_grow (P:=P) w t ty e i tie.zero hu hi hiz a 0 0 [] (by simp) (by simp) ad m c' news (by rw[his];exact hl) hnews (by omega) (by omega) (growslice_fits (by omega) (by rw[hib];exact hb));refine⟨_,_,hr,.inr (.inr ⟨grownCap w (0+m) 0 e,Builtin.zeroCells tie.zero.cells (grownCap w (0+m) 0 e - (0+m)),(cap_of 0).1,(cap_of 0).2,?_,rfl,rfl⟩)⟩;rw[size_zeroCells,hz]
   · by_cases hroom:n+m<=c
     · have hfit:n * i.size+news.length<=vs.size:=by rw[his,hl,hvs, ← Nat.add_mul];exact Nat.mul_le_mul_right _ hroom
       have hr:=run_append_room (P:=P) w t ty e i hu hi b n c vs hh ad m c' news (by rw[his];exact hl) hnews h1 hroom hfit;rw[his] at hr;exact⟨_,_,hr,.inr (.inl ⟨b,vs,h0,rfl,hh,hroom,rfl,hvs,rfl,rfl⟩)⟩
     · have hle:n * tie.sz<=vs.size:=by rw[hvs];exact Nat.mul_le_mul_right _ hnc
       have hol:(vs.toList.take (n * tie.sz)).length=n * i.size:=by rw[his];simp;omega
       have holds:∀j u,(vs.toList.take (n * tie.sz))[j]?=some u->w.cell? ((⟨b,0,none⟩:Addr).add j)=some u:=by
         intro j u hu;rw[Addr.add_lit,Nat.zero_add,cell_of_row w b j vs e (0,0) hh];rw[List.getElem?_take] at hu;split at hu
         · simpa using hu
         · cases hu
       have hr:=run_append_grow (P:=P) w t ty e i tie.zero hu hi hiz ⟨b,0,none⟩ n c _ hol holds ad m c' news (by rw[his];exact hl) hnews (by omega) (by omega) (growslice_fits (by omega) (by rw[hib];exact hb));refine⟨_,_,hr,.inr (.inr ⟨grownCap w (n+m) c e,Builtin.zeroCells tie.zero.cells (grownCap w (n+m) c e - (n+m)),(cap_of c).1,(cap_of c).2,?_,rfl,rfl⟩)⟩;rw[size_zeroCells,hz]
def upL(O:Nat->Option AObj):List (Nat×AObj)->Nat->Option AObj
 |[]=>O
 |(r,o)::l=>up (upL O l) r o
theorem lk_upL(l O:List (Nat×AObj)):lk (l++O)=upL (lk O) l:=by
 induction l with
 |nil=>rfl
 |cons p l ih=>obtain⟨r,o⟩:=p;simp only[List.cons_append,wk4,ih,upL]
def wgd:List AV->Option (List (List UInt8))
 |[]=>some []
 |.str s::l=>match wgd l with
  |some r=>some (s::r)
  |none=>none
 |_::_=>none
def wfl:List AV->Option (List Int)
 |[]=>some []
 |.int .i64 n::l=>match wfl l with
  |some r=>some (n::r)
  |none=>none
 |_::_=>none
def rowI:Nat->Nat->List Int->List AV
 |0,_,_=>[]
 |n+1,b,l=>.int .i64 (l.getD b 0)::rowI n (b+1) l
def wap(sz:Nat)(cs:List AV)(i:Nat):List AV:=match sz with
 |1=>match wgd cs with
  |some ss=>[.str (ss.getD i [])]
  |none=>match wfl cs with
   |some ns=>[.int .i64 (ns.getD i 0)]
   |none=>(cs.drop i).take 1
 |sz=>match wfl cs with
  |some ns=>rowI sz (i * sz) ns
  |none=>(cs.drop (i * sz)).take sz
theorem wsg:∀(cs:List AV) (ns:List Int),wfl cs=some ns->cs=ns.map (.int .i64)
 |[],ss,h=>by simp only[wfl,sI7] at h;subst h;rfl
 |c::l,ss,h=>by
  unfold wfl at h;split at h
  .rename_i e;cases e
  .rename_i n l' e;injection e with e1 e2;subst e1 e2;split at h
   .rename_i r hr;simp only[sI7] at h;subst h;rw[wsg _ r hr];rfl
   .cases h
  .cases h
theorem wvf:∀(n b:Nat) (l:List Int),(rowI n b l).length=n
 |0,_,_=>rfl
 |n+1,b,l=>by rw[rowI,List.length_cons,wvf n]
theorem wvg:∀(n b:Nat) (l:List Int) (j:Nat),j<n->(rowI n b l)[j]?=some (.int .i64 (l.getD (b+j) 0))
 |0,_,_,j,h=>by omega
 |n+1,b,l,0,_=>rfl
 |n+1,b,l,j+1,h=>by
  rw[rowI,List.getElem?_cons_succ,wvg n (b+1) l j (by omega),show b+1+j=b+(j+1) by omega]
theorem wun:∀(cs:List AV) (ss:List (List UInt8)),wgd cs=some ss->cs=ss.map .str
 |[],ss,h=>by simp only[wgd,sI7] at h;subst h;rfl
 |c::l,ss,h=>by
  cases c with
  |str s=>
   simp only[wgd] at h;split at h
   .rename_i r hr;simp only[sI7] at h;subst h;rw[wun l r hr];rfl
   .cases h
  |_=>simp[wgd] at h
theorem w8d(sz n:Nat)(cs:List AV)(hl:cs.length=n * sz):(∀i,i<n->(wap sz cs i).length=sz)/\∀i,i<n->∀j u,j<sz->(wap sz cs i)[j]?=some u->cs[i * sz+j]?=some u:=by
 have gen:(∀i,i<n->((cs.drop (i * sz)).take sz).length=sz)/\∀i,i<n->∀j u,j<sz->((cs.drop (i * sz)).take sz)[j]?=some u->cs[i * sz+j]?=some u:=by
  refine⟨λi hi=>?_,λi hi j u hj hu=>?_⟩
  .have:(i+1) * sz<=n * sz:=Nat.mul_le_mul_right _ (by omega);rw[Nat.add_mul,Nat.one_mul] at this;simp;omega
  .rw[List.getElem?_take,if_pos hj,List.getElem?_drop] at hu;exact hu
 by_cases h1:sz=1
 .subst h1
  cases hss:wgd cs with
  |some ss=>
   have:=wun cs ss hss;simp only[wap,hss];refine⟨λi _=>rfl,λi hi j u hj hu=>?_⟩;obtain rfl:j=0:=by omega
   simp only[List.getElem?_cons_zero,sI7] at hu;subst hu;have hlen:i<ss.length:=by rw[this] at hl;simp at hl;omega
   rw[this];simp[hlen]
  |none=>
   cases hns:wfl cs with
   |some ns=>
    have hcs:=wsg cs ns hns;simp only[wap,hss,hns];refine⟨λi _=>rfl,λi hi j u hj hu=>?_⟩;obtain rfl:j=0:=by omega
    simp only[List.getElem?_cons_zero,sI7] at hu;subst hu;have hlen:i<ns.length:=by rw[hcs] at hl;simp at hl;omega
    rw[hcs];simp[hlen]
   |none=>simpa[wap,hss,hns] using gen
 cases hns:wfl cs with
 |some ns=>
  have hcs:=wsg cs ns hns;have e:∀i,wap sz cs i=rowI sz (i * sz) ns:=by
   intro i;unfold wap;split
   .exact absurd rfl h1
   .simp only[hns]
  refine⟨λi _=>by rw[e,wvf],λi hi j u hj hu=>?_⟩;rw[e,wvg _ _ _ _ hj] at hu;rw[← hu,hcs];have hlen:ns.length=n * sz:=by rw[hcs] at hl;simpa using hl
  have:(i+1) * sz<=n * sz:=Nat.mul_le_mul_right _ (by omega);rw[Nat.add_mul,Nat.one_mul] at this;simp[List.getD,show i * sz+j<ns.length by omega]
 |none=>
  have e:∀i,wap sz cs i=(cs.drop (i * sz)).take sz:=by
   intro i;unfold wap;split
   .exact absurd rfl h1
   .rw[hns]
  simp only[e];exact gen
def apF(n:Nat)(f g:Nat->List AV):Nat->List AV:=λi=>if i<n then f i else g (i - n)
def srcA(O:Nat->Option AObj)(sz:Nat):AV->Option (Nat×(Nat->List AV)×Prop)
 |.view sz' m g=>some (m,g,sz'=sz)
 |.own y m=>match O y with
   |some (.row _ sz' n g _)=>some (m,g,m<=n/\sz'=sz)
   |_=>none
 |.sub y sz'' off m=>match O y with
   |some (.row _ sz' n g _)=>some (m,λi=>g (off+i),off+m<=n/\sz'=sz/\sz''=sz)
   |_=>none
 |.nil=>some (0,λ_=>[],True)
 |.empty=>some (0,λ_=>[],True)
 |_=>none
def SrcOK(w:World)(M:Nat->Prop)(bs:Nat->Option Hd)(v:Value)(sz m:Nat)(g:Nat->List AV):Prop:=
 ∃(A:Option Addr) (c:Nat) (news:List Value),v= .slice A m c/\news.length=m * sz/\(0<m->∃ad,A=some ad/\∀j u,news[j]?=some u->w.cell? (ad.add j)=some u)/\(∀u∈news,Value.oneCell' u=true)/\(∀i,i<m->(g i).length=sz)/\
  ∀i,i<m->∀j u x,j<sz->(g i)[j]?=some u->news[i * sz+j]?=some x->V w M bs x u
theorem wvb{w:World}{M:Nat->Prop}{bs:Nat->Option Hd}{b c n sz m off:Nat}{vs:Array Value}{t:TypeId}{g:Nat->List AV}(hh:w.heap[b]?=some (.cells vs t (0,0)))(hvs:vs.size=c * sz)(hn:n<=c)(hm:off+m<=n)
  (hl:∀i,i<n->(g i).length=sz) (h1:∀i,i<n->∀j,j<sz->∀v:Value,vs[i * sz+j]?=some v->v.oneCell'=true) (hV:∀i,i<n->∀(j:Nat) v u,j<sz->vs[i * sz+j]?=some v->(g i)[j]?=some u->V w M bs v u)
  {A:Option Addr} {c':Nat} (hA:0<m->A=some ⟨b,off * sz,none⟩):SrcOK w M bs (.slice A m c') sz m λi=>g (off+i):=by
 have hle:off * sz+m * sz<=vs.size:=by rw[hvs, ← Nat.add_mul];exact Nat.mul_le_mul_right _ (by omega)
 have get:∀j,j<m * sz->((vs.toList.drop (off * sz)).take (m * sz))[j]?=vs[off * sz+j]?:=by
  intro j hj;rw[List.getElem?_take,if_pos hj,List.getElem?_drop,Array.getElem?_toList]
 have len:((vs.toList.drop (off * sz)).take (m * sz)).length=m * sz:=by simp;omega
 refine⟨A,c',(vs.toList.drop (off * sz)).take (m * sz),rfl,len,λh0=>?_,λu hu=>?_,λi hi=>hl _ (by omega),λi hi j u x hj hu hx=>?_⟩
 .refine⟨_,hA h0,λj u hu=>?_⟩;have hj:j<m * sz:=by rw[← len];exact(List.getElem?_eq_some_iff.1 hu).1
  rw[get j hj] at hu;rw[Addr.add_lit,cell_of_row w b _ vs t (0,0) hh];exact hu
 .obtain⟨j,hj,e⟩:=List.mem_iff_getElem.1 hu;have hj':j<m * sz:=by rw[← len];exact hj
  have hsz:0<sz:=by
   rcases Nat.eq_zero_or_pos sz with h | h
   .subst h;simp at hj'
   .exact h
  have hx:vs[off * sz+j]?=some u:=by rw[← get j hj',List.getElem?_eq_getElem hj,e]
  have hd:=Nat.div_add_mod j sz;have hq:j / sz<m:=by rw[Nat.div_lt_iff_lt_mul hsz];exact hj'
  refine h1 (off+j / sz) (by omega) (j % sz) (Nat.mod_lt _ hsz) u ?_;rw[← hx,Nat.add_mul,Nat.mul_comm (j / sz) sz];congr 1;omega
 .have hlt:i * sz+j<m * sz:=by
   have:(i+1) * sz<=m * sz:=Nat.mul_le_mul_right _ (by omega);rw[Nat.add_mul,Nat.one_mul] at this;omega
  rw[get _ hlt] at hx;refine hV (off+i) (by omega) j x u hj ?_ hu;rw[← hx,Nat.add_mul,Nat.add_assoc]
theorem wup{C:Ctx}{E:Ent}{O:Nat->Option AObj}{bs:Nat->Option Hd}{w:World}(hW:WRep C E O bs w){v:Value}{u:AV}{sz m:Nat}{g:Nat->List AV}{vc:Prop}
   (hv:V w (MB E O bs) bs v u) (h:srcA O sz u=some (m,g,vc)) (hvc:vc):SrcOK w (MB E O bs) bs v sz m g:=by
 have none_:∀A c (g:Nat->List AV),SrcOK w (MB E O bs) bs (.slice A 0 c) sz 0 g:=λA c g=>
   ⟨A,c,[],rfl,by simp,λh=>absurd h (by omega),λu hu=>by simp at hu,λi hi=>absurd hi (by omega),λi hi=>absurd hi (by omega)⟩
 unfold srcA at h;split at h
 · simp only[sI7,pI7] at h;obtain⟨rfl,rfl,rfl⟩:=h;subst hvc
   cases hv with
   |view ad cv hn hcm hA hl hc h1 hV=>
     rename_i sz n f A c;refine⟨A,c,(List.range (n * sz)).map λj=>cv (j / sz) (j % sz),rfl,by simp,λh0=>?_,λu hu=>?_,hl,λi hi j u x hj hu hx=>?_⟩
     · obtain⟨rfl,hM,hb⟩:=hA h0;refine⟨ad,rfl,λj u hu=>?_⟩;have hj:j<n * sz:=by have:=(List.getElem?_eq_some_iff.1 hu).1;simpa using this
       have hsz:0<sz:=by
         rcases Nat.eq_zero_or_pos sz with h | h
         · subst h;simp at hj
         · exact h
       simp[hj] at hu;subst hu;have hq:j / sz<n:=by rw[Nat.div_lt_iff_lt_mul hsz];exact hj
       have:=hc (j / sz) hq (j % sz) (Nat.mod_lt _ hsz)
       rwa [show j / sz * sz+j % sz=j by rw[Nat.mul_comm];exact Nat.div_add_mod j sz] at this
     · simp only[List.mem_map,List.mem_range] at hu;obtain⟨j,hj,rfl⟩:=hu;have hsz:0<sz:=by
         rcases Nat.eq_zero_or_pos sz with h | h
         · subst h;simp at hj
         · exact h
       exact h1 _ (by rw[Nat.div_lt_iff_lt_mul hsz];exact hj) _ (Nat.mod_lt _ hsz)
     · have hlt:i * sz+j<n * sz:=by
         have:(i+1) * sz<=n * sz:=Nat.mul_le_mul_right _ (by omega);rw[Nat.add_mul,Nat.one_mul] at this;omega
       simp[hlt] at hx;subst hx;have e1:(i * sz+j) / sz=i:=by rw[Nat.mul_comm,Nat.mul_add_div (by omega),Nat.div_eq_of_lt hj];simp
       rw[e1,Nat.mod_eq_of_lt hj];exact(hV i hi j u hu).lift
 · split at h
   · rename_i y m _ t sz' n g fr ho;simp only[sI7,pI7] at h;obtain⟨rfl,rfl,rfl⟩:=h;obtain⟨hmn,rfl⟩:=hvc
     cases hv with
     |own hb hn hcm=>
       rename_i b c
       rcases hW.obj y _ ho with⟨h1,h2⟩ | ⟨b',c',vs,hb',hh,hnc,hcm',hvs,hl,h1,hV⟩
       · rw[h1] at hb;cases hb
       · rw[hb'] at hb;injection hb with hb;injection hb with e1 e2;subst e1;subst e2;have:=wvb (off:=0) (m:=m) (A:=some ⟨b',0,none⟩) (c':=c') hh hvs hnc (by omega) hl h1 hV (λ_=>by simp);simpa using this
     |ownnil hb hn=>subst hn;exact none_ _ _ _
   · cases h
 · split at h
   · rename_i y sz'' off m _ t sz' n g fr ho;simp only[sI7,pI7] at h;obtain⟨rfl,rfl,rfl⟩:=h;obtain⟨hmn,rfl,rfl⟩:=hvc
     cases hv with
     |sub hb hn hcm hA=>
       rename_i b c A
       rcases hW.obj y _ ho with⟨h1,h2⟩ | ⟨b',c',vs,hb',hh,hnc,hcm',hvs,hl,h1,hV⟩
       · rw[h1] at hb;cases hb
       · rw[hb'] at hb;injection hb with hb;injection hb with e1 e2;subst e1;subst e2;exact wvb hh hvs hnc hmn hl h1 hV hA
     |subnil hb hn ho=>subst hn;exact none_ _ _ _
   · cases h
 · simp only[sI7,pI7] at h;obtain⟨rfl,rfl,rfl⟩:=h
   cases hv;exact none_ _ _ _
 · simp only[sI7,pI7] at h;obtain⟨rfl,rfl,rfl⟩:=h
   cases hv;exact none_ _ _ _
 · cases h
def appA(O:Nat->Option AObj)(fresh:Nat)(e:TypeId)(tie:TI)(m:Nat)(g:Nat->List AV)(vc:Prop)(s:AV):Option (AV×List (Nat×AObj)×Prop):=
 match s with
 |.own r n=>match O r with
  |some (.row e' sz n0 f false)=>some (.own fresh (n+m),[(fresh,.row e tie.sz (n+m) (apF n f g) false),(r,.dead)],
    vc/\n<=n0/\sz=tie.sz/\e'=e/\tie.zero.cells.size=tie.sz/\n+m<=maxLen/\(n+m) * tie.bytes<=140737488355328)
  |_=>none
 |.nil=>some (.own fresh m,[(fresh,.row e tie.sz m g false)],vc/\tie.zero.cells.size=tie.sz/\m<=maxLen/\m * tie.bytes<=140737488355328)
 |.empty=>some (.own fresh m,[(fresh,.row e tie.sz m g false)],vc/\tie.zero.cells.size=tie.sz/\m<=maxLen/\m * tie.bytes<=140737488355328)
 |_=>none
def wb8(te:TE)(T:Nat->Option AV)(O:Nat->Option AObj)(fresh:Nat):Op->Option (AV×List (Nat×AObj)×Prop)
 |.alloc t=>match wip te t with
  |some z=>some (.ptr fresh 0,[(fresh,.cells z t)],True)
  |none=>none
 |.box t x=>match evO T x with
  |some u=>match wee u with
   |some cs=>some (.ptr fresh 0,[(fresh,.cells cs t)],True)
   |none=>none
  |none=>none
 |.buildSlice t len parts=>match lk te t with
  |some ti=>match ti.desc with
   |.slice e=>match lk te e,wip te e with
    |some tie,some z=>match wcu T (λi=>some (i * tie.sz,tie.sz)) (List.replicate len z).flatten parts.toList with
     |some cs=>some (.own fresh len,[(fresh,.row e tie.sz len (wap tie.sz cs) false)],len * tie.sz<=16777216/\z.length=tie.sz/\len<=maxLen)
     |none=>none
    |_,_=>none
   |_=>none
  |none=>none
 |.makeMap _ none=>some (.map fresh,[(fresh,.amap [])],True)
 |.range t x=>match evO T x,lk te t with
  |some (.str s),some ti=>match ti.desc with
   |.string=>some (.ptr fresh 0,[(fresh,.siter s 0)],True)
   |_=>none
  |some (.map m),some ti=>match ti.desc with
   |.map _ _=>match O m with
    |some (.amap es)=>some (.ptr fresh 0,[(fresh,.miter m es.length (t::es.length::List.range es.length))],True)
    |_=>none
   |_=>none
  |_,_=>none
 |.store t x y=>match evO T x,evO T y,lk te t with
  |some p,some u,some ti=>match wee u with
   |some new=>match p with
    |.ptr r off=>match O r with
     |some (.cells cs tt)=>match wc0 cs off new with
      |some cs'=>some (.any,[(r,.cells cs' tt)],new.length=ti.sz)
      |none=>none
     |_=>none
    |.eptr r sz i off=>match O r with
     |some (.row tt sz' n f false)=>match wc0 (f i) off new with
      |some cs'=>some (.any,[(r,.row tt sz' n (λk=>if k=i then cs' else f k) false)],new.length=ti.sz/\i<n/\sz=sz')
      |none=>none
     |_=>none
    |_=>none
   |none=>none
  |_,_,_=>none
 |.call { callee:=.builtin .append,args,argTypes }=>match args.toList,argTypes.toList with
  |[x,y],[t,t']=>match Nat.beq t t',evO T x,evO T y,lk te t with
   |true,some s,some u,some ti=>match ti.desc with
    |.slice e=>match lk te e with
     |some tie=>match srcA O tie.sz u with
      |some (m,g,vc)=>appA O fresh e tie m g vc s
      |none=>none
     |none=>none
    |_=>none
   |_,_,_,_=>none
  |_,_=>none
 |_=>none
theorem w06{P:Program}{w:World}{t e:TypeId}{len sz:Nat}{z:Value}{parts:Array (Nat×Value)}{vs:Array Value}(hu:(underlying t).run P w= .ok (.slice e) w)(hsz:(sizeOf e).run P w= .ok sz w)(hz:(zeroValue e).run P w= .ok z w)
  (hlim:len * sz<=16777216) (_hzs:z.cells.size=sz) (hf:Instr.fill (λi=>some (i * sz,sz)) ((Array.range (len * sz)).map (z.cells[· % z.cells.size]!)) parts.toList=some vs) (hvs:vs.size=len * sz):
  (Instr.buildSlice t len parts).run P w= .ok (.slice (some ⟨w.heap.size,0,none⟩) len len) (w.alloc (.cells vs e)):=by
 have hn:¬ (len * sz > 2 ^ 24):=by omega
 unfold Instr.buildSlice;simp only[Sem.run_bind,hu,hsz,Result.andThen_ok,if_neg hn]
 by_cases h0:len * sz=0
 .have e1:∀f:Nat->Value,(Array.range (len * sz)).map f=#[]:=λf=>Array.eq_empty_of_size_eq_zero (by simp[h0]);rw[e1] at hf;simp only[if_pos h0,e1,hf];simp[newRow]
 .simp only[if_neg h0,Sem.run_bind,hz,Sem.run_pure,Result.andThen_ok,hf];simp[newRow]
def win(C:Ctx)(E:Ent)(O:Nat->Option AObj)(bs:Nat->Option Hd)(w:World)(s:Sem Next)(fresh:Nat)(u:AV)(l:List (Nat×AObj)):Prop:=
 ∃nx v w' bs',s.run C.P w= .ok nx w'/\(nx= .value v∨nx= .skip/\v=undef)/\(∀i,i≠fresh->bs' i=bs i)/\Step w (MB E O bs) bs w' (MB E (upL O l) bs') bs'/\WRep C E (upL O l) bs' w'/\V w' (MB E (upL O l) bs') bs' v u
section
variable {C:Ctx} {te:TE} (hte:TE.ok C.P te) {E:Ent} {O:Nat->Option AObj} {bs:Nat->Option Hd} {w:World} (hW:WRep C E O bs w) {N:Nat} {T:Nat->Option AV} {a:Act} (hF:FRep w (MB E O bs) bs N T a) {fresh:Nat} (hO:O fresh=none) (hb:bs fresh=none)
include hte hW
omit hte in
theorem wvz(hb:bs fresh=none){vs:Array Value}{cs:List AV}(hc:wdd w (MB E O bs) bs vs cs)(t:TypeId):
  Step w (MB E O bs) bs (w.alloc (.cells vs t)) (MB E (up O fresh (.cells cs t)) (up bs fresh (.blk w.heap.size 0))) (up bs fresh (.blk w.heap.size 0))/\WRep C E (up O fresh (.cells cs t)) (up bs fresh (.blk w.heap.size 0)) (w.alloc (.cells vs t)):=by
 refine hW.new hb rfl rfl ⟨rfl,λ_=>lR7 _⟩ rfl (.cells vs t) (.cells cs t) 0 (λ_ _ _ _=>by simp) λhS hn=>?_;exact⟨w.heap.size,0,vs,waz _ _ _,hn,hc.1,hc.2.1,λj v u hv hu=>(hc.2.2 j v u hv hu).step hS⟩
omit hte in
theorem wja(hb:bs fresh=none){w1:World}(h1:w1.heap=w.heap)(h2:w1.os=w.os)(h3:TL C.cnt w1 w)(h4:w1.output=w.output){vs:Array Value}{e:TypeId}{sz n c:Nat}{f:Nat->List AV}(hnc:n<=c)(hcm:c<=maxLen)(hvs:vs.size=c * sz)
  (hl:∀i,i<n->(f i).length=sz) (ho:∀i,i<n->∀j,j<sz->∀v:Value,vs[i * sz+j]?=some v->v.oneCell'=true)
  (hV:∀i,i<n->∀(j:Nat) v u,j<sz->vs[i * sz+j]?=some v->(f i)[j]?=some u->V w (MB E O bs) bs v u):
  Step w (MB E O bs) bs (w1.alloc (.cells vs e)) (MB E (up O fresh (.row e sz n f false)) (up bs fresh (.blk w.heap.size c))) (up bs fresh (.blk w.heap.size c))/\
   WRep C E (up O fresh (.row e sz n f false)) (up bs fresh (.blk w.heap.size c)) (w1.alloc (.cells vs e)):=by
 refine hW.new hb h1 h2 h3 h4 (.cells vs e) (.row e sz n f false) c (λ_ _ _ _=>by simp) λhS hn=>?_;exact .inr ⟨w.heap.size,c,vs,waz _ _ _,hn,hnc,hcm,hvs,hl,ho,λi hi j v u hj hv hu=>(hV i hi j v u hj hv hu).step hS⟩
def AppSrc(C:Ctx)(E:Ent)(O:Nat->Option AObj)(bs:Nat->Option Hd)(w:World)(e:TypeId)(tie:TI)(ats:Array TypeId)(ty:TypeId)(vy:Value)(m:Nat)(g:Nat->List AV):Prop:=
 ∃news:List Value,news.length=m * tie.sz/\(∀u∈news,u.oneCell'=true)/\(∀i,i<m->(g i).length=tie.sz)/\
   (∀i,i<m->∀(j:Nat) u v,j<tie.sz->(g i)[j]?=some u->news[i * tie.sz+j]?=some v->V w (MB E O bs) bs v u)/\
   ∀ {As:Option Addr} {n c:Nat} (olds:List Value),((n=0/\c=0/\olds=[])∨∃b vs,As=some ⟨b,0,none⟩/\w.heap[b]?=some (.cells vs e (0,0))/\n<=c/\vs.size=c * tie.sz/\olds=vs.toList.take (n * tie.sz))->
     tie.zero.cells.size=tie.sz->n+m<=maxLen->(n+m) * tie.bytes<=140737488355328->
     ∃v' w',(Builtin.append_ ats ty #[.slice As n c,vy]).run C.P w= .ok v' w'/\
       ((m=0/\v'= .slice As n c/\w'=w)∨
        (∃b vs,0<m/\As=some ⟨b,0,none⟩/\w.heap[b]?=some (.cells vs e (0,0))/\n+m<=c/\v'= .slice As (n+m) c/\vs.size=c * tie.sz/\olds=vs.toList.take (n * tie.sz)/\
           w'=w.setRow b (vs.toList.take (n * tie.sz)++news++vs.toList.drop (n * tie.sz+news.length)).toArray)∨
        (∃cap zs,n+m<=cap/\cap<=maxLen/\zs.size=(cap - (n+m)) * tie.sz/\v'= .slice (some ⟨w.heap.size,0,none⟩) (n+m) cap/\w'=w.drew.alloc (.cells (olds.toArray++news.toArray++zs) e)))
omit hte in
theorem wyp{x:Operand}{s r:AV}{tie:TI}{e:TypeId}{m:Nat}{g:Nat->List AV}{vc P:Prop}{l:List (Nat×AObj)}{ats:Array TypeId}{ty:TypeId}{vy:Value}
  (hF:FRep w (MB E O bs) bs N T a) (hO:O fresh=none) (hb:bs fresh=none)
  (hx:evO T x=some s) (hsrc:vc->AppSrc C E O bs w e tie ats ty vy m g)
  (h:appA O fresh e tie m g vc s=some (r,l,P)) (hP:P):
  win C E O bs w (do pure (.value (← Builtin.append_ ats ty #[a.eval x,vy]))) fresh r l:=by
 have hsx:=wbe hF hx;have wrap:∀(s:Sem Value) v w',s.run C.P w= .ok v w'->(do pure (.value (← s)):Sem Next).run C.P w= .ok (.value v) w':=by
  intro s v w' hs;simp[hs]
 -- what is appended to something without capacity
 have fromNone:∀(O1:Nat->Option AObj) (_:WRep C E O1 bs w) (_:Step w (MB E O bs) bs w (MB E O1 bs) bs) (As:Option Addr),a.eval x= .slice As 0 0->vc->tie.zero.cells.size=tie.sz->m<=maxLen->m * tie.bytes<=140737488355328->
   ∀(f:Nat->List AV),(∀i,f i=g i)->
   ∃nx v w' bs',(do pure (.value (← Builtin.append_ ats ty #[a.eval x,vy])):Sem Next).run C.P w= .ok nx w'/\(nx= .value v∨nx= .skip/\v=undef)/\(∀i,i≠fresh->bs' i=bs i)/\
    Step w (MB E O bs) bs w' (MB E (up O1 fresh (.row e tie.sz m f false)) bs') bs'/\WRep C E (up O1 fresh (.row e tie.sz m f false)) bs' w'/\V w' (MB E (up O1 fresh (.row e tie.sz m f false)) bs') bs' v (.own fresh m):=by
  intro O1 hW1 hS1 As hev hvc hz hm hbb f hfg;obtain rfl:f=g:=funext hfg;obtain⟨news,hl,h1,hgl,hgV,hrun⟩:=hsrc hvc;obtain⟨v',w',hr,hcase⟩:=hrun (As:=As) (n:=0) (c:=0) [] (.inl ⟨rfl,rfl,rfl⟩) hz (by omega) (by simpa using hbb);rw[← hev] at hr
  rcases hcase with⟨hm0,rfl,rfl⟩ | ⟨b,vs,h0,_,_,hbad,_⟩ | ⟨cap,zs,hc1,hc2,hzs,rfl,rfl⟩
  .subst hm0;obtain⟨k1,k2⟩:=hW1.newnil hb e tie.sz f (n:=0) rfl;exact⟨_,_,_,up bs fresh .nil,wrap _ _ _ hr,.inl rfl,λi hi=>wav _ _ _ (Ne.symm hi),hS1.trans k1,k2,.ownnil (waz _ _ _) rfl⟩
  .omega
  .simp only[Nat.zero_add] at hc1 hzs hr ⊢;have hsize:((([]:List Value).toArray++news.toArray++zs).size)=cap * tie.sz:=by
    simp only[Array.size_append,List.size_toArray,List.length_nil,Nat.zero_add,hl,hzs, ← Nat.add_mul];congr 1;omega
   have hget:∀i,i<m->∀j,j<tie.sz->((([]:List Value).toArray++news.toArray++zs))[i * tie.sz+j]?=news[i * tie.sz+j]?:=by
    intro i hi j hj;have hlt:i * tie.sz+j<news.length:=by
     rw[hl];have:(i+1) * tie.sz<=m * tie.sz:=Nat.mul_le_mul_right _ (by omega);rw[Nat.add_mul,Nat.one_mul] at this;omega
    rw[Array.getElem?_append_left (by simpa using hlt)];simp
   obtain⟨k1,k2⟩:=wja hW1 hb (w1:=w.drew) rfl rfl ⟨rfl,λ_=>Nat.le_succ _⟩ rfl (e:=e) (f:=f) hc1 hc2 hsize hgl
    (λi hi j hj v hv'=>by rw[hget i hi j hj] at hv';exact h1 v (List.mem_of_getElem? hv')) (λi hi j v u hj hv' hu=>by rw[hget i hi j hj] at hv';exact(hgV i hi j u v hj hu hv').step hS1)
   exact⟨_,_,_,up bs fresh (.blk w.heap.size cap),wrap _ _ _ hr,.inl rfl,λi hi=>wav _ _ _ (Ne.symm hi),hS1.trans k1,k2,.own (waz _ _ _) hc1 hc2⟩
 unfold appA at h;split at h
 .rename_i r0 n;split at h
  .rename_i e' sz n0 f ho;simp only[sI7,pI7] at h;obtain⟨rfl,rfl,rfl⟩:=h;obtain⟨hvc,hn0,rfl,rfl,hz,h63,hbb⟩:=hP;generalize hev:a.eval x=vx at hsx
   cases hsx with
   |ownnil hbr hn=>
    rename_i As;subst hn;obtain⟨k1,k2⟩:=hW.kill r0;have:=fromNone _ k2 k1 As hev hvc hz (by omega) (by simpa using hbb) (apF 0 f g) (λi=>by simp[apF]);simpa only[win,upL,Nat.zero_add,hev] using this
   |own hbr hnc hcm=>
    rename_i b c;have hrf:r0≠fresh:=by rintro rfl;rw[ho] at hO;cases hO
    rcases hW.obj r0 _ ho with⟨q1,q2⟩ | ⟨b',c',vs,hb',hh,hnc',hcm',hvs,hfl,hf1,hfV⟩
    .rw[q1] at hbr;cases hbr
    .rw[hb'] at hbr;injection hbr with hbr;injection hbr with e1 e2;subst e1;subst e2;obtain⟨news,hl,h1,hgl,hgV,hrun⟩:=hsrc hvc;obtain⟨v',w',hr,hcase⟩:=hrun (As:=some ⟨b',0,none⟩) (n:=n) (c:=c') (vs.toList.take (n * tie.sz)) (.inr ⟨b',vs,rfl,hh,hnc,hvs,rfl⟩) hz h63 hbb;have hnle:n * tie.sz<=vs.size:=by rw[hvs];exact Nat.mul_le_mul_right _ hnc
     -- the cells, whichever array holds them
     have cellsOf:∀(ws:Array Value),(∀i,i<n * tie.sz->ws[i]?=vs[i]?)->(∀j,j<m * tie.sz->ws[n * tie.sz+j]?=news[j]?)->
       (∀i,i<n+m->(apF n f g i).length=tie.sz)/\(∀i,i<n+m->∀j,j<tie.sz->∀v:Value,ws[i * tie.sz+j]?=some v->v.oneCell'=true)/\
       ∀i,i<n+m->∀(j:Nat) v u,j<tie.sz->ws[i * tie.sz+j]?=some v->(apF n f g i)[j]?=some u->V w (MB E O bs) bs v u:=by
      intro ws w1 w2;have lo:∀i,i<n->∀j,j<tie.sz->ws[i * tie.sz+j]?=vs[i * tie.sz+j]?:=by
       intro i hi j hj;refine w1 _ ?_;have:(i+1) * tie.sz<=n * tie.sz:=Nat.mul_le_mul_right _ (by omega);rw[Nat.add_mul,Nat.one_mul] at this;omega
      have hi':∀i,n<=i->i<n+m->∀j,j<tie.sz->ws[i * tie.sz+j]?=news[(i - n) * tie.sz+j]?:=by
       intro i hi hi2 j hj;have:(i - n+1) * tie.sz<=m * tie.sz:=Nat.mul_le_mul_right _ (by omega);rw[Nat.add_mul,Nat.one_mul] at this;rw[← w2 _ (by omega), ← Nat.add_assoc, ← Nat.add_mul,show n+(i - n)=i by omega]
      refine⟨λi hi=>?_,λi hi j hj v hv'=>?_,λi hi j v u hj hv' hu=>?_⟩
      .unfold apF;split
       .exact hfl i (by omega)
       .exact hgl _ (by omega)
      .rcases Nat.lt_or_ge i n with hin | hin
       .rw[lo i hin j hj] at hv';exact hf1 i (by omega) j hj v hv'
       .rw[hi' i hin hi j hj] at hv';exact h1 v (List.mem_of_getElem? hv')
      .unfold apF at hu
       rcases Nat.lt_or_ge i n with hin | hin
       .rw[if_pos hin] at hu;rw[lo i hin j hj] at hv';exact hfV i (by omega) j v u hj hv' hu
       .rw[if_neg (by omega)] at hu;rw[hi' i hin hi j hj] at hv';exact hgV (i - n) (by omega) j u v hj hu hv'
     rcases hcase with⟨rfl,rfl,rfl⟩ | ⟨b2,vs2,h0,hAs,hh2,hroom,rfl,hvs2,_,rfl⟩ | ⟨cap,zs,hc1,hc2,hzs,rfl,rfl⟩
     .have hnews:news=[]:=List.eq_nil_of_length_eq_zero (by simpa using hl);subst hnews;obtain⟨c1,c2,c3⟩:=cellsOf vs (λ_ _=>rfl) (λj hj=>by simp at hj);obtain⟨k1,k2⟩:=hW.move ho rfl hb' hO hb (w':=w') (λ_ _=>rfl) rfl rfl ⟨rfl,λ_=>lR7 _⟩ rfl (.row e' tie.sz (n+0) (apF n f g) false) rfl c' λhS=>
       .inr ⟨b',c',vs,waz _ _ _,hh,by omega,hcm,hvs,c1,c2,λi hi j v u hj hv' hu=>(c3 i hi j v u hj hv' hu).step hS⟩
      exact⟨_,_,_,up bs fresh (.blk b' c'),wrap _ _ _ hr,.inl rfl,λi hi=>wav _ _ _ (Ne.symm hi),k1,k2,.own (waz _ _ _) (by omega) hcm⟩
     .injection hAs with hAs;injection hAs with hAs;subst hAs;rw[hh] at hh2;injection hh2 with hh2;injection hh2 with hh2;subst hh2;have hfit:n * tie.sz+m * tie.sz<=vs.size:=by rw[hvs, ← Nat.add_mul];exact Nat.mul_le_mul_right _ hroom
      have hlen:(vs.toList.take (n * tie.sz)).length=n * tie.sz:=by simp;omega
      obtain⟨c1,c2,c3⟩:=cellsOf (vs.toList.take (n * tie.sz)++news++vs.toList.drop (n * tie.sz+news.length)).toArray
       (λi hi=>by
        simp only[List.getElem?_toArray,List.append_assoc];rw[List.getElem?_append_left (by omega),List.getElem?_take,if_pos hi,Array.getElem?_toList])
       (λj hj=>by
        simp only[List.getElem?_toArray,List.append_assoc];rw[List.getElem?_append_right (by omega),hlen,Nat.add_sub_cancel_left,List.getElem?_append_left (by omega)])
      obtain⟨k1,k2⟩:=hW.move ho rfl hb' hO hb (w':=w.setRow b' _) (λk hk=>setRow_other w b' k _ hk) (size_setRow _ _ _) rfl ⟨rfl,λ_=>lR7 _⟩ rfl (.row e' tie.sz (n+m) (apF n f g) false) rfl c' λhS=>
       .inr ⟨b',c',_,waz _ _ _,setRow_heap w b' vs _ e' (0,0) hh,hroom,hcm,by simp only[List.size_toArray,lA7,hlen,hl,List.length_drop,Array.length_toList];omega,c1,c2,λi hi j v u hj hv' hu=>(c3 i hi j v u hj hv' hu).step hS⟩
      exact⟨_,_,_,up bs fresh (.blk b' c'),wrap _ _ _ hr,.inl rfl,λi hi=>wav _ _ _ (Ne.symm hi),k1,k2,.own (waz _ _ _) hroom hcm⟩
     .obtain⟨q1,q2⟩:=hW.kill r0;have hlen:(vs.toList.take (n * tie.sz)).length=n * tie.sz:=by simp;omega
      obtain⟨c1,c2,c3⟩:=cellsOf ((vs.toList.take (n * tie.sz)).toArray++news.toArray++zs)
       (λi hi=>by
        rw[Array.append_assoc,Array.getElem?_append_left (by simpa[hlen] using hi),List.getElem?_toArray,List.getElem?_take,if_pos hi,Array.getElem?_toList])
       (λj hj=>by
        rw[Array.append_assoc,Array.getElem?_append_right (by simp only[List.size_toArray,hlen];omega)];simp only[List.size_toArray,hlen,Nat.add_sub_cancel_left];rw[Array.getElem?_append_left (by simpa[hl] using hj),List.getElem?_toArray])
      obtain⟨k1,k2⟩:=wja q2 hb (w1:=w.drew) rfl rfl ⟨rfl,λ_=>Nat.le_succ _⟩ rfl (e:=e') (f:=apF n f g) hc1 hc2
       (by simp only[Array.size_append,List.size_toArray,hlen,hl,hzs, ← Nat.add_mul];congr 1;omega) c1 c2 (λi hi j v u hj hv' hu=>(c3 i hi j v u hj hv' hu).step q1)
      exact⟨_,_,_,up bs fresh (.blk w.heap.size cap),wrap _ _ _ hr,.inl rfl,λi hi=>wav _ _ _ (Ne.symm hi),q1.trans k1,k2,.own (waz _ _ _) hc1 hc2⟩
  .cases h
 .simp only[sI7,pI7] at h;obtain⟨rfl,rfl,rfl⟩:=h;obtain⟨hvc,hz,h63,hbb⟩:=hP;generalize hev:a.eval x=vx at hsx
  cases hsx;have:=fromNone O hW (Step.refl _ _ _) none hev hvc hz h63 hbb g (λ_=>rfl);simpa only[win,upL,hev] using this
 .simp only[sI7,pI7] at h;obtain⟨rfl,rfl,rfl⟩:=h;obtain⟨hvc,hz,h63,hbb⟩:=hP;generalize hev:a.eval x=vx at hsx
  cases hsx;rename_i As;have:=fromNone O hW (Step.refl _ _ _) As hev hvc hz h63 hbb g (λ_=>rfl);simpa only[win,upL,hev] using this
 .cases h
theorem w7t{t:TypeId}{x y:Operand}{s u r:AV}{ti tie:TI}{e:TypeId}{m:Nat}{g:Nat->List AV}{vc P:Prop}{l:List (Nat×AObj)}{ty:TypeId}
  (hF:FRep w (MB E O bs) bs N T a) (hO:O fresh=none) (hb:bs fresh=none)
  (hx:evO T x=some s) (hy:evO T y=some u) (ht:lk te t=some ti) (hd:ti.desc= .slice e) (he:lk te e=some tie) (hs:srcA O tie.sz u=some (m,g,vc))
  (h:appA O fresh e tie m g vc s=some (r,l,P)) (hP:P):
  win C E O bs w (do pure (.value (← Builtin.append_ #[t,t] ty #[a.eval x,a.eval y]))) fresh r l:=by
 have hsy:=wbe hF hy;refine wyp hW hF hO hb hx (λhvc=>?_) h hP;obtain⟨A,c',news,hv,hl,hA,h1,hgl,hgV⟩:=wup hW hsy hs hvc;exact⟨news,hl,h1,hgl,hgV,λolds ho hz h63 hb=>by rw[hv];exact run_app hte ht hd he hz olds ho news hl hA h1 h63 hb⟩
theorem wx6(hF:FRep w (MB E O bs) bs N T a)(hO:O fresh=none)(hb:bs fresh=none){o:Oper}{u:AV}{l:List (Nat×AObj)}{vc:Prop}(h:wb8 te T O fresh o.op=some (u,l,vc))(hvc:vc):
  win C E O bs w (execOp a.eval o) fresh u l:=by
 have ev:=λ{x:Operand} {u:AV} (h:evO T x=some u)=>wbe hF h;have wrap:∀(s:Sem Value) v w',s.run C.P w= .ok v w'->(do pure (.value (← s)):Sem Next).run C.P w= .ok (.value v) w':=by
  intro s v w' hs;simp[hs]
 have wrapU:∀(s:Sem Unit) w',s.run C.P w= .ok () w'->(do s;pure .skip:Sem Next).run C.P w= .ok .skip w':=by
  intro s w' hs;simp[hs]
 obtain⟨dst,op,ty,pos,after,guard⟩:=o;simp only at h;unfold wb8 at h;split at h
 .rename_i t;split at h
  .rename_i z hz;simp only[sI7,pI7] at h;obtain⟨rfl,rfl,rfl⟩:=h;unfold wip at hz;split at hz
   .rename_i ti hti;have hc:wdd w (MB E O bs) bs ti.zero.cells z:=by simpa using wgx (w:=w) (M:=MB E O bs) (bs:=bs) _ _ hz
    obtain⟨k1,k2⟩:=wvz hW hb hc t;refine⟨_,.pointer (some ⟨w.heap.size,0,none⟩),_,_,wrap _ _ _ ?_,.inl rfl,λi hi=>wav _ _ _ (Ne.symm hi),k1,k2,.ptr (waz _ _ _)⟩;simp[Instr.alloc,wgh hte (w:=w) hti,newVar,newRow]
   .cases hz
  .cases h
 .rename_i t x;split at h
  .rename_i ux hx;split at h
   .rename_i cs hcs;simp only[sI7,pI7] at h;obtain⟨rfl,rfl,rfl⟩:=h;obtain⟨k1,k2⟩:=wvz hW hb (ws8 (ev hx) hcs) t;refine⟨_,.pointer (some ⟨w.heap.size,0,none⟩),_,_,wrap _ _ _ ?_,.inl rfl,λi hi=>wav _ _ _ (Ne.symm hi),k1,k2,.ptr (waz _ _ _)⟩;simp[Instr.box,newVar,newRow]
   .cases h
  .cases h
 .rename_i t len parts;split at h
  .rename_i ti hti;split at h
   .rename_i e hd;split at h
    .rename_i tie z hte' hz;split at h
     .rename_i cs hcs;simp only[sI7,pI7] at h;obtain⟨rfl,rfl,rfl⟩:=h;obtain⟨hlim,hzl,hlm⟩:=hvc;unfold wip at hz;rw[hte'] at hz;have hc:wdd w (MB E O bs) bs tie.zero.cells z:=by simpa using wgx (w:=w) (M:=MB E O bs) (bs:=bs) _ _ hz
      have hu:=wbt hte (w:=w) hti;rw[hd] at hu;have hsz:=wdk hte (w:=w) hte';have hzr:=wgh hte (w:=w) hte';have hzs:tie.zero.cells.size=tie.sz:=by rw[hc.1,hzl]
      -- the zeros, laid row on row
      have hlen:(List.replicate len z).flatten.length=len * tie.sz:=by simp[hzl]
      have hget:∀j,j<len * tie.sz->(List.replicate len z).flatten[j]?=z[j % tie.sz]?:=by
       intro j hj;clear hlen hcs hlim hlm
       induction len generalizing j with
       |zero=>simp at hj
       |succ len ih=>
        rw[List.replicate_succ,List.flatten_cons]
        rcases Nat.lt_or_ge j tie.sz with h1 | h1
        .rw[List.getElem?_append_left (by omega),Nat.mod_eq_of_lt h1]
        .rw[List.getElem?_append_right (by omega),hzl,ih _ (by rw[Nat.add_mul,Nat.one_mul] at hj;omega),Nat.mod_eq_sub_mod h1]
      have hc0:wdd w (MB E O bs) bs ((Array.range (len * tie.sz)).map (tie.zero.cells[· % tie.zero.cells.size]!)) (List.replicate len z).flatten:=by
       have at_:∀(j:Nat) (x:Value),((Array.range (len * tie.sz)).map (tie.zero.cells[· % tie.zero.cells.size]!))[j]?=some x->j<len * tie.sz/\tie.zero.cells[j % tie.sz]?=some x:=by
        intro j x hx;simp only[Array.getElem?_map,Array.getElem?_range] at hx;split at hx
        .rename_i hj;simp only[Option.map_some,sI7] at hx;refine⟨hj,?_⟩;have hpos:0<tie.sz:=by
          rcases Nat.eq_zero_or_pos tie.sz with h | h
          .rw[h] at hj;simp at hj
          .exact h
         have hlt:j % tie.sz<tie.zero.cells.size:=by rw[hzs];exact Nat.mod_lt _ hpos
         rw[← hx,hzs];simp[hlt]
        .cases hx
       refine⟨by simp[hzl],λj x hx=>hc.2.1 _ _ (at_ j x hx).2,λj x y hx hy=>?_⟩;obtain⟨hj,hx⟩:=at_ j x hx;rw[hget j hj] at hy;exact hc.2.2 _ _ _ hx hy
      obtain⟨vs,hf,hcv⟩:=wlp hF _ _ _ _ hc0 hcs;have hcl:cs.length=len * tie.sz:=by
       have:∀(ps:List (Nat×Operand)) (c0 r:List AV),wcu T (λi=>some (i * tie.sz,tie.sz)) c0 ps=some r->r.length=c0.length:=by
        intro ps
        induction ps with
        |nil=>intro c0 r h;simp only[wcu,sI7] at h;subst h;rfl
        |cons p ps ih=>
         intro c0 r h;obtain⟨i,x⟩:=p;simp only[wcu] at h;split at h
         .split at h
          .split at h
           .split at h
            .rename_i hs;rw[ih _ _ h,(wg6 _ _ _ _ hs).1]
            .cases h
           .cases h
          .cases h
         .cases h
       rw[this _ _ _ hcs,hlen]
      obtain⟨g1,g2⟩:=w8d tie.sz len cs hcl
      obtain⟨k1,k2⟩:=wja hW hb (w1:=w) rfl rfl ⟨rfl,λ_=>lR7 _⟩ rfl (vs:=vs) (e:=e) (sz:=tie.sz) (n:=len) (c:=len) (f:=wap tie.sz cs) (lR7 _) hlm (by rw[hcv.1,hcl]) g1
       (λi hi j hj v hv=>hcv.2.1 _ _ hv) (λi hi j v u hj hv hu=>hcv.2.2 _ _ _ hv (g2 i hi j u hj hu))
      refine⟨_,.slice (some ⟨w.heap.size,0,none⟩) len len,_,_,wrap _ _ _ ?_,.inl rfl,λi hi=>wav _ _ _ (Ne.symm hi),k1,k2,.own (waz _ _ _) (lR7 _) hlm⟩;exact w06 hu hsz hzr hlim hzs (by simpa using hf) (by rw[hcv.1,hcl])
     .cases h
    .cases h
   .cases h
  .cases h
 .simp only[sI7,pI7] at h;obtain⟨rfl,rfl,rfl⟩:=h;obtain⟨k1,k2⟩:=hW.new hb (w1:=w) rfl rfl ⟨rfl,λ_=>lR7 _⟩ rfl (.map #[] 0) (.amap []) 0 (λ_ _ _ _=>by simp) λhS hn=>
   ⟨w.heap.size,0,#[],0,waz _ _ _,hn,⟨rfl,λj e p he=>by simp at he⟩,⟨rfl,λi e he=>by simp at he⟩⟩
  refine⟨_,.map (some w.heap.size),_,_,wrap _ _ _ ?_,.inl rfl,λi hi=>wav _ _ _ (Ne.symm hi),k1,k2,.map (waz _ _ _)⟩;simp[Instr.makeMap]
 .rename_i t x;split at h
  .rename_i s ti hx hti;have hu:=wbt hte (w:=w) hti;split at h
   .rename_i hd;rw[hd] at hu;simp only[sI7,pI7] at h;obtain⟨rfl,rfl,rfl⟩:=h;have hs:=ev hx;generalize hz:a.eval x=v at hs
    cases hs with
    |str hs=>
     rename_i b;obtain⟨k1,k2⟩:=hW.new hb (w1:=w) rfl rfl ⟨rfl,λ_=>lR7 _⟩ rfl (.stringIter b 0) (.siter s 0) 0 (λ_ _ _ _=>by simp) λhS hn=>⟨w.heap.size,0,b,waz _ _ _,hn,hs⟩;refine⟨_,.pointer (some ⟨w.heap.size,0,none⟩),_,_,wrap _ _ _ ?_,.inl rfl,λi hi=>wav _ _ _ (Ne.symm hi),k1,k2,.ptr (waz _ _ _)⟩;simp[hz,Instr.range,hu]
   .cases h
  .rename_i m ti hx hti;have hu:=wbt hte (w:=w) hti;split at h
   .rename_i kt et hd;rw[hd] at hu;split at h
    .rename_i es ho;simp only[sI7,pI7] at h;obtain⟨rfl,rfl,rfl⟩:=h;obtain⟨bm,cm,ents,clock,hbm,hh,he,hborn⟩:=hW.obj m _ ho;have hs:=ev hx;generalize hz:a.eval x=v at hs
     cases hs with
     |map hb'=>
      rename_i b' c';rw[hbm] at hb';injection hb' with hb';injection hb' with e1 e2;subst e1;have hc:clock=es.length:=by rw[hborn.1,he.1]
      obtain⟨k1,k2⟩:=hW.new hb (w1:=w) rfl rfl ⟨rfl,λ_=>lR7 _⟩ rfl (.mapIter (some bm) clock #[] clock) (.miter m es.length (t::es.length::List.range es.length)) 0 (λ_ _ _ _=>by simp) λhS hn=>
       ⟨w.heap.size,0,bm,cm,#[],waz _ _ _,hS.bs _ _ hbm,by rw[← hc];exact hn,List.nodup_range,λi hi=>by simpa using hi,λi hi=>by simp[hi],λi hi hlt=>by simp at hi;omega⟩
      refine⟨_,.pointer (some ⟨w.heap.size,0,none⟩),_,_,wrap _ _ _ ?_,.inl rfl,λi hi=>wav _ _ _ (Ne.symm hi),k1,k2,.ptr (waz _ _ _)⟩;simp[hz,Instr.range,hu,getObj,Sem.run,hh]
    .cases h
   .cases h
  .cases h
 .rename_i t x y;split at h
  .rename_i p ux ti hx hy hti;split at h
   .rename_i new hnew;obtain⟨n1,n2,n3⟩:=ws8 (ev hy) hnew;have hsz:=wdk hte (w:=w) hti;have hpt:=ev hx
    -- the store itself
    have run:∀g off vs tt,a.eval x= .pointer (some ⟨g,off,none⟩)->w.heap[g]?=some (.cells vs tt (0,0))->off+new.length<=vs.size->new.length=ti.sz->
      (Instr.storeAt t (a.eval x) (a.eval y)).run C.P w= .ok () (w.setRow g (vs.toList.take off++(a.eval y).cells.toList++vs.toList.drop (off+(a.eval y).cells.toList.length)).toArray):=by
     intro g off vs tt hev hg hle heq;have hst:=run_storeCells_at C.P g off tt (a.eval y).cells.toList 0 vs w hg (by simpa[n1] using hle) (λv hv=>by
      obtain⟨j,hj,e⟩:=List.mem_iff_getElem.1 hv;exact n2 j v (by rw[← Array.getElem?_toList,List.getElem?_eq_getElem hj,e]))
     simp only[Nat.add_zero] at hst;have hsize:(a.eval y).cells.size=ti.sz:=by rw[n1,heq]
     rw[hev];simp[Instr.storeAt,Instr.sureAddr,storeVar,hsz,hsize,hst]
    have cellsAt:∀(vs:Array Value) (off:Nat) (k:Nat),off+new.length<=vs.size->
      ((vs.toList.take off++(a.eval y).cells.toList++vs.toList.drop (off+(a.eval y).cells.toList.length)).toArray)[k]?=if off<=k/\k<off+new.length then (a.eval y).cells[k - off]? else vs[k]?:=by
     intro vs off k hle;have hl1:(vs.toList.take off).length=off:=by simp;omega
     have hl2:(a.eval y).cells.toList.length=new.length:=by simpa using n1
     simp only[List.getElem?_toArray,List.append_assoc,hl2]
     rcases Nat.lt_or_ge k off with h1 | h1
     .rw[List.getElem?_append_left (by omega),List.getElem?_take,if_pos h1,if_neg (by omega),Array.getElem?_toList]
     .rw[List.getElem?_append_right (by omega),hl1]
      rcases Nat.lt_or_ge k (off+new.length) with h2 | h2
      .rw[List.getElem?_append_left (by omega),if_pos ⟨h1,h2⟩,Array.getElem?_toList]
      .rw[List.getElem?_append_right (by omega),hl2,List.getElem?_drop,if_neg (by omega),Array.getElem?_toList];congr 1;omega
    have sizeAt:∀(vs:Array Value) (off:Nat),off+new.length<=vs.size->((vs.toList.take off++(a.eval y).cells.toList++vs.toList.drop (off+(a.eval y).cells.toList.length)).toArray).size=vs.size:=by
     intro vs off hle;have hl2:(a.eval y).cells.size=new.length:=n1;simp[hl2];omega
    split at h
    .rename_i r off;split at h
     .rename_i cs tt ho;split at h
      .rename_i cs' hsp;simp only[sI7,pI7] at h;obtain⟨rfl,rfl,rfl⟩:=h;obtain⟨s1,s2,s3⟩:=wg6 _ _ _ _ hsp;obtain⟨b,c,vs,hbr,hh,hvs,o1,oV⟩:=hW.obj r _ ho;generalize hz:a.eval x=vx at hpt
       cases hpt with
       |ptr hb'=>
        rw[hbr] at hb';injection hb' with hb';injection hb' with e1 e2;subst e1;have hr:=run b off vs tt hz hh (by omega) hvc;obtain⟨k1,k2⟩:=hW.modify ho rfl hbr (w':=w.setRow b _) (λk hk=>setRow_other w b k _ hk) (size_setRow _ _ _) rfl ⟨rfl,λ_=>lR7 _⟩ rfl (o:=.cells cs' tt) rfl λhS=>
         ⟨b,c,_,hbr,setRow_heap w b vs _ tt (0,0) hh,by rw[sizeAt vs off (by omega),hvs,s1],λj v hv=>by
          rw[cellsAt vs off j (by omega)] at hv;split at hv
          .exact n2 _ _ hv
          .exact o1 _ _ hv,λj v u hv hu=>by
          rw[cellsAt vs off j (by omega)] at hv;rw[s3 j] at hu;split at hv
          .rename_i hj;rw[if_pos hj] at hu;exact(n3 _ _ _ hv hu).step hS
          .rename_i hj;rw[if_neg hj] at hu;exact(oV _ _ _ hv hu).step hS⟩
        exact⟨_,undef,_,bs,wrapU _ _ hr,.inr ⟨rfl,rfl⟩,λ_ _=>rfl,k1,k2,.any⟩
      .cases h
     .cases h
    .rename_i r sz i off;split at h
     .rename_i tt sz' n f ho;split at h
      .rename_i cs' hsp;simp only[sI7,pI7] at h;obtain⟨rfl,rfl,rfl⟩:=h;obtain⟨hvc,hin,rfl⟩:=hvc;obtain⟨s1,s2,s3⟩:=wg6 _ _ _ _ hsp
       rcases hW.obj r _ ho with⟨q1,q2⟩ | ⟨b,c,vs,hbr,hh,hnc,hcm,hvs,fl,o1,oV⟩
       .omega
       generalize hz:a.eval x=vx at hpt
       cases hpt with
       |eptr hb'=>
        rw[hbr] at hb';injection hb' with hb';injection hb' with e1 e2;subst e1;have hfl:=fl i hin;have hle:(i+1) * sz<=c * sz:=Nat.mul_le_mul_right _ (by omega);rw[Nat.add_mul,Nat.one_mul] at hle;have hfit:i * sz+off+new.length<=vs.size:=by omega
        have hr:=run b (i * sz+off) vs tt hz hh hfit hvc;have other:∀i',i'≠i->∀j,j<sz->¬ (i * sz+off<=i' * sz+j/\i' * sz+j<i * sz+off+new.length):=by
         intro i' hne j hj hh
         rcases Nat.lt_or_ge i' i with h1 | h1
         .have:(i'+1) * sz<=i * sz:=Nat.mul_le_mul_right _ (by omega);rw[Nat.add_mul,Nat.one_mul] at this;omega
         .have:(i+1) * sz<=i' * sz:=Nat.mul_le_mul_right _ (by omega);rw[Nat.add_mul,Nat.one_mul] at this;omega
        have same:∀j,(i * sz+off<=i * sz+j/\i * sz+j<i * sz+off+new.length)↔(off<=j/\j<off+new.length):=by intro j;omega
        obtain⟨k1,k2⟩:=hW.modify ho rfl hbr (w':=w.setRow b _) (λk hk=>setRow_other w b k _ hk) (size_setRow _ _ _) rfl ⟨rfl,λ_=>lR7 _⟩ rfl (o:=.row tt sz n (λk=>if k=i then cs' else f k) false) rfl λhS=>
         .inr ⟨b,c,_,hbr,setRow_heap w b vs _ tt (0,0) hh,hnc,hcm,by rw[sizeAt vs _ hfit,hvs],λk hk=>by
          show (if k=i then cs' else f k).length=sz
          by_cases hki:k=i
          .rw[if_pos hki,s1,hfl]
          .rw[if_neg hki];exact fl k hk,λk hk j hj v hv=>by
          rw[cellsAt vs _ _ hfit] at hv;split at hv
          .exact n2 _ _ hv
          .exact o1 k hk j hj v hv,λk hk j v u hj hv hu=>by
          rw[cellsAt vs _ _ hfit] at hv;replace hu:(if k=i then cs' else f k)[j]?=some u:=hu
          by_cases hki:k=i
          .subst hki;rw[if_pos rfl,s3 j] at hu;simp only[same] at hv;split at hv
           .rename_i hjj;rw[if_pos hjj] at hu;rw[show k * sz+j - (k * sz+off)=j - off by omega] at hv;exact(n3 _ _ _ hv hu).step hS
           .rename_i hjj;rw[if_neg hjj] at hu;exact(oV k hk j v u hj hv hu).step hS
          .rw[if_neg hki] at hu;rw[if_neg (other k hki j hj)] at hv;exact(oV k hk j v u hj hv hu).step hS⟩
        exact⟨_,undef,_,bs,wrapU _ _ hr,.inr ⟨rfl,rfl⟩,λ_ _=>rfl,k1,k2,.any⟩
      .cases h
     .cases h
    .cases h
   .cases h
  .cases h
 .rename_i args argTypes;split at h
  .rename_i x y t t' hargs htys;split at h
   .rename_i s u ti htt hx hy hti;have htt:=Nat.eq_of_beq_eq_true htt;subst htt;split at h
    .rename_i e hd;split at h
     .rename_i tie he;split at h
      .rename_i m g vc' hs;have e1:args=#[x,y]:=by apply Array.toList_inj.1;simpa using hargs
       have e2:argTypes=#[t,t]:=by apply Array.toList_inj.1;simpa using htys
       subst e1;subst e2;have:=w7t (ty:=ty) hte hW hF hO hb hx hy hti hd he hs h hvc;obtain⟨nx,v,w',bs',h1,h2⟩:=this;exact⟨nx,v,w',bs',by simpa[execOp,resolve,invoke,builtin] using h1,h2⟩
      .cases h
     .cases h
    .cases h
   .cases h
  .cases h
 .cases h
end
mutual
def AV.rn(ρ:Nat->Option Nat):AV->AV
 |.ptr r o=>match ρ r with
  |some k=>.ptr k o
  |none=>.any
 |.eptr r s i o=>match ρ r with
  |some k=>.eptr k s i o
  |none=>.any
 |.own r n=>match ρ r with
  |some k=>.own k n
  |none=>.any
 |.sub r s o n=>match ρ r with
  |some k=>.sub k s o n
  |none=>.any
 |.map r=>match ρ r with
  |some k=>.map k
  |none=>.any
 |.func f l=>.func f (AV.rnL ρ l)
 |.iface t v=>.iface t (AV.rn ρ v)
 |.agg l=>.agg (AV.rnL ρ l)
 |.tuple l=>.tuple (AV.rnL ρ l)
 |.any=>.any
 |.bool b=>.bool b
 |.int k n=>.int k n
 |.str s=>.str s
 |.nilptr=>.nilptr
 |.vptr g=>.vptr g
 |.nil=>.nil
 |.empty=>.empty
 |.view sz n f=>.view sz n f
 |.nilmap=>.nilmap
 |.vmap n f=>.vmap n f
 |.nilfunc=>.nilfunc
 |.nilIface=>.nilIface
def AV.rnL(ρ:Nat->Option Nat):List AV->List AV
 |[]=>[]
 |u::l=>AV.rn ρ u::AV.rnL ρ l
end
theorem wfd(ρ:Nat->Option Nat):∀(l:List AV) (j:Nat),(AV.rnL ρ l)[j]?=(l[j]?).map (AV.rn ρ)
 |[],j=>by simp[AV.rnL]
 |u::l,0=>by simp[AV.rnL]
 |u::l,j+1=>by simp[AV.rnL,wfd ρ l j]
theorem wfc(ρ:Nat->Option Nat):∀l:List AV,(AV.rnL ρ l).length=l.length
 |[]=>rfl
 |u::l=>by simp[AV.rnL,wfc ρ l]
theorem V.rn{w:World}{M:Nat->Prop}{bs:Nat->Option Hd}{v:Value}{u:AV}(h:V w M bs v u):∀(ρ:Nat->Option Nat) (bs':Nat->Option Hd),(∀r k x,ρ r=some k->bs r=some x->bs' k=some x)->V w M bs' v (u.rn ρ):=by
 induction h with
 |any=>exact λρ bs' s=>.any
 |bool=>exact λρ bs' s=>.bool
 |int=>exact λρ bs' s=>.int
 |str h=>exact λρ bs' s=>.str h
 |nilptr=>exact λρ bs' s=>.nilptr
 |ptr h=>
  intro ρ bs' s;simp only[AV.rn];split
  .rename_i k hk;exact .ptr (s _ _ _ hk h)
  .exact .any
 |eptr h=>
  intro ρ bs' s;simp only[AV.rn];split
  .rename_i k hk;exact .eptr (s _ _ _ hk h)
  .exact .any
 |vptr cv hM hb hc h1 hv ih=>exact λρ bs' s=>.vptr cv hM hb hc h1 hv
 |nil=>exact λρ bs' s=>.nil
 |empty=>exact λρ bs' s=>.empty
 |view ad cv hn hcm hA hl hc h1 hv ih=>exact λρ bs' s=>.view ad cv hn hcm hA hl hc h1 hv
 |own h hn hcm=>
  intro ρ bs' s;simp only[AV.rn];split
  .rename_i k hk;exact .own (s _ _ _ hk h) hn hcm
  .exact .any
 |ownnil h hn=>
  intro ρ bs' s;simp only[AV.rn];split
  .rename_i k hk;exact .ownnil (s _ _ _ hk h) hn
  .exact .any
 |sub h hn hcm hA=>
  intro ρ bs' s;simp only[AV.rn];split
  .rename_i k hk;exact .sub (s _ _ _ hk h) hn hcm hA
  .exact .any
 |subnil h hn ho=>
  intro ρ bs' s;simp only[AV.rn];split
  .rename_i k hk;exact .subnil (s _ _ _ hk h) hn ho
  .exact .any
 |nilmap=>exact λρ bs' s=>.nilmap
 |vmap hM hb hm hn hk hv ihk ihv=>exact λρ bs' s=>.vmap hM hb hm hn hk hv
 |map h=>
  intro ρ bs' s;simp only[AV.rn];split
  .rename_i k hk;exact .map (s _ _ _ hk h)
  .exact .any
 |func hl hv ih=>
  intro ρ bs' s;refine .func (by rw[wfc];exact hl) λj v u h1 h2=>?_;rw[wfd] at h2;obtain⟨u',hu,rfl⟩:=Option.map_eq_some_iff.1 h2;exact ih j v u' h1 hu ρ bs' s
 |nilfunc=>exact λρ bs' s=>.nilfunc
 |nilIface=>exact λρ bs' s=>.nilIface
 |iface h ih=>exact λρ bs' s=>.iface (ih ρ bs' s)
 |agg hl h1 hv ih=>
  intro ρ bs' s;refine .agg (by rw[wfc];exact hl) h1 λj v u h1 h2=>?_;rw[wfd] at h2;obtain⟨u',hu,rfl⟩:=Option.map_eq_some_iff.1 h2;exact ih j v u' h1 hu ρ bs' s
 |tuple hl hv ih=>
  intro ρ bs' s;refine .tuple (by rw[wfc];exact hl) λj v u h1 h2=>?_;rw[wfd] at h2;obtain⟨u',hu,rfl⟩:=Option.map_eq_some_iff.1 h2;exact ih j v u' h1 hu ρ bs' s
def OLe(ρ:Nat->Option Nat):AObj->AObj->Prop
 |.cells cs t,.cells cs' t'=>AV.rnL ρ cs=cs'/\t=t'
 |.row t sz n f fr,.row t' sz' n' f' fr'=>t=t'/\sz=sz'/\n=n'/\fr=fr'/\∀i,i<n->AV.rnL ρ (f i)=f' i
 |.amap es,.amap es'=>es.map (λp=>(p.1.rn ρ,p.2.rn ρ))=es'
 |.siter s p,.siter s' p'=>s=s'/\p=p'
 |.miter m n l,.miter m' n' l'=>ρ m=some m'/\n=n'/\l=l'
 |.dead,.dead=>True
 |_,_=>False
theorem OLe.mut{ρ:Nat->Option Nat}{o o':AObj}(h:OLe ρ o o'):o.mut=o'.mut:=by
 cases o<;>cases o'<;>simp_all [OLe,AObj.mut]
theorem OLe.ok{w:World}{M:Nat->Prop}{bs bs':Nat->Option Hd}{ρ:Nat->Option Nat}{o o':AObj}{r k:Nat}(h:OLe ρ o o')(hs:∀r k x,ρ r=some k->bs r=some x->bs' k=some x)(hr:ρ r=some k)(hok:weq w M bs r o):weq w M bs' k o':=by
 cases o with
 |cells cs t=>
  cases o'<;>simp only[OLe] at h;obtain⟨rfl,rfl⟩:=h;obtain⟨b,c,vs,h1,h2,h3,h4,h5⟩:=hok;refine⟨b,c,vs,hs _ _ _ hr h1,h2,by rw[wfc];exact h3,h4,λj v u hv hu=>?_⟩;rw[wfd] at hu;obtain⟨u',hu',rfl⟩:=Option.map_eq_some_iff.1 hu;exact(h5 j v u' hv hu').rn ρ bs' hs
 |row t sz n f fr=>
  cases o'<;>simp only[OLe] at h;obtain⟨rfl,rfl,rfl,rfl,hf⟩:=h
  rcases hok with⟨h1,h2⟩ | ⟨b,c,vs,h1,h2,h3,h4,h5,h6,h7,h8⟩
  .exact .inl ⟨hs _ _ _ hr h1,h2⟩
  .refine .inr ⟨b,c,vs,hs _ _ _ hr h1,h2,h3,h4,h5,λi hi=>by rw[← hf i hi,wfc];exact h6 i hi,h7,λi hi j v u hj hv hu=>?_⟩;rw[← hf i hi,wfd] at hu;obtain⟨u',hu',rfl⟩:=Option.map_eq_some_iff.1 hu;exact(h8 i hi j v u' hj hv hu').rn ρ bs' hs
 |amap es=>
  cases o'<;>simp only[OLe] at h;subst h;obtain⟨b,c,ents,clock,h1,h2,h3,h4⟩:=hok;refine⟨b,c,ents,clock,hs _ _ _ hr h1,h2,⟨by simpa using h3.1,λj e p he hp=>?_⟩,h4⟩;simp only[List.getElem?_map] at hp;obtain⟨p',hp',rfl⟩:=Option.map_eq_some_iff.1 hp;obtain⟨a1,a2⟩:=h3.2 j e p' he hp';exact⟨a1.rn ρ bs' hs,a2.rn ρ bs' hs⟩
 |siter s p=>
  cases o'<;>simp only[OLe] at h;obtain⟨rfl,rfl⟩:=h;obtain⟨b,c,bytes,h1,h2,h3⟩:=hok;exact⟨b,c,bytes,hs _ _ _ hr h1,h2,h3⟩
 |miter m n l=>
  cases o'<;>simp only[OLe] at h;obtain⟨hm,rfl,rfl⟩:=h;obtain⟨b,c,bm,cm,seen,h1,h2,h3,h4⟩:=hok;exact⟨b,c,bm,cm,seen,hs _ _ _ hr h1,hs _ _ _ hm h2,h3,h4⟩
 |dead=>
  cases o'<;>simp only[OLe] at h;trivial
def RepS(C:Ctx)(E:Ent)(N:Nat)(s:St)(bs:Nat->Option Hd)(a:Act)(w:World):Prop:=
 Rep C E N (lk s.T) (lk s.O) bs a w/\(∀r,s.nx<=r->lk s.O r=none/\bs r=none)/\E.m<=s.nx
structure Weak (m:Nat) (ρ:Nat->Option Nat) (s s':St):Prop where
 own:∀r,r<m->ρ r=some r
 inj:∀r r' k,ρ r=some k->ρ r'=some k->r=r'
 T:∀d u',lk s'.T d=some u'->∃u,lk s.T d=some u/\u.rn ρ=u'
 O:∀k o',lk s'.O k=some o'->∃r o,ρ r=some k/\lk s.O r=some o/\OLe ρ o o'
 lt:∀r k,ρ r=some k->k<s'.nx
 nx:m<=s'.nx
open Classical in
theorem RepS.weak{C:Ctx}{E:Ent}{N:Nat}{s s':St}{bs:Nat->Option Hd}{a:Act}{w:World}{ρ:Nat->Option Nat}(h:RepS C E N s bs a w)(hw:Weak E.m ρ s s'):∃bs',RepS C E N s' bs' a w/\∀v u,V w (MB E (lk s.O) bs) bs v u->V w (MB E (lk s'.O) bs') bs' v (u.rn ρ):=by
 obtain⟨⟨hF,hW⟩,hnx,hm⟩:=h
 -- each new name lies where the old one lay
 let bs':Nat->Option Hd:=λk=>if hk:∃r,ρ r=some k then bs (Classical.choose hk) else none
 have at_:∀r k,ρ r=some k->bs' k=bs r:=by
  intro r k hr;have hk:∃r,ρ r=some k:=⟨r,hr⟩;show (if hk:∃r,ρ r=some k then bs (Classical.choose hk) else none)=bs r
  rw[dif_pos hk,hw.inj _ _ _ (Classical.choose_spec hk) hr]
 have none_:∀k,(¬ ∃r,ρ r=some k)->bs' k=none:=by
  intro k hk;show (if hk:∃r,ρ r=some k then bs (Classical.choose hk) else none)=none
  rw[dif_neg hk]
 have hs:∀r k x,ρ r=some k->bs r=some x->bs' k=some x:=λr k x hr hx=>by rw[at_ r k hr];exact hx
 have back:∀k h,bs' k=some h->∃r,ρ r=some k/\bs r=some h:=by
  intro k h hk
  by_cases hex:∃r,ρ r=some k
  .obtain⟨r,hr⟩:=hex;exact⟨r,hr,by rw[← at_ r k hr];exact hk⟩
  .rw[none_ k hex] at hk;cases hk
 have hmb:∀b,mutB (lk s'.O) bs' b->mutB (lk s.O) bs b:=by
  rintro b ⟨k,o',c,ho,hm',hb⟩;obtain⟨r,o,hr,hor,hle⟩:=hw.O k o' ho;exact⟨r,o,c,hor,by rw[hle.mut];exact hm',by rw[← at_ r k hr];exact hb⟩
 have hMB:∀b,MB E (lk s'.O) bs' b->MB E (lk s.O) bs b:=λb hb=>hb.imp id (hmb b);have vm:∀ {bs0:Nat->Option Hd} {v:Value} {u:AV},V w (MB E (lk s.O) bs) bs0 v u->V w (MB E (lk s'.O) bs') bs0 v u:=λh=>
  h.step_ (λb _ hb hb'=>hb (hMB b hb')) (λ_ _ _=>rfl) (lR7 _) _ λ_ _ hh=>hh
 refine⟨bs',⟨⟨⟨hF.1,hF.2.1,λd u' hu'=>?_⟩,?_⟩,λr hr=>⟨?_,?_⟩,hw.nx⟩,λv u h=>vm (h.rn ρ bs' hs)⟩
 .obtain⟨u,hu,rfl⟩:=hw.T d u' hu';obtain⟨v,hv,hV⟩:=hF.2.2 d u hu;exact⟨v,hv,vm (hV.rn ρ bs' hs)⟩
 .exact {
   obj:=λk o' ho=>by
    obtain⟨r,o,hr,hor,hle⟩:=hw.O k o' ho;have hok:=hle.ok hs hr (hW.obj r o hor);exact hok.step ⟨λ_ _ h=>h,λb _ hb hb'=>hb (hMB b hb'),λ_ _ _=>rfl,lR7 _⟩ λ_ _ _=>rfl
   sep:=λk k' o1 o2 b c c' h1 h2 m1 m2 b1 b2=>by
    obtain⟨r,o,hr,hor,hle⟩:=hw.O k o1 h1;obtain⟨r',o',hr',hor',hle'⟩:=hw.O k' o2 h2;have:=hW.sep r r' o o' b c c' hor hor' (by rw[hle.mut];exact m1) (by rw[hle'.mut];exact m2) (by rw[← at_ r k hr];exact b1) (by rw[← at_ r' k' hr'];exact b2);subst this;rw[hr] at hr';injection hr'
   out:=λb hb=>hW.out b (hmb b hb)
   frz:=λk t sz n f b c ho hb hM=>by
    obtain⟨r,o,hr,hor,hle⟩:=hw.O k _ ho
    cases o<;>simp only[OLe] at hle;obtain⟨rfl,rfl,rfl,rfl,_⟩:=hle;exact hW.frz r _ _ _ _ b c hor (by rw[← at_ r k hr];exact hb) (hMB b hM)
   high:=λb hb=>hW.high b (hMB b hb)
   lt:=λk b c hb=>by
    obtain⟨r,_,hbr⟩:=back k _ hb;exact hW.lt r b c hbr
   outlt:=hW.outlt
   keep:=hW.keep
   old:=λb hb=>hW.old b (hmb b hb)
   size:=hW.size
   pre:=λr h hr hb=>by rw[at_ r r (hw.own r hr)];exact hW.pre r h hr hb
   os:=hW.os
   tape:=hW.tape
   output:=hW.output
   laid:=hW.laid
   gle:=hW.gle }
 .cases hl:lk s'.O r with
  |none=>rfl
  |some o'=>
   obtain⟨r0,o,hr0,_⟩:=hw.O r o' hl;have:=hw.lt _ _ hr0;omega
 .refine none_ r λ⟨r0,hr0⟩=>?_;have:=hw.lt _ _ hr0;omega
def QC(C:Ctx)(E:Ent)(N:Nat)(Q:Exit->St->Prop):Exit->Act->World->Prop:=λe a w=>∃s bs,Q e s/\RepS C E N s bs a w
def AWP(C:Ctx)(m N:Nat)(c:Code)(Q:Exit->St->Prop)(s:St):Prop:=
 ∀E:Ent,E.m=m->∀bs a w,RepS C E N s bs a w->c.wp C.P (QC C E N Q) a w
def AOps(C:Ctx)(m N:Nat)(ops:Array Oper)(l:List Oper)(Q:Exit->St->Prop)(s:St):Prop:=
 ∀E:Ent,E.m=m->∀bs a w,RepS C E N s bs a w->wpList C.P ops (QC C E N Q) l a w
def lkL(objs:List AObj)(r:Nat):Option AObj:=objs[r]?
def wg2(P : Program)(f : FuncId) : Prop := ∃fn, P.funcs[f]? = some fn /\ fn.body.isNone = false /\ (fn.name == "runtime.NumGoroutine") = false
def wal(C:Ctx)(f:FuncId)(args:List AV)(objs:List AObj)(R:AV->List (Nat×AObj)->Prop):Prop:=
 wg2 C.P f/\∀(E:Ent) (bs:Nat->Option Hd) (w:World) (cargs:List Value),E.w0=w->E.m=objs.length->E.bs0=bs->WRep C E (lkL objs) bs w->(∀r,objs.length<=r->bs r=none)->
  cargs.length=args.length->(∀(j:Nat) v u,cargs[j]?=some v->args[j]?=some u->V w (MB E (lkL objs) bs) bs v u)->
  Calls C.P f cargs.toArray w λe w'=>∃v u O' bs',e= .returned v/\R u O'/\WRep C E (lk O') bs' w'/\V w' (MB E (lk O') bs') bs' v u/\∀r,objs.length+16<=r->lk O' r=none/\bs' r=none
theorem wal.mono{C:Ctx}{f:FuncId}{args:List AV}{objs:List AObj}{R R':AV->List (Nat×AObj)->Prop}(h:wal C f args objs R)(k:∀u O,R u O->R' u O):wal C f args objs R':=by
 refine⟨h.1,λE bs w cargs h1 h2 h3 h4 h5 h6 h7=>?_⟩;refine(h.2 E bs w cargs h1 h2 h3 h4 h5 h6 h7).mono ?_;rintro e w' ⟨v,u,O',bs',r1,r2,r3⟩;exact⟨v,u,O',bs',r1,k _ _ r2,r3⟩
section
variable {C:Ctx} {m N:Nat} {ops:Array Oper} {l rest:List Oper} {Q:Exit->St->Prop} {s:St} {o:Oper}
theorem AOps.nil(h:Q .normal s):AOps C m N ops [] Q s:=λ_ _ bs _ _ hr=>⟨s,bs,h,hr⟩
def rm{α:Type}(d:Nat):List (Nat×α)->List (Nat×α)
 |[]=>[]
 |(j,x)::l=>match Nat.beq j d with
  |true=>rm d l
  |false=>(j,x)::rm d l
theorem wez{α:Type}(d:Nat)(u:α)(l:List (Nat×α)):lk ((d,u)::rm d l)=lk ((d,u)::l):=by
 funext i;rw[wax,wax]
 by_cases h:d=i
 .simp[h]
 .simp only[h,if_false]
  induction l with
  |nil=>rfl
  |cons p l ih=>
   obtain⟨j,x⟩:=p;simp only[rm];split
   .rename_i hj;have:=Nat.eq_of_beq_eq_true hj;subst this;rw[ih,wax];simp[h]
   .rw[wax,wax,ih]
def putT(d:Option Tmp)(u:AV)(T:List (Nat×AV)):List (Nat×AV):=match d with
 |some d=>(d,u)::rm d T
 |none=>T
def wba(N:Nat):Option Tmp->Bool
 |some d=>Nat.blt d N
 |none=>true
theorem FRep.putT{w:World}{M:Nat->Prop}{bs:Nat->Option Hd}{T:List (Nat×AV)}{a:Act}(h:FRep w M bs N (lk T) a){d:Option Tmp}(hd:wba N d=true){v:Value}{u:AV}(hv:V w M bs v u):
  FRep w M bs N (lk (putT d u T)) (a.put d v):=by
 cases d with
 |none=>exact h
 |some d=>
  have:d<N:=by simpa[wba,Nat.blt_eq] using hd
  show FRep w M bs N (lk ((d,u)::rm d T)) _;rw[wez];exact FRep.put h this hv
theorem AOps.pure{te:TE}(hte:TE.ok C.P te)(hn:∀t ti,lk te t=some ti->wa8 ti.desc=false->ti.sz=1){u:AV}{vc:Prop}(hg:o.guard=none)(h:wb7 te (lk s.T) (lk s.O) o.op=some (u,vc))(hd:wba N o.dst=true)(hvc:vc)
  (k:AOps C m N ops rest Q { s with T:=putT o.dst u s.T }):AOps C m N ops (o::rest) Q s:=by
 intro E hE bs a w hr;refine wpList_plain hg λK hK=>?_;obtain⟨v,h1,h2⟩:=wx5 hte hn hr.1.2 hr.1.1 h hvc;unfold Oper.wp;rw[h1];exact hK _ _ (k E hE bs _ _ ⟨⟨hr.1.1.putT hd h2,hr.1.2⟩,hr.2⟩)
theorem AOps.eff{te:TE}(hte:TE.ok C.P te){u:AV}{l:List (Nat×AObj)}{vc:Prop}(hg:o.guard=none)(h:wb8 te (lk s.T) (lk s.O) s.nx o.op=some (u,l,vc))(hd:wba N o.dst=true)(hl:∀p∈l,p.1<=s.nx)(hvc:vc)
  (k:AOps C m N ops rest Q { s with T:=putT o.dst u s.T,O:=l++s.O,nx:=s.nx+1 }):AOps C m N ops (o::rest) Q s:=by
 intro E hE bs a w hr;refine wpList_plain hg λK hK=>?_;obtain⟨h0,h0'⟩:=hr.2.1 s.nx (lR7 _);obtain⟨nx,v,w',bs',h1,h2,h3,h4,h5,h6⟩:=wx6 hte hr.1.2 hr.1.1 h0 h0' h hvc;have hlu:lk (l++s.O)=upL (lk s.O) l:=lk_upL l s.O;have hrep:∀v',V w' (MB E (upL (lk s.O) l) bs') bs' v' u->RepS C E N { s with T:=putT o.dst u s.T,O:=l++s.O,nx:=s.nx+1 } bs' (a.put o.dst v') w':=λv' hv'=>by
  refine⟨⟨?_,?_⟩,λr hrr=>?_,Nat.le_succ_of_le hr.2.2⟩
  .show FRep w' (MB E (lk (l++s.O)) bs') bs' N (lk (putT o.dst u s.T)) (a.put o.dst v');rw[hlu];exact(hr.1.1.step h4).putT hd hv'
  .show WRep C E (lk (l++s.O)) bs' w';rw[hlu];exact h5
  .show lk (l++s.O) r=none/\bs' r=none;have hrr':s.nx+1<=r:=hrr;obtain⟨q1,q2⟩:=hr.2.1 r (by omega);refine⟨?_,by rw[h3 r (by omega)];exact q2⟩;rw[hlu];have:∀l:List (Nat×AObj),(∀p∈l,p.1<=s.nx)->upL (lk s.O) l r=none:=by
    intro l
    induction l with
    |nil=>exact λ_=>q1
    |cons p l ih=>
     intro hp;obtain⟨i,x⟩:=p;have:i<=s.nx:=hp (i,x) (by simp);simp only[upL];rw[wav _ _ _ (by omega)];exact ih λp hp'=>hp p (List.mem_cons_of_mem _ hp')
   exact this l hl
 unfold Oper.wp;rw[h1]
 rcases h2 with rfl | ⟨rfl,rfl⟩
 .exact hK _ _ (k E hE bs' _ _ (hrep v h6))
 .exact hK _ _ (k E hE bs' _ _ (hrep _ h6))
def gslot(ops:List Oper)(o:Oper):Option (Nat×Bool):=match o.guard with
 |some (j,w)=>match ops[j]? with
  |some x=>match x.dst with
   |some d=>some (d,w)
   |none=>none
  |none=>none
 |none=>none
theorem w67{E:Ent}{bs:Nat->Option Hd}{a:Act}{w:World}{opl:List Oper}(hr:RepS C E N s bs a w){d:Nat}{want b:Bool}(hg:gslot opl o=some (d,want))(hT:lk s.T d=some (.bool b)):
  Region.wanted o (yielded opl.toArray a.tmps)=(b==want):=by
 unfold gslot at hg;split at hg
 .rename_i j w hj;split at hg
  .rename_i x hx;split at hg
   .rename_i d' hd;simp only[sI7,pI7] at hg;obtain⟨rfl,rfl⟩:=hg;obtain⟨v,hv,hV⟩:=hr.1.1.2.2 d' _ hT
    cases hV;simp only[Region.wanted,hj,yielded,List.getElem?_toArray,hx,Option.bind_some,hd];simp only[hv]
    cases b<;>cases w<;>rfl
   .cases hg
  .cases hg
 .cases hg
def unguard(o:Oper):Oper:={ o with guard:=none }
theorem AOps.yes{opl:List Oper}{d:Nat}{want:Bool}(hg:gslot opl o=some (d,want))(hT:lk s.T d=some (.bool want))(k:AOps C m N opl.toArray (unguard o::rest) Q s):AOps C m N opl.toArray (o::rest) Q s:=by
 intro E hE bs a w hr;have:=k E hE bs a w hr;have hw:=w67 hr hg hT;have hw':Region.wanted (unguard o) (yielded opl.toArray a.tmps)=true:=by simp[Region.wanted,unguard]
 unfold wpList at this ⊢;rw[hw,beq_self_eq_true];rw[hw'] at this;exact this
theorem AOps.split{b:Bool}(d:Nat)(_hd:Nat.blt d N=true)(hT:lk s.T d=some (.bool b))(h1:b=true->AOps C m N ops l Q { s with T:=(d,.bool true)::rm d s.T,dec:=d::s.dec })(h2:b=false->AOps C m N ops l Q { s with T:=(d,.bool false)::rm d s.T,dec:=d::s.dec }):
  AOps C m N ops l Q s:=by
 have key:∀b',b=b'->AOps C m N ops l Q { s with T:=(d,.bool b')::rm d s.T,dec:=d::s.dec }->AOps C m N ops l Q s:=by
  rintro b' rfl h E hE bs a w hr;refine h E hE bs a w ⟨⟨⟨hr.1.1.1,hr.1.1.2.1,λi u hu=>?_⟩,hr.1.2⟩,hr.2⟩;have hu':lk ((d,.bool b)::rm d s.T) i=some u:=hu;rw[wez,wax] at hu';split at hu'
  .rename_i e;simp only[sI7] at hu';subst hu';have e':d=i:=e;subst e';exact hr.1.1.2.2 d _ hT
  .exact hr.1.1.2.2 i u hu'
 cases hb:b with
 |true=>exact key true hb (h1 hb)
 |false=>exact key false hb (h2 hb)
end
def hasN:List Nat->Nat->Bool
 |[],_=>false
 |d::l,i=>match Nat.beq d i with
  |true=>true
  |false=>hasN l i
theorem wu9{P:Program}{f:FuncId}(h:wg2 P f)(args:Array Value)(w:World):(callFunc f args).run P w= .ok (.enter f args) w:=by
 obtain⟨fn,h1,h2,h3⟩:=h;simp only[callFunc,Sem.run_bind,run_program,Result.andThen_ok,h1,h2,h3];rfl
def idxN:List Nat->Nat->Option Nat
 |[],_=>none
 |d::l,i=>match Nat.beq d i with
  |true=>some 0
  |false=>match idxN l i with
   |some k=>some (k+1)
   |none=>none
theorem wjk:∀(l:List Nat) (i k:Nat),idxN l i=some k->l[k]?=some i
 |[],i,k,h=>by cases h
 |d::l,i,k,h=>by
  simp only[idxN] at h;split at h
  .rename_i hd;simp only[sI7] at h;subst h;simp[Nat.eq_of_beq_eq_true hd]
  .split at h
   .rename_i k' hk;simp only[sI7] at h;subst h;simpa using wjk l i k' hk
   .cases h
def sig(pass:List Nat)(nx:Nat)(j:Nat):Option Nat:=match pass[j]? with
 |some r=>some r
 |none=>some (nx+(j - pass.length))
def wer(ρ:Nat->Option Nat)(O:List (Nat×AObj)):List Nat->List AObj->Prop
 |[],[]=>True
 |r::l,o'::l'=>(∃o,lk O r=some o/\o.mut=true/\OLe ρ o o')/\wer ρ O l l'
 |_,_=>False
theorem wer.len{ρ:Nat->Option Nat}{O:List (Nat×AObj)}:∀ {l:List Nat} {l':List AObj},wer ρ O l l'->l.length=l'.length
 |[],[],_=>rfl
 |_::l,_::l',h=>by simp[wer.len h.2]
 |[],_::_,h=>h.elim
 |_::_,[],h=>h.elim
theorem wer.get{ρ:Nat->Option Nat}{O:List (Nat×AObj)}:∀ {l:List Nat} {l':List AObj},wer ρ O l l'->∀(j r:Nat) (o':AObj),l[j]?=some r->l'[j]?=some o'->∃o,lk O r=some o/\o.mut=true/\OLe ρ o o'
 |[],[],_,j,r,o',h,_=>by simp at h
 |x::l,y::l',h,0,r,o',h1,h2=>by simp at h1 h2;subst h1;subst h2;exact h.1
 |x::l,y::l',h,j+1,r,o',h1,h2=>wer.get h.2 j r o' (by simpa using h1) (by simpa using h2)
 |[],_::_,h,_,_,_,_,_=>h.elim
 |_::_,[],h,_,_,_,_,_=>h.elim
def wbx(σ:Nat->Option Nat)(O':List (Nat×AObj)):List (Nat×AObj)->Prop
 |[]=>True
 |(r,o2)::l=>(∃j o',σ j=some r/\lk O' j=some o'/\OLe σ o' o2)/\wbx σ O' l
theorem wbx.get{σ:Nat->Option Nat}{O':List (Nat×AObj)}:∀ {l:List (Nat×AObj)},wbx σ O' l->∀r o2,lk l r=some o2->∃j o',σ j=some r/\lk O' j=some o'/\OLe σ o' o2
 |[],_,r,o2,h=>by simp[lk] at h
 |(x,y)::l,hb,r,o2,h=>by
  rw[wax] at h;split at h
  .rename_i e;have e':x=r:=e;subst e';simp only[sI7] at h;subst h;exact hb.1
  .exact wbx.get hb.2 r o2 h
def deads(pass:List Nat):List (Nat×AObj):=pass.map λr=>(r,.dead)
theorem wc7{α:Type}(l l':List (Nat×α))(r:Nat):lk (l++l') r=(lk l r).or (lk l' r):=by
 induction l with
 |nil=>simp[lk]
 |cons p l ih=>simp only[List.cons_append,wax,ih];split<;>simp
theorem wr4(pass:List Nat)(r:Nat):lk (deads pass) r=if r∈pass then some .dead else none:=by
 induction pass with
 |nil=>simp[deads,lk]
 |cons x l ih=>
  have:deads (x::l)=(x,.dead)::deads l:=rfl;rw[this,wax,ih]
  by_cases h:x=r
  .subst h;simp
  .simp[h,Ne.symm h]
section
variable {C:Ctx} {m N:Nat} {ops:Array Oper} {rest:List Oper} {Q:Exit->St->Prop} {s:St} {o:Oper}
theorem AOps.call{fo:Operand}{args:Array Operand}{at_:Array TypeId}{f:FuncId}{cap as:List AV}{cobjs:List AObj}{R:AV->List (Nat×AObj)->Prop}(pass:List Nat)
   (hop:o.op= .call { callee:=.value fo,args:=args,argTypes:=at_ }) (hg:o.guard=none) (hd:wba N o.dst=true) (hf:evO (lk s.T) fo=some (.func f cap)) (ha:evL (lk s.T) args.toList=some as)
   (hnd:pass.Nodup) (hO:wer (idxN pass) s.O pass cobjs) (hc:wal C f (AV.rnL (idxN pass) (as++cap)) cobjs R)
   (k:∀u O',R u O'->∃u2 O2,u.rn (sig pass s.nx)=u2/\wbx (sig pass s.nx) O' O2/\AOps C m N ops rest Q { s with T:=putT o.dst u2 s.T,O:=O2++(deads pass++s.O),nx:=s.nx+16 }):
   AOps C m N ops (o::rest) Q s:=by
 intro E1 hE1 bs a w hr;obtain⟨⟨hF,hW⟩,hfr,hmn⟩:=hr;refine wpList_plain hg λK hK=>?_;have hlen:=hO.len;have hpl:∀(j r:Nat),pass[j]?=some r->r<s.nx/\∃o,lk s.O r=some o/\o.mut=true:=by
   intro j r hj;have hj':j<cobjs.length:=by rw[← hlen];exact(List.getElem?_eq_some_iff.1 hj).1
   obtain⟨ob,h1,h2,_⟩:=hO.get j r _ hj (List.getElem?_eq_getElem hj');refine⟨?_,ob,h1,h2⟩
   rcases Nat.lt_or_ge r s.nx with h | h
   · exact h
   · rw[(hfr r h).1] at h1;cases h1
 have hbsome:∀r ob,lk s.O r=some ob->ob.mut=true->∃h,bs r=some h:=by
   intro r ob h1 h2;have:=hW.obj r ob h1
   cases ob with
   |cells cs t=>obtain⟨b,c,_,h,_⟩:=this;exact⟨_,h⟩
   |row t sz n f fr=>rcases this with⟨h,_⟩ | ⟨b,c,_,h,_⟩<;>exact⟨_,h⟩
   |amap es=>obtain⟨b,c,_,_,h,_⟩:=this;exact⟨_,h⟩
   |siter l p=>obtain⟨b,c,_,h,_⟩:=this;exact⟨_,h⟩
   |miter m n l=>obtain⟨b,c,_,_,_,h,_⟩:=this;exact⟨_,h⟩
   |dead=>simp[AObj.mut] at h2
 -- the callee's side
 let bs0:Nat->Option Hd:=λj=>(pass[j]?).bind bs
 let M1:=MB E1 (lk s.O) bs
 let E:Ent:={ w0:=w,m:=cobjs.length,bs0:=bs0,mut0:=mutB (lkL cobjs) bs0,outer:=λb=>M1 b/\¬ mutB (lkL cobjs) bs0 b }
 have hmo:∀(j r:Nat) (o':AObj),pass[j]?=some r->cobjs[j]?=some o'->o'.mut=true:=λj r o' h1 h2=>by
   obtain⟨ob,h3,h4,h5⟩:=hO.get j r o' h1 h2;rw[← h5.mut];exact h4
 have m0:∀b,mutB (lkL cobjs) bs0 b->∃(j r:Nat) (ob:AObj) (c:Nat),pass[j]?=some r/\lk s.O r=some ob/\ob.mut=true/\bs r=some (.blk b c):=by
   rintro b ⟨j,o',c,h1,h2,h3⟩;have hj:j<pass.length:=by rw[hlen];exact(List.getElem?_eq_some_iff.1 h1).1
   have hp:=List.getElem?_eq_getElem hj;obtain⟨ob,h4,h5,_⟩:=hO.get j _ o' hp h1;refine⟨j,_,ob,c,hp,h4,h5,?_⟩;simpa[bs0,hp] using h3
 have m0':∀b,mutB (lkL cobjs) bs0 b->mutB (lk s.O) bs b:=λb h=>by
   obtain⟨j,r,ob,c,h1,h2,h3,h4⟩:=m0 b h;exact⟨r,ob,c,h2,h3,h4⟩
 have hM0:∀b,MB E (lkL cobjs) bs0 b↔M1 b:=λb=>by
   constructor
   · rintro(h | h)
     · exact h.1
     · exact .inr (m0' b h)
   · intro h
     by_cases hm:mutB (lkL cobjs) bs0 b
     · exact .inr hm
     · exact .inl ⟨h,hm⟩
 have hρ:∀r k x,idxN pass r=some k->bs r=some x->bs0 k=some x:=λr k x hr hx=>by
   show (pass[k]?).bind bs=some x;rw[wjk pass r k hr];exact hx
 have ρat:∀(j r:Nat),pass[j]?=some r->idxN pass r=some j:=by
   intro j r hj;have hex:∀(l:List Nat) (j:Nat),l[j]?=some r->∃k,idxN l r=some k:=by
     intro l
     induction l with
     |nil=>intro j h;simp at h
     |cons d l ih=>
       intro j h;simp only[idxN];split
       · exact⟨_,rfl⟩
       · rename_i hne
         cases j with
         |zero=>simp at h;subst h;simp[Nat.beq_refl] at hne
         |succ j=>
           obtain⟨k,hk⟩:=ih j (by simpa using h);rw[hk];exact⟨_,rfl⟩
   obtain⟨k,hk⟩:=hex pass j hj;have hk':=wjk pass r k hk;have:k=j:=by
     exact(List.getElem?_inj (List.getElem?_eq_some_iff.1 hk').1 hnd).1 (hk'.trans hj.symm)
   rw[hk,this]
 have vin:∀ {v:Value} {u:AV},V w M1 bs v u->V w (MB E (lkL cobjs) bs0) bs0 v (u.rn (idxN pass)):=λh=>
   (h.rn (idxN pass) bs0 hρ).step_ (λb _ hb hb'=>hb ((hM0 b).1 hb')) (λ_ _ _=>rfl) (lR7 _) _ λ_ _ hh=>hh
 have hW0:WRep C E (lkL cobjs) bs0 w:={
   obj:=λj o' ho=>by
     have hj:j<pass.length:=by rw[hlen];exact(List.getElem?_eq_some_iff.1 ho).1
     have hp:=List.getElem?_eq_getElem hj;obtain⟨ob,h4,h5,h6⟩:=hO.get j _ o' hp ho;exact(h6.ok hρ (ρat j _ hp) (hW.obj _ _ h4)).step ⟨λ_ _ h=>h,λb _ hb hb'=>hb ((hM0 b).1 hb'),λ_ _ _=>rfl,lR7 _⟩ λ_ _ _=>rfl
   sep:=λj j' o1 o2 b c c' h1 h2 n1 n2 b1 b2=>by
     have hj:j<pass.length:=by rw[hlen];exact(List.getElem?_eq_some_iff.1 h1).1
     have hj':j'<pass.length:=by rw[hlen];exact(List.getElem?_eq_some_iff.1 h2).1
     have hp:=List.getElem?_eq_getElem hj;have hp':=List.getElem?_eq_getElem hj';obtain⟨q1,h4,h5,_⟩:=hO.get j _ o1 hp h1;obtain⟨q2,h4',h5',_⟩:=hO.get j' _ o2 hp' h2;have:=hW.sep _ _ q1 q2 b c c' h4 h4' h5 h5' (by simpa[bs0,hp] using b1) (by simpa[bs0,hp'] using b2);exact(List.getElem?_inj hj hnd).1 (by rw[hp,hp',this])
   out:=λb hb ho=>ho.2 hb
   frz:=λj t sz n f b c ho hb=>by
     have hj:j<pass.length:=by rw[hlen];exact(List.getElem?_eq_some_iff.1 ho).1
     have:=hmo j _ _ (List.getElem?_eq_getElem hj) ho;simp[AObj.mut] at this
   high:=λb hb=>hW.high b ((hM0 b).1 hb)
   lt:=λj b c hb=>by
     show b<w.heap.size
     cases hp:pass[j]? with
     |none=>simp[bs0,hp] at hb
     |some r=>exact hW.lt r b c (by simpa[bs0,hp] using hb)
   outlt:=λb hb=>by
     show b<w.heap.size
     rcases hb.1 with h | ⟨r,ob,c,_,_,h⟩
     · exact Nat.lt_of_lt_of_le (hW.outlt b h) hW.size
     · exact hW.lt r b c h
   keep:=λb _ _=>rfl
   old:=λb hb=>.inl hb
   size:=lR7 _
   pre:=λr h _ hb=>hb
   os:=rfl
   tape:=.refl _ _
   output:=rfl
   laid:=hW.laid
   gle:=Nat.le_trans hW.gle hW.size }
 have hsf:=wbe hF hf;obtain⟨hal,hav⟩:=wlt hF _ _ ha;generalize hfe:a.eval fo=vf at hsf
 cases hsf with
 |func hcl hcv=>
   rename_i caps;have hcall:=hc.2 E bs0 w ((args.toList.map a.eval)++caps.toList) rfl rfl rfl hW0 (λr hr=>by
       show (pass[r]?).bind bs=none;rw[List.getElem?_eq_none (by omega)];rfl)
     (by rw[wfc,lA7,lA7,hal];show _+caps.size=_;rw[hcl])
     (λj v u hv hu=>by
       rw[wfd] at hu;obtain⟨u',hu',rfl⟩:=Option.map_eq_some_iff.1 hu;refine vin ?_
       rcases Nat.lt_or_ge j as.length with hj | hj
       · rw[List.getElem?_append_left (by rw[hal];exact hj)] at hv;rw[List.getElem?_append_left hj] at hu';exact hav j v u' hv hu'
       · rw[List.getElem?_append_right (by rw[hal];exact hj),hal] at hv;rw[List.getElem?_append_right hj] at hu';exact hcv _ v u' (by simpa using hv) hu')
   have hrun:(execOp a.eval o).run C.P w= .ok (.enter f ((args.toList.map a.eval)++caps.toList).toArray) w:=by
     have e:((args.toList.map a.eval)++caps.toList).toArray=args.map a.eval++caps:=by
       apply Array.toList_inj.1;simp
     rw[e];simp only[execOp,hop,resolve,hfe,Deferred.ofValue,Sem.run_bind,Sem.run_pure,Result.andThen_ok,invoke,Array.empty_append];exact wu9 hc.1 _ w
   unfold Oper.wp;rw[hrun,Oper.upon_enter];refine hcall.mono ?_;rintro e w' ⟨v,u,O',bs',rfl,hR,hW',hV',hfr'⟩;obtain⟨u2,O2,rfl,hOB,kk⟩:=k u O' hR
   -- the caller's side, behind the call
   let bs2:Nat->Option Hd:=λr=>if r<s.nx then bs r else bs' (r - s.nx+pass.length)
   let O3:=O2++(deads pass++s.O)
   have hold:∀(j r:Nat),pass[j]?=some r->bs' j=bs r:=by
     intro j r hj;obtain⟨_,ob,h1,h2⟩:=hpl j r hj;obtain⟨h,hh⟩:=hbsome r ob h1 h2;rw[hh];refine hW'.pre j h ?_ ?_
     · show j<cobjs.length;rw[← hlen];exact(List.getElem?_eq_some_iff.1 hj).1
     · show (pass[j]?).bind bs=some h;rw[hj];exact hh
   have sigb:∀(j r:Nat),sig pass s.nx j=some r->bs2 r=bs' j:=by
     intro j r hj;unfold sig at hj;split at hj
     · rename_i r' hp;simp only[sI7] at hj;subst hj;show (if r'<s.nx then bs r' else _)=bs' j
       rw[if_pos (hpl j r' hp).1,hold j r' hp]
     · rename_i hp;simp only[sI7] at hj;subst hj;have:pass.length<=j:=List.getElem?_eq_none_iff.1 hp;show (if s.nx+(j - pass.length)<s.nx then _ else bs' (s.nx+(j - pass.length) - s.nx+pass.length))=bs' j
       rw[if_neg (by omega)];congr 1;omega
   have hσ:∀j r x,sig pass s.nx j=some r->bs' j=some x->bs2 r=some x:=λj r x hj hx=>by rw[sigb j r hj];exact hx
   -- where an object of the new table comes from
   have cases3:∀r o2,lk O3 r=some o2->(∃j o',sig pass s.nx j=some r/\lk O' j=some o'/\OLe (sig pass s.nx) o' o2)∨o2= .dead∨(r ∉ pass/\lk s.O r=some o2):=by
     intro r o2 h;rw[wc7,wc7,wr4] at h
     cases hx:lk O2 r with
     |some y=>
       rw[hx] at h;simp only[Option.some_or,sI7] at h;subst h;exact .inl (hOB.get r y hx)
     |none=>
       rw[hx] at h;simp only[Option.none_or] at h;split at h
       · simp only[Option.some_or,sI7] at h;exact .inr (.inl h.symm)
       · rename_i hnp;exact .inr (.inr ⟨hnp,by simpa using h⟩)
   have oldnx:∀r ob,lk s.O r=some ob->r<s.nx:=by
     intro r ob h
     rcases Nat.lt_or_ge r s.nx with hlt | hge
     · exact hlt
     · rw[(hfr r hge).1] at h;cases h
   have oldmut:∀r ob b c,r ∉ pass->lk s.O r=some ob->ob.mut=true->bs r=some (.blk b c)->¬ mutB (lkL cobjs) bs0 b:=by
     intro r ob b c hnp h1 h2 h3 hm;obtain⟨j,r',ob',c',p1,p2,p3,p4⟩:=m0 b hm;have:=hW.sep r r' ob ob' b c c' h1 p2 h2 p3 h3 p4;subst this;exact hnp (List.mem_of_getElem? p1)
   have mut3:∀b,mutB (lk O3) bs2 b->mutB (lk O') bs' b∨(mutB (lk s.O) bs b/\¬ mutB (lkL cobjs) bs0 b):=by
     rintro b ⟨r,o2,c,h1,h2,h3⟩
     rcases cases3 r o2 h1 with⟨j,o',q1,q2,q3⟩ | rfl | ⟨q1,q2⟩
     · exact .inl ⟨j,o',c,q2,by rw[q3.mut];exact h2,by rw[← sigb j r q1];exact h3⟩
     · simp[AObj.mut] at h2
     · have hlt:=oldnx r o2 q2;have h3':bs r=some (.blk b c):=by
         have:bs2 r=bs r:=if_pos hlt;rw[← this];exact h3
       exact .inr ⟨⟨r,o2,c,q2,h2,h3'⟩,oldmut r o2 b c q1 q2 h2 h3'⟩
   have hM2:∀b,MB E1 (lk O3) bs2 b->MB E (lk O') bs' b:=by
     rintro b (h | h)
     · exact .inl ⟨.inl h,λhm=>hW.out b (m0' b hm) h⟩
     · rcases mut3 b h with h | ⟨h,hn⟩
       · exact .inr h
       · exact .inl ⟨.inr h,hn⟩
   have hM3:∀b,b<w.heap.size->MB E (lk O') bs' b->M1 b:=by
     rintro b hb (h | h)
     · exact h.1
     · rcases hW'.old b h with h | h
       · exact .inr (m0' b h)
       · have:w.heap.size<=b:=h;omega
   have heap_:∀b,b<w.heap.size->¬ mutB (lkL cobjs) bs0 b->w'.heap[b]?=w.heap[b]?:=λb hb hn=>hW'.keep b hb hn;have bs_:∀r h,bs r=some h->bs2 r=some h:=by
     intro r h hh;have hlt:r<s.nx:=by
       rcases Nat.lt_or_ge r s.nx with hlt | hge
       · exact hlt
       · rw[(hfr r hge).2] at hh;cases hh
     have:bs2 r=bs r:=if_pos hlt;rw[this];exact hh
   have hS:Step w M1 bs w' (MB E1 (lk O3) bs2) bs2:=
     ⟨bs_,λb hb hn h=>hn (hM3 b hb (hM2 b h)),λb hb hn=>heap_ b hb λhm=>hn (.inr (m0' b hm)),hW'.size⟩
   have hSV:∀ {v:Value} {u:AV},V w' (MB E (lk O') bs') bs' v u->V w' (MB E1 (lk O3) bs2) bs2 v (u.rn (sig pass s.nx)):=λh=>
     (h.rn (sig pass s.nx) bs2 hσ).step_ (λb _ hb hb'=>hb (hM2 b hb')) (λ_ _ _=>rfl) (lR7 _) _ λ_ _ hh=>hh
   have hW2:WRep C E1 (lk O3) bs2 w':={
     obj:=λr o2 ho=>by
       rcases cases3 r o2 ho with⟨j,o',q1,q2,q3⟩ | rfl | ⟨q1,q2⟩
       · exact(q3.ok hσ q1 (hW'.obj j o' q2)).step ⟨λ_ _ h=>h,λb _ hb hb'=>hb (hM2 b hb'),λ_ _ _=>rfl,lR7 _⟩ λ_ _ _=>rfl
       · trivial
       · by_cases hdd:o2= .dead
         · subst hdd;trivial
         refine(hW.obj r o2 q2).step hS λb c hb=>heap_ b (hW.lt r b c hb) ?_
         cases hmm:o2.mut with
         |true=>exact oldmut r o2 b c q1 q2 hmm hb
         |false=>
           intro hm
           cases o2 with
           |row t sz n f fr=>
             have:fr=true:=by simpa[AObj.mut] using hmm
             subst this;exact hW.frz r t sz n f b c q2 hb (.inr (m0' b hm))
           |dead=>exact hdd rfl
           |_=>simp[AObj.mut] at hmm
     sep:=λr r' o1 o2 b c c' h1 h2 n1 n2 b1 b2=>by
       have mem:∀r o2 b c,lk O3 r=some o2->o2.mut=true->bs2 r=some (.blk b c)->(∃j o',sig pass s.nx j=some r/\lk O' j=some o'/\o'.mut=true/\bs' j=some (.blk b c))∨(r ∉ pass/\lk s.O r=some o2/\bs r=some (.blk b c)):=by
         intro r o2 b c h1 h2 h3
         rcases cases3 r o2 h1 with⟨j,o',q1,q2,q3⟩ | rfl | ⟨q1,q2⟩
         · exact .inl ⟨j,o',q1,q2,by rw[q3.mut];exact h2,by rw[← sigb j r q1];exact h3⟩
         · simp[AObj.mut] at h2
         · have:bs2 r=bs r:=if_pos (oldnx r o2 q2);exact .inr ⟨q1,q2,by rw[← this];exact h3⟩
       have clash:∀j o' r ob b c c',lk O' j=some o'->o'.mut=true->bs' j=some (.blk b c)->r ∉ pass->lk s.O r=some ob->ob.mut=true->bs r=some (.blk b c')->False:=by
         intro j o' r ob b c c' h1 h2 h3 h4 h5 h6 h7
         rcases hW'.old b ⟨j,o',c,h1,h2,h3⟩ with h | h
         · exact oldmut r ob b c' h4 h5 h6 h7 h
         · have hlt:=hW.lt r b c' h7;have:w.heap.size<=b:=h;omega
       rcases mem r o1 b c h1 n1 b1 with⟨j,o',q1,q2,q3,q4⟩ | ⟨q1,q2,q3⟩
       · rcases mem r' o2 b c' h2 n2 b2 with⟨j',o'',p1,p2,p3,p4⟩ | ⟨p1,p2,p3⟩
         · have:=hW'.sep j j' o' o'' b c c' q2 p2 q3 p3 q4 p4;subst this;rw[q1] at p1;injection p1
         · exact(clash j o' r' o2 b c c' q2 q3 q4 p1 p2 n2 p3).elim
       · rcases mem r' o2 b c' h2 n2 b2 with⟨j',o'',p1,p2,p3,p4⟩ | ⟨p1,p2,p3⟩
         · exact(clash j' o'' r o1 b c' c p2 p3 p4 q1 q2 n1 q3).elim
         · exact hW.sep r r' o1 o2 b c c' q2 p2 n1 n2 q3 p3
     out:=λb hb ho=>by
       rcases mut3 b hb with h | ⟨h,_⟩
       · exact hW'.out b h ⟨.inl ho,λhm=>hW.out b (m0' b hm) ho⟩
       · exact hW.out b h ho
     frz:=λr t sz n f b c ho hb hM=>by
       rcases cases3 r _ ho with⟨j,o',q1,q2,q3⟩ | h | ⟨q1,q2⟩
       · cases o'<;>simp only[OLe] at q3;obtain⟨rfl,rfl,rfl,rfl,_⟩:=q3;exact hW'.frz j _ _ _ _ b c q2 (by rw[← sigb j r q1];exact hb) (hM2 b hM)
       · cases h
       · have e:bs2 r=bs r:=if_pos (oldnx r _ q2);have hb':bs r=some (.blk b c):=by rw[← e];exact hb
         exact hW.frz r t sz n f b c q2 hb' (hM3 b (hW.lt r b c hb') (hM2 b hM))
     high:=λb hb=>hW'.high b (hM2 b hb)
     lt:=λr b c hb=>by
       by_cases hlt:r<s.nx
       · have e:bs2 r=bs r:=if_pos hlt;exact Nat.lt_of_lt_of_le (hW.lt r b c (by rw[← e];exact hb)) hW'.size
       · have e:bs2 r=bs' (r - s.nx+pass.length):=if_neg hlt;exact hW'.lt _ b c (by rw[← e];exact hb)
     outlt:=hW.outlt
     keep:=λb hb hm=>by
       have hlt:b<w.heap.size:=Nat.lt_of_lt_of_le hb hW.size;rw[heap_ b hlt (λh=>?_)]
       · exact hW.keep b hb hm
       · rcases hW.old b (m0' b h) with h | h
         · exact hm h
         · omega
     old:=λb hb=>by
       rcases mut3 b hb with h | ⟨h,_⟩
       · rcases hW'.old b h with h | h
         · exact hW.old b (m0' b h)
         · right;exact Nat.le_trans hW.size h
       · exact hW.old b h
     size:=Nat.le_trans hW.size hW'.size
     pre:=λr h hr hb=>bs_ r h (hW.pre r h hr hb)
     os:=hW'.os.trans hW.os
     tape:=hW'.tape.trans hW.tape
     output:=hW'.output.trans hW.output
     laid:=hW'.laid
     gle:=hW.gle }
   refine hK _ _ (kk E1 hE1 bs2 _ _ ⟨⟨(hF.step hS).putT hd (hSV hV'),hW2⟩,λr hr=>?_,Nat.le_add_right_of_le hmn⟩);have hr':s.nx+16<=r:=hr;have h16:lk O' (r - s.nx+pass.length)=none/\bs' (r - s.nx+pass.length)=none:=hfr' _ (by rw[← hlen];omega);refine⟨?_,?_⟩
   · show lk O3 r=none
     cases hx:lk O3 r with
     |none=>rfl
     |some o2=>
       exfalso
       rcases cases3 r o2 hx with⟨j,o',q1,q2,_⟩ | rfl | ⟨_,q2⟩
       · unfold sig at q1;split at q1
         · rename_i r' hp;simp only[sI7] at q1;subst q1;have:=(hpl j _ hp).1;omega
         · rename_i hp;simp only[sI7] at q1;have:pass.length<=j:=List.getElem?_eq_none_iff.1 hp;rw[(hfr' j (by rw[← hlen];omega)).1] at q2
           cases q2
       · rw[wc7,wc7,wr4] at hx
         cases hx2:lk O2 r with
         |some y=>
           obtain⟨j,o',q1,q2,_⟩:=hOB.get r y hx2;unfold sig at q1;split at q1
           · rename_i r' hp;simp only[sI7] at q1;subst q1;have:=(hpl j _ hp).1;omega
           · rename_i hp;simp only[sI7] at q1;have:pass.length<=j:=List.getElem?_eq_none_iff.1 hp;rw[(hfr' j (by rw[← hlen];omega)).1] at q2
             cases q2
         |none=>
           rw[hx2] at hx;simp only[Option.none_or] at hx;split at hx
           · rename_i hmem;obtain⟨j,hj⟩:=List.getElem?_of_mem hmem;have:=(hpl j r hj).1;omega
           · rw[(hfr r (by omega)).1] at hx
             cases hx
       · have:=oldnx r o2 q2;omega
   · have e:bs2 r=bs' (r - s.nx+pass.length):=if_neg (by omega);show bs2 r=none;rw[e];exact h16.2
end
def wew(K:St->Prop)(Q:Exit->St->Prop):Exit->St->Prop
 |.normal,s=>K s
 |e,s=>Q e s
def wl9(id:Nat)(Q:Exit->St->Prop):Exit->St->Prop
 |.exit i,s=>match Nat.beq i id with
  |true=>Q .normal s
  |false=>Q (.exit i) s
 |e,s=>Q e s
section
variable {C:Ctx} {m N:Nat} {Q:Exit->St->Prop} {s s':St} {x y:Code}
theorem AWP.skip(h:Q .normal s):AWP C m N .skip Q s:=λ_ _ bs _ _ hr=>wp_skip ⟨s,bs,h,hr⟩
theorem AWP.label{l:Nat}(h:Q .normal s):AWP C m N (.label l) Q s:=λ_ _ bs _ _ hr=>wp_label ⟨s,bs,h,hr⟩
theorem AWP.exit{id:Nat}(h:Q (.exit id) s):AWP C m N (.exit id) Q s:=λ_ _ bs _ _ hr=>wp_exit ⟨s,bs,h,hr⟩
theorem AWP.ret(h:Q .ret s):AWP C m N .ret Q s:=λ_ _ bs _ _ hr=>wp_ret ⟨s,bs,h,hr⟩
theorem AWP.seq(h:AWP C m N x (wew (AWP C m N y Q) Q) s):AWP C m N (.seq x y) Q s:=by
 intro E hE bs a w hr;refine wp_seq (wp_mono (h E hE bs a w hr) ?_);rintro e a w ⟨s',bs',hq,hr'⟩
 cases e with
 |normal=>exact hq E hE bs' a w hr'
 |exit id=>exact⟨s',bs',hq,hr'⟩
 |goto l=>exact⟨s',bs',hq,hr'⟩
 |ret=>exact⟨s',bs',hq,hr'⟩
 |panic c=>exact⟨s',bs',hq,hr'⟩
 |outgrown=>exact⟨s',bs',hq,hr'⟩
theorem AWP.block{id:Nat}(h:AWP C m N x (wl9 id Q) s):AWP C m N (.block id x) Q s:=by
 intro E hE bs a w hr;refine wp_block (wp_mono (h E hE bs a w hr) ?_);rintro e a w ⟨s',bs',hq,hr'⟩
 cases e with
 |exit i=>
  simp only[wl9] at hq;split at hq
  .rename_i hb;have hi:=Nat.eq_of_beq_eq_true hb;simp only[Exit.inBlock,hi,if_true];exact⟨s',bs',hq,hr'⟩
  .rename_i hb;have hi:¬ i=id:=λh=>by subst h;simp[Nat.beq_refl] at hb
   simp only[Exit.inBlock,hi,if_false];exact⟨s',bs',hq,hr'⟩
 |normal=>exact⟨s',bs',hq,hr'⟩
 |goto l=>exact⟨s',bs',hq,hr'⟩
 |ret=>exact⟨s',bs',hq,hr'⟩
 |panic c=>exact⟨s',bs',hq,hr'⟩
 |outgrown=>exact⟨s',bs',hq,hr'⟩
theorem AWP.cond{c:Operand}{b:Bool}(hc:evO (lk s.T) c=some (.bool b))(ht:b=true->AWP C m N x Q s)(hf:b=false->AWP C m N y Q s):AWP C m N (.cond c x y) Q s:=by
 intro E hE bs a w hr;have hv:=wbe hr.1.1 hc;generalize hx:a.eval c=v at hv
 cases hv;exact wp_cond_split hx (λh=>ht h E hE bs a w hr) (λh=>hf h E hE bs a w hr)
theorem AWP.region{id:Nat}{l:List Oper}(h:AOps C m N l.toArray l Q s):AWP C m N (.region id l.toArray false) Q s:=
 λE hE bs a w hr=>wp_region_lit (h E hE bs a w hr)
theorem AWP.weak{ρ:Nat->Option Nat}(hw:Weak m ρ s s')(h:AWP C m N x Q s'):AWP C m N x Q s:=by
 intro E hE bs a w hr;subst hE;obtain⟨bs',hr',_⟩:=hr.weak hw;exact h E rfl bs' a w hr'
theorem AWP.loop{ι:Type}(S:ι->St)(I:ι->Prop)(μ:ι->Nat)(i0:ι)(hI:I i0){ρ0:Nat->Option Nat}(hw:Weak m ρ0 s (S i0))
   (round:∀i,I i->AWP C m N x (wew (λs'=>∃i' ρ,I i'/\μ i'<μ i/\Weak m ρ s' (S i')) Q) (S i)):AWP C m N (.loop x) Q s:=by
 intro E hE bs a w hr;subst hE;obtain⟨bs0,hr0,_⟩:=hr.weak hw;refine wp_loop_ghost (λn a w=>∃i bs,I i/\μ i=n/\RepS C E N (S i) bs a w) (μ i0) ⟨i0,bs0,hI,rfl,hr0⟩ ?_;rintro n a w ⟨i,bs,hi,rfl,hr⟩;refine wp_mono (round i hi E rfl bs a w hr) ?_;rintro e a w ⟨s',bs',hq,hr'⟩
 cases e with
 |normal=>
   obtain⟨i',ρ,hi',hlt,hwk⟩:=hq;obtain⟨bs'',hr'',_⟩:=hr'.weak hwk;exact⟨μ i',hlt,i',bs'',hi',rfl,hr''⟩
 |exit id=>exact⟨s',bs',hq,hr'⟩
 |goto l=>exact⟨s',bs',hq,hr'⟩
 |ret=>exact⟨s',bs',hq,hr'⟩
 |panic c=>exact⟨s',bs',hq,hr'⟩
 |outgrown=>exact⟨s',bs',hq,hr'⟩
end
def ren(m:Nat)(l:List (Nat×Nat))(r:Nat):Option Nat:=match Nat.blt r m with
 |true=>some r
 |false=>lk l r
def whc(m nx:Nat):List (Nat×Nat)->Bool
 |[]=>true
 |(_,k)::l=>Nat.ble m k && Nat.blt k nx && !(hasN (l.map Prod.snd) k) && whc m nx l
theorem wbl(l:List Nat)(k:Nat):hasN l k=true↔k∈l:=by
 induction l with
 |nil=>simp[hasN]
 |cons d l ih=>
  simp only[hasN];split
  .rename_i h;simp[Nat.eq_of_beq_eq_true h]
  .rename_i h;have:¬ k=d:=λe=>by subst e;simp[Nat.beq_refl] at h
   simp[ih,this]
theorem wk7{α:Type}:∀(l:List (Nat×α)) (i:Nat) (x:α),lk l i=some x->(i,x)∈l
 |[],i,x,h=>by simp[lk] at h
 |p::l,i,x,h=>by
  rw[wax] at h;split at h
  .rename_i e;simp only[sI7] at h;obtain⟨a,b⟩:=p;simp only at e h;subst e;subst h;simp
  .exact List.mem_cons_of_mem _ (wk7 l i x h)
theorem wvl{m nx:Nat}:∀(l:List (Nat×Nat)),whc m nx l=true->(∀r k,lk l r=some k->m<=k/\k<nx)/\∀r r' k,lk l r=some k->lk l r'=some k->r=r'
 |[],_=>⟨λr k h=>by simp[lk] at h,λr r' k h=>by simp[lk] at h⟩
 |(x,y)::l,h=>by
  simp only[whc,bA7,Nat.ble_eq,Nat.blt_eq,Bool.not_eq_true'] at h;obtain⟨⟨⟨h1,h2⟩,h3⟩,h4⟩:=h;obtain⟨i1,i2⟩:=wvl l h4;have no:∀r,lk l r≠some y:=λr hr=>by
   have:=wk7 l r y hr;have hm:y∈l.map Prod.snd:=List.mem_map.2 ⟨_,this,rfl⟩;rw[(wbl _ _).2 hm] at h3
   cases h3
  refine⟨λr k hr=>?_,λr r' k hr hr'=>?_⟩
  .rw[wax] at hr;split at hr
   .simp only[sI7] at hr;subst hr;exact⟨h1,h2⟩
   .exact i1 r k hr
  .rw[wax] at hr hr';split at hr
   .rename_i e;simp only[sI7] at hr;subst hr;split at hr'
    .rename_i e';exact e.symm.trans e'
    .exact(no r' hr').elim
   .split at hr'
    .simp only[sI7] at hr';subst hr';exact(no r hr).elim
    .exact i2 r r' k hr hr'
def TLe(ρ:Nat->Option Nat)(T:List (Nat×AV)):List (Nat×AV)->Prop
 |[]=>True
 |(d,u')::l=>(∃u,lk T d=some u/\u.rn ρ=u')/\TLe ρ T l
theorem TLe.get{ρ:Nat->Option Nat}{T:List (Nat×AV)}:∀ {l:List (Nat×AV)},TLe ρ T l->∀d u',lk l d=some u'->∃u,lk T d=some u/\u.rn ρ=u'
 |[],_,d,u',h=>by simp[lk] at h
 |(x,y)::l,hT,d,u',h=>by
  rw[wax] at h;split at h
  .rename_i e;have e':x=d:=e;subst e';simp only[sI7] at h;subst h;exact hT.1
  .exact TLe.get hT.2 d u' h
theorem Weak.of{m nx nx':Nat}{dec dec':List Nat}{T T':List (Nat×AV)}{O O':List (Nat×AObj)}(l:List (Nat×Nat))(h1:whc m nx' l=true)(h2:TLe (ren m l) T T')(h3:wbx (ren m l) O O')(h4:m<=nx'):
  Weak m (ren m l) ⟨T,O,nx,dec⟩ ⟨T',O',nx',dec'⟩:=by
 obtain⟨i1,i2⟩:=wvl l h1;have lo:∀r,r<m->ren m l r=some r:=λr hr=>by
  have:Nat.blt r m=true:=by simpa[Nat.blt_eq] using hr
  simp[ren,this]
 have hi:∀r,¬ r<m->ren m l r=lk l r:=λr hr=>by
  have:Nat.blt r m=false:=by
   cases hb:Nat.blt r m with
   |false=>rfl
   |true=>exact absurd (by simpa[Nat.blt_eq] using hb) hr
  simp[ren,this]
 refine⟨lo,λr r' k hr hr'=>?_,λd u' h=>h2.get d u' h,λk o' h=>?_,λr k hr=>?_,h4⟩
 .by_cases h:r<m
  .rw[lo r h] at hr
   by_cases h':r'<m
   .rw[lo r' h'] at hr';rw[← oJ7 hr'] at hr;exact oJ7 hr
   .rw[hi r' h'] at hr';have:=(i1 r' k hr').1;have:=oJ7 hr;omega
  .rw[hi r h] at hr
   by_cases h':r'<m
   .rw[lo r' h'] at hr';have:=(i1 r k hr).1;have:=oJ7 hr';omega
   .rw[hi r' h'] at hr';exact i2 r r' k hr hr'
 .obtain⟨j,o,h5,h6,h7⟩:=h3.get k o' h;exact⟨j,o,h5,h6,h7⟩
 .by_cases h:r<m
  .rw[lo r h] at hr;have:=oJ7 hr;show k<nx';omega
  .rw[hi r h] at hr;exact(i1 r k hr).2
def resA(te:TE)(T:Nat->Option AV)(O:Nat->Option AObj):List ResultVar->Option (List AV×Prop)
 |[]=>some ([],True)
 |.tmp t::l=>match T t,resA te T O l with
  |some u,some (us,vc)=>some (u::us,vc)
  |_,_=>none
 |.cell a t::l=>match T a with
  |some p=>match wdw te O t p,resA te T O l with
   |some (u,v1),some (us,vc)=>some (u::us,v1/\vc)
   |_,_=>none
  |none=>none
def one:List AV->AV
 |[u]=>u
 |us=>.tuple us
def whb(tmps:Array Value):ResultVar->Sem Value
 |.tmp t=>pure (tmps.getD t undef)
 |.cell x t=>do loadVar t (← asAddr (tmps.getD x undef))
section
variable {C:Ctx} {te:TE} (hte:TE.ok C.P te) (hn:∀t ti,lk te t=some ti->wa8 ti.desc=false->ti.sz=1) {E:Ent} {O:Nat->Option AObj} {bs:Nat->Option Hd} {w:World} {N:Nat} {T:Nat->Option AV} {a:Act}
include hte hn
theorem wri(hF:FRep w (MB E O bs) bs N T a)(hW:WRep C E O bs w):∀(l:List ResultVar) (us:List AV) (vc:Prop),resA te T O l=some (us,vc)->vc->
  ∃vs:List Value,(l.mapM (whb a.tmps)).run C.P w= .ok vs w/\vs.length=us.length/\∀(j:Nat) v u,vs[j]?=some v->us[j]?=some u->V w (MB E O bs) bs v u
 |[],us,vc,h,_=>by
  simp only[resA,sI7,pI7] at h;obtain⟨rfl,rfl⟩:=h;exact⟨[],by simp,rfl,λj v u h=>by simp at h⟩
 |.tmp t::l,us,vc,h,hvc=>by
  simp only[resA] at h;split at h
  .rename_i u us' vc' hu hl;simp only[sI7,pI7] at h;obtain⟨rfl,rfl⟩:=h;obtain⟨vs,h1,h2,h3⟩:=wri hF hW l _ _ hl hvc;obtain⟨v,hv,hV⟩:=hF.2.2 t u hu;refine⟨v::vs,?_,by simp[h2],λj x y hx hy=>?_⟩
   .have e:a.tmps.getD t undef=v:=by simp[Array.getD_eq_getD_getElem?,hv]
    simp only[List.mapM_cons,whb,Sem.run_bind,Sem.run_pure,Result.andThen_ok,h1,e]
   .cases j with
    |zero=>simp at hx hy;subst hx;subst hy;exact hV
    |succ j=>exact h3 j x y (by simpa using hx) (by simpa using hy)
  .cases h
 |.cell x t::l,us,vc,h,hvc=>by
  simp only[resA] at h;split at h
  .rename_i p hp;split at h
   .rename_i u v1 us' vc' hu hl;simp only[sI7,pI7] at h;obtain⟨rfl,rfl⟩:=h;obtain⟨vs,h1,h2,h3⟩:=wri hF hW l _ _ hl hvc.2;obtain⟨px,hv,hV⟩:=hF.2.2 x p hp;obtain⟨v,hv1,hv2⟩:=wwu hte hn hW hV hu hvc.1;have ha:∃ad,px= .pointer (some ad):=by
     unfold wdw at hu;split at hu
     .split at hu
      .rename_i hg;unfold wff at hg;split at hg<;>first | cases hg;done | skip
       .cases hV;exact⟨_,rfl⟩
       .cases hV;exact⟨_,rfl⟩
       .cases hV;exact⟨_,rfl⟩
      .cases hu
     .cases hu
    obtain⟨ad,rfl⟩:=ha;have hv1':(loadVar t ad).run C.P w= .ok v w:=by simpa[Instr.loadAt,Instr.sureAddr] using hv1
    refine⟨v::vs,?_,by simp[h2],λj y z hy hz=>?_⟩
    .have e:a.tmps.getD x undef= .pointer (some ad):=by simp[Array.getD_eq_getD_getElem?,hv]
     simp only[List.mapM_cons,whb,Sem.run_bind,Sem.run_pure,Result.andThen_ok,h1,e,asAddr,hv1']
    .cases j with
     |zero=>simp at hy hz;subst hy;subst hz;exact hv2
     |succ j=>exact h3 j y z (by simpa using hy) (by simpa using hz)
   .cases h
  .cases h
theorem w09(hF:FRep w (MB E O bs) bs N T a)(hW:WRep C E O bs w){fn:Func}{us:List AV}{vc:Prop}(h:resA te T O fn.results.toList=some (us,vc))(hvc:vc):
  ∃v,(results fn a.tmps).run C.P w= .ok v w/\V w (MB E O bs) bs v (one us):=by
 obtain⟨vs,h1,h2,h3⟩:=wri hte hn hF hW _ _ _ h hvc;have hm:(fn.results.mapM (whb a.tmps)).run C.P w= .ok vs.toArray w:=by
  rw[Array.mapM_eq_mapM_toList];show Sem.run C.P ((do let x ← List.mapM (whb a.tmps) fn.results.toList;pure (List.toArray x)):Sem (Array Value)) w=_
  simp only[Sem.run_bind,h1,Result.andThen_ok,Sem.run_pure]
 have e:results fn a.tmps=(do
   let vs ← fn.results.mapM (whb a.tmps)
   pure (if h:vs.size=1 then vs[0] else .tuple vs)):=rfl
 rw[e];simp only[Sem.run_bind,hm,Result.andThen_ok,Sem.run_pure];refine⟨_,rfl,?_⟩
 match us,vs,h2,h3 with
 |[],[],_,_=>exact .tuple rfl (λj v u hv hu=>absurd hv (by simp))
 |[u],[v],_,h3=>exact h3 0 v u rfl rfl
 |u::u'::us,v::v'::vs,h2,h3=>exact .tuple (by simpa using h2) (λj v u hv hu=>h3 j v u (by simpa using hv) hu)
end
def enum{α:Type}:Nat->List α->List (Nat×α)
 |_,[]=>[]
 |i,x::l=>(i,x)::enum (i+1) l
theorem wjd{α:Type}:∀(l:List α) (k i:Nat),lk (enum k l) i=if k<=i then l[i - k]? else none
 |[],k,i=>by simp[enum,lk]
 |x::l,k,i=>by
  rw[enum,wax,wjd l (k+1) i]
  by_cases h:k=i
  .subst h;simp
  .simp only[h,if_false]
   by_cases h':k+1<=i
   .have e:i - k=(i - (k+1))+1:=by omega
    simp[h',show k<=i by omega,e]
   .simp[h',show ¬ k<=i by omega]
def bodyA(te:TE)(rs:List ResultVar)(m:Nat)(R:AV->List (Nat×AObj)->Prop)(e:Exit)(s:St):Prop:=
 (e= .normal∨e= .ret)/\∃us vc,resA te (lk s.T) (lk s.O) rs=some (us,vc)/\vc/\∃ρ s',Weak m ρ s s'/\s'.nx<=m+16/\R ((one us).rn ρ) s'.O
theorem wal.body{C:Ctx}{te:TE}(hte:TE.ok C.P te)(hn:∀t ti,lk te t=some ti->wa8 ti.desc=false->ti.sz=1){f:FuncId}{fn:Func}{c:Code}{args:List AV}{objs:List AObj}{R:AV->List (Nat×AObj)->Prop}{N:Nat}
  (hf : C.P.funcs[f]? = some fn) (hb : fn.body = some c) (hname : (fn.name == "runtime.NumGoroutine") = false) (hN : fn.ntmps = N) (hl : Nat.ble args.length N = true)
  (h:AWP C objs.length N c (bodyA te fn.results.toList objs.length R) ⟨enum 0 args,enum 0 objs,objs.length,[]⟩):wal C f args objs R:=by
 refine⟨⟨fn,hf,by simp[hb],hname⟩,λE bs w cargs h1 h2 h3 h4 h5 h6 h7=>?_⟩;refine calls_of_wp hf hb ?_;have hO:lk (enum 0 objs)=lkL objs:=by funext i;rw[wjd];simp[lkL]
 refine wp_mono (h E h2 bs { tmps:=cargs.toArray++Array.replicate (fn.ntmps - cargs.toArray.size) undef,defers:=[] } w ⟨⟨⟨rfl,?_,λi u hu=>?_⟩,?_⟩,λr hr=>⟨?_,h5 r hr⟩,by rw[h2];exact lR7 _⟩) ?_
 .have:=Nat.le_of_ble_eq_true hl;simp[hN];omega
 .have hu':lk (enum 0 args) i=some u:=hu;rw[wjd] at hu';simp only[zL7,if_true,Nat.sub_zero] at hu';have hlt:i<cargs.length:=by rw[h6];exact(List.getElem?_eq_some_iff.1 hu').1
  refine⟨cargs[i],?_,?_⟩
  .rw[Array.getElem?_append_left (by simpa using hlt)];simp[hlt]
  .show V w (MB E (lk (enum 0 objs)) bs) bs _ u;rw[hO];exact h7 i _ u (List.getElem?_eq_getElem hlt) hu'
 .show WRep C E (lk (enum 0 objs)) bs w;rw[hO];exact h4
 .show lk (enum 0 objs) r=none;rw[wjd];have hr':objs.length<=r:=hr;simp[hr']
 .rintro e a' w' ⟨s1,bs1,⟨hex,us,vc,hres,hvc,ρ,s2,hwk,hnx,hR⟩,hr⟩;obtain⟨v,hv1,hv2⟩:=w09 hte hn hr.1.1 hr.1.2 hres hvc;obtain⟨bs2,hr2,hVV⟩:=hr.weak (by rw[h2];exact hwk);have:bodyPost C.P fn (λe w'=>∃v u O' bs',e= .returned v/\R u O'/\WRep C E (lk O') bs' w'/\V w' (MB E (lk O') bs') bs' v u/\∀r,objs.length+16<=r->lk O' r=none/\bs' r=none) .ret a' w':=
   ⟨hr.1.1.1,v,hv1,v,_,s2.O,bs2,rfl,hR,hr2.1.2,hVV v _ hv2,λr hr'=>hr2.2.1 r (by omega)⟩
  rcases hex with rfl | rfl
  .exact this
  .exact this
theorem TE.ok_nil{P:Program}:TE.ok P []:=λt ti h=>by simp[lk] at h
theorem info_of{P:Program}{t:Nat}{i:TypeInfo}(h:P.types[t]?=some i):P.info? t=some i:=by
 have hlt:t<P.types.size:=(Array.getElem?_eq_some_iff.1 h).1;have:P.info? t=if t<P.types.size then P.types[t]? else Made.infoAt _ Made.depth t:=rfl
 rw[this,if_pos hlt,h]
theorem TE.ok_cons{P:Program}{t:Nat}{d:TypeDesc}{sz bytes:Nat}{zero:Value}{cmp:Bool}{te:TE}(h1:P.underlying t=some d)(h2:∃i,P.types[t]?=some i/\i.size=sz/\i.bytes=bytes/\i.zero=some zero)
  (h3 : cmp = true -> P.stoodInHeld t = false /\ P.eqGuardType P.depth t = false /\ ∀fs, d = .struct fs -> ∀f ∈ fs.toList, f.name ≠ "_") (h : TE.ok P te) : TE.ok P ((t, ⟨d, sz, bytes, zero, cmp⟩) :: te) := by
 intro t' ti ht;rw[wax] at ht;split at ht
 .rename_i e;have e':t=t':=e;subst e';simp only[sI7] at ht;subst ht;obtain⟨i,a,b⟩:=h2;exact⟨h1,⟨i,info_of a,b⟩,h3⟩
 .exact h t' ti ht
theorem TE.one_of{te:TE}(h:te.all (λp=>wa8 p.2.desc || Nat.beq p.2.sz 1)=true):∀t ti,lk te t=some ti->wa8 ti.desc=false->ti.sz=1:=by
 intro t ti ht ha;have:=List.all_eq_true.1 h _ (wk7 te t ti ht);simp only[ha,Bool.false_or] at this;exact Nat.eq_of_beq_eq_true this
def Sub{α:Type}(f g:Nat->Option α):Prop:=∀i x,f i=some x->g i=some x
theorem Sub.refl{α:Type}(f:Nat->Option α):Sub f f:=λ_ _ h=>h
section
variable {T T':Nat->Option AV} {O O':Nat->Option AObj} (hT:Sub T T') (hO:Sub O O') {te:TE}
include hT in
theorem wbg{x:Operand}{u:AV}(h:evO T x=some u):evO T' x=some u:=by
 cases x with
 |tmp t=>exact hT t u h
 |_=>exact h
include hT in
theorem wjt:∀ {l:List Operand} {r:List AV},evL T l=some r->evL T' l=some r
 |[],r,h=>h
 |x::l,r,h=>by
  simp only[evL] at h ⊢;split at h
  .rename_i u hu;rw[wbg hT hu];split at h
   .rename_i r' hr;simp only[wjt hr];exact h
   .cases h
  .cases h
include hT in
theorem wlq{place:Nat->Option (Nat×Nat)}:∀ {ps:List (Nat×Operand)} {cs r:List AV},wcu T place cs ps=some r->wcu T' place cs ps=some r
 |[],cs,r,h=>h
 |(i,x)::l,cs,r,h=>by
  simp only[wcu] at h ⊢;split at h
  .rename_i off sz hp;split at h
   .rename_i u hu;rw[wbg hT hu];split at h
    .split at h
     .split at h
      .simp only[*];exact wlq h
      .cases h
     .cases h
    .cases h
   .cases h
  .cases h
include hT in
theorem w8p{t:TypeId}{ps:List (Nat×Operand)}{u:AV}(h:wfp te T t ps=some u):wfp te T' t ps=some u:=by
 unfold wfp at h ⊢;split at h
 .split at h
  .split at h
   .split at h
    .split at h
     .rename_i hf;simp only[*,wlq hT hf]
     .cases h
    .cases h
   .split at h
    .split at h
     .rename_i hf;simp only[*,wlq hT hf]
     .cases h
    .cases h
   .cases h
  .cases h
 .cases h
include hO in
theorem w1t{u:AV}{g:List AV×Prop}(h:wff O u=some g):wff O' u=some g:=by
 unfold wff at h ⊢;split at h
 .split at h
  .rename_i hr;simp only[hO _ _ hr];exact h
  .cases h
 .split at h
  .rename_i hr;simp only[hO _ _ hr];exact h
  .cases h
 .exact h
 .cases h
include hO in
theorem w58{t:TypeId}{u:AV}{r:AV×Prop}(h:wdw te O t u=some r):wdw te O' t u=some r:=by
 unfold wdw at h ⊢;split at h
 .split at h
  .rename_i hp;simp only[*,w1t hO hp]
  .cases h
 .cases h
include hO in
theorem wqz{sz:Nat}{u:AV}{r:Nat×(Nat->List AV)×Prop}(h:srcA O sz u=some r):srcA O' sz u=some r:=by
 unfold srcA at h ⊢;split at h
 .exact h
 .split at h
  .rename_i hr;simp only[hO _ _ hr];exact h
  .cases h
 .split at h
  .rename_i hr;simp only[hO _ _ hr];exact h
  .cases h
 .exact h
 .exact h
 .cases h
include hO in
theorem wtg{fresh:Nat}{e:TypeId}{tie:TI}{m:Nat}{g:Nat->List AV}{vc:Prop}{s:AV}{r:AV×List (Nat×AObj)×Prop}(h:appA O fresh e tie m g vc s=some r):appA O' fresh e tie m g vc s=some r:=by
 unfold appA at h ⊢;split at h
 .split at h
  .rename_i hr;simp only[hO _ _ hr];exact h
  .cases h
 .exact h
 .exact h
 .cases h
include hT hO in
theorem wjs{op:Op}{r:AV×Prop}(h:wb7 te T O op=some r):wb7 te T' O' op=some r:=by
 have e1:∀ {x u},evO T x=some u->evO T' x=some u:=λh=>wbg hT h;have e2:∀ {l r},evL T l=some r->evL T' l=some r:=λh=>wjt hT h;have e3:∀ {t u r},wdw te O t u=some r->wdw te O' t u=some r:=λh=>w58 hO h;have e4:∀ {t ps u},wfp te T t ps=some u->wfp te T' t ps=some u:=λh=>w8p hT h;unfold wb7 at h ⊢;split at h
 all_goals (try simp only[] at h ⊢)
 all_goals (repeat' (split at h))
 all_goals (try (cases h;done))
 all_goals (try (exact h))
 all_goals (try (grind;done))
 all_goals (try (simp only[*];done))
 all_goals (try (simp only[*] at h ⊢;done))
 all_goals (try (simp only[*] at h ⊢;exact h))
include hT hO in
theorem wls{fresh:Nat}{op:Op}{r:AV×List (Nat×AObj)×Prop}(h:wb8 te T O fresh op=some r):wb8 te T' O' fresh op=some r:=by
 have e1:∀ {x u},evO T x=some u->evO T' x=some u:=λh=>wbg hT h;have e2:∀ {l r},evL T l=some r->evL T' l=some r:=λh=>wjt hT h;have e3:∀ {pl ps cs r},wcu T pl cs ps=some r->wcu T' pl cs ps=some r:=λh=>wlq hT h;have e4:∀ {r o},O r=some o->O' r=some o:=λh=>hO _ _ h;have e5:∀ {sz u r},srcA O sz u=some r->srcA O' sz u=some r:=λh=>wqz hO h;have e6:∀ {fresh e tie m g vc s r},appA O fresh e tie m g vc s=some r->appA O' fresh e tie m g vc s=some r:=λh=>wtg hO h;unfold wb8 at h ⊢;split at h
 all_goals (try simp only[] at h ⊢)
 all_goals (repeat' (split at h))
 all_goals (try (cases h;done))
 all_goals (try (exact h))
 all_goals (try (grind;done))
 all_goals (try (simp only[*];done))
 all_goals (try (simp only[*] at h ⊢;done))
 all_goals (try (simp only[*] at h ⊢;exact h))
end
end Go.Eng
