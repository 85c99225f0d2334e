/- Messages: what Validate answers. -/
import Derived.Test.YtgcboligphndhaaGreatDoorWqi
namespace Go.Eng
open Go.Proofs Go.RowKit Go.Sort
def valA:AV->Value
 |.str l=>.string ⟨l.toArray⟩
 |.int k n=>.int k n
 |.bool b=>.bool b
 |_=>default
def wfg:AV->Bool
 |.str _=>true
 |.int _ _=>true
 |.bool _=>true
 |_=>false
theorem wzi{w:World}{M:Nat->Prop}{bs:Nat->Option Hd}{v:Value}{u:AV}(hp:wfg u=true)(h:V w M bs v u):v=valA u:=by
 cases u<;>simp only[wfg,Bool.false_eq_true] at hp
 .cases h;rfl
 .cases h;rfl
 .exact h.str_iff
theorem wvq{w:World}{M:Nat->Prop}{bs:Nat->Option Hd}{u:AV}(hp:wfg u=true):V w M bs (valA u) u:=by
 cases u<;>simp only[wfg,Bool.false_eq_true] at hp
 .exact .bool
 .exact .int
 .exact .str rfl
theorem wvp{u:AV}(hp:wfg u=true):(valA u).oneCell'=true:=by
 cases u<;>simp only[wfg,Bool.false_eq_true] at hp<;>rfl
def Ctx.bare(P:Program)(h:P.follows .mixedOrders=true):Ctx:=⟨P,0,λ_=>True,h,λ_ _ _ h=>h,true⟩
theorem grow_of{w w':World}(h1:w'.os=w.os)(h2:w'.tape=w.tape)(h3:w'.output=w.output)(h4:w.heap.size<=w'.heap.size)(h5:∀b,b<w.heap.size->w'.heap[b]?=w.heap[b]?)(h6:w.drawn<=w'.drawn):
  ∃q os,w'=grow (w.drewN q) os:=by
 refine⟨w'.drawn - w.drawn,w'.heap.extract w.heap.size w'.heap.size,?_⟩;obtain⟨hp,tp,dr,os,out⟩:=w;obtain⟨hp',tp',dr',os',out'⟩:=w';simp only at h1 h2 h3 h4 h5 h6;subst h1;subst h2;subst h3;simp only[grow,World.drewN,World.mk.injEq,and_true,true_and];refine⟨?_,by omega⟩;apply Array.ext_getElem?;intro i;rw[Array.getElem?_append]
 by_cases h:i<hp.size
 .rw[if_pos h,h5 i h]
 .rw[if_neg h,Array.getElem?_extract]
  by_cases h':i<hp'.size
  .rw[if_pos (by omega)];congr 1;omega
  .rw[if_neg (by omega),Array.getElem?_eq_none (by omega)]
theorem ADet.grown{P:Program}{hm:P.follows .mixedOrders=true}{f:FuncId}{args:List AV}{u:AV}(h:ADet (Ctx.bare P hm) f args [] u [])(hu:wfg u=true){w:World}{cargs:List Value}(hlen:cargs.length=args.length)
  (hV:∀(j:Nat) v x,cargs[j]?=some v->args[j]?=some x->V w (λ_=>False) nob v x):Calls P f cargs.toArray w λe w'=>e= .returned (valA u)/\∃q os,w'=grow (w.drewN q) os:=by
 have no:∀r,lkL [] r=none:=λr=>by cases r<;>rfl
 have nm:∀b',¬ mutB (lkL []) nob b':=by
  rintro b' ⟨r,o,c,ho,_⟩;rw[no r] at ho;cases ho
 have hw:WRep (Ctx.bare P hm) ⟨w,0,nob,λ_=>False,λ_=>False⟩ (lkL []) nob w:={
  obj:=λr o ho=>by rw[no r] at ho;cases ho
  sep:=λr r' o o' b c c' ho=>by rw[no r] at ho;cases ho
  out:=λb hb=>absurd hb (nm b)
  frz:=λr t sz n f b c ho=>by rw[no r] at ho;cases ho
  high:=λb hb=>zL7 _
  lt:=λr b c hb=>by simp[nob] at hb
  outlt:=λb hb=>hb.elim
  keep:=λb _ _=>rfl
  old:=λb hb=>absurd hb (nm b)
  size:=lR7 _
  pre:=λr x hr=>absurd hr (nZ7 r)
  os:=rfl
  tape:=.refl _ _
  output:=rfl
  laid:=trivial
  gle:=zL7 _ }
 refine(h.2 ⟨w,0,nob,λ_=>False,λ_=>False⟩ nob w cargs rfl rfl rfl hw (λ_ _=>rfl) hlen (λj v u hv hu=>(hV j v u hv hu).step_ (λb _ _ hb=>?_) (λ_ _ _=>rfl) (lR7 _) nob (λ_ _ h=>h))).mono ?_
 .rcases hb with hb | hb
  .exact hb
  .exact nm b hb
 .rintro e w' ⟨v,u',O',bs',rfl,⟨rfl,rfl⟩,hw',hV',_⟩;rw[wzi hu hV'];exact⟨rfl,grow_of hw'.os hw'.tape.tape hw'.output hw'.size (λi hi=>hw'.keep i hi (λh=>h)) (hw'.tape.drawn rfl)⟩
section
variable {α:Type} [Inhabited α]
def encV(enc:α->List AV)(x:α):List Value:=(enc x).map valA
theorem wtf(n:Nat)(f:Nat->α){i:Nat}(hi:i<n):(((List.range n).map f).toArray)[i]! =f i:=by simp[hi]
theorem wal.sortK{C:Ctx}(enc:α->List AV)(k:Nat)(hk:∀x,(enc x).length=k)(hp:∀x u,u∈enc x->wfg u=true)(cf:α->α->Int){fS g:FuncId}{t:TypeId}(heS:wg2 C.P fS)
  (hS:∀(blk cap:Nat) (d:Array α) (w:World),CmpLays C.P g #[] (encV enc) k cf blk 0 d.size w->HoldsK (encV enc) k w blk 0 d->blk<w.heap.size->d.size<4611686018427387904->
   Calls C.P fS #[.slice (some ⟨blk,0,none⟩) d.size cap,.func (.func g) #[] #[]] w λe w'=>e= .returned (.tuple #[])/\∃d' n os,PermIn 0 d.size d d'/\SortedIn (ltOf cf) 0 d.size d'/\w'=sortWorldK (encV enc) k w blk 0 n d' os)
  (hN:∀(p:Option Addr) (cap:Nat) (fv:Value) (w:World),Calls C.P fS #[.slice p 0 cap,fv] w λe w'=>e= .returned (.tuple #[])/\w'=w)
  (hc:∀x y,ADet (Ctx.bare C.P C.mixed) g [.agg (enc x),.agg (enc y)] [] (.int .i64 (cf x y)) [])
  {n:Nat} (f:Nat->α) (hn:n<4611686018427387904):
  wal C fS [.own 0 n,.func g []] [.row t k n (λi=>enc (f i)) false] λu O=>u= .tuple []/\∃f':Nat->α,((List.range n).map f').Perm ((List.range n).map f)/\(∀i j,i<j->j<n->¬ cf (f' j) (f' i)<0)/\
   O=[(0,.row t k n (λi=>enc (f' i)) false)]:=by
 refine⟨heS,λE bs w cargs h1 h2 h3 hW h5 h6 h7=>?_⟩;obtain⟨a,b,rfl⟩:∃a b,cargs=[a,b]:=by
  match cargs,h6 with
  |[a,b],_=>exact⟨a,b,rfl⟩
 have V0:=h7 0 _ _ rfl rfl;have V1:=h7 1 _ _ rfl rfl;generalize hu:AV.func g []=uf at V1
 cases V1<;>cases hu;rename_i caps hl hv;obtain rfl:caps=#[]:=Array.eq_empty_of_size_eq_zero hl;have hO:lkL [AObj.row t k n (λi=>enc (f i)) false]=lk [(0,.row t k n (λi=>enc (f i)) false)]:=by
  funext i
  cases i with
  |zero=>rfl
  |succ i=>rw[wax,if_neg (by show ¬ 0=i+1;omega)];simp[lkL,lk]
 have hbs:∀r,1+16<=r->lk [(0,AObj.row t k n (λi=>enc (f i)) false)] r=none/\bs r=none:=λr hr=>⟨by rw[wax,if_neg (by show ¬ 0=r;omega)];rfl,h5 r (by show 1<=r;omega)⟩;rw[hO] at hW V0;generalize huo:AV.own 0 n=uo at V0
 cases V0<;>cases huo
 case func.refl.ownnil.refl A x1 x2=>
  have hn0:n=0:=by assumption
  clear x1 x2;subst hn0;refine(hN A 0 _ w).mono ?_;rintro e w' ⟨rfl,rfl⟩;refine⟨_,.tuple [],[(0,.row t k 0 (λi=>enc (f i)) false)],bs,rfl,⟨rfl,f,.refl _,λi j _ hj=>absurd hj (nZ7 j),rfl⟩,hW,.tuple rfl (λj v u hv hu=>by simp at hu),hbs⟩
 case func.refl.own.refl bk c x1 x2 x3=>
  have hb:bs 0=some (.blk bk c):=by assumption
  clear x1 x2 x3;have hrow:=hW.obj 0 _ rfl
  rcases hrow with⟨h,_⟩ | ⟨bk',c',vs,hb',hh,hnc',hcm',hsz,hln,hone,hval⟩
  .rw[h] at hb;cases hb
  obtain⟨rfl,rfl⟩:bk'=bk/\c'=c:=by
   rw[hb'] at hb;injection hb with hb;injection hb with e1 e2;exact⟨e1,e2⟩
  have hblk:bk'<w.heap.size:=hW.lt _ _ _ hb';have hle:n * k<=vs.size:=by rw[hsz];exact Nat.mul_le_mul_right k hnc'
  have hdiv:∀q,q<n * k->q / k<n/\q % k<k/\q / k * k+q % k=q:=λq hq=>by
   have k0:0<k:=by
    rcases Nat.eq_zero_or_pos k with h | h
    .subst h;simp at hq
    .exact h
   exact⟨Nat.div_lt_of_lt_mul (by rwa [Nat.mul_comm]),Nat.mod_lt _ k0,Nat.div_add_mod' q k⟩
  have hds:(((List.range n).map f).toArray).size=n:=by simp
  have hlen:∀x,(encV enc x).length=k:=λx=>by simp[encV,hk]
  have hH:HoldsK (encV enc) k w bk' 0 ((List.range n).map f).toArray:=by
   intro q hq;rw[size_flatK,hds] at hq;obtain⟨q1,q2,q3⟩:=hdiv q hq;rw[get_flatK _ _ _ _ (by rw[hds];exact hq),wtf n f q1,Nat.zero_add];have hlt:q<vs.size:=by omega
   refine⟨?_,?_⟩
   .rw[cell_of_row w bk' q vs t (0,0) hh];have hg:vs[q / k * k+q % k]?=some vs[q]:=by rw[q3];exact Array.getElem?_eq_getElem hlt
    have hu:(enc (f (q / k)))[q % k]?=some ((enc (f (q / k)))[q % k]'(by rw[hk];exact q2)):=List.getElem?_eq_getElem _;have:=wzi (hp _ _ (List.mem_of_getElem? hu)) (hval (q / k) q1 (q % k) _ _ q2 hg hu);show vs[q]?=some (((enc (f (q / k))).map valA)[q % k]!);rw[Array.getElem?_eq_getElem hlt,this];congr 1;simp[hk,q2]
   .simp[World.frozen?,hh]
  have hC:CmpLays C.P g #[] (encV enc) k cf bk' 0 ((List.range n).map f).toArray.size w:=by
   intro m os dk _ x y;have:=ADet.grown (hc x y) rfl (w:=sortWorldK (encV enc) k w bk' 0 m dk os) (cargs:=[.agg (encV enc x).toArray,.agg (encV enc y).toArray]) rfl (λj v u hv hu=>?_)
   .simpa[valA] using this
   have ag:∀z:α,V (sortWorldK (encV enc) k w bk' 0 m dk os) (λ_=>False) nob (.agg (encV enc z).toArray) (.agg (enc z)):=λz=>by
    refine .agg (by simp[encV]) (λj v hv=>?_) (λj v u hv hu=>?_)
    .simp only[List.getElem?_toArray,encV,List.getElem?_map,Option.map_eq_some_iff] at hv;obtain⟨u,hu,rfl⟩:=hv;exact wvp (hp _ _ (List.mem_of_getElem? hu))
    .simp only[List.getElem?_toArray,encV,List.getElem?_map,hu,Option.map_some,sI7] at hv;subst hv;exact wvq (hp _ _ (List.mem_of_getElem? hu))
   match j with
   |0=>obtain rfl:=oJ7 hv;obtain rfl:=oJ7 hu;exact ag x
   |1=>obtain rfl:=oJ7 hv;obtain rfl:=oJ7 hu;exact ag y
   |j+2=>simp at hv
  have hcall:=hS bk' c' ((List.range n).map f).toArray w hC hH hblk (by rw[hds];exact hn);rw[hds] at hcall;refine hcall.mono ?_;rintro e w' ⟨rfl,d',m,os,hperm,hsort,rfl⟩;have hd':d'.size=n:=hperm.1.trans hds;have hlist:d'.toList=(List.range n).map (λi=>d'[i]!):=by
   apply List.ext_getElem?;intro i;rw[List.getElem?_map,Array.getElem?_toList]
   by_cases hi:i<n
   .rw[List.getElem?_range hi,Option.map_some,getElem!_pos d' i (by omega),Array.getElem?_eq_getElem (by omega)]
   .rw[Array.getElem?_eq_none (by omega),List.getElem?_eq_none (by simp;omega)];rfl
  have hnb:∀(o':AObj),lk [(0,o')]=up (lk [(0,AObj.row t k n (λi=>enc (f i)) false)]) 0 o':=λo'=>by
   funext i;rw[wax]
   by_cases h:(0:Nat)=i
   .rw[if_pos h, ← h,waz]
   .rw[if_neg h,wav _ _ _ h,wax,if_neg h]
  have hheap:∀b,b<w.heap.size->b≠bk'->(sortWorldK (encV enc) k w bk' 0 m d' os).heap[b]?=w.heap[b]?:=λb hb hne=>by
   show ((putRowK (encV enc) k (Sort.ahead w m) bk' 0 d').heap++os)[b]?=_;rw[Array.getElem?_append_left (by show b<(putRowK _ _ _ _ _ _).heap.size;rw[show (putRowK (encV enc) k (Sort.ahead w m) bk' 0 d').heap.size=w.heap.size from by simp[putRowK]];exact hb)];simp[putRowK,putRow,mapBlock,Array.getElem?_modify,Ne.symm hne]
  have hsize:w.heap.size<=(sortWorldK (encV enc) k w bk' 0 m d' os).heap.size:=by simp[sortWorldK,grow,putRowK]
  have hnew:(sortWorldK (encV enc) k w bk' 0 m d' os).heap[bk']?=some (.cells (putCells id 0 (flatK (encV enc) k d') vs) t (0,0)):=by
   show ((putRowK (encV enc) k (Sort.ahead w m) bk' 0 d').heap++os)[bk']?=_;rw[Array.getElem?_append_left (by rw[show (putRowK (encV enc) k (Sort.ahead w m) bk' 0 d').heap.size=w.heap.size from by simp[putRowK]];exact hblk)];simp[putRowK,putRow,mapBlock,Array.getElem?_modify,hh,onCells]
  have hcell:∀i,i<n->∀j,j<k->∀v,(putCells id 0 (flatK (encV enc) k d') vs)[i * k+j]?=some v->∃u,(enc d'[i]!)[j]?=some u/\v=valA u:=λi hi j hj v hv=>by
   have hlt:i * k+j<n * k:=by
    have:=Nat.mul_le_mul_right k (show i+1<=n from hi);rw[Nat.add_mul,Nat.one_mul] at this;omega
   have hlt2:i * k+j<vs.size:=by omega
   simp only[putCells,Array.getElem?_mapIdx,Array.getElem?_eq_getElem hlt2,Option.map_some,size_flatK,hd',zL7,Nat.zero_add,hlt,and_self,if_true,Nat.sub_zero,sI7,id] at hv;rw[get_flatK _ _ _ _ (by rw[hd'];exact hlt)] at hv;have e1:(i * k+j) / k=i:=(blk_iff k i _ (by omega)).1 ⟨by omega,by omega⟩;have e2:(i * k+j) % k=j:=by rw[Nat.mod_eq_sub_div_mul,e1];omega
   rw[e1,e2] at hv;refine⟨(enc d'[i]!)[j]'(by rw[hk];exact hj),List.getElem?_eq_getElem _,?_⟩;rw[← hv];simp[encV,hk,hj]
  refine⟨_,.tuple [],[(0,.row t k n (λi=>enc d'[i]!) false)],bs,rfl,⟨rfl,λi=>d'[i]!,?_,λi j hij hj=>?_,rfl⟩,?_,.tuple rfl (λj v u hv hu=>by simp at hu),λr hr=>⟨by rw[wax,if_neg (by show ¬ 0=r;exact λh=>by subst h;simp at hr)];rfl,(hbs r hr).2⟩⟩
  .have:=hperm.2.2;have e1:d'.extract 0 n=d':=by rw[← hd'];exact Array.extract_size
   have e2:((List.range n).map f).toArray.extract 0 n=((List.range n).map f).toArray:=by
    have:=Array.extract_size (xs:=((List.range n).map f).toArray)
    rwa [hds] at this
   rw[e1,e2] at this;rw[← hlist];simpa using this
  .have:=hsort i j (zL7 _) hij hj;simpa[ltOf] using this
  .have hmb:∀b,mutB (lk [(0,AObj.row t k n (λi=>enc d'[i]!) false)]) bs b->mutB (lk [(0,AObj.row t k n (λi=>enc (f i)) false)]) bs b:=by
    rintro b ⟨r,o,c2,ho,hm,hb2⟩;rw[wax] at ho
    by_cases h:(0:Nat)=r
    .subst h;exact⟨0,_,c2,rfl,rfl,hb2⟩
    .rw[if_neg h] at ho;cases ho
   refine(hW.next (w':=sortWorldK (encV enc) k w bk' 0 m d' os) (λb=>b=bk') (λi h hi=>hi) (λi b c' hi=>.inl hi) (λb hb2=>by subst hb2;exact⟨0,_,c',rfl,rfl,hb'⟩) (λb hb2 hne=>hheap b hb2 hne) hsize (λb hb2=>.inl (hmb b hb2)) (λhSt i o' ho=>?_)
    (λi j o1 o2 b c1 c2 hi hj m1 m2 bi bj=>?_) (λi t' sz' n' f' b c2 ho hb2=>?_) rfl ⟨rfl,λ_=>Nat.le_add_right _ _⟩ rfl).2
   .rw[wax] at ho
    by_cases h:(0:Nat)=i
    .subst h;rw[if_pos rfl] at ho;injection ho with ho;subst ho;refine .inr (.inr ⟨bk',c',_,hb',hnew,hnc',hcm',by simp[putCells,hsz],λi hi=>hk _,λi hi j hj v hv=>?_,λi hi j v u hj hv hu=>?_⟩)
     .obtain⟨u,hu,rfl⟩:=hcell i hi j hj v hv;exact wvp (hp _ _ (List.mem_of_getElem? hu))
     .obtain⟨u',hu',rfl⟩:=hcell i hi j hj v hv;have hu:(enc d'[i]!)[j]?=some u:=hu;rw[hu'] at hu;injection hu with hu;subst hu;exact wvq (hp _ _ (List.mem_of_getElem? hu'))
    .rw[if_neg h] at ho;cases ho
   .rw[wax] at hi hj
    by_cases h:(0:Nat)=i
    .by_cases h':(0:Nat)=j
     .rw[← h, ← h']
     .rw[if_neg h'] at hj;cases hj
    .rw[if_neg h] at hi;cases hi
   .rw[wax] at ho
    by_cases h:(0:Nat)=i
    .rw[if_pos h] at ho;cases ho
    .rw[if_neg h] at ho;cases ho
end
end Go.Eng
namespace Go.Eng
open Go.Proofs Go.RowKit Go.Sort
variable {C:Ctx}
set_option maxRecDepth 20000
theorem nf_nan(x:Int)(R:oR7):wpFn te [] [] 0 Tryz.f139 [.q x] [] R=(R (.bool !decide (x=x)) []):=by kernel_rfl
theorem nf_icmp(a b:Int)(R:oR7):wpFn te [(139,.det wf1)] [] 0 Tryz.f95 [.q a,.q b] [] R=(True/\True/\wab (decide (a<b)) (R (.q (-1:Int)) []) (wab (decide (b<a)) (R (.q 1) []) (R (.q 0) []))):=by kernel_rfl
theorem w31(x:Int)(R:oR7):wpFn te [] [] 0 Tryz.f197 [.q x] [] R=(R (.bool !decide (x=x)) []):=by kernel_rfl
theorem w4n(a b:Int)(R:oR7):wpFn te [(197,.det wf1)] [] 0 Tryz.f156 [.q a,.q b] [] R=(True/\True/\wab (decide (a<b)) (R (.q (-1:Int)) []) (wab (decide (b<a)) (R (.q 1) []) (R (.q 0) []))):=by kernel_rfl
theorem nf_or(f:Nat->List AV)(n:Nat)(R:oR7):wpFn te [] [(3,L_or (vInt f) n)] 0 Tryz.f93 [.own 0 n] [.row 3 1 n f false] R=(letI z0:=([(0,.row 3 1 n (wac (vInt f)) false)]:oL7);(TEq [(3,.q 0),(6,.own 0 n),(7,.q (n:Int)),(8,.q 0)] [(3,.q 0),(6,.own 0 n),(7,.q (n:Int)),(8,.q (↑0:Int))]/\wai [(0,.row 3 1 n f false)] z0)/\n<=100/\wab (decide (orN (vInt f) n=0)) ((∀(i:Nat),i<n->true=true)/\∃(O':oL7),wai z0 O'/\R (.q 0) O') ((∀(i:Nat),i<n->true=true)/\∃(O':oL7),wai z0 O'/\R (.q (orN (vInt f) n)) O')):=by kernel_rfl
theorem w3z(v:Nat->Int)(n k:Nat)(P:Nat->Prop)(R:eR7):wa1 ⟨te,[],[],1,18,0⟩ (wa2 Tryz.f93 3) [3,6,7,8] [3] [2] (wne v n) P R (wne v n k)=(letI z0:=([(0,.row 3 1 n (wac v) false)]:oL7);wab (decide ((k:Int)<(n:Int))) (((0:Int)<=(k:Int)/\(k:Int)<(n:Int))/\((k:Int).toNat<n/\1=1)/\wab (!decide (v (k:Int).toNat=0)) ((∀(i:Nat),i<n->true=true)/\∃(O':oL7),wai z0 O'/\R .ret (St.mk [(2,.q (v (k:Int).toNat))] O' 1 [])) (inR .i64 ((k:Int)+1)/\∃(i':Nat),(TEq [(3,.q 0),(6,.own 0 n),(7,.q (n:Int)),(8,.q ((k:Int)+1))] [(3,.q 0),(6,.own 0 n),(7,.q (n:Int)),(8,.q (i':Int))]/\wai z0 z0)/\P i')) ((∀(i:Nat),i<n->true=true)/\∃(O':oL7),wai z0 O'/\R (.exit 0) (St.mk [(3,.q 0)] O' 1 []))):=by kernel_rfl
theorem nf_rcmp(o p:List UInt8)(per u tv:Int)(o' p':List UInt8)(per' u' tv':Int)(R:oR7):wpFn te [(94,.det wel),(95,.det wc5),(93,.det S_or)] [] 0 Tryz.f147 [.agg [.str o,.str p,.q per,.q u,.q tv],.agg [.str o',.str p',.q per',.q u',.q tv']] [] R=(letI z0:=wap 1 (.q (cmpS o o'):: .q (cmpS p p'):: .q (cmpI per per')::List.append [] wb6);True/\True/\True/\(3<=16777216/\1=1/\3<=9223372036854775807)/\(∀(i:Nat),i<3->true=true)/\(3=3/\false=false/\3=3/\3<=100/\∀(i:Nat),i<3->[AV.q (List.getD [cmpS o o',cmpS p p',cmpI per per'] i (0:Int))]=[.q (vInt z0 i)])/\(∀(i:Nat),i<3->true=true)/\R (.q (orN (vInt z0) 3)) []):=by kernel_rfl
theorem wyz:∀a b:List UInt8,Lib.compareBytes a b=cmpS a b
 |[],[]=>rfl
 |[],_::_=>rfl
 |_::_,[]=>rfl
 |a::x,b::y=>by
  have ih:=wyz x y;rw[Lib.compareBytes,ih];unfold cmpS;simp only[Op.bytesLess]
  by_cases h:a<b
  .simp[h]
  .by_cases h':b<a
   .have:(a==b)=false:=by
     rw[beq_eq_false_iff_ne];exact λe=>by subst e;exact h h'
    simp[h,h',this]
   .have e:a=b:=by
     rcases Nat.lt_trichotomy a.toNat b.toNat with q | q | q
     .exact absurd q h
     .exact UInt8.toNat_inj.1 q
     .exact absurd q h'
    subst e;simp[h]
theorem wkk(hP:C.P=Tryz.prog):wah C 94 wel:=by
 rintro args objs U Os vc h hvc;unfold wel at h;split at h<;>cases h;rename_i a b;refine wal.quiet ⟨Tryz.f94,hP ▸ Tryz.func94,rfl,by decide⟩ λE bs w cargs hW hl hv=>?_;obtain⟨x,y,rfl⟩:∃x y,cargs=[x,y]:=by
  match cargs,hl with
  |[x,y],_=>exact⟨x,y,rfl⟩
 have e1:=(hv 0 _ _ rfl rfl).str_iff;have e2:=(hv 1 _ _ rfl rfl).str_iff;subst e1;subst e2;rw[hP];refine(Tryz.strings_Compare ⟨a.toArray⟩ ⟨b.toArray⟩ w).mono ?_;rintro e w' ⟨rfl,rfl⟩;refine⟨_,rfl,rfl,?_⟩;rw[wyz];exact .int
theorem nan_ok(hP:C.P=Tryz.prog):wah C 139 wf1:=by
 rintro args objs U Os vc h hvc;unfold wf1 at h;split at h<;>cases h;refine wah.wp0 (prg hP) [] 0 .nil (hP ▸ Tryz.func139) rfl rfl rfl ?_;rw[nf_nan,decide_eq_true rfl];exact⟨rfl,rfl⟩
theorem w5i(hP:C.P=Tryz.prog):wah C 197 wf1:=by
 rintro args objs U Os vc h hvc;unfold wf1 at h;split at h<;>cases h;refine wah.wp0 (prg hP) [] 0 .nil (hP ▸ Tryz.func197) rfl rfl rfl ?_;rw[w31,decide_eq_true rfl];exact⟨rfl,rfl⟩
theorem wlh(hP:C.P=Tryz.prog):wah C 95 wc5:=by
 rintro args objs U Os vc h hvc;unfold wc5 at h;split at h<;>cases h;refine wah.wp0 (prg hP) [(139,.det wf1)] 0 (.cons (nan_ok hP) .nil) (hP ▸ Tryz.func95) rfl rfl rfl ?_;rw[nf_icmp];unfold cmpI;exact⟨trivial,trivial,waw (λh=>by rw[h];exact⟨rfl,rfl⟩) (λh=>waw (λk=>by rw[h,k];exact⟨rfl,rfl⟩) (λk=>by rw[h,k];exact⟨rfl,rfl⟩))⟩
theorem w65(hP:C.P=Tryz.prog):wah C 156 wc5:=by
 rintro args objs U Os vc h hvc;unfold wc5 at h;split at h<;>cases h;refine wah.wp0 (prg hP) [(197,.det wf1)] 0 (.cons (w5i hP) .nil) (hP ▸ Tryz.func156) rfl rfl rfl ?_;rw[w4n];unfold cmpI;exact⟨trivial,trivial,waw (λh=>by rw[h];exact⟨rfl,rfl⟩) (λh=>waw (λk=>by rw[h,k];exact⟨rfl,rfl⟩) (λk=>by rw[h,k];exact⟨rfl,rfl⟩))⟩
theorem wvs{v:Nat->Int}{k:Nat}(h:orN v k=0)(hv:v k≠0):∀n,k<n->orN v n=v k
 |0,hn=>by omega
 |n+1,hn=>by
  rw[orN]
  by_cases e:k=n
  .subst e;rw[h];rfl
  .rw[wvs h hv n (by omega),decide_eq_false hv];rfl
theorem or_loop(hP:C.P=Tryz.prog)(v:Nat->Int)(n:Nat):waj C 1 18 (wam Tryz.f93 3) (L_or v n):=by
 rintro st Q ⟨h0,hn,hQ⟩;have hR:=wbv hQ;refine waj.mk (prg hP) [] 0 .nil [3,6,7,8] [3] [2] (wne v n) (λk=>k<=n/\orN v k=0) (λk=>n - k) 0 ⟨zL7 _,rfl⟩ h0 (λk hk=>?_) (λi=>⟨λ_ _=>rfl,trivial⟩);obtain⟨hkn,hok⟩:=hk;rw[w3z,tN7];refine wak (λh1=>⟨⟨by omega,by omega⟩,⟨by omega,rfl⟩,wa7 (λh2=>⟨λ_ _=>rfl,_,wau _,?_⟩) (λh2=>⟨by simp only[inR];omega,k+1,⟨rfl,wau _⟩,⟨by omega,?_⟩,by omega⟩)⟩) (λh1=>⟨λ_ _=>rfl,_,wau _,?_⟩)
 .have e:=wvs hok h2 n (by omega);have:=hR.2 (by rw[e,decide_eq_false h2]);rw[e] at this;exact this
 .rw[orN,hok];exact h2
 .have:k=n:=by omega
  subst this;exact hR.1 (by rw[hok];rfl)
theorem wkt(hP:C.P=Tryz.prog):wah C 93 S_or:=by
 rintro args objs U Os vc h hvc;unfold S_or at h;split at h<;>cases h;rename_i n t m f fr;obtain⟨rfl,rfl,rfl,hn,hf⟩:=hvc;have hrow:wai [(0,AObj.row 3 1 n (wac (vInt f)) false)] [(0,.row 3 1 n f false)]:=⟨⟨rfl,rfl,rfl,rfl,rfl,λi hi=>(hf i hi).symm⟩,trivial⟩;refine wah.wpL (prg hP) [] [(3,L_or (vInt f) n)] 0 .nil (hP ▸ Tryz.func93) rfl rfl rfl [(wam Tryz.f93 3,L_or (vInt f) n)] (by kernel_rfl) ⟨or_loop hP _ _,trivial⟩ ?_;rw[nf_or];refine⟨⟨rfl,⟨rfl,rfl,rfl,rfl,rfl,hf⟩,trivial⟩,hn,wak (λh=>⟨λ_ _=>rfl,_,hrow,?_⟩) (λh=>⟨λ_ _=>rfl,_,hrow,rfl,rfl⟩)⟩;rw[h];exact⟨rfl,rfl⟩
theorem wvt(x:Int):∀l:List Int,orL (l++[x])=bif decide (orL l=0) then x else orL l
 |[]=>by simp only[List.nil_append,orL];by_cases h:x=0<;>simp[h]
 |y::l=>by
  rw[List.cons_append,orL,wvt x l,orL]
  by_cases h:y=0
  .simp[h]
  .simp[h]
theorem wi7(v:Nat->Int):∀n,orN v n=orL ((List.range n).map v)
 |0=>rfl
 |n+1=>by rw[List.range_succ,List.map_append,List.map_singleton,wvt,orN,wi7 v n]
theorem rcmp_ok(hP:C.P=Tryz.prog):wah C 147 S_rcmp:=by
 rintro args objs U Os vc h hvc;unfold S_rcmp at h;split at h<;>simp only[sI7,pI7,reduceCtorEq] at h;rename_i o p per u tv o' p' per' u' tv';obtain⟨rfl,rfl,rfl⟩:=h;refine wah.wp0 (prg hP) [(94,.det wel),(95,.det wc5),(93,.det S_or)] 0 (.cons (wkk hP) (.cons (wlh hP) (.cons (wkt hP) .nil))) (hP ▸ Tryz.func147) rfl rfl rfl ?_;rw[nf_rcmp,wi7];have three:∀ {p:Nat->Prop},p 0->p 1->p 2->∀i,i<3->p i:=λh0 h1 h2 i hi=>by
  match i,hi with
  |0,_=>exact h0
  |1,_=>exact h1
  |2,_=>exact h2
 exact⟨trivial,trivial,trivial,⟨by omega,rfl,by omega⟩,three rfl rfl rfl,⟨rfl,rfl,rfl,by omega,three rfl rfl rfl⟩,three rfl rfl rfl,rfl,rfl⟩
theorem wkd{α:Type}{c:α->α->Int}(h:PreC c):SWO (ltOf c) where
 irrefl x:=by simp[ltOf,h.self x]
 trans x y z h1 h2:=by
  simp only[ltOf,decide_eq_true_eq] at *;exact h.lt_trans h1 h2
 ntrans x y z h1 h2:=by
  simp only[ltOf,decide_eq_false_iff_not] at *;intro q;have:=h.neg x y;have:=h.neg y x;have:=h.neg y z;have:=h.neg z y;have:=h.neg x z;have:=h.neg z x;have:=h.trans z y x (by omega) (by omega);omega
theorem wke{α:Type}{c:α->α->Int}(hc:PreC c){l:List α}(hn:l.Pairwise λx y=>c x y≠0):Asc c (l.mergeSort λa b=>decide (c a b<=0))/\(l.mergeSort λa b=>decide (c a b<=0)).Perm l:=by
 have hp:=List.mergeSort_perm l λa b=>decide (c a b<=0);refine⟨?_,hp⟩;have hs:=List.pairwise_mergeSort (le:=λa b=>decide (c a b<=0)) (λa b d h1 h2=>by simp only[decide_eq_true_eq] at *;exact hc.trans a b d h1 h2) (λa b=>by
  have:=hc.neg a b;simp only[Bool.or_eq_true,decide_eq_true_eq];omega) l
 have hn':(l.mergeSort λa b=>decide (c a b<=0)).Pairwise λx y=>c x y≠0:=(hp.symm.pairwise_iff (λ{a b} h q=>h (hc.eq_symm q))).1 hn;exact(hs.and hn').imp λ{a b} ⟨h1,h2⟩=>by simp only[decide_eq_true_eq] at h1;omega
theorem w0m(hP:C.P=Tryz.prog):wa4 C 146 wos:=by
 rintro args objs R h;unfold wos at h;split at h
 .rename_i n t m f fr;obtain⟨rfl,rfl,rfl,hn,hf,hd,hR⟩:=h;generalize rwOf f=g at *;subst hf;have hS:=wal.sortK (C:=C) (λr:RW=>[.str r.o,.str r.p,.q r.per,.q r.u,.q r.tv]) 5 (λ_=>rfl) (λx u hu=>by
    simp only[List.mem_cons,List.not_mem_nil,or_false] at hu
    rcases hu with rfl | rfl | rfl | rfl | rfl<;>rfl) keyC (t:=61) (fS:=146) (g:=147)
   ⟨_,hP ▸ Tryz.func146,rfl,by decide⟩
   (λblk cap d w h1 h2 h3 h4=>by
    rw[hP] at h1 ⊢;exact AnyQ.slices_SortFunc Tryz.sort146 5 Tryz.isAgg61 Tryz.sizeOf61 _ (λ_=>rfl) (λx v hv=>by
     simp only[encV,List.map_cons,List.map_nil,List.mem_cons,List.not_mem_nil,or_false] at hv
     rcases hv with rfl | rfl | rfl | rfl | rfl<;>rfl) keyC (wkd wc2) 147 #[] blk 0 cap d w (enters_of Tryz.func147 (by kernel_rfl) rfl) h1 h2 h3 h4)
   (λp cap fv w=>by
    rw[hP];exact AnyF.slices_SortFunc_none Tryz.sort146 p cap fv w)
   (λx y=>rcmp_ok (C:=Ctx.bare C.P C.mixed) hP _ _ _ _ _ rfl trivial) g (n:=n) (by omega)
  refine hS.mono ?_;rintro u O ⟨rfl,f',hp,hs,rfl⟩;refine hR f' ?_;have hd':(lst g n).Pairwise λa b=>keyC a b≠0:=hd.imp λ{a b} h q=>by rw[whh.1 q] at h;cases h
  obtain⟨a1,a2⟩:=wke wc2 hd';refine Asc.uniq wc2 (Asc.of_sorted (wvr λi j hij hj=>hs i j hij hj) wc2 ((hp.symm.pairwise_iff (λ{a b} h q=>h (wc2.eq_symm q))).1 hd')) a1 λx=>?_;rw[show x∈srtR (lst g n)↔x∈lst g n from a2.mem_iff];exact hp.mem_iff
 .exact h.elim
theorem w39(a b:List UInt8)(R:oR7):wpFn te [(94,.det wel)] [] 0 Tryz.f155 [.str a,.str b] [] R=(True/\R (.q (cmpS a b)) []):=by kernel_rfl
theorem nf_mcmp(m m':MG)(R:oR7):wpFn te [(155,.det wno),(95,.det wc5),(156,.det wc5),(93,.det S_or)] [] 0 Tryz.f115 [.agg [.str m.dev,.q m.seq,.q m.kind,.str m.v.o,.str m.v.p,.q m.v.per,.q m.v.day,.q m.v.st,.q m.v.pr,.str m.v.rep,.str m.d.o,.str m.d.p,.q m.d.per,.str m.d.dev,.q m.d.num],.agg [.str m'.dev,.q m'.seq,.q m'.kind,.str m'.v.o,.str m'.v.p,.q m'.v.per,.q m'.v.day,.q m'.v.st,.q m'.v.pr,.str m'.v.rep,.str m'.d.o,.str m'.d.p,.q m'.d.per,.str m'.d.dev,.q m'.d.num]] [] R=(letI z0:=wap 1 (.q (cmpS m.dev m'.dev):: .q (cmpI m.seq m'.seq):: .q (cmpI m.kind m'.kind):: .q (cmpS m.v.o m'.v.o):: .q (cmpS m.v.p m'.v.p):: .q (cmpI m.v.per m'.v.per):: .q (cmpI m.v.day m'.v.day):: .q (cmpI m.v.st m'.v.st):: .q (cmpI m.v.pr m'.v.pr):: .q (cmpS m.v.rep m'.v.rep):: .q (cmpS m.d.o m'.d.o):: .q (cmpS m.d.p m'.d.p):: .q (cmpI m.d.per m'.d.per):: .q (cmpS m.d.dev m'.d.dev):: .q (cmpI m.d.num m'.d.num)::List.append [] wb6);True/\True/\True/\True/\True/\True/\True/\True/\True/\True/\True/\True/\True/\True/\True/\(15<=16777216/\1=1/\15<=9223372036854775807)/\(∀(i:Nat),i<15->true=true)/\(3=3/\false=false/\15=15/\15<=100/\∀(i:Nat),i<15->[AV.q (List.getD [cmpS m.dev m'.dev,cmpI m.seq m'.seq,cmpI m.kind m'.kind,cmpS m.v.o m'.v.o,cmpS m.v.p m'.v.p,cmpI m.v.per m'.v.per,cmpI m.v.day m'.v.day,cmpI m.v.st m'.v.st,cmpI m.v.pr m'.v.pr,cmpS m.v.rep m'.v.rep,cmpS m.d.o m'.d.o,cmpS m.d.p m'.d.p,cmpI m.d.per m'.d.per,cmpS m.d.dev m'.d.dev,cmpI m.d.num m'.d.num] i (0:Int))]=[.q (vInt z0 i)])/\(∀(i:Nat),i<15->true=true)/\R (.q (orN (vInt z0) 15)) []):=by kernel_rfl
theorem lt15{p:Nat->Prop}(h0:p 0)(h1:p 1)(h2:p 2)(h3:p 3)(h4:p 4)(h5:p 5)(h6:p 6)(h7:p 7)(h8:p 8)(h9:p 9)(h10:p 10)(h11:p 11)(h12:p 12)(h13:p 13)(h14:p 14):∀i,i<15->p i:=λi hi=>by
 match i,hi with
 |0,_=>exact h0
 |1,_=>exact h1
 |2,_=>exact h2
 |3,_=>exact h3
 |4,_=>exact h4
 |5,_=>exact h5
 |6,_=>exact h6
 |7,_=>exact h7
 |8,_=>exact h8
 |9,_=>exact h9
 |10,_=>exact h10
 |11,_=>exact h11
 |12,_=>exact h12
 |13,_=>exact h13
 |14,_=>exact h14
theorem w52(hP:C.P=Tryz.prog):wah C 155 wno:=by
 rintro args objs U Os vc h hvc;unfold wno at h;split at h<;>cases h;rename_i a b;refine wah.wp0 (prg hP) [(94,.det wel)] 0 (.cons (wkk hP) .nil) (hP ▸ Tryz.func155) rfl rfl rfl ?_;rw[w39];exact⟨trivial,rfl,rfl⟩
theorem mcmp_ok(hP:C.P=Tryz.prog):wah C 115 wen:=by
 rintro args objs U Os vc h hvc;unfold wen at h;split at h<;>simp only[sI7,pI7,reduceCtorEq] at h;rename_i dev seq kind o p per day st pr rep o' p' per' dev' num dev2 seq2 kind2 o2 p2 per2 day2 st2 pr2 rep2 o3 p3 per3 dev3 num2;obtain⟨rfl,rfl,rfl⟩:=h;have hn:=nf_mcmp ⟨dev,seq,kind,⟨o,p,per,day,st,pr,rep⟩,⟨o',p',per',dev',num⟩⟩ ⟨dev2,seq2,kind2,⟨o2,p2,per2,day2,st2,pr2,rep2⟩,⟨o3,p3,per3,dev3,num2⟩⟩;dsimp only at hn;refine wah.wp0 (prg hP) [(155,.det wno),(95,.det wc5),(156,.det wc5),(93,.det S_or)] 0 (.cons (w52 hP) (.cons (wlh hP) (.cons (w65 hP) (.cons (wkt hP) .nil)))) (hP ▸ Tryz.func115) rfl rfl rfl ?_;rw[hn,wi7];exact⟨trivial,trivial,trivial,trivial,trivial,trivial,trivial,trivial,trivial,trivial,trivial,trivial,trivial,trivial,trivial,⟨by omega,rfl,by omega⟩,λ_ _=>rfl,⟨rfl,rfl,rfl,by omega,lt15 rfl rfl rfl rfl rfl rfl rfl rfl rfl rfl rfl rfl rfl rfl rfl⟩,λ_ _=>rfl,rfl,rfl⟩
theorem w0o(hP:C.P=Tryz.prog):wa4 C 114 wot:=by
 rintro args objs R h;unfold wot at h;split at h
 .rename_i n t m f fr;obtain⟨rfl,rfl,rfl,hn,hf,hR⟩:=h;generalize mgOf f=g at *;subst hf;have hS:=wal.sortK (C:=C) mgC 15 (λ_=>rfl) (λx u hu=>by
    simp only[mgC,List.mem_cons,List.not_mem_nil,or_false] at hu
    rcases hu with rfl | rfl | rfl | rfl | rfl | rfl | rfl | rfl | rfl | rfl | rfl | rfl | rfl | rfl | rfl<;>rfl) ordM (t:=40) (fS:=114) (g:=115)
   ⟨_,hP ▸ Tryz.func114,rfl,by decide⟩
   (λblk cap d w h1 h2 h3 h4=>by
    rw[hP] at h1 ⊢;exact AnyQ.slices_SortFunc Tryz.sort114 15 Tryz.isAgg40 Tryz.sizeOf40 _ (λ_=>rfl) (λx v hv=>by
     simp only[encV,mgC,List.map_cons,List.map_nil,List.mem_cons,List.not_mem_nil,or_false] at hv
     rcases hv with rfl | rfl | rfl | rfl | rfl | rfl | rfl | rfl | rfl | rfl | rfl | rfl | rfl | rfl | rfl<;>rfl) ordM (wkd wdl) 115 #[] blk 0 cap d w (enters_of Tryz.func115 (by kernel_rfl) rfl) h1 h2 h3 h4)
   (λp cap fv w=>by
    rw[hP];exact AnyF.slices_SortFunc_none Tryz.sort114 p cap fv w)
   (λx y=>mcmp_ok (C:=Ctx.bare C.P C.mixed) hP _ _ _ _ _ rfl trivial) g (n:=n) (by omega)
  refine hS.mono ?_;rintro u O ⟨rfl,f',hp,hs,rfl⟩;exact hR f' hp hs
 .exact h.elim
end Go.Eng
namespace Go.Eng
open Go.Proofs Go.RowKit
set_option maxRecDepth 20000
theorem w2m(s:List UInt8)(cells:List AV)(R:oR7):wpFn te [] [(1,wo7 s cells 262)] 0 Tryz.f248 [.str s,.ptr 0 0] [.cells cells 262] R=(letI z0:=([(0,.cells (AV.rnL (ren 1 []) cells) 262)]:oL7);some (St.mk [(0,.str s),(1,.ptr 0 0)] z0 1 [])=some (St.mk [(0,.str s),(1,.ptr 0 0)] [(0,.cells cells 262)] 1 [])/\wcm cells/\R (.str (List.dropWhile (wbn cells) s)) z0):=by kernel_rfl
theorem w2k(cells:List AV)(P:List UInt8->Prop)(R:eR7):wa1 ⟨te,[(262,.det wgz)],[],1,16,0⟩ (wa2 Tryz.f248 1) [0,1] [0] [0] (weh cells 262) P R (weh cells 262 [])=(R (.exit 0) (St.mk [(0,.str [])] [(0,.cells (AV.rnL (ren 1 []) cells) 262)] 1 [])):=by kernel_rfl
theorem w2l(x:UInt8)(s:List UInt8)(cells:List AV)(P:List UInt8->Prop)(R:eR7):wa1 ⟨te,[(262,.det wgz)],[],1,16,0⟩ (wa2 Tryz.f248 1) [0,1] [0] [0] (weh cells 262) P R (weh cells 262 (x::s))=(letI z3:=AV.rnL (idxN [0]) cells;letI z2:=(↑(x::s).length:Int);letI z1:=([(0,.cells (AV.rnL (ren 1 []) (AV.rnL (sig [0] 1) z3)) 262)]:oL7);letI z0:=(↑(UInt8.toNat (List.getD (x::s) (0:Int).toNat (0:UInt8))):Int);wab (decide ((0:Int)<z2)) (((0:Int)<=0/\(0:Int)<z2)/\(wcm z3/\(0:Int)<=z0/\z0<256)/\wab (!wbn z3 (UInt8.ofNat z0.toNat)) (R (.exit 0) (St.mk [(0,.str (x::s))] z1 1 [])) (((0:Int)<=1/\(1:Int)<=z2)/\∃(i':List UInt8),some (St.mk [(0,.str (List.drop (1:Int).toNat (x::s))),(1,.ptr 0 0)] z1 1 [])=some (St.mk [(0,.str i'),(1,.ptr 0 0)] [(0,.cells cells 262)] 1 [])/\P i')) (R (.exit 0) (St.mk [(0,.str (x::s))] [(0,.cells (AV.rnL (ren 1 []) cells) 262)] 1 []))):=by kernel_rfl
theorem w2j(s:List UInt8)(cells:List AV)(R:oR7):wpFn te [] [(1,wo6 s cells 262)] 0 Tryz.f249 [.str s,.ptr 0 0] [.cells cells 262] R=(letI z0:=([(0,.cells (AV.rnL (ren 1 []) cells) 262)]:oL7);some (St.mk [(0,.str s),(1,.ptr 0 0)] z0 1 [])=some (St.mk [(0,.str s),(1,.ptr 0 0)] [(0,.cells cells 262)] 1 [])/\wcm cells/\s.length<=9223372036854775807/\R (.str (wdm (wbn cells) s)) z0):=by kernel_rfl
theorem w2i(s:List UInt8)(cells:List AV)(P:List UInt8->Prop)(R:eR7):wa1 ⟨te,[(262,.det wgz)],[],1,22,0⟩ (wa2 Tryz.f249 1) [0,1] [0] [0] (weh cells 262) P R (weh cells 262 s)=(letI z3:=AV.rnL (idxN [0]) cells;letI z2:=([(0,.cells (AV.rnL (ren 1 []) (AV.rnL (sig [0] 1) z3)) 262)]:oL7);letI z0:=(s.length:Int);letI z4:=(z0 - (1:Int));letI z1:=(↑(UInt8.toNat (List.getD s z4.toNat (0:UInt8))):Int);wab (decide ((0:Int)<z0)) (inR .i64 z4/\((0:Int)<=z0 - (1:Int)/\z0 - (1:Int)<z0)/\(wcm z3/\(0:Int)<=z1/\z1<256)/\wab (!wbn z3 (UInt8.ofNat z1.toNat)) (R (.exit 0) (St.mk [(0,.str s)] z2 1 [])) (inR .i64 z4/\((0:Int)<=z0 - (1:Int)/\z0 - (1:Int)<=z0)/\∃(i':List UInt8),some (St.mk [(0,.str (List.take z4.toNat s)),(1,.ptr 0 0)] z2 1 [])=some (St.mk [(0,.str i'),(1,.ptr 0 0)] [(0,.cells cells 262)] 1 [])/\P i')) (R (.exit 0) (St.mk [(0,.str s)] [(0,.cells (AV.rnL (ren 1 []) cells) 262)] 1 []))):=by kernel_rfl
theorem nf_trim(s cs:List UInt8)(R:oR7):wpFn te [(248,.det wmn),(249,.det wmm)] [(1005,wo5 s cs)] 0 Tryz.f228 [.str s,.str cs] [] R=(letI z3:=St.mk [(0,.str s),(1,.str cs)] [] 0 [];letI z2:=((0:Int)<=0/\(0:Int)<(cs.length:Int):Prop);letI z1:=AV.rnL (idxN [0]) (setAV cs);letI z4:=AV.rnL (idxN [0]) (AV.rnL (sig [0] 1) z1);letI z0:=(some z3=some z3/\cs.length<4294967281/\(∀(b:UInt8),b∈cs->UInt8.toNat b<128)/\(wcm z1/\s.length<=9223372036854775807)/\wcm z4/\R (.str (List.dropWhile (wbn z4) (wdm (wbn z1) s))) []);wab (decide (s=[])) (R (.str s) []) (wab (decide (cs=[])) (R (.str s) []) (wab (decide ((cs.length:Int)=1)) (z2/\wab (decide ((↑(UInt8.toNat (List.getD cs (0:Int).toNat (0:UInt8))):Int)<128)) (z2/\False) z0) z0))):=by kernel_rfl
variable {C:Ctx} [C.Loose]
theorem mem2{α:Type}{l:List α}(h:l.length=2):∃a b,l=[a,b]:=by
 match l,h with
 |[a,b],_=>exact⟨a,b,rfl⟩
theorem mem1{α:Type}{l:List α}(h:l.length=1):∃a,l=[a]:=by
 match l,h with
 |[a],_=>exact⟨a,rfl⟩
theorem wuy(hP:C.P=Tryz.prog):wah C 262 wgz:=by
 have _:C.Loose:=inferInstance;rintro args objs U Os vc h hvc;unfold wgz at h;split at h<;>cases h;rename_i x cells t;obtain⟨hc,h0,h1⟩:=hvc;obtain⟨n,rfl⟩:∃n:UInt8,x=n.toNat:=⟨UInt8.ofNat x.toNat,by simp;omega⟩;refine wal.quiet ⟨Tryz.f262,hP ▸ Tryz.func262,rfl,by decide⟩ λE bs w cargs hW hl hv=>?_;obtain⟨a,b,rfl⟩:=mem2 hl;have e2:=(hv 1 _ _ rfl rfl).int_iff;subst e2;obtain⟨b,y,rfl,hcc,hy⟩:=hW.cell (r:=0) rfl (hv 0 _ _ rfl rfl) (hc.at_ n)
 cases hy;rw[hP];refine(Tryz.asciiSet_contains b n _ w hcc).mono ?_;rintro e w' ⟨rfl,rfl⟩;refine⟨_,rfl,rfl,?_⟩;have:UInt8.ofNat (n.toNat:Int).toNat=n:=by simp
 rw[this];exact .bool
theorem wz4(hP:C.P=Tryz.prog)(s:List UInt8)(cells:List AV):waj C 1 16 (wam Tryz.f248 1) (wo7 s cells 262):=by
 rintro st Q ⟨h0,hc,hQ⟩;refine waj.mk (prg hP) [(262,.det wgz)] 0 (.cons (wuy hP) .nil) [0,1] [0] [0] (weh cells 262) (λs'=>s'.dropWhile (wbn cells)=s.dropWhile (wbn cells)) List.length s rfl h0 λs' hs'=>?_;have hrn:=hc.rn
 cases s' with
 |nil=>
  rw[w2k];simp only[hrn];rw[← hs'] at hQ;exact hQ
 |cons x r=>
  rw[w2l];simp only[hrn];have ex:UInt8.ofNat (Int.toNat (↑(UInt8.toNat (List.getD (x::r) (Int.toNat 0) 0))))=x:=by simp
  have hx:(List.getD (x::r) (Int.toNat 0) 0)=x:=rfl;have hlt:x.toNat<256:=x.toNat_lt;have hlen:(((x::r).length:Nat):Int)=(r.length:Int)+1:=by simp
  rw[hx] at ex;simp only[hx,ex,hlen];refine waw (λ_=>⟨by omega,⟨hc,by omega,by omega⟩,waw (λh=>?_) (λh=>?_)⟩) (λh=>?_)
  .have h:wbn cells x=false:=by simpa using h
   rw[← hs',List.dropWhile_cons,h] at hQ;exact hQ
  .have h:wbn cells x=true:=by simpa using h
   refine⟨by omega,r,rfl,?_,by simp⟩;rw[← hs',List.dropWhile_cons,h];rfl
  .have:=of_decide_eq_false h;omega
theorem wz3(hP:C.P=Tryz.prog):wah C 248 wmn:=by
 rintro args objs U Os vc h hvc;unfold wmn at h;split at h<;>cases h;rename_i s cells;refine wah.wpL (prg hP) [] [(1,wo7 s cells 262)] 0 .nil (hP ▸ Tryz.func248) rfl rfl rfl [(wam Tryz.f248 1,wo7 s cells 262)] (by kernel_rfl) ⟨wz4 hP s cells,trivial⟩ ?_;rw[w2m];simp only[hvc.rn];exact⟨trivial,hvc,by simp⟩
theorem wz2(hP:C.P=Tryz.prog)(s:List UInt8)(cells:List AV):waj C 1 22 (wam Tryz.f249 1) (wo6 s cells 262):=by
 rintro st Q ⟨h0,hc,hm,hQ⟩;refine waj.mk (prg hP) [(262,.det wgz)] 0 (.cons (wuy hP) .nil) [0,1] [0] [0] (weh cells 262) (λs'=>wdm (wbn cells) s'=wdm (wbn cells) s/\s'.length<=maxLen) List.length s ⟨rfl,hm⟩ h0 λs' hs'=>?_;have hrn:=hc.rn;obtain⟨hs',hm'⟩:=hs';have hm2:s'.length<=9223372036854775807:=hm';rw[w2i];simp only[hrn]
 rcases w0q s' with rfl | ⟨r,x,rfl⟩
 .refine waw (λh=>?_) (λ_=>?_)
  .have:=of_decide_eq_true h;simp at this
  .rw[← hs'] at hQ;exact hQ
 .have hlen:(((r++[x]).length:Nat):Int)=(r.length:Int)+1:=by simp
  have e1:((r.length:Int)+1 - 1).toNat=r.length:=by omega
  have hx:(r++[x]).getD r.length 0=x:=by simp
  have ht:(r++[x]).take r.length=r:=by simp
  have ex:UInt8.ofNat ((x.toNat:Int)).toNat=x:=by simp
  have hlt:x.toNat<256:=x.toNat_lt;have hlr:(r++[x]).length=r.length+1:=by simp
  simp only[hlen,e1,hx,ht,ex,inR];refine waw (λ_=>⟨by omega,by omega,⟨hc,by omega,by omega⟩,waw (λh=>?_) (λh=>?_)⟩) (λh=>?_)
  .have h:wbn cells x=false:=by simpa using h
   rw[← hs',wyt,h] at hQ;exact hQ
  .have h:wbn cells x=true:=by simpa using h
   refine⟨by omega,by omega,r,rfl,⟨?_,?_⟩,by omega⟩
   .rw[← hs',wyt,h];rfl
   .show r.length<=9223372036854775807;omega
  .have:=of_decide_eq_false h;omega
theorem wz1(hP:C.P=Tryz.prog):wah C 249 wmm:=by
 rintro args objs U Os vc h hvc;unfold wmm at h;split at h<;>cases h;rename_i s cells;refine wah.wpL (prg hP) [] [(1,wo6 s cells 262)] 0 .nil (hP ▸ Tryz.func249) rfl rfl rfl [(wam Tryz.f249 1,wo6 s cells 262)] (by kernel_rfl) ⟨wz2 hP s cells,trivial⟩ ?_;rw[w2j];simp only[hvc.1.rn];exact⟨trivial,hvc.1,hvc.2,by simp⟩
theorem w0u{w:World}{M:Nat->Prop}{bs:Nat->Option Hd}(l:List UInt8):wdd w M bs (Lib.setCells l) (setAV l):=by
 have hs:(Lib.setCells l).size=256:=Lib.setCells_size l;have hl:(setAV l).length=256:=(wgf l).1;have at_:∀j,j<256->(Lib.setCells l)[j]?=some (.bool (l.contains (UInt8.ofNat j))):=by
  intro j hj;have:=Lib.setCells_at l (UInt8.ofNat j);have e:(UInt8.ofNat j).toNat=j:=by simp;omega
  rwa [e] at this
 refine⟨by rw[hs,hl],λj v hv=>?_,λj v u hv hu=>?_⟩
 .have hj:j<256:=by rw[← hs];exact(Array.getElem?_eq_some_iff.1 hv).1
  rw[at_ j hj] at hv
  cases hv;rfl
 .have hj:j<256:=by rw[← hs];exact(Array.getElem?_eq_some_iff.1 hv).1
  rw[at_ j hj] at hv
  cases hv;have:(setAV l)[j]?=some (.bool (l.contains (UInt8.ofNat j))):=by unfold setAV;simp[hj]
  rw[this] at hu
  cases hu;exact .bool
theorem w55(hP:C.P=Tryz.prog):wah C 247 wzk:=by
 rintro args objs U Os vc h hvc;unfold wzk at h;split at h<;>cases h;rename_i l;obtain⟨hl,hascii⟩:=hvc;refine wal.below ⟨Tryz.f247,hP ▸ Tryz.func247,rfl,by decide⟩ λw M cargs _ _ hM hlen hv=>?_;obtain⟨a,rfl⟩:=mem1 hlen;have e1:=(hv 0 _ _ rfl rfl).str_iff;subst e1;rw[hP];refine(Tryz.strings_makeASCIISet (λw=>Tryz.zeroValue262 w) ⟨l.toArray⟩ w (by simpa[ByteArray.size] using hl) (λj b hb=>hascii b (by simpa using List.mem_of_getElem? hb))).mono ?_;rintro e w' ⟨rfl,rfl⟩;have hc:=w0u (w:=w.alloc (.cells (Lib.setCells l) 262)) (M:=M) (bs:=nob) l;refine⟨_,rfl,(Below.refl _ _).alloc (lR7 _) _,.tuple rfl λj v u hv hu=>?_⟩
 match j with
 |0=>simp at hv hu;subst hv;subst hu;exact .agg hc.1 hc.2.1 hc.2.2
 |1=>simp at hv hu;subst hv;subst hu;exact .bool
 |j+2=>simp at hv
def teSet:TE:=[(262,{ desc:=.array 256 4,sz:=256,bytes:=256,zero:=.agg (Array.replicate 256 (.bool false)) })]
@[irreducible] def zeroSet:List AV:=List.replicate 256 (.bool false)
theorem w8y(n:Nat):avcs (List.replicate n (.bool false))=some (List.replicate n (.bool false)):=by
 induction n with
 |zero=>rfl
 |succ n ih=>simp[List.replicate_succ,avcs,avc,ih]
theorem w0a:TE.ok Tryz.prog teSet:=by
 refine TE.ok_cons Tryz.underlying262 ⟨Tryz.t262,Tryz.type262,rfl,rfl,by kernel_rfl⟩ (λh=>by cases h) TE.ok_nil
theorem wzo:avcs (Value.agg (Array.replicate 256 (.bool false))).cells.toList=some zeroSet:=by
 have e:(Value.agg (Array.replicate 256 (.bool false))).cells.toList=List.replicate 256 (Value.bool false):=Array.toList_replicate;rw[e];unfold zeroSet;exact w8y 256
theorem wzp(cs:List UInt8):zeroSet.length=(setAV cs).length:=by
 rw[(wgf cs).1];unfold zeroSet;rw[List.length_replicate]
theorem wz0(hP:C.P=Tryz.prog)(s cs:List UInt8):waj C 0 43 (regC Tryz.f228 5) (wo5 s cs):=by
 rintro st Q ⟨h0,hl,hascii,hQ⟩;refine AWP.canonIs [0,1] h0 ?_ trivial;have hte:=(prg hP).ok;have hts:TE.ok C.P teSet:=hP ▸ w0a;have hrn:=(wgf cs).rn;refine AWP.canQ (te:=te) (Fe:=[0,5,6]) (Fr:=[]) ?_;show AWP C 0 43 (.region 5 (List.toArray _) false) _ _;refine AWP.region ?_;refine AOps.pure hte (prg hP).one rfl rfl rfl trivial ?_;refine AOps.callD (u2:=.nil) (cobjs:=[]) (U:=.tuple [.agg (setAV cs),.bool true]) (Os:=[]) (T2:=[(31,.tuple [.agg (setAV cs),.bool true]),(30,.str cs),(0,.str s),(1,.str cs)]) [] rfl rfl rfl rfl rfl rfl trivial (w55 hP [.str cs] [] _ _ _ rfl ⟨hl,hascii⟩) rfl ?_ rfl rfl ?_
 .show (31,AV.tuple [.agg (AV.rnL _ (setAV cs)),.bool true])::_=_;rw[hrn];rfl
 refine AOps.pure hte (prg hP).one rfl rfl rfl trivial ?_;refine AOps.pure hte (prg hP).one rfl rfl rfl trivial ?_;refine AOps.pure hte (prg hP).one rfl rfl rfl trivial ?_;refine AOps.step (l:=[(_,.cells zeroSet 262)]) rfl (way.allocW hts (t:=262) rfl rfl rfl wzo) rfl rfl rfl rfl ?_;refine AOps.step rfl (way.storeW hts (t:=262) (new:=setAV cs) rfl rfl rfl rfl rfl rfl (wzp cs) (wgf cs).1) rfl rfl rfl rfl ?_;refine AOps.pure hte (prg hP).one rfl rfl rfl trivial ?_;refine AOps.nil ?_;refine canQ_of (s':=⟨[(0,.str s),(5,.ptr 0 0),(6,.bool true)],[(0,.cells (AV.rnL (ren 0 [(16,0)]) (setAV cs)) 262)],1,[]⟩) (by simp) ?_ ?_
 .rfl
 .rw[hrn];exact hQ
theorem wis(hP:C.P=Tryz.prog):wah C 228 we6:=by
 rintro args objs U Os vc h hvc;unfold we6 at h;split at h<;>cases h;rename_i s cs;obtain⟨hs,h2,hl,hascii⟩:=hvc
 refine wah.wpL (prg hP) [(248,.det wmn),(249,.det wmm)] [(1005,wo5 s cs)] 0 (.cons (wz3 hP) (.cons (wz1 hP) .nil)) (hP ▸ Tryz.func228) rfl rfl rfl
  [(regC Tryz.f228 5,wo5 s cs)] (by kernel_rfl) ⟨wz0 hP s cs,trivial⟩ ?_
 rw[nf_trim];have hrn:=(wgf cs).rn;have hc1:∀h:(cs.length:Int)=1,False:=by intro h;omega
 have hin:wbn (setAV cs)=(cs.contains ·):=funext (w62 cs)
 simp only[hrn,hin];refine waw (λh=>?_) (λ_=>waw (λh=>?_) (λ_=>waw (λh=>?_) (λ_=>?_)))
 .have h:=of_decide_eq_true h;subst h;simp[we9,wdm]
 .have h:=of_decide_eq_true h;subst h;simp at h2
 .exact(hc1 (of_decide_eq_true h)).elim
 .exact⟨trivial,hl,hascii,⟨wgf cs,hs⟩,wgf cs,rfl,trivial⟩
theorem nf_min(n:Nat)(v:Nat->Int)(R:oR7):wpFn te [] [(5,L_mm n v (minV v)),(1002,λ_ _=>False)] 0 Tryz.f260 [.own 0 n] [.row 3 1 n (λi=>[.q (v i)]) false] R=(letI z0:=([(0,.row 3 1 n (λ(i:Nat)=>[.q (v i)]) false)]:oL7);wab (decide ((n:Int)<1)) False (((0:Int)<=0/\(0:Int)<(n:Int))/\(0<n/\1=1)/\(TEq [(0,.own 0 n),(3,.q (v 0)),(4,.q 1)] [(0,.own 0 n),(3,.q (minV v 0)),(4,.q ((↑0:Int)+1))]/\wai z0 z0)/\1<=n/\n<=4611686018427387904/\(∀(i:Nat),i<n->true=true)/\∃(O':oL7),wai z0 O'/\R (.q (minV v (n - 1))) O')):=by kernel_rfl
theorem w37(n:Nat)(v:Nat->Int)(k:Nat)(P:Nat->Prop)(R:eR7):wa1 ⟨te,[],[],1,25,0⟩ (wa2 Tryz.f260 5) [0,3,4] [3] [] (wg1 n v (minV v)) P R (wg1 n v (minV v) k)=(letI z0:=([(0,.row 3 1 n (λ(i:Nat)=>[.q (v i)]) false)]:oL7);wab (decide ((k:Int)+1<(n:Int))) (((0:Int)<=(k:Int)+1/\(k:Int)+1<(n:Int))/\(((k:Int)+1).toNat<n/\1=1)/\inR .i64 ((k:Int)+1+1)/\∃(i':Nat),(TEq [(0,.own 0 n),(3,.q (min (minV v k) (v ((k:Int)+1).toNat))),(4,.q ((k:Int)+1+1))] [(0,.own 0 n),(3,.q (minV v i')),(4,.q ((i':Int)+1))]/\wai z0 z0)/\P i') ((∀(i:Nat),i<n->true=true)/\∃(O':oL7),wai z0 O'/\R (.exit 0) (St.mk [(3,.q (minV v k))] O' 1 []))):=by kernel_rfl
theorem nf_max(n:Nat)(v:Nat->Int)(R:oR7):wpFn te [] [(5,L_mm n v (maxV v)),(1002,λ_ _=>False)] 0 Tryz.f261 [.own 0 n] [.row 3 1 n (λi=>[.q (v i)]) false] R=(letI z0:=([(0,.row 3 1 n (λ(i:Nat)=>[.q (v i)]) false)]:oL7);wab (decide ((n:Int)<1)) False (((0:Int)<=0/\(0:Int)<(n:Int))/\(0<n/\1=1)/\(TEq [(0,.own 0 n),(3,.q (v 0)),(4,.q 1)] [(0,.own 0 n),(3,.q (maxV v 0)),(4,.q ((↑0:Int)+1))]/\wai z0 z0)/\1<=n/\n<=4611686018427387904/\(∀(i:Nat),i<n->true=true)/\∃(O':oL7),wai z0 O'/\R (.q (maxV v (n - 1))) O')):=by kernel_rfl
theorem w4a(n:Nat)(v:Nat->Int)(k:Nat)(P:Nat->Prop)(R:eR7):wa1 ⟨te,[],[],1,25,0⟩ (wa2 Tryz.f261 5) [0,3,4] [3] [] (wg1 n v (maxV v)) P R (wg1 n v (maxV v) k)=(letI z0:=([(0,.row 3 1 n (λ(i:Nat)=>[.q (v i)]) false)]:oL7);wab (decide ((k:Int)+1<(n:Int))) (((0:Int)<=(k:Int)+1/\(k:Int)+1<(n:Int))/\(((k:Int)+1).toNat<n/\1=1)/\inR .i64 ((k:Int)+1+1)/\∃(i':Nat),(TEq [(0,.own 0 n),(3,.q (max (maxV v k) (v ((k:Int)+1).toNat))),(4,.q ((k:Int)+1+1))] [(0,.own 0 n),(3,.q (maxV v i')),(4,.q ((i':Int)+1))]/\wai z0 z0)/\P i') ((∀(i:Nat),i<n->true=true)/\∃(O':oL7),wai z0 O'/\R (.exit 0) (St.mk [(3,.q (maxV v k))] O' 1 []))):=by kernel_rfl
theorem w4q(n:Nat)(v:Nat->Int)(R:oR7):wpFn te [(260,.det wnn),(261,.det wnp),(133,.det wh6)] [(7,wp6 n v)] 0 Tryz.f244 [.own 0 n] [.row 3 1 n (λi=>[.q (v i)]) false] R=(letI z8:=((0:Int)<=0/\(0:Int)<(n:Int):Prop);letI z7:=((0:Int)<=1/\(1:Int)<=(n:Int):Prop);letI z6:=(n - (1:Int).toNat);letI z5:=(vInt λ(i:Nat)=>[.q (v i)]);letI z4:=([(4,.str (wdx (v 0)++wct v 0)),(36,.sub 0 1 1 (n - 1)),(37,.q (↑(n - 1):Int)),(38,.q (↑0:Int))]:tL7);letI z3:=(3=3/\false=false/\1<=n/\n=n/\n<=4611686018427387904/\(λ(i:Nat)=>[.q (v i)])=wac z5:Prop);letI z2:=(∀(i:Nat),i<n->true=true:Prop);letI z1:=([(0,.row 3 1 n (λ(i:Nat)=>[.q (v i)]) false)]:oL7);letI z0:=(z2/\∃(O':oL7),wai z1 O'/\R (.tuple [.str [],.q 64]) O':Prop);wab (decide ((n:Int)<1)) z0 (wab (decide ((5:Int)<(n:Int))) z0 (z2/\z3/\z2/\wab (decide (minV z5 (n - 1)<1)) z0 (z2/\z3/\z2/\wab (decide ((99:Int)<maxV z5 (n - 1))) z0 (z8/\(0<n/\1=1)/\((0:Int)<=v 0/\v 0<100)/\z8/\(0<n/\1=1)/\wab (decide (v 0<10)) (([(48:UInt8)]).length+(decF (v 0)).length<=9223372036854775807/\z7/\(TEq [(4,.str ([(48:UInt8)]++decF (v 0))),(36,.sub 0 1 1 z6),(37,.q (z6:Int)),(38,.q 0)] z4/\wai z1 z1)/\wbo n v=true/\z2/\∃(O':oL7),wai z1 O'/\R (.tuple [.str (fmtZ n v),.q 0]) O') (z7/\(TEq [(4,.str (decF (v 0))),(36,.sub 0 1 1 z6),(37,.q (z6:Int)),(38,.q 0)] z4/\wai z1 z1)/\wbo n v=true/\z2/\∃(O':oL7),wai z1 O'/\R (.tuple [.str (fmtZ n v),.q 0]) O')))))):=by kernel_rfl
theorem w4p(n:Nat)(v:Nat->Int)(k:Nat)(P:Nat->Prop)(R:eR7):wa1 ⟨te,[(133,.det wh6)],[],1,49,0⟩ (wa2 Tryz.f244 7) [4,36,37,38] [4] [] (wn4 n v) P R (wn4 n v k)=(letI z2:=(↑(n - 1):Int);letI z1:=(v (1+(k:Int).toNat));letI z0:=([(0,.row 3 1 n (λ(i:Nat)=>[.q (v i)]) false)]:oL7);wab (decide ((k:Int)<z2)) (((0:Int)<=(k:Int)/\(k:Int)<z2/\1=1)/\(1+(k:Int).toNat<n/\1=1)/\((0:Int)<=v (1+(k:Int).toNat)/\v (1+(k:Int).toNat)<100)/\([(46:UInt8)]).length+(decF z1).length<=9223372036854775807/\(wdx (v 0)++wct v k).length+([(46:UInt8)]++decF z1).length<=9223372036854775807/\inR .i64 ((k:Int)+1)/\∃(i':Nat),(TEq [(4,.str (wdx (v 0)++wct v k++([(46:UInt8)]++decF z1))),(36,.sub 0 1 1 (n - 1)),(37,.q z2),(38,.q ((k:Int)+1))] [(4,.str (wdx (v 0)++wct v i')),(36,.sub 0 1 1 (n - 1)),(37,.q z2),(38,.q (i':Int))]/\wai z0 z0)/\P i') ((∀(i:Nat),i<n->true=true)/\∃(O':oL7),wai z0 O'/\R (.exit 0) (St.mk [(4,.str (wdx (v 0)++wct v k))] O' 1 []))):=by kernel_rfl
variable {C:Ctx} [C.Loose]
theorem w50(hP:C.P=Tryz.prog)(n:Nat)(v:Nat->Int):waj C 1 25 (wam Tryz.f260 5) (L_mm n v (minV v)):=by
 have _:C.Loose:=inferInstance;rintro st Q ⟨h0,hn,hn2,hQ⟩;refine waj.mk (prg hP) [] 0 .nil [0,3,4] [3] [] (wg1 n v (minV v)) (λk=>k+1<=n) (λk=>n - k) 0 hn h0 (λk hk=>?_) (λi=>⟨λ_ _=>rfl,trivial⟩);rw[w37];refine wak (λh=>?_) (λh=>⟨λ_ _=>rfl,_,wb1,?_⟩)
 .have e:((k:Int)+1).toNat=k+1:=by omega
  simp only[inR,e,and_true];exact⟨by omega,by omega,by omega,k+1,⟨rfl,wb1⟩,by omega,by omega⟩
 .have:k=n - 1:=by omega
  rw[this];exact hQ
theorem w53(hP:C.P=Tryz.prog)(n:Nat)(v:Nat->Int):waj C 1 25 (wam Tryz.f261 5) (L_mm n v (maxV v)):=by
 have _:C.Loose:=inferInstance;rintro st Q ⟨h0,hn,hn2,hQ⟩;refine waj.mk (prg hP) [] 0 .nil [0,3,4] [3] [] (wg1 n v (maxV v)) (λk=>k+1<=n) (λk=>n - k) 0 hn h0 (λk hk=>?_) (λi=>⟨λ_ _=>rfl,trivial⟩);rw[w4a];refine wak (λh=>?_) (λh=>⟨λ_ _=>rfl,_,wb1,?_⟩)
 .have e:((k:Int)+1).toNat=k+1:=by omega
  simp only[inR,e,and_true];exact⟨by omega,by omega,by omega,k+1,⟨rfl,wb1⟩,by omega,by omega⟩
 .have:k=n - 1:=by omega
  rw[this];exact hQ
theorem min_ok(hP:C.P=Tryz.prog):wah C 260 wnn:=by
 rintro args objs U Os vc h hvc;unfold wnn at h;split at h<;>cases h;rename_i n t m f fr;obtain⟨rfl,rfl,hn,rfl,hn2,hf⟩:=hvc;generalize vInt f=v at hf;subst hf
 refine wah.wpL (prg hP) [] [(5,L_mm n v (minV v)),(1002,λ_ _=>False)] 0 .nil (hP ▸ Tryz.func260) rfl rfl rfl
  [(regC Tryz.f260 2,λ_ _=>False),(wam Tryz.f260 5,L_mm n v (minV v))] (by kernel_rfl) ⟨λ_ _ h=>h.elim,w50 hP n v,trivial⟩ ?_
 show wpFn _ _ _ _ _ _ [.row _ _ _ (λi=>[.q (v i)]) _] _;rw[nf_min];exact wak (λh=>absurd h (by omega)) (λ_=>⟨by omega,by omega,⟨rfl,wb1⟩,hn,hn2,λ_ _=>rfl,_,wb1,rfl,rfl⟩)
theorem max_ok(hP:C.P=Tryz.prog):wah C 261 wnp:=by
 rintro args objs U Os vc h hvc;unfold wnp at h;split at h<;>cases h;rename_i n t m f fr;obtain⟨rfl,rfl,hn,rfl,hn2,hf⟩:=hvc;generalize vInt f=v at hf;subst hf
 refine wah.wpL (prg hP) [] [(5,L_mm n v (maxV v)),(1002,λ_ _=>False)] 0 .nil (hP ▸ Tryz.func261) rfl rfl rfl
  [(regC Tryz.f261 2,λ_ _=>False),(wam Tryz.f261 5,L_mm n v (maxV v))] (by kernel_rfl) ⟨λ_ _ h=>h.elim,w53 hP n v,trivial⟩ ?_
 show wpFn _ _ _ _ _ _ [.row _ _ _ (λi=>[.q (v i)]) _] _;rw[nf_max];exact wak (λh=>absurd h (by omega)) (λ_=>⟨by omega,by omega,⟨rfl,wb1⟩,hn,hn2,λ_ _=>rfl,_,wb1,rfl,rfl⟩)
theorem ww6(hP:C.P=Tryz.prog):wah C 133 wh6:=by
 rintro args objs U Os vc h hvc;unfold wh6 at h;split at h<;>cases h;rename_i n;obtain⟨i,rfl⟩:∃i:Nat,n=i:=⟨n.toNat,by omega⟩;refine wal.below ⟨Tryz.f133,hP ▸ Tryz.func133,rfl,by decide⟩ λw M cargs _ _ hM hl hv=>?_;obtain⟨a,rfl⟩:=mem1 hl;have:=(hv 0 _ _ rfl rfl).int_iff;subst this;rw[hP];refine(Tryz.strconv_Itoa_small i (by omega) w).mono ?_;rintro e w' ⟨rfl,rfl⟩;exact⟨_,rfl,Below.refl _ _,.str (by simp[decF])⟩
theorem w7f(hP:C.P=Tryz.prog)(n:Nat)(v:Nat->Int):waj C 1 49 (wam Tryz.f244 7) (wp6 n v):=by
 rintro st Q ⟨h0,hok,hQ⟩;have hv:=wxw hok;have hn:=fmtOK_n hok;refine waj.mk (prg hP) [(133,.det wh6)] 0 (.cons (ww6 hP) .nil) [4,36,37,38] [4] [] (wn4 n v) (λk=>k<=n - 1) (λk=>n - k) 0 (zL7 _) h0 (λk hk=>?_) (λi=>⟨λ_ _=>rfl,trivial⟩);rw[w4p];have hl1:=w7g (hv 0 (by omega));have hl2:=wxv (n:=n) (λi hi=>hv i hi) k (by omega);refine wak (λh=>?_) (λh=>⟨λ_ _=>rfl,_,wb1,?_⟩)
 .have hlt:k<n - 1:=by omega
  have e:1+(k:Int).toNat=k+1:=by omega
  have hk1:=hv (k+1) (by omega);have hl3:=wl1 hk1;simp only[inR,e,and_true,lA7,List.length_cons,List.length_nil];refine⟨by omega,by omega,by omega,by omega,by omega,by omega,k+1,⟨?_,wb1⟩,by omega,by omega⟩;unfold TEq;rw[show wct v (k+1)=wct v k++(46::decF (v (k+1))) from rfl];simp
 .have:k=n - 1:=by omega
  rw[this];exact hQ
theorem w7e(hP:C.P=Tryz.prog):wah C 244 wn2:=by
 rintro args objs U Os vc h hvc;unfold wn2 at h;split at h<;>cases h;rename_i n t m f fr;obtain⟨rfl,rfl,rfl,hn2,hf⟩:=hvc;generalize vInt f=v at hf;subst hf
 refine wah.wpL (prg hP) [(260,.det wnn),(261,.det wnp),(133,.det wh6)] [(7,wp6 n v)] 0 (.cons (min_ok hP) (.cons (max_ok hP) (.cons (ww6 hP) .nil))) (hP ▸ Tryz.func244) rfl rfl rfl
  [(wam Tryz.f244 7,wp6 n v)] (by kernel_rfl) ⟨w7f hP n v,trivial⟩ ?_
 show wpFn _ _ _ _ _ _ [.row _ _ _ (λi=>[.q (v i)]) _] _;rw[w4q];have hvi:(vInt λi=>[AV.q (v i)])=v:=rfl;rw[hvi];have bad:wbo n v=false->(AV.tuple [.str [],.q 64]= .tuple [.str (bif wbo n v then fmtZ n v else []),.q (bif wbo n v then 0 else 64)]):=λh=>by rw[h];rfl
 have good:wbo n v=true->(AV.tuple [.str (fmtZ n v),.q 0]= .tuple [.str (bif wbo n v then fmtZ n v else []),.q (bif wbo n v then 0 else 64)]):=λh=>by rw[h];rfl
 refine wak (λh1=>⟨λ_ _=>rfl,_,wb1,bad ?_,rfl⟩) (λh1=>wak (λh2=>⟨λ_ _=>rfl,_,wb1,bad ?_,rfl⟩) (λh2=>⟨λ_ _=>rfl,⟨rfl,rfl,by omega,rfl,hn2,rfl⟩,λ_ _=>rfl,
  wak (λh3=>⟨λ_ _=>rfl,_,wb1,bad ?_,rfl⟩) (λh3=>⟨λ_ _=>rfl,⟨rfl,rfl,by omega,rfl,hn2,rfl⟩,λ_ _=>rfl,wak (λh4=>⟨λ_ _=>rfl,_,wb1,bad ?_,rfl⟩) (λh4=>?_)⟩)⟩))
 .unfold wbo;rw[decide_eq_false (p:=1<=n) (by omega)];rfl
 .unfold wbo;rw[decide_eq_false (p:=n<=5) (by omega)];simp
 .unfold wbo;rw[decide_eq_false (p:=1<=minV v (n - 1)) (by omega)];simp
 .unfold wbo;rw[decide_eq_false (p:=maxV v (n - 1)<=99) (by omega)];simp
 .have hok:wbo n v=true:=by
   unfold wbo;rw[decide_eq_true (p:=1<=n) (by omega),decide_eq_true (p:=n<=5) (by omega),decide_eq_true (p:=1<=minV v (n - 1)) (by omega),decide_eq_true (p:=maxV v (n - 1)<=99) (by omega)];rfl
  have hv:=wxw hok 0 (by omega);have hl3:=wl1 hv;refine⟨by omega,⟨by omega,rfl⟩,by omega,by omega,⟨by omega,rfl⟩,wak (λh5=>⟨by simp only[List.length_cons,List.length_nil];omega,by omega,⟨?_,wb1⟩,hok,λ_ _=>rfl,_,wb1,good hok,rfl⟩) (λh5=>⟨by omega,⟨?_,wb1⟩,hok,λ_ _=>rfl,_,wb1,good hok,rfl⟩)⟩
  .unfold TEq wdx;rw[decide_eq_true h5];simp[wct]
  .unfold TEq wdx;rw[decide_eq_false h5];simp[wct]
theorem w3w(s:List UInt8)(R:oR7):wpFn te [(242,.det wmr),(244,.det wn2)] [(3,wpv s)] 0 Tryz.f227 [.str s] [] R=(letI z2:=(∀(i:Nat),i<(words s).length->true=true:Prop);letI z1:=(vInt λ(i:Nat)=>[.q (wca s i)]);letI z0:=(words s).length;(s.length<4294967281/\[(46:UInt8)]=[(46:UInt8)])/\(TEq [(0,.str s),(4,.own 0 0),(12,.view 1 z0 λ(i:Nat)=>[.str (List.getD (words s) i [])]),(13,.q (z0:Int)),(14,.q 0)] [(0,.str s),(4,.own 0 0),(12,.view 1 z0 λ(i:Nat)=>[.str (List.getD (words s) i [])]),(13,.q (z0:Int)),(14,.q (↑0:Int))]/\wai [(0,.row 3 1 0 (λ(_x:Nat)=>[]) false)] [(0,.row 3 1 0 (λ(i:Nat)=>[.q (wca s i)]) false)])/\s.length<4294967281/\z2/\(3=3/\false=false/\(words s).length=(words s).length/\(words s).length<=4611686018427387904/\(λ(i:Nat)=>[.q (wca s i)])=wac z1)/\z2/\wab (!decide ((bif wbo z0 z1 then (0:Int) else (64:Int))=0)) (R (.tuple [.nil,.q 60]) []) (wab (!decide ((bif wbo z0 z1 then fmtZ z0 z1 else [])=s)) (R (.tuple [.nil,.q 60]) []) (z2/\∃(O':oL7),wai [(0,.row 3 1 z0 (λ(i:Nat)=>[.q (wca s i)]) false)] O'/\R (.tuple [.own 0 z0,.q 0]) O'))):=by kernel_rfl
theorem w3v(s:List UInt8)(k:Nat)(P:Nat->Prop)(R:eR7):wa1 ⟨te,[(243,.det wol)],[],0,41,0⟩ (wa2 Tryz.f227 3) [0,4,12,13,14] [0,4] [] (wnd s) P R (wnd s k)=(letI z1:=(List.getD (words s) (k:Int).toNat []);letI z0:=(words s).length;wab (decide ((k:Int)<(z0:Int))) (((0:Int)<=(k:Int)/\(k:Int)<(z0:Int)/\1=1)/\z1.length<=281474976710656/\(1<=16777216/\1=1/\1<=9223372036854775807)/\((1<=1/\1=1)/\k<=k/\1=1/\3=3/\1=1/\k+1<=9223372036854775807/\(k+1) * 8<=140737488355328)/\inR .i64 ((k:Int)+1)/\∃(i':Nat),(TEq [(0,.str s),(4,.own 0 (k+1)),(12,.view 1 z0 λ(i:Nat)=>[.str (List.getD (words s) i [])]),(13,.q (z0:Int)),(14,.q ((k:Int)+1))] [(0,.str s),(4,.own 0 i'),(12,.view 1 z0 λ(i:Nat)=>[.str (List.getD (words s) i [])]),(13,.q (z0:Int)),(14,.q (i':Int))]/\wai [(0,.row 3 1 (k+1) (apF k (λ(i:Nat)=>[.q (wca s i)]) (wap 1 (.q (wjy z1)::List.append [] wb6))) false)] [(0,.row 3 1 i' (λ(i:Nat)=>[.q (wca s i)]) false)])/\P i') ((∀(i:Nat),i<k->true=true)/\∃(O':oL7),wai [(0,.row 3 1 k (λ(i:Nat)=>[.q (wca s i)]) false)] O'/\R (.exit 0) (St.mk [(0,.str s),(4,.own 0 k)] O' 1 []))):=by kernel_rfl
variable {C:Ctx} [C.Loose]
theorem w0i(hP:C.P=Tryz.prog)(hL:∀w,C.laid w->LaidW w):wah C 242 wmr:=by
 rintro args objs U Os vc h hvc;unfold wmr at h;split at h<;>cases h;rename_i s sep;obtain⟨hs,rfl⟩:=hvc;refine wal.below ⟨Tryz.f242,hP ▸ Tryz.func242,rfl,by decide⟩ λw M cargs hlaid _ hM hl hv=>?_;obtain⟨m,hm⟩:=(hL w hlaid).maxLen;obtain⟨a,b,rfl⟩:=mem2 hl;have e1:=(hv 0 _ _ rfl rfl).str_iff;have e2:=(hv 1 _ _ rfl rfl).str_iff;subst e1;subst e2;rw[hP];refine(Tryz.strings_Split ⟨s.toArray⟩ ⟨#[46]⟩ m w (by simpa[ByteArray.size] using hs) hm (by decide)).mono ?_;rintro e w' ⟨rfl,rfl⟩;have hd:=Lib.splitB_data ⟨#[46]⟩ 0 (Lib.countB ⟨s.toArray⟩ ⟨#[46]⟩) ⟨s.toArray⟩;have hw:(Lib.splitB ⟨#[46]⟩ 0 (Lib.countB ⟨s.toArray⟩ ⟨#[46]⟩) ⟨s.toArray⟩).map (·.data.toList)=words s:=by
  rw[hd];simp[words,Lib.split]
 have hlen:(Lib.splitB ⟨#[46]⟩ 0 (Lib.countB ⟨s.toArray⟩ ⟨#[46]⟩) ⟨s.toArray⟩).length=(words s).length:=by rw[← hw];simp
 have hcnt:Lib.countB ⟨s.toArray⟩ ⟨#[46]⟩+1=(words s).length:=by
  rw[wiq]
 refine⟨_,rfl,(Below.refl _ _).alloc (lR7 _) _,?_⟩;rw[hcnt];have hle:=Lib.count_le s [46];refine V.newview hM (by simp[hlen]) (by rw[wiq];unfold maxLen;omega) (λi v hv=>?_) (λi v hv=>?_)
 .rw[List.getElem?_toArray,List.getElem?_map] at hv;obtain⟨x,_,rfl⟩:=Option.map_eq_some_iff.1 hv;exact rfl
 .simp at hv;obtain⟨x,hx,rfl⟩:=hv;refine⟨_,rfl,.str ?_⟩;have:(words s)[i]?=some x.data.toList:=by rw[← hw];simp[hx]
  simp[List.getD,this]
theorem atoi_ok(hP:C.P=Tryz.prog)(hL:∀w,C.laid w->LaidW w):wah C 243 wol:=by
 rintro args objs U Os vc h hvc;unfold wol at h;split at h<;>cases h;rename_i s;refine wal.below ⟨Tryz.f243,hP ▸ Tryz.func243,rfl,by decide⟩ λw M cargs hlaid _ hM hl hv=>?_;obtain⟨a,rfl⟩:=mem1 hl;have e1:=(hv 0 _ _ rfl rfl).str_iff;subst e1;rw[hP];have hsz:(⟨s.toArray⟩:ByteArray).size=s.length:=by simp[ByteArray.size]
 have hdt:(⟨s.toArray⟩:ByteArray).data.toList=s:=by simp
 have tup:∀(w':World) (n:Int) (e:Value),V w' M nob (.tuple #[.int .i64 n,e]) (.tuple [.int .i64 n,.any]):=λw' n e=>.tuple rfl λj v u hv hu=>by
  match j with
  |0=>simp at hv hu;subst hv;subst hu;exact .int
  |1=>simp at hv hu;subst hv;subst hu;exact .any
  |j+2=>simp at hv
 unfold wjy
 cases hh:Lib.atoiAll s with
 |ok v=>
  refine(Tryz.strconv_Atoi_ok ⟨s.toArray⟩ (by omega) v (by rw[hdt];exact hh) w).mono ?_;rintro e w' ⟨rfl,hw⟩;refine⟨_,rfl,?_,tup _ _ _⟩
  rcases hw with rfl | ⟨t,rfl⟩
  .exact Below.refl _ _
  .exact Lib.bytesWorld_below _ _ _
 |range=>
  obtain⟨t,p,he⟩:=(hL w hlaid).errR;refine(Any.strconv_Atoi_range Tryz.laysC172 ⟨s.toArray⟩ (by omega) (by rw[hdt];exact hh) _ w he (.inr ⟨t,p,rfl⟩)).mono ?_;rintro e w' ⟨N,rfl,_,_,hb⟩;rw[hdt];exact⟨_,rfl,hb,tup _ _ _⟩
 |_=>
  obtain⟨t,p,he⟩:=(hL w hlaid).errS;refine(Any.strconv_Atoi_syntax Tryz.laysC172 ⟨s.toArray⟩ (by omega) (by rw[hdt];exact hh) _ w he (.inr ⟨t,p,rfl⟩)).mono ?_;rintro e w' ⟨N,rfl,_,_,hb⟩;exact⟨_,rfl,hb,tup _ _ _⟩
theorem w11(hP:C.P=Tryz.prog)(hL:∀w,C.laid w->LaidW w)(s:List UInt8):waj C 0 41 (wam Tryz.f227 3) (wpv s):=by
 rintro st Q ⟨h0,hs,hQ⟩;refine AWP.ownNil 4 3 1 ?_;have hwl:(words s).length<=s.length+2:=by
  have:=Lib.count_le s [46];rw[wiq];omega
 refine waj.mk (prg hP) [(243,.det wol)] 0 (.cons (atoi_ok hP hL) .nil) [0,4,12,13,14] [0,4] [] (wnd s) (λk=>k<=(words s).length) (λk=>(words s).length - k) 0 (zL7 _) h0 (λk hk=>?_) (λi=>⟨λ_ _=>rfl,trivial⟩);rw[w3v];refine wak (λh=>?_) (λh=>⟨λ_ _=>rfl,_,wb1,?_⟩)
 .have hlt:k<(words s).length:=by omega
  have hlw:((words s).getD k []).length<=s.length:=by
   have:=wzt s ((words s).getD k []) (by simp[List.getD,hlt]);exact this
  have hrow:∀i,i<k+1->apF k (λi=>[AV.q (wca s i)]) (wap 1 [.q (wjy ((words s).getD k []))]) i=[.q (wca s i)]:=by
   intro i hi;unfold apF;split
   .rfl
   .have:i=k:=by omega
    subst this;rw[Nat.sub_self];rfl
  simp only[inR,tN7]
  and_intros
  any_goals omega
  any_goals (simp;done)
  exact⟨k+1,⟨rfl,⟨rfl,rfl,rfl,rfl,rfl,hrow⟩,trivial⟩,by omega,by omega⟩
 .have:k=(words s).length:=by omega
  rw[this] at *;exact hQ
theorem w10(hP:C.P=Tryz.prog)(hL:∀w,C.laid w->LaidW w):wa4 C 227 wow:=by
 rintro args objs R h;unfold wow at h;split at h
 .rename_i s;obtain⟨hs,hR⟩:=h;have hR:=wbv hR
  refine wa4.wpL (prg hP) [(242,.det wmr),(244,.det wn2)] [(3,wpv s)] 0 (.cons (w0i hP hL) (.cons (w7e hP) .nil)) (hP ▸ Tryz.func227) rfl rfl rfl
   [(wam Tryz.f227 3,wpv s)] (by kernel_rfl) ⟨w11 hP hL s,trivial⟩ ?_
  rw[w3w];have hvi:(vInt λi=>[AV.q (wca s i)])=wca s:=rfl;rw[hvi];have hwl:(words s).length<=s.length+2:=by
   have:=Lib.count_le s [46];rw[wiq];omega
  refine⟨⟨hs,rfl⟩,⟨rfl,⟨rfl,rfl,rfl,rfl,rfl,λi hi=>by omega⟩,trivial⟩,hs,λ_ _=>rfl,⟨rfl,rfl,rfl,by omega,rfl⟩,λ_ _=>rfl,?_⟩
  cases hok:wbo (words s).length (wca s) with
  |false=>exact hR.2 (by unfold wd4;rw[hok];rfl)
  |true=>
   have e0:(!decide ((bif true then (0:Int) else 64)=0))=false:=rfl
   rw[e0];show wab (!decide (fmtZ (words s).length (wca s)=s)) _ _;refine wa7 (λh1=>hR.2 ?_) (λh1=>⟨λ_ _=>rfl,_,wb1,hR.1 ?_⟩)
   .unfold wd4;rw[hok,decide_eq_false h1];rfl
   .unfold wd4;rw[hok];exact decide_eq_true h1
 .exact h.elim
end Go.Eng
namespace Go.Eng
open Go.Proofs Go.RowKit
variable {C:Ctx} [C.Loose]
set_option maxRecDepth 20000
theorem w4c(s:List UInt8)(R:oR7):wpFn te [(227,.rel wow)] [] 0 Tryz.f198 [.str s] [] R=(s.length<4294967281/\wab (wd4 s) ((∀(i:Nat),i<(words s).length->true=true)/\R (.q (↑(words s).length:Int)) []) (wab (!decide (s=[])) (R (.q (-1:Int)) []) (R (.q 0) []))):=by kernel_rfl
theorem w6d(hP:C.P=Tryz.prog)(hL:∀w,C.laid w->LaidW w):wah C 198 wnq:=by
 rintro args objs U Os vc h hvc;unfold wnq at h;split at h<;>cases h;rename_i s;refine wah.wp0 (prg hP) [(227,.rel wow)] 0 (.cons (w10 hP hL) .nil) (hP ▸ Tryz.func198) rfl rfl rfl ?_;rw[w4c];refine⟨hvc,waw (λh=>⟨λ_ _=>rfl,?_,rfl⟩) (λh=>wa7 (λh'=>⟨?_,rfl⟩) (λh'=>⟨?_,rfl⟩))⟩
 .unfold wgm;rw[h]
 .unfold wgm;rw[h,decide_eq_false h']
 .unfold wgm;rw[h,decide_eq_true h']
end Go.Eng
namespace Go.Eng
open Go.Proofs Go.RowKit
set_option maxRecDepth 20000
theorem nf_qty(d c a:Int)(R:oR7):wpFn te [] [] 0 Tryz.f200 [.agg [.q d,.q c,.q a]] [] R=(wab (decide (d<1)) (R (.q 80) []) (wab (decide ((4:Int)<d)) (R (.q 80) []) (wab (decide (c<1)) (R (.q 81) []) (wab (decide ((100:Int)<c)) (R (.q 81) []) (wab (decide (a<1)) (R (.q 82) []) ((c≠(0:Int)/\inR .i64 (Int.tdiv (1099511627776:Int) c))/\wab (decide (Int.tdiv (1099511627776:Int) c<a)) (R (.q 82) []) (R (.q 0) []))))))):=by kernel_rfl
variable {C:Ctx} [C.Loose]
theorem qty_ok(hP:C.P=Tryz.prog):wah C 200 wm7:=by
 have _:C.Loose:=inferInstance;rintro args objs U Os vc h hvc;unfold wm7 at h;split at h<;>cases h;rename_i d c a;refine wah.wp0 (prg hP) [] 0 .nil (hP ▸ Tryz.func200) rfl rfl rfl ?_;rw[nf_qty];refine waw (λh1=>?_) (λh1=>waw (λh2=>?_) (λh2=>waw (λh3=>?_) (λh3=>waw (λh4=>?_) (λh4=>waw (λh5=>?_) (λh5=>⟨w1n (of_decide_eq_false h3) (of_decide_eq_false h4),waw (λh6=>?_) (λh6=>?_)⟩)))))
 all_goals simp only[qtyF, *,cond_true,cond_false,and_self]
theorem w4h(s:List UInt8)(r:Int)(R:oR7):wpFn te [(266,.det wh7),(267,.det wmk)] [(38,wp2 s),(5,wpz s (Utf8.encode r).data.toList),(25,λ_ _=>False)] 0 Tryz.f253 [.str s,.int .i32 r] [] R=(letI z3:=St.mk [(0,.str s),(175,.ptr 0 0)] [(0,.siter s 0)] 1 [];letI z1:=Array.toList (ByteArray.data (Utf8.encode r));letI z4:=(z1.length:Int);letI z2:=(St.mk [(0,.str s),(7,.str z1),(8,.q (z4 - (1:Int))),(9,.q (z4 - (1:Int)))] [] 0 []);letI z0:=(wab (decide (r=65533)) (some z3=some z3/\ascii s=true/\R (.q (-1:Int)) []) (True/\wab (!Lib.validRune r) (R (.q (-1:Int)) []) (True/\inR .i64 (z4 - (1:Int))/\some z2=some z2/\ascii s=true/\s.length<=1000000/\2<=z1.length/\z1.length<=4/\128<=UInt8.toNat (List.getD z1 (z1.length - 1) (0:UInt8))/\R (.q (-1:Int)) []/\R (.q (-1:Int)) [])));wab (decide ((0:Int)<=r)) (wab (decide (r<128)) (inR .u8 r/\True/\R (.q (Lib.indexByte s (Nat.toUInt8 r.toNat))) []) z0) z0):=by kernel_rfl
theorem w4g(s:List UInt8)(k:Nat)(P:Nat->Prop)(R:eR7):wa1 ⟨te,[],[],0,187,0⟩ (wa2 Tryz.f253 38) [0,175] [] [4] (wnt s) P R (wnt s k)=(wab (decide (k<s.length)) (True/\wab (decide ((↑(wbs s k).1:Int)=65533)) (R .ret (St.mk [(4,.q (k:Int))] [] 0 [])) (∃(i':Nat),some (St.mk [(0,.str s),(175,.ptr 0 0)] [(0,.siter s (k+(wbs s k).2))] 1 [])=some (St.mk [(0,.str s),(175,.ptr 0 0)] [(0,.siter s i')] 1 [])/\P i')) (True/\R (.exit 9) (St.mk [] [] 0 []))):=by kernel_rfl
theorem w4f(s e:List UInt8)(P:Unit->Prop)(R:eR7):wa1 ⟨te,[(266,.det wh7)],[(12,λ_ _=>False),(1015,λ_ _=>False),(1016,λ_ _=>False)],0,187,0⟩ (wa2 Tryz.f253 5) [0,7,8,9] [] [4] (λ_=>wns s e) P R (wns s e)=(letI z5:=(s.length:Int);letI z0:=(e.length:Int);letI z4:=((0:Int)<=z0 - (1:Int)/\z0 - (1:Int)<z0:Prop);letI z3:=(List.drop (z0 - (1:Int)+1).toNat s);letI z1:=(↑(UInt8.toNat (List.getD e (z0 - (1:Int)).toNat (0:UInt8))):Int);letI z2:=(Lib.indexByte z3 (Nat.toUInt8 z1.toNat)+1);wab (decide (z0 - (1:Int)<z5)) (((0:Int)<=z0 - (1:Int)/\z0 - (1:Int)<z5)/\z4/\wab (!decide ((↑(UInt8.toNat (List.getD s (z0 - (1:Int)).toNat (0:UInt8))):Int)=z1)) (inR .i64 (z0 - (1:Int)+1)/\((0:Int)<=z0 - (1:Int)+1/\z0 - (1:Int)+1<=z5)/\z4/\True/\wab (decide (Lib.indexByte z3 (Nat.toUInt8 z1.toNat)<0)) (R .ret (St.mk [(4,.q (-1:Int))] [] 0 [])) (inR .i64 z2/\inR .i64 (z0 - (1:Int)+z2)/\False)) False) (R (.exit 1) (St.mk [] [] 0 []))):=by kernel_rfl
theorem w42(s:List UInt8)(r:Int)(R:oR7):wpFn te [(253,.det wnu)] [] 0 Tryz.f231 [.str s,.int .i32 r] [] R=((ascii s=true/\s.length<=1000000/\(0:Int)<=r/\r<=1114111)/\R (.bool (decide ((0:Int)<=wck s r))) []):=by kernel_rfl
variable {C:Ctx} [C.Loose]
theorem wxb(hP:C.P=Tryz.prog):wah C 266 wh7:=by
 rintro args objs U Os vc h hvc;unfold wh7 at h;split at h<;>cases h;rename_i s c;refine wal.below ⟨Tryz.f266,hP ▸ Tryz.func266,rfl,by decide⟩ λw M cargs _ _ hM hl hv=>?_;obtain⟨a,b,rfl⟩:=mem2 hl;have e1:=(hv 0 _ _ rfl rfl).str_iff;have e2:=(hv 1 _ _ rfl rfl).int_iff;subst e1;subst e2;rw[hP];refine(Tryz.strings_IndexByte ⟨s.toArray⟩ c w).mono ?_;rintro e w' ⟨rfl,rfl⟩;exact⟨_,rfl,Below.refl _ _,.int⟩
theorem wzy(hP:C.P=Tryz.prog):wah C 267 wmk:=by
 rintro args objs U Os vc h hvc;unfold wmk at h;split at h<;>cases h;rename_i r;refine wal.below ⟨Tryz.f267,hP ▸ Tryz.func267,rfl,by decide⟩ λw M cargs _ _ hM hl hv=>?_;obtain⟨a,rfl⟩:=mem1 hl;have e1:=(hv 0 _ _ rfl rfl).int_iff;subst e1;rw[hP];refine(Tryz.utf8_ValidRune r w).mono ?_;rintro e w' ⟨rfl,rfl⟩;exact⟨_,rfl,Below.refl _ _,.bool⟩
theorem w6t(hP:C.P=Tryz.prog)(s:List UInt8):waj C 0 187 (wam Tryz.f253 38) (wp2 s):=by
 have _:C.Loose:=inferInstance;rintro st Q ⟨h0,ha,hQ⟩;refine waj.mk (prg hP) [] 0 .nil [0,175] [] [4] (wnt s) (λk=>k<=s.length) (λk=>s.length - k) 0 (zL7 _) h0 λk hk=>?_;rw[w4g];refine waw (λh=>?_) (λh=>⟨trivial,hQ⟩);have h:=of_decide_eq_true h;have hlt:=wza ha h;rw[wra h hlt];refine⟨trivial,waw (λh'=>?_) (λ_=>⟨k+1,rfl,by omega,by omega⟩)⟩;have h':=of_decide_eq_true h';simp only at h';omega
theorem w6s(hP:C.P=Tryz.prog)(s e:List UInt8):waj C 0 187 (wam Tryz.f253 5) (wpz s e):=by
 rintro st Q ⟨h0,ha,hs,h2,h4,hl,hQ1,hQ2⟩
 refine waj.mkL (prg hP) [(266,.det wh7)] [(12,λ_ _=>False),(1015,λ_ _=>False),(1016,λ_ _=>False)] 0 (.cons (wxb hP) .nil)
  [(wam Tryz.f253 12,λ_ _=>False),(regC Tryz.f253 15,λ_ _=>False),(regC Tryz.f253 16,λ_ _=>False)] (by kernel_rfl)
  ⟨λ_ _ h=>h.elim,λ_ _ h=>h.elim,λ_ _ h=>h.elim,trivial⟩ [0,7,8,9] [] [4] (λ_:Unit=>wns s e) (λ_=>True) (λ_=>0) () trivial h0 λ_ _=>?_
 rw[w4f];refine waw (λh=>?_) (λh=>hQ1);have h:=of_decide_eq_true h;have e1:((e.length:Int) - 1).toNat=e.length - 1:=by omega
 have e2:((e.length:Int) - 1+1).toNat=e.length:=by omega
 have hlo:=wza ha (k:=e.length - 1) (by omega);simp only[e1,e2,inR];have hne:decide (((s.getD (e.length - 1) 0).toNat:Int)=((e.getD (e.length - 1) 0).toNat:Int))=false:=decide_eq_false (by omega);rw[hne];have hb:(e.getD (e.length - 1) 0).toNat<256:=(e.getD (e.length - 1) 0).toNat_lt;have hneg:=w60 (w8z ha e.length) (c:=((e.getD (e.length - 1) 0).toNat:Int).toNat.toUInt8) (by rw[wt6];exact hl);refine⟨by omega,by omega,by omega,by omega,by omega,trivial,?_⟩;rw[hneg];exact hQ2
theorem w6x(hP:C.P=Tryz.prog):wah C 253 wnu:=by
 rintro args objs U Os vc h hvc;unfold wnu at h;split at h<;>cases h;rename_i s r;obtain⟨ha,hs,h0,h1⟩:=hvc
 refine wah.wpL (prg hP) [(266,.det wh7),(267,.det wmk)] [(38,wp2 s),(5,wpz s (Utf8.encode r).data.toList),(25,λ_ _=>False)] 0
  (.cons (wxb hP) (.cons (wzy hP) .nil)) (hP ▸ Tryz.func253) rfl rfl rfl
  [(wam Tryz.f253 38,wp2 s),(wam Tryz.f253 5,wpz s (Utf8.encode r).data.toList),(wam Tryz.f253 25,λ_ _=>False)] (by kernel_rfl)
  ⟨w6t hP s,w6s hP s _,λ_ _ h=>h.elim,trivial⟩ ?_
 rw[w4h];refine waw (λ_=>waw (λh=>?_) (λh=>?_)) (λh=>absurd h0 (of_decide_eq_false h))
 .have h':=of_decide_eq_true h;refine⟨by simp only[inR];omega,trivial,?_,rfl⟩;simp only[wck,h]
 .have h':=of_decide_eq_false h;refine waw (λ_=>⟨rfl,ha,?_,rfl⟩) (λ_=>⟨trivial,waw (λ_=>⟨?_,rfl⟩) (λhv=>?_)⟩)
  .simp only[wck,h]
  .simp only[wck,h]
  .have hv:Lib.validRune r=true:=by simpa using hv
   obtain⟨l1,l2,l3⟩:=w7r (by omega) hv;refine⟨trivial,by simp only[inR];omega,rfl,ha,hs,l1,l2,l3,⟨?_,rfl⟩,⟨?_,rfl⟩⟩
   .simp only[wck,h]
   .simp only[wck,h]
theorem w75(hP:C.P=Tryz.prog):wah C 231 woa:=by
 rintro args objs U Os vc h hvc;unfold woa at h;split at h<;>cases h;rename_i s r;refine wah.wp0 (prg hP) [(253,.det wnu)] 0 (.cons (w6x hP) .nil) (hP ▸ Tryz.func231) rfl rfl rfl ?_;rw[w42];exact⟨hvc,rfl,rfl⟩
theorem w34(r:Int)(R:oR7):wpFn te [(231,.det woa)] [] 0 Tryz.f230 [.int .i32 r] [] R=((true=true/\38<=1000000/\(0:Int)<=r/\r<=1114111)/\R (.bool !decide ((0:Int)<=wck ([(97:UInt8),98,99,100,101,102,103,104,105,106,107,108,109,110,111,112,113,114,115,116,117,118,119,120,121,122,48,49,50,51,52,53,54,55,56,57,45,46]) r)) []):=by kernel_rfl
theorem w4j(s:List UInt8)(R:oR7):wpFn te [] [(2,wp3 s)] 0 Tryz.f265 [.str s,.func 230 [],.bool true] [] R=(letI z0:=St.mk [(1,.func 230 []),(2,.bool true),(10,.ptr 0 0)] [(0,.siter s 0)] 1 [];some z0=some z0/\wab (List.all s isNB) (R (.q (-1:Int)) []) (R (.q (↑(wdq s):Int)) [])):=by kernel_rfl
theorem w4i(s:List UInt8)(k:Nat)(P:Nat->Prop)(R:eR7):wa1 ⟨te,[(230,.det wnj)],[],0,21,0⟩ (wa2 Tryz.f265 2) [1,2,10] [] [6] (wn0 s) P R (wn0 s k)=(letI z1:=([(1,.func 230 []),(2,.bool true),(10,.ptr 0 0)]:tL7);letI z0:=(↑(wbs s k).1:Int);wab (decide (k<s.length)) (True/\((0:Int)<=z0/\z0<=1114111)/\wab (decide ((!decide ((0:Int)<=wck wfi z0))=true)) (R .ret (St.mk [(6,.q (k:Int))] [] 0 [])) (∃(i':Nat),some (St.mk z1 [(0,.siter s (k+(wbs s k).2))] 1 [])=some (St.mk z1 [(0,.siter s i')] 1 [])/\P i')) (True/\R (.exit 0) (St.mk [] [] 0 []))):=by kernel_rfl
theorem w5g(s:List UInt8)(R:oR7):wpFn te [(265,.det wnv)] [] 0 Tryz.f252 [.str s,.func 230 []] [] R=(True/\R (.q (wfn s)) []):=by kernel_rfl
theorem w5h(s:List UInt8)(R:oR7):wpFn te [(252,.det wom)] [] 0 Tryz.f229 [.str s,.func 230 []] [] R=(True/\R (.bool (decide ((0:Int)<=wfn s))) []):=by kernel_rfl
theorem nf_name(s:List UInt8)(R:oR7):wpFn te [(228,.det we6),(229,.det won)] [] 0 Tryz.f199 [.str s] [] R=(wab (!decide (s=[])) (wab (decide ((s.length:Int)<=24)) (((0:Int)<=1/\(1:Int)<=(s.length:Int))/\((List.take (1:Int).toNat s).length<=9223372036854775807/\2<=36/\36<4294967281/\∀(b:UInt8),b∈[(97:UInt8),98,99,100,101,102,103,104,105,106,107,108,109,110,111,112,113,114,115,116,117,118,119,120,121,122,48,49,50,51,52,53,54,55,56,57]->UInt8.toNat b<128)/\wab (decide (we9 ([(97:UInt8),98,99,100,101,102,103,104,105,106,107,108,109,110,111,112,113,114,115,116,117,118,119,120,121,122,48,49,50,51,52,53,54,55,56,57]) (List.take (1:Int).toNat s)=[])) (True/\R (.bool !!List.all s isNB) []) (R (.bool false) [])) (R (.bool false) [])) (R (.bool false) [])):=by kernel_rfl
variable {C:Ctx} [C.Loose]
theorem w5p(hP:C.P=Tryz.prog):wah C 230 wnj:=by
 rintro args objs U Os vc h hvc;unfold wnj at h;split at h<;>cases h;rename_i r;refine wah.wp0 (prg hP) [(231,.det woa)] 0 (.cons (w75 hP) .nil) (hP ▸ Tryz.func230) rfl rfl rfl ?_;rw[w34];exact⟨⟨rfl,by omega,hvc.1,hvc.2⟩,rfl,rfl⟩
theorem w6z(hP:C.P=Tryz.prog)(s:List UInt8):waj C 0 21 (wam Tryz.f265 2) (wp3 s):=by
 rintro st Q ⟨h0,hQ⟩;have hQ:=wbv hQ;refine waj.mk (prg hP) [(230,.det wnj)] 0 (.cons (w5p hP) .nil) [1,2,10] [] [6] (wn0 s) (λk=>k<=s.length/\∀j,j<k->isNB (s.getD j 0)=true) (λk=>s.length - k) 0 ⟨zL7 _,λj h=>by omega⟩ h0 λk ⟨hk,hall⟩=>?_;rw[w4i];refine waw (λh=>?_) (λh=>⟨trivial,?_⟩)
 .have h:=of_decide_eq_true h;have hle:=w04 h;refine⟨trivial,⟨by omega,by omega⟩,?_⟩
  -- what the predicate says of the rune is what isNB says of the byte
  have key:(decide (0<=wck wfi ((wbs s k).1:Int)))=isNB (s.getD k 0)/\(isNB (s.getD k 0)=true->(wbs s k).2=1):=by
   by_cases hlo:(s.getD k 0).toNat<128
   .rw[wra h hlo];exact⟨w5k _ hlo,λ_=>rfl⟩
   .have hh:=wu4 h (by omega);have hn:isNB (s.getD k 0)=false:=by
     generalize s.getD k 0=b at *;simp only[isNB,we1,Bool.or_eq_false_iff,Bool.and_eq_false_imp,decide_eq_true_eq,decide_eq_false_iff_not];omega
    rw[w5l _ hh.1,hn];exact⟨rfl,λh=>by cases h⟩
  rw[key.1];refine waw (λhb=>?_) (λhb=>?_)
  .have hb:isNB (s.getD k 0)=false:=by simpa using hb
   have hf:s.all isNB=false:=by
    cases ha:s.all isNB with
    |false=>rfl
    |true=>
     have:=List.all_eq_true.1 ha (s.getD k 0) (by simp[List.getD,h]);rw[hb] at this;cases this
   obtain⟨b1,b2,b3⟩:=w8w hf;have:wdq s=k:=by
    rcases Nat.lt_trichotomy (wdq s) k with hl | hl | hl
    .rw[hall _ hl] at b2;cases b2
    .exact hl
    .rw[b3 k hl] at hb;cases hb
   have hq:=hQ.2 hf;rw[this] at hq;exact hq
  .have hb:isNB (s.getD k 0)=true:=by simpa using hb
   rw[key.2 hb];refine⟨k+1,rfl,⟨by omega,λj hj=>?_⟩,by omega⟩
   rcases Nat.lt_succ_iff_lt_or_eq.1 hj with hj | rfl
   .exact hall j hj
   .exact hb
 .have h:=of_decide_eq_false h;refine hQ.1 (List.all_eq_true.2 λb hb=>?_);obtain⟨j,hj,rfl⟩:=List.getElem_of_mem hb;have:=hall j (by omega);simpa[List.getD,hj] using this
theorem w6y(hP:C.P=Tryz.prog):wah C 265 wnv:=by
 rintro args objs U Os vc h hvc;unfold wnv at h;split at h<;>cases h;rename_i s;refine wah.wpL (prg hP) [] [(2,wp3 s)] 0 .nil (hP ▸ Tryz.func265) rfl rfl rfl [(wam Tryz.f265 2,wp3 s)] (by kernel_rfl) ⟨w6z hP s,trivial⟩ ?_;rw[w4j];refine⟨rfl,waw (λh=>⟨?_,rfl⟩) (λh=>⟨?_,rfl⟩)⟩
 .simp only[wfn,h]
 .simp only[wfn,h]
theorem w86(hP:C.P=Tryz.prog):wah C 252 wom:=by
 rintro args objs U Os vc h hvc;unfold wom at h;split at h<;>cases h;rename_i s;refine wah.wp0 (prg hP) [(265,.det wnv)] 0 (.cons (w6y hP) .nil) (hP ▸ Tryz.func252) rfl rfl rfl ?_;rw[w5g];exact⟨trivial,rfl,rfl⟩
theorem w87(hP:C.P=Tryz.prog):wah C 229 won:=by
 rintro args objs U Os vc h hvc;unfold won at h;split at h<;>cases h;rename_i s;refine wah.wp0 (prg hP) [(252,.det wom)] 0 (.cons (w86 hP) .nil) (hP ▸ Tryz.func229) rfl rfl rfl ?_;rw[w5h,w7j];exact⟨trivial,rfl,rfl⟩
theorem wv1(hP:C.P=Tryz.prog):wah C 199 wh5:=by
 rintro args objs U Os vc h hvc;unfold wh5 at h;split at h<;>cases h;rename_i s;refine wah.wp0 (prg hP) [(228,.det we6),(229,.det won)] 0 (.cons (wis hP) (.cons (w87 hP) .nil)) (hP ▸ Tryz.func199) rfl rfl rfl ?_;rw[nf_name]
 cases s with
 |nil=>exact⟨rfl,rfl⟩
 |cons b r=>
  have e:(b::r).take (Int.toNat 1)=[b]:=rfl;have hasc:∀x∈wkz,UInt8.toNat x<128:=by decide+kernel
  rw[e,wz5];have hl:(List.length (b::r):Int)=r.length+1:=by simp
  have hl':List.length (b::r)=r.length+1:=rfl;have hd:(b::r).getD 0 0=b:=rfl;refine waw (λ_=>waw (λh=>⟨by omega,⟨by simp,by omega,by omega,hasc⟩,waw (λh'=>⟨trivial,?_,rfl⟩) (λh'=>⟨?_,rfl⟩)⟩) (λh=>⟨?_,rfl⟩)) (λh=>by simp at h)
  .have h:=of_decide_eq_true h;simp only[wa5,hd,h',hl',Bool.not_not];rw[decide_eq_true (by omega),decide_eq_true (by omega)];rfl
  .simp only[wa5,hd,h',Bool.and_false,Bool.false_and]
  .have h:=of_decide_eq_false h;simp only[wa5,hl'];rw[decide_eq_false (p:=r.length+1<=24) (by omega)];simp
end Go.Eng
namespace Go.Eng
open Go.Proofs
set_option maxRecDepth 20000
theorem w4t(s:List UInt8)(a b:Int)(R:oR7):wpFn te [(228,.det we6)] [] 0 Tryz.f201 [.str s,.q a,.q b] [] R=(letI z0:=((s.length<=9223372036854775807/\2<=10/\10<4294967281/\∀(b:UInt8),b∈[(48:UInt8),49,50,51,52,53,54,55,56,57]->UInt8.toNat b<128)/\R (.bool (decide (we9 ([(48:UInt8),49,50,51,52,53,54,55,56,57]) s=[]))) []:Prop);wab (decide ((s.length:Int)=a)) z0 (wab (decide ((s.length:Int)=b)) z0 (R (.bool false) []))):=by kernel_rfl
theorem w5a(s:List UInt8)(R:oR7):wpFn te [(201,.det wia)] [(5,wqa s)] 0 Tryz.f202 [.str s] [] R=(((7:Int)<=100/\(12:Int)<=100)/\wab (!wbm s (7:Int) (12:Int)) (R (.tuple [.q 0,.bool false]) []) (some (St.mk [(0,.str s),(4,.q 0),(11,.q (s.length:Int)),(12,.q 0)] [] 0 [])=some (St.mk [(0,.str s),(4,.q (wa9 s 0)),(11,.q (s.length:Int)),(12,.q (↑0:Int))] [] 0 [])/\s.length<=12/\List.all s wbj=true/\(10:Int)≠(0:Int)/\inR .i64 ((10:Int) - Int.tmod (wa9 s s.length) (10:Int))/\(10:Int)≠(0:Int)/\R (.tuple [.q (Int.tmod ((10:Int) - Int.tmod (wa9 s s.length) (10:Int)) (10:Int)),.bool true]) [])):=by kernel_rfl
theorem w49(s:List UInt8)(k:Nat)(P:Nat->Prop)(R:eR7):wa1 ⟨te,[],[],0,36,0⟩ (wa2 Tryz.f202 5) [0,4,11,12] [4] [] (S_cd s) P R (S_cd s k)=(letI z1:=(s.length:Int);letI z3:=(z1 - (k:Int));letI z0:=(↑(UInt8.toNat (List.getD s (k:Int).toNat (0:UInt8))):Int);letI z2:=(wa9 s k+((1:Int)+2 * Int.tmod z3 (2:Int)) * ((z0 - (48:Int)) % (256:Int)));wab (decide ((k:Int)<z1)) (inR .i64 z3/\(2:Int)≠(0:Int)/\inR .i64 ((2:Int) * Int.tmod z3 (2:Int))/\inR .i64 ((1:Int)+2 * Int.tmod z3 (2:Int))/\((0:Int)<=(k:Int)/\(k:Int)<z1)/\inR .i64 ((z0 - (48:Int)) % (256:Int))/\inR .i64 (((1:Int)+2 * Int.tmod z3 (2:Int)) * ((z0 - (48:Int)) % (256:Int)))/\inR .i64 z2/\inR .i64 ((k:Int)+1)/\∃(i':Nat),some (St.mk [(0,.str s),(4,.q z2),(11,.q z1),(12,.q ((k:Int)+1))] [] 0 [])=some (St.mk [(0,.str s),(4,.q (wa9 s i')),(11,.q z1),(12,.q (i':Int))] [] 0 [])/\P i') (R (.exit 0) (St.mk [(4,.q (wa9 s k))] [] 0 []))):=by kernel_rfl
theorem w2e(s:List UInt8)(R:oR7):wpFn te [(201,.det wia),(202,.det wep)] [] 0 Tryz.f160 [.str s] [] R=(letI z0:=(s.length:Int);letI z1:=(↑(UInt8.toNat (List.getD s (z0 - (1:Int)).toNat (0:UInt8))):Int);((8:Int)<=100/\(13:Int)<=100)/\wab (!wbm s (8:Int) (13:Int)) (R (.bool false) []) (inR .i64 (z0 - (1:Int))/\((0:Int)<=z0 - (1:Int)/\z0 - (1:Int)<=z0)/\True/\((0:Int)<=z0 - (1:Int)/\z0 - (1:Int)<z0)/\inR .i64 ((z1 - (48:Int)) % (256:Int))/\R (.bool (decide ((cdF (List.take (z0 - (1:Int)).toNat s)).1=(z1 - (48:Int)) % (256:Int)))) [])):=by kernel_rfl
variable {C:Ctx} [C.Loose]
theorem wyu(hP:C.P=Tryz.prog)(htrim:wah C 228 we6):wah C 201 wia:=by
 have _:C.Loose:=inferInstance;rintro args objs U Os vc h hvc;unfold wia at h;split at h<;>cases h;rename_i s a b;refine wah.wp0 (prg hP) [(228,.det we6)] 0 (.cons htrim .nil) (hP ▸ Tryz.func201) rfl rfl rfl ?_;rw[w4t];have hm:(9223372036854775807:Nat)=maxLen:=rfl;have hlt:∀b∈([48,49,50,51,52,53,54,55,56,57]:List UInt8),UInt8.toNat b<128:=by decide
 refine waw (λh=>?_) (λh=>waw (λh'=>?_) (λh'=>?_))
 .have h2:=of_decide_eq_true h;refine⟨⟨by omega,by omega,by omega,hlt⟩,?_,rfl⟩;simp only[wbm,h,Bool.true_or,Bool.true_and,wua]
 .have h2:=of_decide_eq_true h';refine⟨⟨by omega,by omega,by omega,hlt⟩,?_,rfl⟩;simp only[wbm,h',Bool.or_true,Bool.true_and,wua]
 .simp[wbm,h,h']
theorem wl6{s:List UInt8}(h:s.all wbj=true):∀k,k<=s.length->0<=wa9 s k/\wa9 s k<=27 * k
 |0,_=>by simp[wa9]
 |k+1,hk=>by
  have ih:=wl6 h k (by omega);have hd:=wle h k (by omega);simp only[wa9]
  rcases Int.emod_two_eq (↑s.length - ↑k) with e | e<;>rw[e]<;>omega
theorem w8f(hP:C.P=Tryz.prog)(s:List UInt8):waj C 0 36 (wam Tryz.f202 5) (wqa s):=by
 have _:C.Loose:=inferInstance;rintro st Q ⟨h0,hlen,hall,hQ⟩;refine waj.mk (prg hP) [] 0 .nil [0,4,11,12] [4] [] (S_cd s) (λk=>k<=s.length) (λk=>s.length - k) 0 (zL7 _) h0 λk hk=>?_;rw[w49];have hb:=wl6 hall k hk;refine waw (λh=>?_) (λh=>?_)
 .have h:=of_decide_eq_true h;have hd:=wle hall k (by omega);have e:Int.tmod (↑s.length - ↑k) 2=(↑s.length - ↑k) % 2:=Int.tmod_eq_emod_of_nonneg (by omega);have e3:((s.getD k 0).toNat - 48:Int) % 256=(s.getD k 0).toNat - 48:=by omega
  simp only[inR,e,tN7,e3];have hs:wa9 s (k+1)=wa9 s k+(1+2 * ((↑s.length - ↑k) % 2)) * (↑(s.getD k 0).toNat - 48):=rfl
  rcases Int.emod_two_eq (↑s.length - ↑k) with e | e<;>rw[e] at hs ⊢ <;>and_intros<;>first
   |omega
   |exact⟨k+1,by rw[hs];rfl,by omega,by omega⟩
 .have h:=of_decide_eq_false h;have hk:k=s.length:=by omega
  rw[hk];exact hQ
theorem w8e(hP:C.P=Tryz.prog)(htrim:wah C 228 we6):wah C 202 wep:=by
 rintro args objs U Os vc h hvc;unfold wep at h;split at h<;>cases h;rename_i s;refine wah.wpL (prg hP) [(201,.det wia)] [(5,wqa s)] 0 (.cons (wyu hP htrim) .nil) (hP ▸ Tryz.func202) rfl rfl rfl [(wam Tryz.f202 5,wqa s)] (by kernel_rfl) ⟨w8f hP s,trivial⟩ ?_;rw[w5a];refine⟨by omega,waw (λh=>?_) (λh=>?_)⟩
 .have h:wbm s 7 12=false:=by simpa using h
  simp[cdF,h]
 .have h:wbm s 7 12=true:=by simpa using h
  have h':=h;simp only[wbm,bA7,Bool.or_eq_true,decide_eq_true_eq] at h';have hb:=wl6 h'.2 s.length (lR7 _);have e:Int.tmod (wa9 s s.length) 10=wa9 s s.length % 10:=Int.tmod_eq_emod_of_nonneg (by omega);rw[e,Int.tmod_eq_emod_of_nonneg (by omega)];refine⟨rfl,by omega,h'.2,by omega,by simp only[inR];omega,by omega,?_,rfl⟩;simp[cdF,h]
theorem wj9(hP:C.P=Tryz.prog)(htrim:wah C 228 we6):wah C 160 wcn:=by
 rintro args objs U Os vc h hvc;unfold wcn at h;split at h<;>cases h;rename_i s;refine wah.wp0 (prg hP) [(201,.det wia),(202,.det wep)] 0 (.cons (wyu hP htrim) (.cons (w8e hP htrim) .nil)) (hP ▸ Tryz.func160) rfl rfl rfl ?_;rw[w2e];refine⟨by omega,waw (λh=>?_) (λh=>?_)⟩
 .have h:wbm s 8 13=false:=by simpa using h
  simp[wbc,h]
 .have h:wbm s 8 13=true:=by simpa using h
  have h':=h;simp only[wbm,bA7,Bool.or_eq_true,decide_eq_true_eq] at h';have e:(↑s.length - 1:Int).toNat=s.length - 1:=by omega
  have hd:=wle h'.2 (s.length - 1) (by omega);rw[e];have e2:((s.getD (s.length - 1) 0).toNat - 48:Int) % 256=(s.getD (s.length - 1) 0).toNat - 48:=by omega
  simp only[inR,e2];refine⟨by omega,by omega,trivial,by omega,by omega,?_,trivial⟩;simp[wbc,h]
end Go.Eng
namespace Go.Eng
open Go.Proofs Go.RowKit
variable {C:Ctx} [C.Loose]
set_option maxRecDepth 20000
theorem nf_valw(id code brand:List UInt8)(d c a:Int)(n:Nat)(nm vl:Nat->List UInt8)(R:oR7):wpFn te [(160,.det wcn),(198,.det wnq),(199,.det wh5),(200,.det wm7)] [(13,L_vw n nm vl)] 2 Tryz.f159 [.agg [.str id,.str code,.str brand,.q d,.q c,.q a,.view 2 n (wft nm vl)]] [] R=(True/\wab (!wbc id) (R (.q 90) []) (code.length<4294967281/\wab (decide (wgm code<1)) (R (.q 91) []) (True/\wab (!wa5 brand) (R (.q 92) []) (True/\wab (!decide (qtyF d c a=0)) (R (.q 93) []) (wab (decide ((12:Int)<(n:Int))) (R (.q 94) []) (some (St.mk [(3,.map 0),(33,.view 2 n (wft nm vl)),(34,.q (n:Int)),(35,.q 0)] [(0,.amap (List.map (λ(p:AV×AV)=>(AV.rn (ren 0 [(65,0)]) p.1,AV.rn (ren 0 [(65,0)]) p.2)) []))] 1 [])=some (St.mk [(3,.map 0),(33,.view 2 n (wft nm vl)),(34,.q (n:Int)),(35,.q (↑0:Int))] [(0,.amap (wbr nm 0))] 1 [])/\n<=12/\(∀(i:Nat),i<n->(nm i).length<4294967281/\(vl i).length<4294967281)/\wab (weg nm vl n) (R (.q 0) []) (R (.q 94) []))))))):=by kernel_rfl
theorem w2a(n:Nat)(nm vl:Nat->List UInt8)(k:Nat)(P:Nat->Prop)(R:eR7):wa1 ⟨te,[(199,.det wh5)],[],0,59,0⟩ (wa2 Tryz.f159 13) [3,33,34,35] [] [2] (S_vw n nm vl) P R (S_vw n nm vl k)=(letI z3:=(k:Int).toNat;letI z2:=TI.desc (tiO Tryz.prog false 9);letI z1:=R .ret (St.mk [(2,.q 94)] [] 0 []);letI z0:=(mget (wbr nm k) (.str (nm z3)));letI z4:=wfq (Option.getD z0 (zvA (.bool false)));wab (decide ((k:Int)<(n:Int))) (((0:Int)<=(k:Int)/\(k:Int)<(n:Int)/\2=2)/\True/\wab (!wa5 (nm z3)) z1 (True/\wab (!wa5 (vl z3)) z1 ((wb9 z2 (wbr nm k)/\.bool z4=Option.getD z0 (zvA (.bool false)))/\wab z4 z1 (wb9 z2 (wbr nm k)/\inR .i64 ((k:Int)+1)/\∃(i':Nat),some (St.mk [(3,.map 0),(33,.view 2 n (wft nm vl)),(34,.q (n:Int)),(35,.q ((k:Int)+1))] [(0,.amap (List.map (λ(p:AV×AV)=>(AV.rn (ren 0 [(0,0)]) p.1,AV.rn (ren 0 [(0,0)]) p.2)) (mset (wbr nm k) (.str (nm z3)) (.bool true))))] 1 [])=some (St.mk [(3,.map 0),(33,.view 2 n (wft nm vl)),(34,.q (n:Int)),(35,.q (i':Int))] [(0,.amap (wbr nm i'))] 1 [])/\P i')))) (R (.exit 1) (St.mk [] [] 0 []))):=by kernel_rfl
theorem wzx(hP:C.P=Tryz.prog)(n:Nat)(nm vl:Nat->List UInt8):waj C 0 59 (wam Tryz.f159 13) (L_vw n nm vl):=by
 rintro st Q ⟨h0,hn,hs,hQ⟩;have hR:=wbv hQ;refine waj.mk (prg hP) [(199,.det wh5)] 0 (.cons (wv1 hP) .nil) [3,33,34,35] [] [2] (S_vw n nm vl) (λk=>k<=n/\weg nm vl k=true) (λk=>n - k) 0 ⟨by omega,rfl⟩ h0 (λk hk=>?_);obtain⟨hkn,hok⟩:=hk;rw[w2a];have hbad:∀m,k<=m->k<m->atOK nm vl k=false->weg nm vl m=false:=by
  intro m
  induction m with
  |zero=>intro _ h;omega
  |succ m ih=>
   intro _ h2 h3;rw[weg]
   by_cases hkm:k=m
   .subst hkm;rw[h3,Bool.and_false]
   .rw[ih (by omega) (by omega) h3,Bool.false_and]
 rw[tN7];refine wak (λh1=>?_) (λh1=>?_)
 .have hlt:k<n:=by omega
  have hfail:atOK nm vl k=false->Q .ret (St.mk [(2,.q 94)] [] 0 []):=λh=>hR.2 (hbad n hkn hlt h);have hk:=wu0 nm vl k hok;rw[wwf];refine⟨⟨by omega,by omega,rfl⟩,trivial,wcw (λh2=>hfail (by unfold atOK;rw[h2];rfl)) (λh2=>⟨trivial,wcw (λh3=>hfail (by unfold atOK;rw[h3,Bool.and_false];rfl)) (λh3=>⟨⟨hk,?_⟩,?_⟩)⟩)⟩
  .cases (List.range k).any (λi=>decide (nm i=nm k))<;>rfl
  .cases ha:(List.range k).any (λi=>decide (nm i=nm k)) with
   |true=>exact hfail (by unfold atOK;rw[wll,ha];simp)
   |false=>
    have hat:atOK nm vl k=true:=by unfold atOK;rw[h2,h3,wll,ha];rfl
    refine⟨hk,by simp only[inR];omega,k+1,?_,⟨by omega,by rw[weg,hok,hat];rfl⟩,by omega⟩;rw[w5t nm _ _ k ha,show wbr nm k++[(.str (nm k),AV.bool true)]=wbr nm (k+1) from rfl,wuz];rfl
 .have:k=n:=by omega
  subst this;exact hR.1 hok
theorem valV_ok(hP:C.P=Tryz.prog)(hL:∀w,C.laid w->LaidW w):wah C 159 S_valV:=by
 rintro args objs U Os vc h hvc;unfold S_valV at h;split at h<;>cases h;rename_i id code brand d c a n f;obtain⟨hn,h1,h2,hs,hf⟩:=hvc;rw[hf];rw[← hf];generalize nmOf f=nm at *;generalize vlOf f=vl at *;rw[hf];unfold valF;refine wah.wpL (prg hP) [(160,.det wcn),(198,.det wnq),(199,.det wh5),(200,.det wm7)] [(13,L_vw n nm vl)] 2 (.cons (wj9 hP (wis hP)) (.cons (w6d hP hL) (.cons (wv1 hP) (.cons (qty_ok hP) .nil)))) (hP ▸ Tryz.func159) rfl rfl rfl [(wam Tryz.f159 13,L_vw n nm vl)] (by kernel_rfl) ⟨wzx hP n nm vl,trivial⟩ ?_;rw[nf_valw,w6e];refine⟨trivial,wcw (λq1=>?_) (λq1=>⟨h1,wcw (λq2=>?_) (λq2=>⟨trivial,wcw (λq3=>?_) (λq3=>⟨trivial,wa7 (λq4=>?_) (λq4=>wak (λq5=>?_) (λq5=>⟨rfl,by omega,hs,waw (λq6=>?_) (λq6=>?_)⟩))⟩)⟩)⟩)⟩
 .rw[q1];exact⟨rfl,rfl⟩
 .rw[q1,q2];exact⟨rfl,rfl⟩
 .rw[q1,q2,q3];exact⟨rfl,rfl⟩
 .rw[q1,q2,q3,decide_eq_false q4];exact⟨rfl,rfl⟩
 .rw[q1,q2,q3,decide_eq_true q4,decide_eq_true (show 12<n by omega)];exact⟨rfl,rfl⟩
 .rw[q1,q2,q3,decide_eq_true q4,decide_eq_false (show ¬ 12<n by omega),q6];exact⟨rfl,rfl⟩
 .rw[q1,q2,q3,decide_eq_true q4,decide_eq_false (show ¬ 12<n by omega),q6];exact⟨rfl,rfl⟩
theorem w43(s:List UInt8)(R:oR7):wpFn te [(159,.det wml)] [] 0 Tryz.f120 [.str s] [] R=((2<4294967281/\s.length<4294967281)/\R (.bool (decide ((valF [(48:UInt8),48,48,48,48,48,48,48] [(48:UInt8),49] s (4:Int) (1:Int) (1:Int) 0 (λ(_x:Nat)=>[]) λ(_x:Nat)=>[])=0))) []):=by kernel_rfl
theorem nf_cnum(n:Int)(R:oR7):wpFn te [] [] 0 Tryz.f121 [.q n] [] R=(wab (decide ((1:Int)<=n)) (R (.bool (decide (n<=1048576))) []) (R (.bool false) [])):=by kernel_rfl
theorem nf_calv(n:Int)(R:oR7):wpFn te [] [] 0 Tryz.f124 [.q n] [] R=(wab (decide ((0:Int)<=n)) (R (.bool (decide (n<=182620))) []) (R (.bool false) [])):=by kernel_rfl
theorem w19(n:Int)(R:oR7):wpFn te [(124,.det woi)] [] 0 Tryz.f73 [.q n] [] R=(True/\wab (!(decide ((0:Int)<=n) && decide (n<=182620))) (R (.q (-1:Int)) []) ((7:Int)≠(0:Int)/\R (.q (Int.tmod n (7:Int))) [])):=by kernel_rfl
theorem nf_slot(o p:List UInt8)(per:Int)(R:oR7):wpFn te [(120,.det wic),(160,.det wcn)] [] 0 Tryz.f123 [.str o,.str p,.q per] [] R=(o.length<4294967281/\wab (wa5 o) (True/\wab (wbc p) (wab (decide ((0:Int)<=per)) (R (.bool (decide (per<=5999))) []) (R (.bool false) [])) (R (.bool false) [])) (R (.bool false) [])):=by kernel_rfl
theorem w2c(o p:List UInt8)(per day st pr:Int)(rep:List UInt8)(R:oR7):wpFn te [(123,.det wek),(160,.det wcn),(73,.det whw)] [] 0 Tryz.f122 [.agg [.str o,.str p,.q per,.q day,.q st,.q pr,.str rep]] [] R=(letI z3:=R (.bool false) [];letI z0:=(wab (decide (st=5)) (True/\wab (wbc rep) (R (.bool !decide (rep=p)) []) z3) (R (.bool (decide (rep=[]))) []));letI z2:=(wab (decide (pr<1)) z3 (wab (decide ((1099511627776:Int)<pr)) z3 z0));letI z1:=(wab (decide (st=3)) (wab (decide (st=3)) (wab (!decide (pr=0)) z3 z0) z3) (wab (decide (st=4)) (wab (!decide (pr=0)) z3 z0) z3));o.length<4294967281/\wab (!wbi o p per) z3 (True/\wab (decide ((bif decide ((0:Int)<=day) && decide (day<=182620) then day % (7:Int) else (-1:Int))<0)) z3 (wab (decide (st=1)) (wab (decide (st=1)) z2 z1) (wab (decide (st=2)) (wab (decide (st=2)) z2 z1) (wab (decide (st=5)) z2 z1))))):=by kernel_rfl
theorem nf_msg(m:MG)(R:oR7):wpFn te [(120,.det wic),(123,.det wek),(122,.det wfv),(121,.det wng)] [] 0 Tryz.f72 [.agg [.str m.dev,.q m.seq,.q m.kind,.str m.v.o,.str m.v.p,.q m.v.per,.q m.v.day,.q m.v.st,.q m.v.pr,.str m.v.rep,.str m.d.o,.str m.d.p,.q m.d.per,.str m.d.dev,.q m.d.num]] [] R=(letI z6:=(m.kind=1);letI z5:=(m.kind=2);letI z4:=R (.q 114) [];letI z2:=(wab (decide z5) (m.d.o.length<4294967281/\wab (wbi m.d.o m.d.p m.d.per) (m.d.dev.length<4294967281/\wab (wa5 m.d.dev) (True/\wab (!numF m.d.num) z4 (R (.q 0) [])) z4) z4) (R (.q 0) []));letI z0:=(wab (decide z6) (wab (!(decide (m.d.o=[]) && (decide (m.d.p=[]) && (decide (m.d.per=0) && (decide (m.d.dev=[]) && decide (m.d.num=0)))))) z4 z2) z2);letI z1:=(wab (decide z5) (wab (!(decide (m.v.o=[]) && (decide (m.v.p=[]) && (decide (m.v.per=0) && (decide (m.v.day=0) && (decide (m.v.st=0) && (decide (m.v.pr=0) && decide (m.v.rep=[])))))))) (R (.q 113) []) z0) z0);letI z3:=(wab (decide z6) (m.v.o.length<4294967281/\wab (!visF (VT.mk m.v.o m.v.p m.v.per m.v.day m.v.st m.v.pr m.v.rep)) (R (.q 113) []) z1) z1);m.dev.length<4294967281/\wab (!wa5 m.dev) (R (.q 110) []) (True/\wab (!numF m.seq) (R (.q 111) []) (wab (!decide z6) (wab (!decide z5) (R (.q 112) []) z3) z3))):=by kernel_rfl
theorem val0_ok(hP:C.P=Tryz.prog)(hL:∀w,C.laid w->LaidW w):wah C 159 wml:=by
 rintro args objs U Os vc h hvc;unfold wml at h;split at h<;>cases h;rename_i id code brand d c a;exact wal.nilArg 2 (wft (λ_=>[]) (λ_=>[])) (valV_ok hP hL _ _ _ _ _ rfl ⟨zL7 _,hvc.1,hvc.2,λi hi=>absurd hi (nZ7 i),rfl⟩)
theorem w79(s:List UInt8):decide (valF [48,48,48,48,48,48,48,48] [48,49] s 4 1 1 0 (λ_=>[]) (λ_=>[])=0)=wa5 s:=by
 unfold valF;rw[show wbc [48,48,48,48,48,48,48,48]=true by decide+kernel,show wd4 [48,49]=true by decide+kernel,show qtyF 4 1 1=0 by rfl]
 cases wa5 s<;>rfl
theorem wy0(hP:C.P=Tryz.prog)(hL:∀w,C.laid w->LaidW w):wah C 120 wic:=by
 rintro args objs U Os vc h hvc;unfold wic at h;split at h<;>cases h;rename_i s;refine wah.wp0 (prg hP) [(159,.det wml)] 0 (.cons (val0_ok hP hL) .nil) (hP ▸ Tryz.func120) rfl rfl rfl ?_;rw[w43,w79];exact⟨⟨by omega,hvc⟩,rfl,rfl⟩
theorem cnum_ok(hP:C.P=Tryz.prog):wah C 121 wng:=by
 have _:C.Loose:=inferInstance;rintro args objs U Os vc h hvc;unfold wng at h;split at h<;>cases h;rename_i n;refine wah.wp0 (prg hP) [] 0 .nil (hP ▸ Tryz.func121) rfl rfl rfl ?_;rw[nf_cnum];unfold numF;exact waw (λh=>by rw[h];exact⟨rfl,rfl⟩) (λh=>by rw[h];exact⟨rfl,rfl⟩)
theorem calv_ok(hP:C.P=Tryz.prog):wah C 124 woi:=by
 have _:C.Loose:=inferInstance;rintro args objs U Os vc h hvc;unfold woi at h;split at h<;>cases h;rename_i n;refine wah.wp0 (prg hP) [] 0 .nil (hP ▸ Tryz.func124) rfl rfl rfl ?_;rw[nf_calv];exact waw (λh=>by rw[h];exact⟨rfl,rfl⟩) (λh=>by rw[h];exact⟨rfl,rfl⟩)
theorem wtz(hP:C.P=Tryz.prog):wah C 73 whw:=by
 rintro args objs U Os vc h hvc;unfold whw at h;split at h<;>cases h;rename_i n;refine wah.wp0 (prg hP) [(124,.det woi)] 0 (.cons (calv_ok hP) .nil) (hP ▸ Tryz.func73) rfl rfl rfl ?_;rw[w19];refine⟨trivial,wcw (λh=>by rw[h];exact⟨rfl,rfl⟩) (λh=>⟨by decide,?_⟩)⟩;rw[h];have h0:0<=n:=of_decide_eq_true (Bool.and_eq_true_iff.1 h).1;exact⟨by rw[Int.tmod_eq_emod_of_nonneg h0];rfl,rfl⟩
theorem wut(hP:C.P=Tryz.prog)(hL:∀w,C.laid w->LaidW w):wah C 123 wek:=by
 rintro args objs U Os vc h hvc;unfold wek at h;split at h<;>cases h;rename_i o p per;refine wah.wp0 (prg hP) [(120,.det wic),(160,.det wcn)] 0 (.cons (wy0 hP hL) (.cons (wj9 hP (wis hP)) .nil)) (hP ▸ Tryz.func123) rfl rfl rfl ?_;rw[nf_slot];unfold wbi;exact⟨hvc,waw (λh1=>⟨trivial,waw (λh2=>waw (λh3=>by rw[h1,h2,h3];exact⟨rfl,rfl⟩) (λh3=>by rw[h1,h2,h3];exact⟨rfl,rfl⟩)) (λh2=>by rw[h1,h2];exact⟨rfl,rfl⟩)⟩) (λh1=>by rw[h1];exact⟨rfl,rfl⟩)⟩
theorem wk_neg(day:Int):decide ((bif decide (0<=day) && decide (day<=182620) then day % 7 else -1)<0)= !(decide (0<=day) && decide (day<=182620)):=by
 cases h:decide (0<=day) && decide (day<=182620) with
 |true=>
  show decide (day % 7<0)=false;rw[decide_eq_false];have:=Int.emod_nonneg day (show (7:Int)≠0 by decide);omega
 |false=>rfl
theorem wzu(hP:C.P=Tryz.prog)(hL:∀w,C.laid w->LaidW w):wah C 122 wfv:=by
 rintro args objs U Os vc h hvc;unfold wfv at h;split at h<;>cases h;rename_i o p per day st pr rep;refine wah.wp0 (prg hP) [(123,.det wek),(160,.det wcn),(73,.det whw)] 0 (.cons (wut hP hL) (.cons (wj9 hP (wis hP)) (.cons (wtz hP) .nil))) (hP ▸ Tryz.func122) rfl rfl rfl ?_;rw[w2c,wk_neg];refine⟨hvc,wcw (λh1=>?_) (λh1=>⟨trivial,wcw (λh2=>?_) (λh2=>?_)⟩)⟩
 .unfold visF;simp[h1]
 .unfold visF;simp[h1,h2]
 have hv:visF ⟨o,p,per,day,st,pr,rep⟩=(bif decide (st=1) || decide (st=2) then decide (1<=pr) && decide (pr<=1099511627776) && decide (rep=[])
  else bif decide (st=3) || decide (st=4) then decide (pr=0) && decide (rep=[])
  else bif decide (st=5) then decide (1<=pr) && decide (pr<=1099511627776) && wbc rep && !decide (rep=p) else false):=by
  unfold visF;simp only[h1,Bool.true_and,h2]
 rw[hv];have e1:decide (1<=pr)= !decide (pr<1):=by by_cases h:pr<1<;>simp[h]<;>omega
 have e2:decide (pr<=1099511627776)= !decide (1099511627776<pr):=by by_cases h:1099511627776<pr<;>simp[h]<;>omega
 rw[e1,e2];clear hv h1 h2 e1 e2
 by_cases s1:st=1
 .subst s1;generalize decide (pr<1)=b1,decide (1099511627776<pr)=b2,decide (pr=0)=b3,decide (rep=p)=b4,decide (rep=[])=b5,wbc rep=b6
  cases b1<;>cases b2<;>exact⟨rfl,rfl⟩
 by_cases s2:st=2
 .subst s2;generalize decide (pr<1)=b1,decide (1099511627776<pr)=b2,decide (pr=0)=b3,decide (rep=p)=b4,decide (rep=[])=b5,wbc rep=b6
  cases b1<;>cases b2<;>exact⟨rfl,rfl⟩
 by_cases s3:st=3
 .subst s3;generalize decide (pr<1)=b1,decide (1099511627776<pr)=b2,decide (pr=0)=b3,decide (rep=p)=b4,decide (rep=[])=b5,wbc rep=b6
  cases b3<;>exact⟨rfl,rfl⟩
 by_cases s4:st=4
 .subst s4;generalize decide (pr<1)=b1,decide (1099511627776<pr)=b2,decide (pr=0)=b3,decide (rep=p)=b4,decide (rep=[])=b5,wbc rep=b6
  cases b3<;>exact⟨rfl,rfl⟩
 by_cases s5:st=5
 .subst s5;generalize decide (pr<1)=b1,decide (1099511627776<pr)=b2,decide (pr=0)=b3,decide (rep=p)=b4,decide (rep=[])=b5,wbc rep=b6
  cases b1<;>cases b2<;>cases b6<;>first | exact⟨rfl,rfl⟩ | exact⟨trivial,rfl,rfl⟩
 rw[decide_eq_false s1,decide_eq_false s2,decide_eq_false s3,decide_eq_false s4,decide_eq_false s5];exact⟨rfl,rfl⟩
theorem wjb(hP:C.P=Tryz.prog)(hL:∀w,C.laid w->LaidW w):wah C 72 wcf:=by
 rintro args objs U Os vc h hvc;unfold wcf at h;split at h<;>cases h;rename_i dev seq kind o p per day st pr rep o2 p2 per2 dev2 num;refine wah.wp0 (prg hP) [(120,.det wic),(123,.det wek),(122,.det wfv),(121,.det wng)] 0 (.cons (wy0 hP hL) (.cons (wut hP hL) (.cons (wzu hP hL) (.cons (cnum_ok hP) .nil)))) (hP ▸ Tryz.func72) rfl rfl rfl ?_;have nf:=λR=>nf_msg ⟨dev,seq,kind,⟨o,p,per,day,st,pr,rep⟩,⟨o2,p2,per2,dev2,num⟩⟩ R;refine(nf _).mpr ?_;clear nf;obtain⟨l1,l2,l3,l4⟩:=hvc;unfold msgF VT.nil DT.nil;dsimp only
 generalize (decide (o=[]) && (decide (p=[]) && (decide (per=0) && (decide (day=0) && (decide (st=0) && (decide (pr=0) && decide (rep=[])))))))=vn;generalize (decide (o2=[]) && (decide (p2=[]) && (decide (per2=0) && (decide (dev2=[]) && decide (num=0)))))=dn;generalize wa5 dev=b1,numF seq=b2,visF ⟨o,p,per,day,st,pr,rep⟩=b3,wbi o2 p2 per2=b4,wa5 dev2=b5,numF num=b6;refine⟨l1,?_⟩
 cases b1
 .exact⟨rfl,rfl⟩
 refine⟨trivial,?_⟩
 cases b2
 .exact⟨rfl,rfl⟩
 by_cases k1:kind=1
 .subst k1;refine⟨l2,?_⟩
  cases b3<;>cases dn<;>exact⟨rfl,rfl⟩
 by_cases k2:kind=2
 .subst k2
  cases vn
  .exact⟨rfl,rfl⟩
  refine⟨l3,?_⟩
  cases b4
  .exact⟨rfl,rfl⟩
  refine⟨l4,?_⟩
  cases b5
  .exact⟨rfl,rfl⟩
  refine⟨trivial,?_⟩
  cases b6<;>exact⟨rfl,rfl⟩
 rw[decide_eq_false k1,decide_eq_false k2];exact⟨rfl,rfl⟩
end Go.Eng
