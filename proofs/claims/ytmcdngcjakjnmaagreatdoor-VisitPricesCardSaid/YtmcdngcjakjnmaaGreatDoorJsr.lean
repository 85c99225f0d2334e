/- Codes of classifications. -/
import Derived.Test.YtmcdngcjakjnmaaGreatDoorJsq
namespace Go.Eng
open Go.Proofs Go.RowKit Go.Sort
def valA:AV->Value
 |.str l=>.string ⟨l.toArray⟩
 |.int k n=>.int k n
 |.bool b=>.bool b
 |_=>default
def weo:AV->Bool
 |.str _=>true
 |.int _ _=>true
 |.bool _=>true
 |_=>false
theorem wvg{w:World}{M:Nat->Prop}{bs:Nat->Option Hd}{v:Value}{u:AV}(hp:weo u=true)(h:V w M bs v u):v=valA u:=by
 cases u<;>simp only[weo,Bool.false_eq_true] at hp
 ·cases h;rfl
 ·cases h;rfl
 ·exact h.str_iff
theorem wsa{w:World}{M:Nat->Prop}{bs:Nat->Option Hd}{u:AV}(hp:weo u=true):V w M bs (valA u) u:=by
 cases u<;>simp only[weo,Bool.false_eq_true] at hp
 ·exact .bool
 ·exact .int
 ·exact .str rfl
theorem wr9{u:AV}(hp:weo u=true):(valA u).oneCell'=true:=by
 cases u<;>simp only[weo,Bool.false_eq_true] at hp<;>rfl
def Ctx.bare(P:Program)(h:P.follows .mixedOrders=true):Ctx:=⟨P,0,λ_=>True,h,λ_ _ _ h=>h,true⟩
theorem grow_of{w w':World}(h1:w'.os=w.os)(h2:w'.tape=w.tape)(h3:w'.output=w.output)(h4:w.heap.size<=w'.heap.size)(h5:∀b,b<w.heap.size->w'.heap[b]?=w.heap[b]?)(h6:w.drawn<=w'.drawn):
  ∃q os,w'=grow (w.drewN q) os:=by
 refine⟨w'.drawn - w.drawn,w'.heap.extract w.heap.size w'.heap.size,?_⟩;obtain⟨hp,tp,dr,os,out⟩:=w;obtain⟨hp',tp',dr',os',out'⟩:=w';simp only at h1 h2 h3 h4 h5 h6;subst h1;subst h2;subst h3;simp only[grow,World.drewN,World.mk.injEq,and_true,true_and];refine⟨?_,by omega⟩;apply Array.ext_getElem?;intro i;rw[Array.getElem?_append]
 by_cases h:i<hp.size
 ·rw[if_pos h,h5 i h]
 ·rw[if_neg h,Array.getElem?_extract]
  by_cases h':i<hp'.size
  ·rw[if_pos (by omega)];congr 1;omega
  ·rw[if_neg (by omega),Array.getElem?_eq_none (by omega)]
theorem ADet.grown{P:Program}{hm:P.follows .mixedOrders=true}{f:FuncId}{args:List AV}{u:AV}(h:ADet (Ctx.bare P hm) f args [] u [])(hu:weo u=true){w:World}{cargs:List Value}(hlen:cargs.length=args.length)
  (hV:∀(j:Nat) v x,cargs[j]?=some v->args[j]?=some x->V w (λ_=>False) nob v x):Calls P f cargs.toArray w λe w'=>e= .returned (valA u)/\∃q os,w'=grow (w.drewN q) os:=by
 have no:∀r,lkL [] r=none:=λr=>by cases r<;>rfl
 have nm:∀b',¬ mutB (lkL []) nob b':=by
  rintro b' ⟨r,o,c,ho,_⟩;rw[no r] at ho;cases ho
 have hw:WRep (Ctx.bare P hm) ⟨w,0,nob,λ_=>False,λ_=>False⟩ (lkL []) nob w:={
  obj:=λr o ho=>by rw[no r] at ho;cases ho
  sep:=λr r' o o' b c c' ho=>by rw[no r] at ho;cases ho
  out:=λb hb=>absurd hb (nm b)
  frz:=λr t sz n f b c ho=>by rw[no r] at ho;cases ho
  high:=λb hb=>zL7 _
  lt:=λr b c hb=>by simp[nob] at hb
  outlt:=λb hb=>hb.elim
  keep:=λb _ _=>rfl
  old:=λb hb=>absurd hb (nm b)
  size:=lR7 _
  pre:=λr x hr=>absurd hr (nZ7 r)
  os:=rfl
  tape:=.refl _ _
  output:=rfl
  laid:=trivial
  gle:=zL7 _ }
 refine(h.2 ⟨w,0,nob,λ_=>False,λ_=>False⟩ nob w cargs rfl rfl rfl hw (λ_ _=>rfl) hlen (λj v u hv hu=>(hV j v u hv hu).step_ (λb _ _ hb=>?_) (λ_ _ _=>rfl) (lR7 _) nob (λ_ _ h=>h))).mono ?_
 ·rcases hb with hb | hb
  ·exact hb
  ·exact nm b hb
 ·rintro e w' ⟨v,u',O',bs',rfl,⟨rfl,rfl⟩,hw',hV',_⟩;rw[wvg hu hV'];exact⟨rfl,grow_of hw'.os hw'.tape.tape hw'.output hw'.size (λi hi=>hw'.keep i hi (λh=>h)) (hw'.tape.drawn rfl)⟩
section
variable {α:Type} [Inhabited α]
def encV(enc:α->List AV)(x:α):List Value:=(enc x).map valA
theorem arr_get(n:Nat)(f:Nat->α){i:Nat}(hi:i<n):(((List.range n).map f).toArray)[i]! =f i:=by simp[hi]
theorem waq.sortK{C:Ctx}(enc:α->List AV)(k:Nat)(hk:∀x,(enc x).length=k)(hp:∀x u,u∈enc x->weo u=true)(cf:α->α->Int){fS g:FuncId}{t:TypeId}(heS:wis C.P fS)
  (hS:∀(blk cap:Nat) (d:Array α) (w:World),CmpLays C.P g #[] (encV enc) k cf blk 0 d.size w->HoldsK (encV enc) k w blk 0 d->blk<w.heap.size->d.size<4611686018427387904->
   Calls C.P fS #[.slice (some ⟨blk,0,none⟩) d.size cap,.func (.func g) #[] #[]] w λe w'=>e= .returned (.tuple #[])/\∃d' n os,PermIn 0 d.size d d'/\SortedIn (ltOf cf) 0 d.size d'/\w'=sortWorldK (encV enc) k w blk 0 n d' os)
  (hN:∀(p:Option Addr) (cap:Nat) (fv:Value) (w:World),Calls C.P fS #[.slice p 0 cap,fv] w λe w'=>e= .returned (.tuple #[])/\w'=w)
  (hc:∀x y,ADet (Ctx.bare C.P C.mixed) g [.agg (enc x),.agg (enc y)] [] (.int .i64 (cf x y)) [])
  {n:Nat} (f:Nat->α) (hn:n<4611686018427387904):
  waq C fS [.own 0 n,.func g []] [.row t k n (λi=>enc (f i)) false] λu O=>u= .tuple []/\∃f':Nat->α,((List.range n).map f').Perm ((List.range n).map f)/\(∀i j,i<j->j<n->¬ cf (f' j) (f' i)<0)/\
   O=[(0,.row t k n (λi=>enc (f' i)) false)]:=by
 refine⟨heS,λE bs w cargs h1 h2 h3 hW h5 h6 h7=>?_⟩;obtain⟨a,b,rfl⟩:∃a b,cargs=[a,b]:=by
  match cargs,h6 with
  |[a,b],_=>exact⟨a,b,rfl⟩
 have V0:=h7 0 _ _ rfl rfl;have V1:=h7 1 _ _ rfl rfl;generalize hu:AV.func g []=uf at V1
 cases V1<;>cases hu;rename_i caps hl hv;obtain rfl:caps=#[]:=Array.eq_empty_of_size_eq_zero hl;have hO:lkL [AObj.row t k n (λi=>enc (f i)) false]=lk [(0,.row t k n (λi=>enc (f i)) false)]:=by
  funext i
  cases i with
  |zero=>rfl
  |succ i=>rw[waw,if_neg (by show ¬ 0=i+1;omega)];simp[lkL,lk]
 have hbs:∀r,1+16<=r->lk [(0,AObj.row t k n (λi=>enc (f i)) false)] r=none/\bs r=none:=λr hr=>⟨by rw[waw,if_neg (by show ¬ 0=r;omega)];rfl,h5 r (by show 1<=r;omega)⟩;rw[hO] at hW V0;generalize huo:AV.own 0 n=uo at V0
 cases V0<;>cases huo
 case func.refl.ownnil.refl A x1 x2=>
  have hn0:n=0:=by assumption
  clear x1 x2;subst hn0;refine(hN A 0 _ w).mono ?_;rintro e w' ⟨rfl,rfl⟩;refine⟨_,.tuple [],[(0,.row t k 0 (λi=>enc (f i)) false)],bs,rfl,⟨rfl,f,.refl _,λi j _ hj=>absurd hj (nZ7 j),rfl⟩,hW,.tuple rfl (λj v u hv hu=>by simp at hu),hbs⟩
 case func.refl.own.refl bk c x1 x2 x3=>
  have hb:bs 0=some (.blk bk c):=by assumption
  clear x1 x2 x3;have hrow:=hW.obj 0 _ rfl
  rcases hrow with⟨h,_⟩ | ⟨bk',c',vs,hb',hh,hnc',hcm',hsz,hln,hone,hval⟩
  ·rw[h] at hb;cases hb
  obtain⟨rfl,rfl⟩:bk'=bk/\c'=c:=by
   rw[hb'] at hb;injection hb with hb;injection hb with e1 e2;exact⟨e1,e2⟩
  have hblk:bk'<w.heap.size:=hW.lt _ _ _ hb';have hle:n * k<=vs.size:=by rw[hsz];exact Nat.mul_le_mul_right k hnc'
  have hdiv:∀q,q<n * k->q / k<n/\q % k<k/\q / k * k+q % k=q:=λq hq=>by
   have k0:0<k:=by
    rcases Nat.eq_zero_or_pos k with h | h
    ·subst h;simp at hq
    ·exact h
   exact⟨Nat.div_lt_of_lt_mul (by rwa [Nat.mul_comm]),Nat.mod_lt _ k0,Nat.div_add_mod' q k⟩
  have hds:(((List.range n).map f).toArray).size=n:=by simp
  have hlen:∀x,(encV enc x).length=k:=λx=>by simp[encV,hk]
  have hH:HoldsK (encV enc) k w bk' 0 ((List.range n).map f).toArray:=by
   intro q hq;rw[size_flatK,hds] at hq;obtain⟨q1,q2,q3⟩:=hdiv q hq;rw[get_flatK _ _ _ _ (by rw[hds];exact hq),arr_get n f q1,Nat.zero_add];have hlt:q<vs.size:=by omega
   refine⟨?_,?_⟩
   ·rw[cell_of_row w bk' q vs t (0,0) hh];have hg:vs[q / k * k+q % k]?=some vs[q]:=by rw[q3];exact Array.getElem?_eq_getElem hlt
    have hu:(enc (f (q / k)))[q % k]?=some ((enc (f (q / k)))[q % k]'(by rw[hk];exact q2)):=List.getElem?_eq_getElem _;have:=wvg (hp _ _ (List.mem_of_getElem? hu)) (hval (q / k) q1 (q % k) _ _ q2 hg hu);show vs[q]?=some (((enc (f (q / k))).map valA)[q % k]!);rw[Array.getElem?_eq_getElem hlt,this];congr 1;simp[hk,q2]
   ·simp[World.frozen?,hh]
  have hC:CmpLays C.P g #[] (encV enc) k cf bk' 0 ((List.range n).map f).toArray.size w:=by
   intro m os dk _ x y;have:=ADet.grown (hc x y) rfl (w:=sortWorldK (encV enc) k w bk' 0 m dk os) (cargs:=[.agg (encV enc x).toArray,.agg (encV enc y).toArray]) rfl (λj v u hv hu=>?_)
   ·simpa[valA] using this
   have ag:∀z:α,V (sortWorldK (encV enc) k w bk' 0 m dk os) (λ_=>False) nob (.agg (encV enc z).toArray) (.agg (enc z)):=λz=>by
    refine .agg (by simp[encV]) (λj v hv=>?_) (λj v u hv hu=>?_)
    ·simp only[List.getElem?_toArray,encV,List.getElem?_map,Option.map_eq_some_iff] at hv;obtain⟨u,hu,rfl⟩:=hv;exact wr9 (hp _ _ (List.mem_of_getElem? hu))
    ·simp only[List.getElem?_toArray,encV,List.getElem?_map,hu,Option.map_some,sI7] at hv;subst hv;exact wsa (hp _ _ (List.mem_of_getElem? hu))
   match j with
   |0=>obtain rfl:=oJ7 hv;obtain rfl:=oJ7 hu;exact ag x
   |1=>obtain rfl:=oJ7 hv;obtain rfl:=oJ7 hu;exact ag y
   |j+2=>simp at hv
  have hcall:=hS bk' c' ((List.range n).map f).toArray w hC hH hblk (by rw[hds];exact hn);rw[hds] at hcall;refine hcall.mono ?_;rintro e w' ⟨rfl,d',m,os,hperm,hsort,rfl⟩;have hd':d'.size=n:=hperm.1.trans hds;have hlist:d'.toList=(List.range n).map (λi=>d'[i]!):=by
   apply List.ext_getElem?;intro i;rw[List.getElem?_map,Array.getElem?_toList]
   by_cases hi:i<n
   ·rw[List.getElem?_range hi,Option.map_some,getElem!_pos d' i (by omega),Array.getElem?_eq_getElem (by omega)]
   ·rw[Array.getElem?_eq_none (by omega),List.getElem?_eq_none (by simp;omega)];rfl
  have hnb:∀(o':AObj),lk [(0,o')]=up (lk [(0,AObj.row t k n (λi=>enc (f i)) false)]) 0 o':=λo'=>by
   funext i;rw[waw]
   by_cases h:(0:Nat)=i
   ·rw[if_pos h, ← h,wao]
   ·rw[if_neg h,wam _ _ _ h,waw,if_neg h]
  have hheap:∀b,b<w.heap.size->b≠bk'->(sortWorldK (encV enc) k w bk' 0 m d' os).heap[b]?=w.heap[b]?:=λb hb hne=>by
   show ((putRowK (encV enc) k (Sort.ahead w m) bk' 0 d').heap++os)[b]?=_;rw[Array.getElem?_append_left (by show b<(putRowK _ _ _ _ _ _).heap.size;rw[show (putRowK (encV enc) k (Sort.ahead w m) bk' 0 d').heap.size=w.heap.size from by simp[putRowK]];exact hb)];simp[putRowK,putRow,mapBlock,Array.getElem?_modify,Ne.symm hne]
  have hsize:w.heap.size<=(sortWorldK (encV enc) k w bk' 0 m d' os).heap.size:=by simp[sortWorldK,grow,putRowK]
  have hnew:(sortWorldK (encV enc) k w bk' 0 m d' os).heap[bk']?=some (.cells (putCells id 0 (flatK (encV enc) k d') vs) t (0,0)):=by
   show ((putRowK (encV enc) k (Sort.ahead w m) bk' 0 d').heap++os)[bk']?=_;rw[Array.getElem?_append_left (by rw[show (putRowK (encV enc) k (Sort.ahead w m) bk' 0 d').heap.size=w.heap.size from by simp[putRowK]];exact hblk)];simp[putRowK,putRow,mapBlock,Array.getElem?_modify,hh,onCells]
  have hcell:∀i,i<n->∀j,j<k->∀v,(putCells id 0 (flatK (encV enc) k d') vs)[i * k+j]?=some v->∃u,(enc d'[i]!)[j]?=some u/\v=valA u:=λi hi j hj v hv=>by
   have hlt:i * k+j<n * k:=by
    have:=Nat.mul_le_mul_right k (show i+1<=n from hi);rw[Nat.add_mul,Nat.one_mul] at this;omega
   have hlt2:i * k+j<vs.size:=by omega
   simp only[putCells,Array.getElem?_mapIdx,Array.getElem?_eq_getElem hlt2,Option.map_some,size_flatK,hd',zL7,Nat.zero_add,hlt,and_self,if_true,Nat.sub_zero,sI7,id] at hv;rw[get_flatK _ _ _ _ (by rw[hd'];exact hlt)] at hv;have e1:(i * k+j) / k=i:=(blk_iff k i _ (by omega)).1 ⟨by omega,by omega⟩;have e2:(i * k+j) % k=j:=by rw[Nat.mod_eq_sub_div_mul,e1];omega
   rw[e1,e2] at hv;refine⟨(enc d'[i]!)[j]'(by rw[hk];exact hj),List.getElem?_eq_getElem _,?_⟩;rw[← hv];simp[encV,hk,hj]
  refine⟨_,.tuple [],[(0,.row t k n (λi=>enc d'[i]!) false)],bs,rfl,⟨rfl,λi=>d'[i]!,?_,λi j hij hj=>?_,rfl⟩,?_,.tuple rfl (λj v u hv hu=>by simp at hu),λr hr=>⟨by rw[waw,if_neg (by show ¬ 0=r;exact λh=>by subst h;simp at hr)];rfl,(hbs r hr).2⟩⟩
  ·have:=hperm.2.2;have e1:d'.extract 0 n=d':=by rw[← hd'];exact Array.extract_size
   have e2:((List.range n).map f).toArray.extract 0 n=((List.range n).map f).toArray:=by
    have:=Array.extract_size (xs:=((List.range n).map f).toArray)
    rwa [hds] at this
   rw[e1,e2] at this;rw[← hlist];simpa using this
  ·have:=hsort i j (zL7 _) hij hj;simpa[ltOf] using this
  ·have hmb:∀b,mutB (lk [(0,AObj.row t k n (λi=>enc d'[i]!) false)]) bs b->mutB (lk [(0,AObj.row t k n (λi=>enc (f i)) false)]) bs b:=by
    rintro b ⟨r,o,c2,ho,hm,hb2⟩;rw[waw] at ho
    by_cases h:(0:Nat)=r
    ·subst h;exact⟨0,_,c2,rfl,rfl,hb2⟩
    ·rw[if_neg h] at ho;cases ho
   refine(hW.next (w':=sortWorldK (encV enc) k w bk' 0 m d' os) (λb=>b=bk') (λi h hi=>hi) (λi b c' hi=>.inl hi) (λb hb2=>by subst hb2;exact⟨0,_,c',rfl,rfl,hb'⟩) (λb hb2 hne=>hheap b hb2 hne) hsize (λb hb2=>.inl (hmb b hb2)) (λhSt i o' ho=>?_)
    (λi j o1 o2 b c1 c2 hi hj m1 m2 bi bj=>?_) (λi t' sz' n' f' b c2 ho hb2=>?_) rfl ⟨rfl,λ_=>Nat.le_add_right _ _⟩ rfl).2
   ·rw[waw] at ho
    by_cases h:(0:Nat)=i
    ·subst h;rw[if_pos rfl] at ho;injection ho with ho;subst ho;refine .inr (.inr ⟨bk',c',_,hb',hnew,hnc',hcm',by simp[putCells,hsz],λi hi=>hk _,λi hi j hj v hv=>?_,λi hi j v u hj hv hu=>?_⟩)
     ·obtain⟨u,hu,rfl⟩:=hcell i hi j hj v hv;exact wr9 (hp _ _ (List.mem_of_getElem? hu))
     ·obtain⟨u',hu',rfl⟩:=hcell i hi j hj v hv;have hu:(enc d'[i]!)[j]?=some u:=hu;rw[hu'] at hu;injection hu with hu;subst hu;exact wsa (hp _ _ (List.mem_of_getElem? hu'))
    ·rw[if_neg h] at ho;cases ho
   ·rw[waw] at hi hj
    by_cases h:(0:Nat)=i
    ·by_cases h':(0:Nat)=j
     ·rw[← h, ← h']
     ·rw[if_neg h'] at hj;cases hj
    ·rw[if_neg h] at hi;cases hi
   ·rw[waw] at ho
    by_cases h:(0:Nat)=i
    ·rw[if_pos h] at ho;cases ho
    ·rw[if_neg h] at ho;cases ho
end
end Go.Eng
namespace Go.Eng
open Go.Proofs Go.RowKit Go.Sort
variable {C:Ctx}
set_option maxRecDepth 20000
theorem nf_nan(x:Int)(R:oR7):wpFn te [] [] 0 Tryz.f101 [.q x] [] R=(R (.bool !decide (x=x)) []):=by kernel_rfl
theorem nf_icmp(a b:Int)(R:oR7):wpFn te [(101,.det we4)] [] 0 Tryz.f81 [.q a,.q b] [] R=(True/\True/\wab (decide (a<b)) (R (.q (-1:Int)) []) (wab (decide (b<a)) (R (.q 1) []) (R (.q 0) []))):=by kernel_rfl
theorem wy5(x:Int)(R:oR7):wpFn te [] [] 0 Tryz.f148 [.q x] [] R=(R (.bool !decide (x=x)) []):=by kernel_rfl
theorem wzr(a b:Int)(R:oR7):wpFn te [(148,.det we4)] [] 0 Tryz.f123 [.q a,.q b] [] R=(True/\True/\wab (decide (a<b)) (R (.q (-1:Int)) []) (wab (decide (b<a)) (R (.q 1) []) (R (.q 0) []))):=by kernel_rfl
theorem nf_or(f:Nat->List AV)(n:Nat)(R:oR7):wpFn te [] [(3,L_or (vInt f) n)] 0 Tryz.f79 [.own 0 n] [.row 3 1 n f false] R=(letI z0:=([(0,.row 3 1 n (waj (vInt f)) false)]:oL7);(TEq [(3,.q 0),(6,.own 0 n),(7,.q (n:Int)),(8,.q 0)] [(3,.q 0),(6,.own 0 n),(7,.q (n:Int)),(8,.q (↑0:Int))]/\wac [(0,.row 3 1 n f false)] z0)/\n<=100/\wab (decide (orN (vInt f) n=0)) ((∀(i:Nat),i<n->true=true)/\∃(O':oL7),wac z0 O'/\R (.q 0) O') ((∀(i:Nat),i<n->true=true)/\∃(O':oL7),wac z0 O'/\R (.q (orN (vInt f) n)) O')):=by kernel_rfl
theorem wyz(v:Nat->Int)(n k:Nat)(P:Nat->Prop)(R:eR7):was ⟨te,[],[],1,18,0⟩ (wat Tryz.f79 3) [3,6,7,8] [3] [2] (wls v n) P R (wls v n k)=(letI z0:=([(0,.row 3 1 n (waj v) false)]:oL7);wab (decide ((k:Int)<(n:Int))) (((0:Int)<=(k:Int)/\(k:Int)<(n:Int))/\((k:Int).toNat<n/\1=1)/\wab (!decide (v (k:Int).toNat=0)) ((∀(i:Nat),i<n->true=true)/\∃(O':oL7),wac z0 O'/\R .ret (St.mk [(2,.q (v (k:Int).toNat))] O' 1 [])) (inR .i64 ((k:Int)+1)/\∃(i':Nat),(TEq [(3,.q 0),(6,.own 0 n),(7,.q (n:Int)),(8,.q ((k:Int)+1))] [(3,.q 0),(6,.own 0 n),(7,.q (n:Int)),(8,.q (i':Int))]/\wac z0 z0)/\P i')) ((∀(i:Nat),i<n->true=true)/\∃(O':oL7),wac z0 O'/\R (.exit 0) (St.mk [(3,.q 0)] O' 1 []))):=by kernel_rfl
theorem wuu:∀a b:List UInt8,Lib.compareBytes a b=cmpS a b
 |[],[]=>rfl
 |[],_::_=>rfl
 |_::_,[]=>rfl
 |a::x,b::y=>by
  have ih:=wuu x y;rw[Lib.compareBytes,ih];unfold cmpS;simp only[Op.bytesLess]
  by_cases h:a<b
  ·simp[h]
  ·by_cases h':b<a
   ·have:(a==b)=false:=by
     rw[beq_eq_false_iff_ne];exact λe=>by subst e;exact h h'
    simp[h,h',this]
   ·have e:a=b:=by
     rcases Nat.lt_trichotomy a.toNat b.toNat with q | q | q
     ·exact absurd q h
     ·exact UInt8.toNat_inj.1 q
     ·exact absurd q h'
    subst e;simp[h]
theorem wrj(hP:C.P=Tryz.prog):wad C 80 wgt:=by
 rintro args objs U Os vc h hvc;unfold wgt at h;split at h<;>cases h;rename_i a b;refine waq.quiet ⟨Tryz.f80,hP ▸ Tryz.func80,rfl,by decide⟩ λE bs w cargs hW hl hv=>?_;obtain⟨x,y,rfl⟩:∃x y,cargs=[x,y]:=by
  match cargs,hl with
  |[x,y],_=>exact⟨x,y,rfl⟩
 have e1:=(hv 0 _ _ rfl rfl).str_iff;have e2:=(hv 1 _ _ rfl rfl).str_iff;subst e1;subst e2;rw[hP];refine(Tryz.strings_Compare ⟨a.toArray⟩ ⟨b.toArray⟩ w).mono ?_;rintro e w' ⟨rfl,rfl⟩;refine⟨_,rfl,rfl,?_⟩;rw[wuu];exact .int
theorem nan_ok(hP:C.P=Tryz.prog):wad C 101 we4:=by
 rintro args objs U Os vc h hvc;unfold we4 at h;split at h<;>cases h;refine wad.wp0 (prg hP) [] 0 .nil (hP ▸ Tryz.func101) rfl rfl rfl ?_;rw[nf_nan,decide_eq_true rfl];exact⟨rfl,rfl⟩
theorem w0k(hP:C.P=Tryz.prog):wad C 148 we4:=by
 rintro args objs U Os vc h hvc;unfold we4 at h;split at h<;>cases h;refine wad.wp0 (prg hP) [] 0 .nil (hP ▸ Tryz.func148) rfl rfl rfl ?_;rw[wy5,decide_eq_true rfl];exact⟨rfl,rfl⟩
theorem wtp(hP:C.P=Tryz.prog):wad C 81 wdx:=by
 rintro args objs U Os vc h hvc;unfold wdx at h;split at h<;>cases h;refine wad.wp0 (prg hP) [(101,.det we4)] 0 (.cons (nan_ok hP) .nil) (hP ▸ Tryz.func81) rfl rfl rfl ?_;rw[nf_icmp];unfold cmpI;exact⟨trivial,trivial,wal (λh=>by rw[h];exact⟨rfl,rfl⟩) (λh=>wal (λk=>by rw[h,k];exact⟨rfl,rfl⟩) (λk=>by rw[h,k];exact⟨rfl,rfl⟩))⟩
theorem w13(hP:C.P=Tryz.prog):wad C 123 wdx:=by
 rintro args objs U Os vc h hvc;unfold wdx at h;split at h<;>cases h;refine wad.wp0 (prg hP) [(148,.det we4)] 0 (.cons (w0k hP) .nil) (hP ▸ Tryz.func123) rfl rfl rfl ?_;rw[wzr];unfold cmpI;exact⟨trivial,trivial,wal (λh=>by rw[h];exact⟨rfl,rfl⟩) (λh=>wal (λk=>by rw[h,k];exact⟨rfl,rfl⟩) (λk=>by rw[h,k];exact⟨rfl,rfl⟩))⟩
theorem wse{v:Nat->Int}{k:Nat}(h:orN v k=0)(hv:v k≠0):∀n,k<n->orN v n=v k
 |0,hn=>by omega
 |n+1,hn=>by
  rw[orN]
  by_cases e:k=n
  ·subst e;rw[h];rfl
  ·rw[wse h hv n (by omega),decide_eq_false hv];rfl
theorem or_loop(hP:C.P=Tryz.prog)(v:Nat->Int)(n:Nat):wag C 1 18 (wah Tryz.f79 3) (L_or v n):=by
 rintro st Q ⟨h0,hn,hQ⟩;have hR:=wby hQ;refine wag.mk (prg hP) [] 0 .nil [3,6,7,8] [3] [2] (wls v n) (λk=>k<=n/\orN v k=0) (λk=>n - k) 0 ⟨zL7 _,rfl⟩ h0 (λk hk=>?_) (λi=>⟨λ_ _=>rfl,trivial⟩);obtain⟨hkn,hok⟩:=hk;rw[wyz,tN7];refine waf (λh1=>⟨⟨by omega,by omega⟩,⟨by omega,rfl⟩,wau (λh2=>⟨λ_ _=>rfl,_,wav _,?_⟩) (λh2=>⟨by simp only[inR];omega,k+1,⟨rfl,wav _⟩,⟨by omega,?_⟩,by omega⟩)⟩) (λh1=>⟨λ_ _=>rfl,_,wav _,?_⟩)
 ·have e:=wse hok h2 n (by omega);have:=hR.2 (by rw[e,decide_eq_false h2]);rw[e] at this;exact this
 ·rw[orN,hok];exact h2
 ·have:k=n:=by omega
  subst this;exact hR.1 (by rw[hok];rfl)
theorem or_ok(hP:C.P=Tryz.prog):wad C 79 S_or:=by
 rintro args objs U Os vc h hvc;unfold S_or at h;split at h<;>cases h;rename_i n t m f fr;obtain⟨rfl,rfl,rfl,hn,hf⟩:=hvc;have hrow:wac [(0,AObj.row 3 1 n (waj (vInt f)) false)] [(0,.row 3 1 n f false)]:=⟨⟨rfl,rfl,rfl,rfl,rfl,λi hi=>(hf i hi).symm⟩,trivial⟩;refine wad.wpL (prg hP) [] [(3,L_or (vInt f) n)] 0 .nil (hP ▸ Tryz.func79) rfl rfl rfl [(wah Tryz.f79 3,L_or (vInt f) n)] (by kernel_rfl) ⟨or_loop hP _ _,trivial⟩ ?_;rw[nf_or];refine⟨⟨rfl,⟨rfl,rfl,rfl,rfl,rfl,hf⟩,trivial⟩,hn,waf (λh=>⟨λ_ _=>rfl,_,hrow,?_⟩) (λh=>⟨λ_ _=>rfl,_,hrow,rfl,rfl⟩)⟩;rw[h];exact⟨rfl,rfl⟩
theorem wsf(x:Int):∀l:List Int,orL (l++[x])=bif decide (orL l=0) then x else orL l
 |[]=>by simp only[List.nil_append,orL];by_cases h:x=0<;>simp[h]
 |y::l=>by
  rw[List.cons_append,orL,wsf x l,orL]
  by_cases h:y=0
  ·simp[h]
  ·simp[h]
theorem wot(v:Nat->Int):∀n,orN v n=orL ((List.range n).map v)
 |0=>rfl
 |n+1=>by rw[List.range_succ,List.map_append,List.map_singleton,wsf,orN,wot v n]
theorem swo_of{α:Type}{c:α->α->Int}(h:PreC c):SWO (ltOf c) where
 irrefl x:=by simp[ltOf,h.self x]
 trans x y z h1 h2:=by
  simp only[ltOf,decide_eq_true_eq] at *;exact h.lt_trans h1 h2
 ntrans x y z h1 h2:=by
  simp only[ltOf,decide_eq_false_iff_not] at *;intro q;have:=h.neg x y;have:=h.neg y x;have:=h.neg y z;have:=h.neg z y;have:=h.neg x z;have:=h.neg z x;have:=h.trans z y x (by omega) (by omega);omega
theorem wzb(a b:List UInt8)(R:oR7):wpFn te [(80,.det wgt)] [] 0 Tryz.f122 [.str a,.str b] [] R=(True/\R (.q (cmpS a b)) []):=by kernel_rfl
theorem nf_mcmp(m m':MG)(R:oR7):wpFn te [(122,.det wl3),(81,.det wdx),(123,.det wdx),(79,.det S_or)] [] 0 Tryz.f98 [.agg [.str m.dev,.q m.seq,.q m.kind,.str m.v.o,.str m.v.p,.q m.v.per,.q m.v.day,.q m.v.st,.q m.v.pr,.str m.v.rep,.str m.d.o,.str m.d.p,.q m.d.per,.str m.d.dev,.q m.d.num],.agg [.str m'.dev,.q m'.seq,.q m'.kind,.str m'.v.o,.str m'.v.p,.q m'.v.per,.q m'.v.day,.q m'.v.st,.q m'.v.pr,.str m'.v.rep,.str m'.d.o,.str m'.d.p,.q m'.d.per,.str m'.d.dev,.q m'.d.num]] [] R=(letI z0:=war 1 (.q (cmpS m.dev m'.dev):: .q (cmpI m.seq m'.seq):: .q (cmpI m.kind m'.kind):: .q (cmpS m.v.o m'.v.o):: .q (cmpS m.v.p m'.v.p):: .q (cmpI m.v.per m'.v.per):: .q (cmpI m.v.day m'.v.day):: .q (cmpI m.v.st m'.v.st):: .q (cmpI m.v.pr m'.v.pr):: .q (cmpS m.v.rep m'.v.rep):: .q (cmpS m.d.o m'.d.o):: .q (cmpS m.d.p m'.d.p):: .q (cmpI m.d.per m'.d.per):: .q (cmpS m.d.dev m'.d.dev):: .q (cmpI m.d.num m'.d.num)::List.append [] (List.flatten (List.replicate (nat_lit 0) [.q 0])));True/\True/\True/\True/\True/\True/\True/\True/\True/\True/\True/\True/\True/\True/\True/\(15<=16777216/\1=1/\15<=9223372036854775807)/\(∀(i:Nat),i<15->true=true)/\(3=3/\false=false/\15=15/\15<=100/\∀(i:Nat),i<15->[AV.q (List.getD [cmpS m.dev m'.dev,cmpI m.seq m'.seq,cmpI m.kind m'.kind,cmpS m.v.o m'.v.o,cmpS m.v.p m'.v.p,cmpI m.v.per m'.v.per,cmpI m.v.day m'.v.day,cmpI m.v.st m'.v.st,cmpI m.v.pr m'.v.pr,cmpS m.v.rep m'.v.rep,cmpS m.d.o m'.d.o,cmpS m.d.p m'.d.p,cmpI m.d.per m'.d.per,cmpS m.d.dev m'.d.dev,cmpI m.d.num m'.d.num] i (0:Int))]=[.q (vInt z0 i)])/\(∀(i:Nat),i<15->true=true)/\R (.q (orN (vInt z0) 15)) []):=by kernel_rfl
theorem lt15{p:Nat->Prop}(h0:p 0)(h1:p 1)(h2:p 2)(h3:p 3)(h4:p 4)(h5:p 5)(h6:p 6)(h7:p 7)(h8:p 8)(h9:p 9)(h10:p 10)(h11:p 11)(h12:p 12)(h13:p 13)(h14:p 14):∀i,i<15->p i:=λi hi=>by
 match i,hi with
 |0,_=>exact h0
 |1,_=>exact h1
 |2,_=>exact h2
 |3,_=>exact h3
 |4,_=>exact h4
 |5,_=>exact h5
 |6,_=>exact h6
 |7,_=>exact h7
 |8,_=>exact h8
 |9,_=>exact h9
 |10,_=>exact h10
 |11,_=>exact h11
 |12,_=>exact h12
 |13,_=>exact h13
 |14,_=>exact h14
theorem w02(hP:C.P=Tryz.prog):wad C 122 wl3:=by
 rintro args objs U Os vc h hvc;unfold wl3 at h;split at h<;>cases h;rename_i a b;refine wad.wp0 (prg hP) [(80,.det wgt)] 0 (.cons (wrj hP) .nil) (hP ▸ Tryz.func122) rfl rfl rfl ?_;rw[wzb];exact⟨trivial,rfl,rfl⟩
theorem mcmp_ok(hP:C.P=Tryz.prog):wad C 98 wdv:=by
 rintro args objs U Os vc h hvc;unfold wdv at h;split at h<;>simp only[sI7,pI7,reduceCtorEq] at h;rename_i dev seq kind o p per day st pr rep o' p' per' dev' num dev2 seq2 kind2 o2 p2 per2 day2 st2 pr2 rep2 o3 p3 per3 dev3 num2;obtain⟨rfl,rfl,rfl⟩:=h;have hn:=nf_mcmp ⟨dev,seq,kind,⟨o,p,per,day,st,pr,rep⟩,⟨o',p',per',dev',num⟩⟩ ⟨dev2,seq2,kind2,⟨o2,p2,per2,day2,st2,pr2,rep2⟩,⟨o3,p3,per3,dev3,num2⟩⟩;dsimp only at hn;refine wad.wp0 (prg hP) [(122,.det wl3),(81,.det wdx),(123,.det wdx),(79,.det S_or)] 0 (.cons (w02 hP) (.cons (wtp hP) (.cons (w13 hP) (.cons (or_ok hP) .nil)))) (hP ▸ Tryz.func98) rfl rfl rfl ?_;rw[hn,wot];exact⟨trivial,trivial,trivial,trivial,trivial,trivial,trivial,trivial,trivial,trivial,trivial,trivial,trivial,trivial,trivial,⟨by omega,rfl,by omega⟩,λ_ _=>rfl,⟨rfl,rfl,rfl,by omega,lt15 rfl rfl rfl rfl rfl rfl rfl rfl rfl rfl rfl rfl rfl rfl rfl⟩,λ_ _=>rfl,rfl,rfl⟩
theorem wwh(hP:C.P=Tryz.prog):wba C 97 wm7:=by
 rintro args objs R h;unfold wm7 at h;split at h
 ·rename_i n t m f fr;obtain⟨rfl,rfl,rfl,hn,hf,hR⟩:=h;generalize mgOf f=g at *;subst hf;have hS:=waq.sortK (C:=C) mgC 15 (λ_=>rfl) (λx u hu=>by
    simp only[mgC,List.mem_cons,List.not_mem_nil,or_false] at hu
    rcases hu with rfl | rfl | rfl | rfl | rfl | rfl | rfl | rfl | rfl | rfl | rfl | rfl | rfl | rfl | rfl<;>rfl) ordM (t:=47) (fS:=97) (g:=98)
   ⟨_,hP ▸ Tryz.func97,rfl,by decide⟩
   (λblk cap d w h1 h2 h3 h4=>by
    rw[hP] at h1 ⊢;exact AnyQ.slices_SortFunc Tryz.sort97 15 Tryz.isAgg47 Tryz.sizeOf47 _ (λ_=>rfl) (λx v hv=>by
     simp only[encV,mgC,List.map_cons,List.map_nil,List.mem_cons,List.not_mem_nil,or_false] at hv
     rcases hv with rfl | rfl | rfl | rfl | rfl | rfl | rfl | rfl | rfl | rfl | rfl | rfl | rfl | rfl | rfl<;>rfl) ordM (swo_of wcx) 98 #[] blk 0 cap d w (enters_of Tryz.func98 (by kernel_rfl) rfl) h1 h2 h3 h4)
   (λp cap fv w=>by
    rw[hP];exact AnyF.slices_SortFunc_none Tryz.sort97 p cap fv w)
   (λx y=>mcmp_ok (C:=Ctx.bare C.P C.mixed) hP _ _ _ _ _ rfl trivial) g (n:=n) (by omega)
  refine hS.mono ?_;rintro u O ⟨rfl,f',hp,hs,rfl⟩;exact hR f' hp hs
 ·exact h.elim
end Go.Eng
namespace Go.Eng
open Go.Proofs Go.RowKit
set_option maxRecDepth 20000
theorem wya(s:List UInt8)(cells:List AV)(R:oR7):wpFn te [] [(1,wnh s cells 199)] 0 Tryz.f175 [.str s,.ptr 0 0] [.cells cells 199] R=(letI z0:=([(0,.cells (AV.rnL (ren 1 []) cells) 199)]:oL7);some (St.mk [(0,.str s),(1,.ptr 0 0)] z0 1 [])=some (St.mk [(0,.str s),(1,.ptr 0 0)] [(0,.cells cells 199)] 1 [])/\wb8 cells/\R (.str (List.dropWhile (wbd cells) s)) z0):=by kernel_rfl
theorem wx8(cells:List AV)(P:List UInt8->Prop)(R:eR7):was ⟨te,[(187,.det wfx)],[],1,16,0⟩ (wat Tryz.f175 1) [0,1] [0] [0] (wdt cells 199) P R (wdt cells 199 [])=(R (.exit 0) (St.mk [(0,.str [])] [(0,.cells (AV.rnL (ren 1 []) cells) 199)] 1 [])):=by kernel_rfl
theorem wx9(x:UInt8)(s:List UInt8)(cells:List AV)(P:List UInt8->Prop)(R:eR7):was ⟨te,[(187,.det wfx)],[],1,16,0⟩ (wat Tryz.f175 1) [0,1] [0] [0] (wdt cells 199) P R (wdt cells 199 (x::s))=(letI z3:=AV.rnL (idxN [0]) cells;letI z2:=(↑(x::s).length:Int);letI z1:=([(0,.cells (AV.rnL (ren 1 []) (AV.rnL (sig [0] 1) z3)) 199)]:oL7);letI z0:=(↑(UInt8.toNat (List.getD (x::s) (0:Int).toNat (0:UInt8))):Int);wab (decide ((0:Int)<z2)) (((0:Int)<=0/\(0:Int)<z2)/\(wb8 z3/\(0:Int)<=z0/\z0<256)/\wab (!wbd z3 (UInt8.ofNat z0.toNat)) (R (.exit 0) (St.mk [(0,.str (x::s))] z1 1 [])) (((0:Int)<=1/\(1:Int)<=z2)/\∃(i':List UInt8),some (St.mk [(0,.str (List.drop (1:Int).toNat (x::s))),(1,.ptr 0 0)] z1 1 [])=some (St.mk [(0,.str i'),(1,.ptr 0 0)] [(0,.cells cells 199)] 1 [])/\P i')) (R (.exit 0) (St.mk [(0,.str (x::s))] [(0,.cells (AV.rnL (ren 1 []) cells) 199)] 1 []))):=by kernel_rfl
theorem wx7(s:List UInt8)(cells:List AV)(R:oR7):wpFn te [] [(1,wng s cells 199)] 0 Tryz.f176 [.str s,.ptr 0 0] [.cells cells 199] R=(letI z0:=([(0,.cells (AV.rnL (ren 1 []) cells) 199)]:oL7);some (St.mk [(0,.str s),(1,.ptr 0 0)] z0 1 [])=some (St.mk [(0,.str s),(1,.ptr 0 0)] [(0,.cells cells 199)] 1 [])/\wb8 cells/\s.length<=9223372036854775807/\R (.str (wcz (wbd cells) s)) z0):=by kernel_rfl
theorem wx6(s:List UInt8)(cells:List AV)(P:List UInt8->Prop)(R:eR7):was ⟨te,[(187,.det wfx)],[],1,22,0⟩ (wat Tryz.f176 1) [0,1] [0] [0] (wdt cells 199) P R (wdt cells 199 s)=(letI z3:=AV.rnL (idxN [0]) cells;letI z2:=([(0,.cells (AV.rnL (ren 1 []) (AV.rnL (sig [0] 1) z3)) 199)]:oL7);letI z0:=(s.length:Int);letI z4:=(z0 - (1:Int));letI z1:=(↑(UInt8.toNat (List.getD s z4.toNat (0:UInt8))):Int);wab (decide ((0:Int)<z0)) (inR .i64 z4/\((0:Int)<=z0 - (1:Int)/\z0 - (1:Int)<z0)/\(wb8 z3/\(0:Int)<=z1/\z1<256)/\wab (!wbd z3 (UInt8.ofNat z1.toNat)) (R (.exit 0) (St.mk [(0,.str s)] z2 1 [])) (inR .i64 z4/\((0:Int)<=z0 - (1:Int)/\z0 - (1:Int)<=z0)/\∃(i':List UInt8),some (St.mk [(0,.str (List.take z4.toNat s)),(1,.ptr 0 0)] z2 1 [])=some (St.mk [(0,.str i'),(1,.ptr 0 0)] [(0,.cells cells 199)] 1 [])/\P i')) (R (.exit 0) (St.mk [(0,.str s)] [(0,.cells (AV.rnL (ren 1 []) cells) 199)] 1 []))):=by kernel_rfl
theorem nf_trim(s cs:List UInt8)(R:oR7):wpFn te [(175,.det wle),(176,.det wld)] [(1005,wnf s cs)] 0 Tryz.f164 [.str s,.str cs] [] R=(letI z3:=St.mk [(0,.str s),(1,.str cs)] [] 0 [];letI z2:=((0:Int)<=0/\(0:Int)<(cs.length:Int):Prop);letI z1:=AV.rnL (idxN [0]) (setAV cs);letI z4:=AV.rnL (idxN [0]) (AV.rnL (sig [0] 1) z1);letI z0:=(some z3=some z3/\cs.length<4294967281/\(∀(b:UInt8),b∈cs->UInt8.toNat b<128)/\(wb8 z1/\s.length<=9223372036854775807)/\wb8 z4/\R (.str (List.dropWhile (wbd z4) (wcz (wbd z1) s))) []);wab (decide (s=[])) (R (.str s) []) (wab (decide (cs=[])) (R (.str s) []) (wab (decide ((cs.length:Int)=1)) (z2/\wab (decide ((↑(UInt8.toNat (List.getD cs (0:Int).toNat (0:UInt8))):Int)<128)) (z2/\False) z0) z0))):=by kernel_rfl
variable {C:Ctx} [C.Loose]
theorem mem2{α:Type}{l:List α}(h:l.length=2):∃a b,l=[a,b]:=by
 match l,h with
 |[a,b],_=>exact⟨a,b,rfl⟩
theorem mem1{α:Type}{l:List α}(h:l.length=1):∃a,l=[a]:=by
 match l,h with
 |[a],_=>exact⟨a,rfl⟩
theorem wre(hP:C.P=Tryz.prog):wad C 187 wfx:=by
 have _:C.Loose:=inferInstance;rintro args objs U Os vc h hvc;unfold wfx at h;split at h<;>cases h;rename_i x cells t;obtain⟨hc,h0,h1⟩:=hvc;obtain⟨n,rfl⟩:∃n:UInt8,x=n.toNat:=⟨UInt8.ofNat x.toNat,by simp;omega⟩;refine waq.quiet ⟨Tryz.f187,hP ▸ Tryz.func187,rfl,by decide⟩ λE bs w cargs hW hl hv=>?_;obtain⟨a,b,rfl⟩:=mem2 hl;have e2:=(hv 1 _ _ rfl rfl).int_iff;subst e2;obtain⟨b,y,rfl,hcc,hy⟩:=hW.cell (r:=0) rfl (hv 0 _ _ rfl rfl) (hc.at_ n)
 cases hy;rw[hP];refine(Tryz.asciiSet_contains b n _ w hcc).mono ?_;rintro e w' ⟨rfl,rfl⟩;refine⟨_,rfl,rfl,?_⟩;have:UInt8.ofNat (n.toNat:Int).toNat=n:=by simp
 rw[this];exact .bool
theorem wv7(hP:C.P=Tryz.prog)(s:List UInt8)(cells:List AV):wag C 1 16 (wah Tryz.f175 1) (wnh s cells 199):=by
 rintro st Q ⟨h0,hc,hQ⟩;refine wag.mk (prg hP) [(187,.det wfx)] 0 (.cons (wre hP) .nil) [0,1] [0] [0] (wdt cells 199) (λs'=>s'.dropWhile (wbd cells)=s.dropWhile (wbd cells)) List.length s rfl h0 λs' hs'=>?_;have hrn:=hc.rn
 cases s' with
 |nil=>
  rw[wx8];simp only[hrn];rw[← hs'] at hQ;exact hQ
 |cons x r=>
  rw[wx9];simp only[hrn];have ex:UInt8.ofNat (Int.toNat (↑(UInt8.toNat (List.getD (x::r) (Int.toNat 0) 0))))=x:=by simp
  have hx:(List.getD (x::r) (Int.toNat 0) 0)=x:=rfl;have hlt:x.toNat<256:=x.toNat_lt;have hlen:(((x::r).length:Nat):Int)=(r.length:Int)+1:=by simp
  rw[hx] at ex;simp only[hx,ex,hlen];refine wal (λ_=>⟨by omega,⟨hc,by omega,by omega⟩,wal (λh=>?_) (λh=>?_)⟩) (λh=>?_)
  ·have h:wbd cells x=false:=by simpa using h
   rw[← hs',List.dropWhile_cons,h] at hQ;exact hQ
  ·have h:wbd cells x=true:=by simpa using h
   refine⟨by omega,r,rfl,?_,by simp⟩;rw[← hs',List.dropWhile_cons,h];rfl
  ·have:=of_decide_eq_false h;omega
theorem wv6(hP:C.P=Tryz.prog):wad C 175 wle:=by
 rintro args objs U Os vc h hvc;unfold wle at h;split at h<;>cases h;rename_i s cells;refine wad.wpL (prg hP) [] [(1,wnh s cells 199)] 0 .nil (hP ▸ Tryz.func175) rfl rfl rfl [(wah Tryz.f175 1,wnh s cells 199)] (by kernel_rfl) ⟨wv7 hP s cells,trivial⟩ ?_;rw[wya];simp only[hvc.rn];exact⟨trivial,hvc,by simp⟩
theorem wv5(hP:C.P=Tryz.prog)(s:List UInt8)(cells:List AV):wag C 1 22 (wah Tryz.f176 1) (wng s cells 199):=by
 rintro st Q ⟨h0,hc,hm,hQ⟩;refine wag.mk (prg hP) [(187,.det wfx)] 0 (.cons (wre hP) .nil) [0,1] [0] [0] (wdt cells 199) (λs'=>wcz (wbd cells) s'=wcz (wbd cells) s/\s'.length<=maxLen) List.length s ⟨rfl,hm⟩ h0 λs' hs'=>?_;have hrn:=hc.rn;obtain⟨hs',hm'⟩:=hs';have hm2:s'.length<=9223372036854775807:=hm';rw[wx6];simp only[hrn]
 rcases wwi s' with rfl | ⟨r,x,rfl⟩
 ·refine wal (λh=>?_) (λ_=>?_)
  ·have:=of_decide_eq_true h;simp at this
  ·rw[← hs'] at hQ;exact hQ
 ·have hlen:(((r++[x]).length:Nat):Int)=(r.length:Int)+1:=by simp
  have e1:((r.length:Int)+1 - 1).toNat=r.length:=by omega
  have hx:(r++[x]).getD r.length 0=x:=by simp
  have ht:(r++[x]).take r.length=r:=by simp
  have ex:UInt8.ofNat ((x.toNat:Int)).toNat=x:=by simp
  have hlt:x.toNat<256:=x.toNat_lt;have hlr:(r++[x]).length=r.length+1:=by simp
  simp only[hlen,e1,hx,ht,ex,inR];refine wal (λ_=>⟨by omega,by omega,⟨hc,by omega,by omega⟩,wal (λh=>?_) (λh=>?_)⟩) (λh=>?_)
  ·have h:wbd cells x=false:=by simpa using h
   rw[← hs',wur,h] at hQ;exact hQ
  ·have h:wbd cells x=true:=by simpa using h
   refine⟨by omega,by omega,r,rfl,⟨?_,?_⟩,by omega⟩
   ·rw[← hs',wur,h];rfl
   ·show r.length<=9223372036854775807;omega
  ·have:=of_decide_eq_false h;omega
theorem wv4(hP:C.P=Tryz.prog):wad C 176 wld:=by
 rintro args objs U Os vc h hvc;unfold wld at h;split at h<;>cases h;rename_i s cells;refine wad.wpL (prg hP) [] [(1,wng s cells 199)] 0 .nil (hP ▸ Tryz.func176) rfl rfl rfl [(wah Tryz.f176 1,wng s cells 199)] (by kernel_rfl) ⟨wv5 hP s cells,trivial⟩ ?_;rw[wx7];simp only[hvc.1.rn];exact⟨trivial,hvc.1,hvc.2,by simp⟩
theorem wwm{w:World}{M:Nat->Prop}{bs:Nat->Option Hd}(l:List UInt8):wct w M bs (Lib.setCells l) (setAV l):=by
 have hs:(Lib.setCells l).size=256:=Lib.setCells_size l;have hl:(setAV l).length=256:=(wfd l).1;have at_:∀j,j<256->(Lib.setCells l)[j]?=some (.bool (l.contains (UInt8.ofNat j))):=by
  intro j hj;have:=Lib.setCells_at l (UInt8.ofNat j);have e:(UInt8.ofNat j).toNat=j:=by simp;omega
  rwa [e] at this
 refine⟨by rw[hs,hl],λj v hv=>?_,λj v u hv hu=>?_⟩
 ·have hj:j<256:=by rw[← hs];exact(Array.getElem?_eq_some_iff.1 hv).1
  rw[at_ j hj] at hv
  cases hv;rfl
 ·have hj:j<256:=by rw[← hs];exact(Array.getElem?_eq_some_iff.1 hv).1
  rw[at_ j hj] at hv
  cases hv;have:(setAV l)[j]?=some (.bool (l.contains (UInt8.ofNat j))):=by unfold setAV;simp[hj]
  rw[this] at hu
  cases hu;exact .bool
theorem w06(hP:C.P=Tryz.prog):wad C 174 wvh:=by
 rintro args objs U Os vc h hvc;unfold wvh at h;split at h<;>cases h;rename_i l;obtain⟨hl,hascii⟩:=hvc;refine waq.below ⟨Tryz.f174,hP ▸ Tryz.func174,rfl,by decide⟩ λw M cargs _ _ hM hlen hv=>?_;obtain⟨a,rfl⟩:=mem1 hlen;have e1:=(hv 0 _ _ rfl rfl).str_iff;subst e1;rw[hP];refine(Tryz.strings_makeASCIISet (λw=>Tryz.zeroValue199 w) ⟨l.toArray⟩ w (by simpa[ByteArray.size] using hl) (λj b hb=>hascii b (by simpa using List.mem_of_getElem? hb))).mono ?_;rintro e w' ⟨rfl,rfl⟩;have hc:=wwm (w:=w.alloc (.cells (Lib.setCells l) 199)) (M:=M) (bs:=nob) l;refine⟨_,rfl,(Below.refl _ _).alloc (lR7 _) _,.tuple rfl λj v u hv hu=>?_⟩
 match j with
 |0=>simp at hv hu;subst hv;subst hu;exact .agg hc.1 hc.2.1 hc.2.2
 |1=>simp at hv hu;subst hv;subst hu;exact .bool
 |j+2=>simp at hv
def teSet:TE:=[(199,{ desc:=.array 256 4,sz:=256,bytes:=256,zero:=.agg (Array.replicate 256 (.bool false)) })]
@[irreducible] def zeroSet:List AV:=List.replicate 256 (.bool false)
theorem w31(n:Nat):avcs (List.replicate n (.bool false))=some (List.replicate n (.bool false)):=by
 induction n with
 |zero=>rfl
 |succ n ih=>simp[List.replicate_succ,avcs,avc,ih]
theorem wwa:TE.ok Tryz.prog teSet:=by
 refine TE.ok_cons Tryz.underlying199 ⟨Tryz.t199,Tryz.type199,rfl,rfl,by kernel_rfl⟩ (λh=>by cases h) TE.ok_nil
theorem wvm:avcs (Value.agg (Array.replicate 256 (.bool false))).cells.toList=some zeroSet:=by
 have e:(Value.agg (Array.replicate 256 (.bool false))).cells.toList=List.replicate 256 (Value.bool false):=Array.toList_replicate;rw[e];unfold zeroSet;exact w31 256
theorem wvn(cs:List UInt8):zeroSet.length=(setAV cs).length:=by
 rw[(wfd cs).1];unfold zeroSet;rw[List.length_replicate]
theorem wv3(hP:C.P=Tryz.prog)(s cs:List UInt8):wag C 0 43 (regC Tryz.f164 5) (wnf s cs):=by
 rintro st Q ⟨h0,hl,hascii,hQ⟩;refine AWP.canonIs [0,1] h0 ?_ trivial;have hte:=(prg hP).ok;have hts:TE.ok C.P teSet:=hP ▸ wwa;have hrn:=(wfd cs).rn;refine AWP.canQ (te:=te) (Fe:=[0,5,6]) (Fr:=[]) ?_;show AWP C 0 43 (.region 5 (List.toArray _) false) _ _;refine AWP.region ?_;refine AOps.pure hte (prg hP).one rfl rfl rfl trivial ?_;refine AOps.callD (u2:=.nil) (cobjs:=[]) (U:=.tuple [.agg (setAV cs),.bool true]) (Os:=[]) (T2:=[(31,.tuple [.agg (setAV cs),.bool true]),(30,.str cs),(0,.str s),(1,.str cs)]) [] rfl rfl rfl rfl rfl rfl trivial (w06 hP [.str cs] [] _ _ _ rfl ⟨hl,hascii⟩) rfl ?_ rfl rfl ?_
 ·show (31,AV.tuple [.agg (AV.rnL _ (setAV cs)),.bool true])::_=_;rw[hrn];rfl
 refine AOps.pure hte (prg hP).one rfl rfl rfl trivial ?_;refine AOps.pure hte (prg hP).one rfl rfl rfl trivial ?_;refine AOps.pure hte (prg hP).one rfl rfl rfl trivial ?_;refine AOps.step (l:=[(_,.cells zeroSet 199)]) rfl (wak.allocW hts (t:=199) rfl rfl rfl wvm) rfl rfl rfl rfl ?_;refine AOps.step rfl (wak.storeW hts (t:=199) (new:=setAV cs) rfl rfl rfl rfl rfl rfl (wvn cs) (wfd cs).1) rfl rfl rfl rfl ?_;refine AOps.pure hte (prg hP).one rfl rfl rfl trivial ?_;refine AOps.nil ?_;refine canQ_of (s':=⟨[(0,.str s),(5,.ptr 0 0),(6,.bool true)],[(0,.cells (AV.rnL (ren 0 [(16,0)]) (setAV cs)) 199)],1,[]⟩) (by simp) ?_ ?_
 ·rfl
 ·rw[hrn];exact hQ
theorem wiy(hP:C.P=Tryz.prog):wad C 164 wee:=by
 rintro args objs U Os vc h hvc;unfold wee at h;split at h<;>cases h;rename_i s cs;obtain⟨hs,h2,hl,hascii⟩:=hvc
 refine wad.wpL (prg hP) [(175,.det wle),(176,.det wld)] [(1005,wnf s cs)] 0 (.cons (wv6 hP) (.cons (wv4 hP) .nil)) (hP ▸ Tryz.func164) rfl rfl rfl
  [(regC Tryz.f164 5,wnf s cs)] (by kernel_rfl) ⟨wv3 hP s cs,trivial⟩ ?_
 rw[nf_trim];have hrn:=(wfd cs).rn;have hc1:∀h:(cs.length:Int)=1,False:=by intro h;omega
 have hin:wbd (setAV cs)=(cs.contains ·):=funext (w12 cs)
 simp only[hrn,hin];refine wal (λh=>?_) (λ_=>wal (λh=>?_) (λ_=>wal (λh=>?_) (λ_=>?_)))
 ·have h:=of_decide_eq_true h;subst h;simp[weg,wcz]
 ·have h:=of_decide_eq_true h;subst h;simp at h2
 ·exact(hc1 (of_decide_eq_true h)).elim
 ·exact⟨trivial,hl,hascii,⟨wfd cs,hs⟩,wfd cs,rfl,trivial⟩
theorem nf_min(n:Nat)(v:Nat->Int)(R:oR7):wpFn te [] [(5,L_mm n v (minV v)),(1002,λ_ _=>False)] 0 Tryz.f184 [.own 0 n] [.row 3 1 n (λi=>[.q (v i)]) false] R=(letI z0:=([(0,.row 3 1 n (λ(i:Nat)=>[.q (v i)]) false)]:oL7);wab (decide ((n:Int)<1)) False (((0:Int)<=0/\(0:Int)<(n:Int))/\(0<n/\1=1)/\(TEq [(0,.own 0 n),(3,.q (v 0)),(4,.q 1)] [(0,.own 0 n),(3,.q (minV v 0)),(4,.q ((↑0:Int)+1))]/\wac z0 z0)/\1<=n/\n<=4611686018427387904/\(∀(i:Nat),i<n->true=true)/\∃(O':oL7),wac z0 O'/\R (.q (minV v (n - 1))) O')):=by kernel_rfl
theorem wy9(n:Nat)(v:Nat->Int)(k:Nat)(P:Nat->Prop)(R:eR7):was ⟨te,[],[],1,25,0⟩ (wat Tryz.f184 5) [0,3,4] [3] [] (wfy n v (minV v)) P R (wfy n v (minV v) k)=(letI z0:=([(0,.row 3 1 n (λ(i:Nat)=>[.q (v i)]) false)]:oL7);wab (decide ((k:Int)+1<(n:Int))) (((0:Int)<=(k:Int)+1/\(k:Int)+1<(n:Int))/\(((k:Int)+1).toNat<n/\1=1)/\inR .i64 ((k:Int)+1+1)/\∃(i':Nat),(TEq [(0,.own 0 n),(3,.q (min (minV v k) (v ((k:Int)+1).toNat))),(4,.q ((k:Int)+1+1))] [(0,.own 0 n),(3,.q (minV v i')),(4,.q ((i':Int)+1))]/\wac z0 z0)/\P i') ((∀(i:Nat),i<n->true=true)/\∃(O':oL7),wac z0 O'/\R (.exit 0) (St.mk [(3,.q (minV v k))] O' 1 []))):=by kernel_rfl
theorem nf_max(n:Nat)(v:Nat->Int)(R:oR7):wpFn te [] [(5,L_mm n v (maxV v)),(1002,λ_ _=>False)] 0 Tryz.f185 [.own 0 n] [.row 3 1 n (λi=>[.q (v i)]) false] R=(letI z0:=([(0,.row 3 1 n (λ(i:Nat)=>[.q (v i)]) false)]:oL7);wab (decide ((n:Int)<1)) False (((0:Int)<=0/\(0:Int)<(n:Int))/\(0<n/\1=1)/\(TEq [(0,.own 0 n),(3,.q (v 0)),(4,.q 1)] [(0,.own 0 n),(3,.q (maxV v 0)),(4,.q ((↑0:Int)+1))]/\wac z0 z0)/\1<=n/\n<=4611686018427387904/\(∀(i:Nat),i<n->true=true)/\∃(O':oL7),wac z0 O'/\R (.q (maxV v (n - 1))) O')):=by kernel_rfl
theorem wzc(n:Nat)(v:Nat->Int)(k:Nat)(P:Nat->Prop)(R:eR7):was ⟨te,[],[],1,25,0⟩ (wat Tryz.f185 5) [0,3,4] [3] [] (wfy n v (maxV v)) P R (wfy n v (maxV v) k)=(letI z0:=([(0,.row 3 1 n (λ(i:Nat)=>[.q (v i)]) false)]:oL7);wab (decide ((k:Int)+1<(n:Int))) (((0:Int)<=(k:Int)+1/\(k:Int)+1<(n:Int))/\(((k:Int)+1).toNat<n/\1=1)/\inR .i64 ((k:Int)+1+1)/\∃(i':Nat),(TEq [(0,.own 0 n),(3,.q (max (maxV v k) (v ((k:Int)+1).toNat))),(4,.q ((k:Int)+1+1))] [(0,.own 0 n),(3,.q (maxV v i')),(4,.q ((i':Int)+1))]/\wac z0 z0)/\P i') ((∀(i:Nat),i<n->true=true)/\∃(O':oL7),wac z0 O'/\R (.exit 0) (St.mk [(3,.q (maxV v k))] O' 1 []))):=by kernel_rfl
theorem wzv(n:Nat)(v:Nat->Int)(R:oR7):wpFn te [(184,.det wl2),(185,.det wl4),(186,.det wg2)] [(7,wn1 n v)] 0 Tryz.f171 [.own 0 n] [.row 3 1 n (λi=>[.q (v i)]) false] R=(letI z8:=((0:Int)<=0/\(0:Int)<(n:Int):Prop);letI z7:=((0:Int)<=1/\(1:Int)<=(n:Int):Prop);letI z6:=(n - (1:Int).toNat);letI z5:=(vInt λ(i:Nat)=>[.q (v i)]);letI z4:=([(4,.str (wc8 (v 0)++wce v 0)),(36,.sub 0 1 1 (n - 1)),(37,.q (↑(n - 1):Int)),(38,.q (↑0:Int))]:tL7);letI z3:=(3=3/\false=false/\1<=n/\n=n/\n<=4611686018427387904/\(λ(i:Nat)=>[.q (v i)])=waj z5:Prop);letI z2:=(∀(i:Nat),i<n->true=true:Prop);letI z1:=([(0,.row 3 1 n (λ(i:Nat)=>[.q (v i)]) false)]:oL7);letI z0:=(z2/\∃(O':oL7),wac z1 O'/\R (.tuple [.str [],.q 64]) O':Prop);wab (decide ((n:Int)<1)) z0 (wab (decide ((5:Int)<(n:Int))) z0 (z2/\z3/\z2/\wab (decide (minV z5 (n - 1)<1)) z0 (z2/\z3/\z2/\wab (decide ((99:Int)<maxV z5 (n - 1))) z0 (z8/\(0<n/\1=1)/\((0:Int)<=v 0/\v 0<100)/\z8/\(0<n/\1=1)/\wab (decide (v 0<10)) (([(48:UInt8)]).length+(decF (v 0)).length<=9223372036854775807/\z7/\(TEq [(4,.str ([(48:UInt8)]++decF (v 0))),(36,.sub 0 1 1 z6),(37,.q (z6:Int)),(38,.q 0)] z4/\wac z1 z1)/\wbf n v=true/\z2/\∃(O':oL7),wac z1 O'/\R (.tuple [.str (fmtZ n v),.q 0]) O') (z7/\(TEq [(4,.str (decF (v 0))),(36,.sub 0 1 1 z6),(37,.q (z6:Int)),(38,.q 0)] z4/\wac z1 z1)/\wbf n v=true/\z2/\∃(O':oL7),wac z1 O'/\R (.tuple [.str (fmtZ n v),.q 0]) O')))))):=by kernel_rfl
theorem wzu(n:Nat)(v:Nat->Int)(k:Nat)(P:Nat->Prop)(R:eR7):was ⟨te,[(186,.det wg2)],[],1,49,0⟩ (wat Tryz.f171 7) [4,36,37,38] [4] [] (wmp n v) P R (wmp n v k)=(letI z2:=(↑(n - 1):Int);letI z1:=(v (1+(k:Int).toNat));letI z0:=([(0,.row 3 1 n (λ(i:Nat)=>[.q (v i)]) false)]:oL7);wab (decide ((k:Int)<z2)) (((0:Int)<=(k:Int)/\(k:Int)<z2/\1=1)/\(1+(k:Int).toNat<n/\1=1)/\((0:Int)<=v (1+(k:Int).toNat)/\v (1+(k:Int).toNat)<100)/\([(46:UInt8)]).length+(decF z1).length<=9223372036854775807/\(wc8 (v 0)++wce v k).length+([(46:UInt8)]++decF z1).length<=9223372036854775807/\inR .i64 ((k:Int)+1)/\∃(i':Nat),(TEq [(4,.str (wc8 (v 0)++wce v k++([(46:UInt8)]++decF z1))),(36,.sub 0 1 1 (n - 1)),(37,.q z2),(38,.q ((k:Int)+1))] [(4,.str (wc8 (v 0)++wce v i')),(36,.sub 0 1 1 (n - 1)),(37,.q z2),(38,.q (i':Int))]/\wac z0 z0)/\P i') ((∀(i:Nat),i<n->true=true)/\∃(O':oL7),wac z0 O'/\R (.exit 0) (St.mk [(4,.str (wc8 (v 0)++wce v k))] O' 1 []))):=by kernel_rfl
variable {C:Ctx} [C.Loose]
theorem w0z(hP:C.P=Tryz.prog)(n:Nat)(v:Nat->Int):wag C 1 25 (wah Tryz.f184 5) (L_mm n v (minV v)):=by
 have _:C.Loose:=inferInstance;rintro st Q ⟨h0,hn,hn2,hQ⟩;refine wag.mk (prg hP) [] 0 .nil [0,3,4] [3] [] (wfy n v (minV v)) (λk=>k+1<=n) (λk=>n - k) 0 hn h0 (λk hk=>?_) (λi=>⟨λ_ _=>rfl,trivial⟩);rw[wy9];refine waf (λh=>?_) (λh=>⟨λ_ _=>rfl,_,wbq,?_⟩)
 ·have e:((k:Int)+1).toNat=k+1:=by omega
  simp only[inR,e,and_true];exact⟨by omega,by omega,by omega,k+1,⟨rfl,wbq⟩,by omega,by omega⟩
 ·have:k=n - 1:=by omega
  rw[this];exact hQ
theorem w03(hP:C.P=Tryz.prog)(n:Nat)(v:Nat->Int):wag C 1 25 (wah Tryz.f185 5) (L_mm n v (maxV v)):=by
 have _:C.Loose:=inferInstance;rintro st Q ⟨h0,hn,hn2,hQ⟩;refine wag.mk (prg hP) [] 0 .nil [0,3,4] [3] [] (wfy n v (maxV v)) (λk=>k+1<=n) (λk=>n - k) 0 hn h0 (λk hk=>?_) (λi=>⟨λ_ _=>rfl,trivial⟩);rw[wzc];refine waf (λh=>?_) (λh=>⟨λ_ _=>rfl,_,wbq,?_⟩)
 ·have e:((k:Int)+1).toNat=k+1:=by omega
  simp only[inR,e,and_true];exact⟨by omega,by omega,by omega,k+1,⟨rfl,wbq⟩,by omega,by omega⟩
 ·have:k=n - 1:=by omega
  rw[this];exact hQ
theorem min_ok(hP:C.P=Tryz.prog):wad C 184 wl2:=by
 rintro args objs U Os vc h hvc;unfold wl2 at h;split at h<;>cases h;rename_i n t m f fr;obtain⟨rfl,rfl,hn,rfl,hn2,hf⟩:=hvc;generalize vInt f=v at hf;subst hf
 refine wad.wpL (prg hP) [] [(5,L_mm n v (minV v)),(1002,λ_ _=>False)] 0 .nil (hP ▸ Tryz.func184) rfl rfl rfl
  [(regC Tryz.f184 2,λ_ _=>False),(wah Tryz.f184 5,L_mm n v (minV v))] (by kernel_rfl) ⟨λ_ _ h=>h.elim,w0z hP n v,trivial⟩ ?_
 show wpFn _ _ _ _ _ _ [.row _ _ _ (λi=>[.q (v i)]) _] _;rw[nf_min];exact waf (λh=>absurd h (by omega)) (λ_=>⟨by omega,by omega,⟨rfl,wbq⟩,hn,hn2,λ_ _=>rfl,_,wbq,rfl,rfl⟩)
theorem max_ok(hP:C.P=Tryz.prog):wad C 185 wl4:=by
 rintro args objs U Os vc h hvc;unfold wl4 at h;split at h<;>cases h;rename_i n t m f fr;obtain⟨rfl,rfl,hn,rfl,hn2,hf⟩:=hvc;generalize vInt f=v at hf;subst hf
 refine wad.wpL (prg hP) [] [(5,L_mm n v (maxV v)),(1002,λ_ _=>False)] 0 .nil (hP ▸ Tryz.func185) rfl rfl rfl
  [(regC Tryz.f185 2,λ_ _=>False),(wah Tryz.f185 5,L_mm n v (maxV v))] (by kernel_rfl) ⟨λ_ _ h=>h.elim,w03 hP n v,trivial⟩ ?_
 show wpFn _ _ _ _ _ _ [.row _ _ _ (λi=>[.q (v i)]) _] _;rw[nf_max];exact waf (λh=>absurd h (by omega)) (λ_=>⟨by omega,by omega,⟨rfl,wbq⟩,hn,hn2,λ_ _=>rfl,_,wbq,rfl,rfl⟩)
theorem wth(hP:C.P=Tryz.prog):wad C 186 wg2:=by
 rintro args objs U Os vc h hvc;unfold wg2 at h;split at h<;>cases h;rename_i n;obtain⟨i,rfl⟩:∃i:Nat,n=i:=⟨n.toNat,by omega⟩;refine waq.below ⟨Tryz.f186,hP ▸ Tryz.func186,rfl,by decide⟩ λw M cargs _ _ hM hl hv=>?_;obtain⟨a,rfl⟩:=mem1 hl;have:=(hv 0 _ _ rfl rfl).int_iff;subst this;rw[hP];refine(Tryz.strconv_Itoa_small i (by omega) w).mono ?_;rintro e w' ⟨rfl,rfl⟩;exact⟨_,rfl,Below.refl _ _,.str (by simp[decF])⟩
theorem w2g(hP:C.P=Tryz.prog)(n:Nat)(v:Nat->Int):wag C 1 49 (wah Tryz.f171 7) (wn1 n v):=by
 rintro st Q ⟨h0,hok,hQ⟩;have hv:=wt6 hok;have hn:=fmtOK_n hok;refine wag.mk (prg hP) [(186,.det wg2)] 0 (.cons (wth hP) .nil) [4,36,37,38] [4] [] (wmp n v) (λk=>k<=n - 1) (λk=>n - k) 0 (zL7 _) h0 (λk hk=>?_) (λi=>⟨λ_ _=>rfl,trivial⟩);rw[wzu];have hl1:=w2i (hv 0 (by omega));have hl2:=wt5 (n:=n) (λi hi=>hv i hi) k (by omega);refine waf (λh=>?_) (λh=>⟨λ_ _=>rfl,_,wbq,?_⟩)
 ·have hlt:k<n - 1:=by omega
  have e:1+(k:Int).toNat=k+1:=by omega
  have hk1:=hv (k+1) (by omega);have hl3:=wkr hk1;simp only[inR,e,and_true,lA7,List.length_cons,List.length_nil];refine⟨by omega,by omega,by omega,by omega,by omega,by omega,k+1,⟨?_,wbq⟩,by omega,by omega⟩;unfold TEq;rw[show wce v (k+1)=wce v k++(46::decF (v (k+1))) from rfl];simp
 ·have:k=n - 1:=by omega
  rw[this];exact hQ
theorem w2f(hP:C.P=Tryz.prog):wad C 171 wmn:=by
 rintro args objs U Os vc h hvc;unfold wmn at h;split at h<;>cases h;rename_i n t m f fr;obtain⟨rfl,rfl,rfl,hn2,hf⟩:=hvc;generalize vInt f=v at hf;subst hf
 refine wad.wpL (prg hP) [(184,.det wl2),(185,.det wl4),(186,.det wg2)] [(7,wn1 n v)] 0 (.cons (min_ok hP) (.cons (max_ok hP) (.cons (wth hP) .nil))) (hP ▸ Tryz.func171) rfl rfl rfl
  [(wah Tryz.f171 7,wn1 n v)] (by kernel_rfl) ⟨w2g hP n v,trivial⟩ ?_
 show wpFn _ _ _ _ _ _ [.row _ _ _ (λi=>[.q (v i)]) _] _;rw[wzv];have hvi:(vInt λi=>[AV.q (v i)])=v:=rfl;rw[hvi];have bad:wbf n v=false->(AV.tuple [.str [],.q 64]= .tuple [.str (bif wbf n v then fmtZ n v else []),.q (bif wbf n v then 0 else 64)]):=λh=>by rw[h];rfl
 have good:wbf n v=true->(AV.tuple [.str (fmtZ n v),.q 0]= .tuple [.str (bif wbf n v then fmtZ n v else []),.q (bif wbf n v then 0 else 64)]):=λh=>by rw[h];rfl
 refine waf (λh1=>⟨λ_ _=>rfl,_,wbq,bad ?_,rfl⟩) (λh1=>waf (λh2=>⟨λ_ _=>rfl,_,wbq,bad ?_,rfl⟩) (λh2=>⟨λ_ _=>rfl,⟨rfl,rfl,by omega,rfl,hn2,rfl⟩,λ_ _=>rfl,
  waf (λh3=>⟨λ_ _=>rfl,_,wbq,bad ?_,rfl⟩) (λh3=>⟨λ_ _=>rfl,⟨rfl,rfl,by omega,rfl,hn2,rfl⟩,λ_ _=>rfl,waf (λh4=>⟨λ_ _=>rfl,_,wbq,bad ?_,rfl⟩) (λh4=>?_)⟩)⟩))
 ·unfold wbf;rw[decide_eq_false (p:=1<=n) (by omega)];rfl
 ·unfold wbf;rw[decide_eq_false (p:=n<=5) (by omega)];simp
 ·unfold wbf;rw[decide_eq_false (p:=1<=minV v (n - 1)) (by omega)];simp
 ·unfold wbf;rw[decide_eq_false (p:=maxV v (n - 1)<=99) (by omega)];simp
 ·have hok:wbf n v=true:=by
   unfold wbf;rw[decide_eq_true (p:=1<=n) (by omega),decide_eq_true (p:=n<=5) (by omega),decide_eq_true (p:=1<=minV v (n - 1)) (by omega),decide_eq_true (p:=maxV v (n - 1)<=99) (by omega)];rfl
  have hv:=wt6 hok 0 (by omega);have hl3:=wkr hv;refine⟨by omega,⟨by omega,rfl⟩,by omega,by omega,⟨by omega,rfl⟩,waf (λh5=>⟨by simp only[List.length_cons,List.length_nil];omega,by omega,⟨?_,wbq⟩,hok,λ_ _=>rfl,_,wbq,good hok,rfl⟩) (λh5=>⟨by omega,⟨?_,wbq⟩,hok,λ_ _=>rfl,_,wbq,good hok,rfl⟩)⟩
  ·unfold TEq wc8;rw[decide_eq_true h5];simp[wce]
  ·unfold TEq wc8;rw[decide_eq_false h5];simp[wce]
end Go.Eng
