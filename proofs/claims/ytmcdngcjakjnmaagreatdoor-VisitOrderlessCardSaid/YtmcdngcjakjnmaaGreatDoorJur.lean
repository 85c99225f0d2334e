/- Codes of classifications. -/
import Derived.Test.YtmcdngcjakjnmaaGreatDoorJuq
namespace Go.Eng
open Go.Proofs Go.RowKit Go.Sort
def valA:AV->Value
 |.str l=>.string ⟨l.toArray⟩
 |.int k n=>.int k n
 |.bool b=>.bool b
 |_=>default
def wed:AV->Bool
 |.str _=>true
 |.int _ _=>true
 |.bool _=>true
 |_=>false
theorem wvd{w:World}{M:Nat->Prop}{bs:Nat->Option Hd}{v:Value}{u:AV}(hp:wed u=true)(h:V w M bs v u):v=valA u:=by
 cases u<;>simp only[wed,Bool.false_eq_true] at hp
 ·cases h;rfl
 ·cases h;rfl
 ·exact h.str_iff
theorem wr1{w:World}{M:Nat->Prop}{bs:Nat->Option Hd}{u:AV}(hp:wed u=true):V w M bs (valA u) u:=by
 cases u<;>simp only[wed,Bool.false_eq_true] at hp
 ·exact .bool
 ·exact .int
 ·exact .str rfl
theorem wr0{u:AV}(hp:wed u=true):(valA u).oneCell'=true:=by
 cases u<;>simp only[wed,Bool.false_eq_true] at hp<;>rfl
def Ctx.bare(P:Program)(h:P.follows .mixedOrders=true):Ctx:=⟨P,0,λ_=>True,h,λ_ _ _ h=>h,true⟩
theorem grow_of{w w':World}(h1:w'.os=w.os)(h2:w'.tape=w.tape)(h3:w'.output=w.output)(h4:w.heap.size<=w'.heap.size)(h5:∀b,b<w.heap.size->w'.heap[b]?=w.heap[b]?)(h6:w.drawn<=w'.drawn):
  ∃q os,w'=grow (w.drewN q) os:=by
 refine⟨w'.drawn - w.drawn,w'.heap.extract w.heap.size w'.heap.size,?_⟩;obtain⟨hp,tp,dr,os,out⟩:=w;obtain⟨hp',tp',dr',os',out'⟩:=w';simp only at h1 h2 h3 h4 h5 h6;subst h1;subst h2;subst h3;simp only[grow,World.drewN,World.mk.injEq,and_true,true_and];refine⟨?_,by omega⟩;apply Array.ext_getElem?;intro i;rw[Array.getElem?_append]
 by_cases h:i<hp.size
 ·rw[if_pos h,h5 i h]
 ·rw[if_neg h,Array.getElem?_extract]
  by_cases h':i<hp'.size
  ·rw[if_pos (by omega)];congr 1;omega
  ·rw[if_neg (by omega),Array.getElem?_eq_none (by omega)]
theorem ADet.grown{P:Program}{hm:P.follows .mixedOrders=true}{f:FuncId}{args:List AV}{u:AV}(h:ADet (Ctx.bare P hm) f args [] u [])(hu:wed u=true){w:World}{cargs:List Value}(hlen:cargs.length=args.length)
  (hV:∀(j:Nat) v x,cargs[j]?=some v->args[j]?=some x->V w (λ_=>False) nob v x):Calls P f cargs.toArray w λe w'=>e= .returned (valA u)/\∃q os,w'=grow (w.drewN q) os:=by
 have no:∀r,lkL [] r=none:=λr=>by cases r<;>rfl
 have nm:∀b',¬ mutB (lkL []) nob b':=by
  rintro b' ⟨r,o,c,ho,_⟩;rw[no r] at ho;cases ho
 have hw:WRep (Ctx.bare P hm) ⟨w,0,nob,λ_=>False,λ_=>False⟩ (lkL []) nob w:={
  obj:=λr o ho=>by rw[no r] at ho;cases ho
  sep:=λr r' o o' b c c' ho=>by rw[no r] at ho;cases ho
  out:=λb hb=>absurd hb (nm b)
  frz:=λr t sz n f b c ho=>by rw[no r] at ho;cases ho
  high:=λb hb=>zL7 _
  lt:=λr b c hb=>by simp[nob] at hb
  outlt:=λb hb=>hb.elim
  keep:=λb _ _=>rfl
  old:=λb hb=>absurd hb (nm b)
  size:=lR7 _
  pre:=λr x hr=>absurd hr (nZ7 r)
  os:=rfl
  tape:=.refl _ _
  output:=rfl
  laid:=trivial
  gle:=zL7 _ }
 refine(h.2 ⟨w,0,nob,λ_=>False,λ_=>False⟩ nob w cargs rfl rfl rfl hw (λ_ _=>rfl) hlen (λj v u hv hu=>(hV j v u hv hu).step_ (λb _ _ hb=>?_) (λ_ _ _=>rfl) (lR7 _) nob (λ_ _ h=>h))).mono ?_
 ·rcases hb with hb | hb
  ·exact hb
  ·exact nm b hb
 ·rintro e w' ⟨v,u',O',bs',rfl,⟨rfl,rfl⟩,hw',hV',_⟩;rw[wvd hu hV'];exact⟨rfl,grow_of hw'.os hw'.tape.tape hw'.output hw'.size (λi hi=>hw'.keep i hi (λh=>h)) (hw'.tape.drawn rfl)⟩
section
variable {α:Type} [Inhabited α]
def encV(enc:α->List AV)(x:α):List Value:=(enc x).map valA
theorem arr_get(n:Nat)(f:Nat->α){i:Nat}(hi:i<n):(((List.range n).map f).toArray)[i]! =f i:=by simp[hi]
theorem wat.sortK{C:Ctx}(enc:α->List AV)(k:Nat)(hk:∀x,(enc x).length=k)(hp:∀x u,u∈enc x->wed u=true)(cf:α->α->Int){fS g:FuncId}{t:TypeId}(heS:wif C.P fS)
  (hS:∀(blk cap:Nat) (d:Array α) (w:World),CmpLays C.P g #[] (encV enc) k cf blk 0 d.size w->HoldsK (encV enc) k w blk 0 d->blk<w.heap.size->d.size<4611686018427387904->
   Calls C.P fS #[.slice (some ⟨blk,0,none⟩) d.size cap,.func (.func g) #[] #[]] w λe w'=>e= .returned (.tuple #[])/\∃d' n os,PermIn 0 d.size d d'/\SortedIn (ltOf cf) 0 d.size d'/\w'=sortWorldK (encV enc) k w blk 0 n d' os)
  (hN:∀(p:Option Addr) (cap:Nat) (fv:Value) (w:World),Calls C.P fS #[.slice p 0 cap,fv] w λe w'=>e= .returned (.tuple #[])/\w'=w)
  (hc:∀x y,ADet (Ctx.bare C.P C.mixed) g [.agg (enc x),.agg (enc y)] [] (.int .i64 (cf x y)) [])
  {n:Nat} (f:Nat->α) (hn:n<4611686018427387904):
  wat C fS [.own 0 n,.func g []] [.row t k n (λi=>enc (f i)) false] λu O=>u= .tuple []/\∃f':Nat->α,((List.range n).map f').Perm ((List.range n).map f)/\(∀i j,i<j->j<n->¬ cf (f' j) (f' i)<0)/\
   O=[(0,.row t k n (λi=>enc (f' i)) false)]:=by
 refine⟨heS,λE bs w cargs h1 h2 h3 hW h5 h6 h7=>?_⟩;obtain⟨a,b,rfl⟩:∃a b,cargs=[a,b]:=by
  match cargs,h6 with
  |[a,b],_=>exact⟨a,b,rfl⟩
 have V0:=h7 0 _ _ rfl rfl;have V1:=h7 1 _ _ rfl rfl;generalize hu:AV.func g []=uf at V1
 cases V1<;>cases hu;rename_i caps hl hv;obtain rfl:caps=#[]:=Array.eq_empty_of_size_eq_zero hl;have hO:lkL [AObj.row t k n (λi=>enc (f i)) false]=lk [(0,.row t k n (λi=>enc (f i)) false)]:=by
  funext i
  cases i with
  |zero=>rfl
  |succ i=>rw[way,if_neg (by show ¬ 0=i+1;omega)];simp[lkL,lk]
 have hbs:∀r,1+16<=r->lk [(0,AObj.row t k n (λi=>enc (f i)) false)] r=none/\bs r=none:=λr hr=>⟨by rw[way,if_neg (by show ¬ 0=r;omega)];rfl,h5 r (by show 1<=r;omega)⟩;rw[hO] at hW V0;generalize huo:AV.own 0 n=uo at V0
 cases V0<;>cases huo
 case func.refl.ownnil.refl A x1 x2=>
  have hn0:n=0:=by assumption
  clear x1 x2;subst hn0;refine(hN A 0 _ w).mono ?_;rintro e w' ⟨rfl,rfl⟩;refine⟨_,.tuple [],[(0,.row t k 0 (λi=>enc (f i)) false)],bs,rfl,⟨rfl,f,.refl _,λi j _ hj=>absurd hj (nZ7 j),rfl⟩,hW,.tuple rfl (λj v u hv hu=>by simp at hu),hbs⟩
 case func.refl.own.refl bk c x1 x2 x3=>
  have hb:bs 0=some (.blk bk c):=by assumption
  clear x1 x2 x3;have hrow:=hW.obj 0 _ rfl
  rcases hrow with⟨h,_⟩ | ⟨bk',c',vs,hb',hh,hnc',hcm',hsz,hln,hone,hval⟩
  ·rw[h] at hb;cases hb
  obtain⟨rfl,rfl⟩:bk'=bk/\c'=c:=by
   rw[hb'] at hb;injection hb with hb;injection hb with e1 e2;exact⟨e1,e2⟩
  have hblk:bk'<w.heap.size:=hW.lt _ _ _ hb';have hle:n * k<=vs.size:=by rw[hsz];exact Nat.mul_le_mul_right k hnc'
  have hdiv:∀q,q<n * k->q / k<n/\q % k<k/\q / k * k+q % k=q:=λq hq=>by
   have k0:0<k:=by
    rcases Nat.eq_zero_or_pos k with h | h
    ·subst h;simp at hq
    ·exact h
   exact⟨Nat.div_lt_of_lt_mul (by rwa [Nat.mul_comm]),Nat.mod_lt _ k0,Nat.div_add_mod' q k⟩
  have hds:(((List.range n).map f).toArray).size=n:=by simp
  have hlen:∀x,(encV enc x).length=k:=λx=>by simp[encV,hk]
  have hH:HoldsK (encV enc) k w bk' 0 ((List.range n).map f).toArray:=by
   intro q hq;rw[size_flatK,hds] at hq;obtain⟨q1,q2,q3⟩:=hdiv q hq;rw[get_flatK _ _ _ _ (by rw[hds];exact hq),arr_get n f q1,Nat.zero_add];have hlt:q<vs.size:=by omega
   refine⟨?_,?_⟩
   ·rw[cell_of_row w bk' q vs t (0,0) hh];have hg:vs[q / k * k+q % k]?=some vs[q]:=by rw[q3];exact Array.getElem?_eq_getElem hlt
    have hu:(enc (f (q / k)))[q % k]?=some ((enc (f (q / k)))[q % k]'(by rw[hk];exact q2)):=List.getElem?_eq_getElem _;have:=wvd (hp _ _ (List.mem_of_getElem? hu)) (hval (q / k) q1 (q % k) _ _ q2 hg hu);show vs[q]?=some (((enc (f (q / k))).map valA)[q % k]!);rw[Array.getElem?_eq_getElem hlt,this];congr 1;simp[hk,q2]
   ·simp[World.frozen?,hh]
  have hC:CmpLays C.P g #[] (encV enc) k cf bk' 0 ((List.range n).map f).toArray.size w:=by
   intro m os dk _ x y;have:=ADet.grown (hc x y) rfl (w:=sortWorldK (encV enc) k w bk' 0 m dk os) (cargs:=[.agg (encV enc x).toArray,.agg (encV enc y).toArray]) rfl (λj v u hv hu=>?_)
   ·simpa[valA] using this
   have ag:∀z:α,V (sortWorldK (encV enc) k w bk' 0 m dk os) (λ_=>False) nob (.agg (encV enc z).toArray) (.agg (enc z)):=λz=>by
    refine .agg (by simp[encV]) (λj v hv=>?_) (λj v u hv hu=>?_)
    ·simp only[List.getElem?_toArray,encV,List.getElem?_map,Option.map_eq_some_iff] at hv;obtain⟨u,hu,rfl⟩:=hv;exact wr0 (hp _ _ (List.mem_of_getElem? hu))
    ·simp only[List.getElem?_toArray,encV,List.getElem?_map,hu,Option.map_some,sI7] at hv;subst hv;exact wr1 (hp _ _ (List.mem_of_getElem? hu))
   match j with
   |0=>obtain rfl:=oJ7 hv;obtain rfl:=oJ7 hu;exact ag x
   |1=>obtain rfl:=oJ7 hv;obtain rfl:=oJ7 hu;exact ag y
   |j+2=>simp at hv
  have hcall:=hS bk' c' ((List.range n).map f).toArray w hC hH hblk (by rw[hds];exact hn);rw[hds] at hcall;refine hcall.mono ?_;rintro e w' ⟨rfl,d',m,os,hperm,hsort,rfl⟩;have hd':d'.size=n:=hperm.1.trans hds;have hlist:d'.toList=(List.range n).map (λi=>d'[i]!):=by
   apply List.ext_getElem?;intro i;rw[List.getElem?_map,Array.getElem?_toList]
   by_cases hi:i<n
   ·rw[List.getElem?_range hi,Option.map_some,getElem!_pos d' i (by omega),Array.getElem?_eq_getElem (by omega)]
   ·rw[Array.getElem?_eq_none (by omega),List.getElem?_eq_none (by simp;omega)];rfl
  have hnb:∀(o':AObj),lk [(0,o')]=up (lk [(0,AObj.row t k n (λi=>enc (f i)) false)]) 0 o':=λo'=>by
   funext i;rw[way]
   by_cases h:(0:Nat)=i
   ·rw[if_pos h, ← h,wap]
   ·rw[if_neg h,wao _ _ _ h,way,if_neg h]
  have hheap:∀b,b<w.heap.size->b≠bk'->(sortWorldK (encV enc) k w bk' 0 m d' os).heap[b]?=w.heap[b]?:=λb hb hne=>by
   show ((putRowK (encV enc) k (Sort.ahead w m) bk' 0 d').heap++os)[b]?=_;rw[Array.getElem?_append_left (by show b<(putRowK _ _ _ _ _ _).heap.size;rw[show (putRowK (encV enc) k (Sort.ahead w m) bk' 0 d').heap.size=w.heap.size from by simp[putRowK]];exact hb)];simp[putRowK,putRow,mapBlock,Array.getElem?_modify,Ne.symm hne]
  have hsize:w.heap.size<=(sortWorldK (encV enc) k w bk' 0 m d' os).heap.size:=by simp[sortWorldK,grow,putRowK]
  have hnew:(sortWorldK (encV enc) k w bk' 0 m d' os).heap[bk']?=some (.cells (putCells id 0 (flatK (encV enc) k d') vs) t (0,0)):=by
   show ((putRowK (encV enc) k (Sort.ahead w m) bk' 0 d').heap++os)[bk']?=_;rw[Array.getElem?_append_left (by rw[show (putRowK (encV enc) k (Sort.ahead w m) bk' 0 d').heap.size=w.heap.size from by simp[putRowK]];exact hblk)];simp[putRowK,putRow,mapBlock,Array.getElem?_modify,hh,onCells]
  have hcell:∀i,i<n->∀j,j<k->∀v,(putCells id 0 (flatK (encV enc) k d') vs)[i * k+j]?=some v->∃u,(enc d'[i]!)[j]?=some u/\v=valA u:=λi hi j hj v hv=>by
   have hlt:i * k+j<n * k:=by
    have:=Nat.mul_le_mul_right k (show i+1<=n from hi);rw[Nat.add_mul,Nat.one_mul] at this;omega
   have hlt2:i * k+j<vs.size:=by omega
   simp only[putCells,Array.getElem?_mapIdx,Array.getElem?_eq_getElem hlt2,Option.map_some,size_flatK,hd',zL7,Nat.zero_add,hlt,and_self,if_true,Nat.sub_zero,sI7,id] at hv;rw[get_flatK _ _ _ _ (by rw[hd'];exact hlt)] at hv;have e1:(i * k+j) / k=i:=(blk_iff k i _ (by omega)).1 ⟨by omega,by omega⟩;have e2:(i * k+j) % k=j:=by rw[Nat.mod_eq_sub_div_mul,e1];omega
   rw[e1,e2] at hv;refine⟨(enc d'[i]!)[j]'(by rw[hk];exact hj),List.getElem?_eq_getElem _,?_⟩;rw[← hv];simp[encV,hk,hj]
  refine⟨_,.tuple [],[(0,.row t k n (λi=>enc d'[i]!) false)],bs,rfl,⟨rfl,λi=>d'[i]!,?_,λi j hij hj=>?_,rfl⟩,?_,.tuple rfl (λj v u hv hu=>by simp at hu),λr hr=>⟨by rw[way,if_neg (by show ¬ 0=r;exact λh=>by subst h;simp at hr)];rfl,(hbs r hr).2⟩⟩
  ·have:=hperm.2.2;have e1:d'.extract 0 n=d':=by rw[← hd'];exact Array.extract_size
   have e2:((List.range n).map f).toArray.extract 0 n=((List.range n).map f).toArray:=by
    have:=Array.extract_size (xs:=((List.range n).map f).toArray)
    rwa [hds] at this
   rw[e1,e2] at this;rw[← hlist];simpa using this
  ·have:=hsort i j (zL7 _) hij hj;simpa[ltOf] using this
  ·have hmb:∀b,mutB (lk [(0,AObj.row t k n (λi=>enc d'[i]!) false)]) bs b->mutB (lk [(0,AObj.row t k n (λi=>enc (f i)) false)]) bs b:=by
    rintro b ⟨r,o,c2,ho,hm,hb2⟩;rw[way] at ho
    by_cases h:(0:Nat)=r
    ·subst h;exact⟨0,_,c2,rfl,rfl,hb2⟩
    ·rw[if_neg h] at ho;cases ho
   refine(hW.next (w':=sortWorldK (encV enc) k w bk' 0 m d' os) (λb=>b=bk') (λi h hi=>hi) (λi b c' hi=>.inl hi) (λb hb2=>by subst hb2;exact⟨0,_,c',rfl,rfl,hb'⟩) (λb hb2 hne=>hheap b hb2 hne) hsize (λb hb2=>.inl (hmb b hb2)) (λhSt i o' ho=>?_)
    (λi j o1 o2 b c1 c2 hi hj m1 m2 bi bj=>?_) (λi t' sz' n' f' b c2 ho hb2=>?_) rfl ⟨rfl,λ_=>Nat.le_add_right _ _⟩ rfl).2
   ·rw[way] at ho
    by_cases h:(0:Nat)=i
    ·subst h;rw[if_pos rfl] at ho;injection ho with ho;subst ho;refine .inr (.inr ⟨bk',c',_,hb',hnew,hnc',hcm',by simp[putCells,hsz],λi hi=>hk _,λi hi j hj v hv=>?_,λi hi j v u hj hv hu=>?_⟩)
     ·obtain⟨u,hu,rfl⟩:=hcell i hi j hj v hv;exact wr0 (hp _ _ (List.mem_of_getElem? hu))
     ·obtain⟨u',hu',rfl⟩:=hcell i hi j hj v hv;have hu:(enc d'[i]!)[j]?=some u:=hu;rw[hu'] at hu;injection hu with hu;subst hu;exact wr1 (hp _ _ (List.mem_of_getElem? hu'))
    ·rw[if_neg h] at ho;cases ho
   ·rw[way] at hi hj
    by_cases h:(0:Nat)=i
    ·by_cases h':(0:Nat)=j
     ·rw[← h, ← h']
     ·rw[if_neg h'] at hj;cases hj
    ·rw[if_neg h] at hi;cases hi
   ·rw[way] at ho
    by_cases h:(0:Nat)=i
    ·rw[if_pos h] at ho;cases ho
    ·rw[if_neg h] at ho;cases ho
end
end Go.Eng
namespace Go.Eng
open Go.Proofs Go.RowKit Go.Sort
variable {C:Ctx}
set_option maxRecDepth 20000
theorem nf_nan(x:Int)(R:oR7):wpFn te [] [] 0 Tryz.f101 [.q x] [] R=(R (.bool !decide (x=x)) []):=by kernel_rfl
theorem nf_icmp(a b:Int)(R:oR7):wpFn te [(101,.det weu)] [] 0 Tryz.f81 [.q a,.q b] [] R=(True/\True/\wab (decide (a<b)) (R (.q (-1:Int)) []) (wab (decide (b<a)) (R (.q 1) []) (R (.q 0) []))):=by kernel_rfl
theorem wyy(x:Int)(R:oR7):wpFn te [] [] 0 Tryz.f148 [.q x] [] R=(R (.bool !decide (x=x)) []):=by kernel_rfl
theorem wzj(a b:Int)(R:oR7):wpFn te [(148,.det weu)] [] 0 Tryz.f123 [.q a,.q b] [] R=(True/\True/\wab (decide (a<b)) (R (.q (-1:Int)) []) (wab (decide (b<a)) (R (.q 1) []) (R (.q 0) []))):=by kernel_rfl
theorem nf_or(f:Nat->List AV)(n:Nat)(R:oR7):wpFn te [] [(3,L_or (vInt f) n)] 0 Tryz.f79 [.own 0 n] [.row 3 1 n f false] R=(letI z0:=([(0,.row 3 1 n (wad (vInt f)) false)]:oL7);(TEq [(3,.q 0),(6,.own 0 n),(7,.q (n:Int)),(8,.q 0)] [(3,.q 0),(6,.own 0 n),(7,.q (n:Int)),(8,.q (↑0:Int))]/\wac [(0,.row 3 1 n f false)] z0)/\n<=100/\wab (decide (orN (vInt f) n=0)) ((∀(i:Nat),i<n->true=true)/\∃(O':oL7),wac z0 O'/\R (.q 0) O') ((∀(i:Nat),i<n->true=true)/\∃(O':oL7),wac z0 O'/\R (.q (orN (vInt f) n)) O')):=by kernel_rfl
theorem wys(v:Nat->Int)(n k:Nat)(P:Nat->Prop)(R:eR7):wav ⟨te,[],[],1,18,0⟩ (wax Tryz.f79 3) [3,6,7,8] [3] [2] (wll v n) P R (wll v n k)=(letI z0:=([(0,.row 3 1 n (wad v) false)]:oL7);wab (decide ((k:Int)<(n:Int))) (((0:Int)<=(k:Int)/\(k:Int)<(n:Int))/\((k:Int).toNat<n/\1=1)/\wab (!decide (v (k:Int).toNat=0)) ((∀(i:Nat),i<n->true=true)/\∃(O':oL7),wac z0 O'/\R .ret (St.mk [(2,.q (v (k:Int).toNat))] O' 1 [])) (inR .i64 ((k:Int)+1)/\∃(i':Nat),(TEq [(3,.q 0),(6,.own 0 n),(7,.q (n:Int)),(8,.q ((k:Int)+1))] [(3,.q 0),(6,.own 0 n),(7,.q (n:Int)),(8,.q (i':Int))]/\wac z0 z0)/\P i')) ((∀(i:Nat),i<n->true=true)/\∃(O':oL7),wac z0 O'/\R (.exit 0) (St.mk [(3,.q 0)] O' 1 []))):=by kernel_rfl
theorem wur:∀a b:List UInt8,Lib.compareBytes a b=cmpS a b
 |[],[]=>rfl
 |[],_::_=>rfl
 |_::_,[]=>rfl
 |a::x,b::y=>by
  have ih:=wur x y;rw[Lib.compareBytes,ih];unfold cmpS;simp only[Op.bytesLess]
  by_cases h:a<b
  ·simp[h]
  ·by_cases h':b<a
   ·have:(a==b)=false:=by
     rw[beq_eq_false_iff_ne];exact λe=>by subst e;exact h h'
    simp[h,h',this]
   ·have e:a=b:=by
     rcases Nat.lt_trichotomy a.toNat b.toNat with q | q | q
     ·exact absurd q h
     ·exact UInt8.toNat_inj.1 q
     ·exact absurd q h'
    subst e;simp[h]
theorem wre(hP:C.P=Tryz.prog):wae C 80 wgi:=by
 rintro args objs U Os vc h hvc;unfold wgi at h;split at h<;>cases h;rename_i a b;refine wat.quiet ⟨Tryz.f80,hP ▸ Tryz.func80,rfl,by decide⟩ λE bs w cargs hW hl hv=>?_;obtain⟨x,y,rfl⟩:∃x y,cargs=[x,y]:=by
  match cargs,hl with
  |[x,y],_=>exact⟨x,y,rfl⟩
 have e1:=(hv 0 _ _ rfl rfl).str_iff;have e2:=(hv 1 _ _ rfl rfl).str_iff;subst e1;subst e2;rw[hP];refine(Tryz.strings_Compare ⟨a.toArray⟩ ⟨b.toArray⟩ w).mono ?_;rintro e w' ⟨rfl,rfl⟩;refine⟨_,rfl,rfl,?_⟩;rw[wur];exact .int
theorem nan_ok(hP:C.P=Tryz.prog):wae C 101 weu:=by
 rintro args objs U Os vc h hvc;unfold weu at h;split at h<;>cases h;refine wae.wp0 (prg hP) [] 0 .nil (hP ▸ Tryz.func101) rfl rfl rfl ?_;rw[nf_nan,decide_eq_true rfl];exact⟨rfl,rfl⟩
theorem wz9(hP:C.P=Tryz.prog):wae C 148 weu:=by
 rintro args objs U Os vc h hvc;unfold weu at h;split at h<;>cases h;refine wae.wp0 (prg hP) [] 0 .nil (hP ▸ Tryz.func148) rfl rfl rfl ?_;rw[wyy,decide_eq_true rfl];exact⟨rfl,rfl⟩
theorem wtj(hP:C.P=Tryz.prog):wae C 81 wdp:=by
 rintro args objs U Os vc h hvc;unfold wdp at h;split at h<;>cases h;refine wae.wp0 (prg hP) [(101,.det weu)] 0 (.cons (nan_ok hP) .nil) (hP ▸ Tryz.func81) rfl rfl rfl ?_;rw[nf_icmp];unfold cmpI;exact⟨trivial,trivial,war (λh=>by rw[h];exact⟨rfl,rfl⟩) (λh=>war (λk=>by rw[h,k];exact⟨rfl,rfl⟩) (λk=>by rw[h,k];exact⟨rfl,rfl⟩))⟩
theorem w1v(hP:C.P=Tryz.prog):wae C 123 wdp:=by
 rintro args objs U Os vc h hvc;unfold wdp at h;split at h<;>cases h;refine wae.wp0 (prg hP) [(148,.det weu)] 0 (.cons (wz9 hP) .nil) (hP ▸ Tryz.func123) rfl rfl rfl ?_;rw[wzj];unfold cmpI;exact⟨trivial,trivial,war (λh=>by rw[h];exact⟨rfl,rfl⟩) (λh=>war (λk=>by rw[h,k];exact⟨rfl,rfl⟩) (λk=>by rw[h,k];exact⟨rfl,rfl⟩))⟩
theorem wr6{v:Nat->Int}{k:Nat}(h:orN v k=0)(hv:v k≠0):∀n,k<n->orN v n=v k
 |0,hn=>by omega
 |n+1,hn=>by
  rw[orN]
  by_cases e:k=n
  ·subst e;rw[h];rfl
  ·rw[wr6 h hv n (by omega),decide_eq_false hv];rfl
theorem or_loop(hP:C.P=Tryz.prog)(v:Nat->Int)(n:Nat):wai C 1 18 (wak Tryz.f79 3) (L_or v n):=by
 rintro st Q ⟨h0,hn,hQ⟩;have hR:=wb0 hQ;refine wai.mk (prg hP) [] 0 .nil [3,6,7,8] [3] [2] (wll v n) (λk=>k<=n/\orN v k=0) (λk=>n - k) 0 ⟨zL7 _,rfl⟩ h0 (λk hk=>?_) (λi=>⟨λ_ _=>rfl,trivial⟩);obtain⟨hkn,hok⟩:=hk;rw[wys,tN7];refine waj (λh1=>⟨⟨by omega,by omega⟩,⟨by omega,rfl⟩,wa7 (λh2=>⟨λ_ _=>rfl,_,wa1 _,?_⟩) (λh2=>⟨by simp only[inR];omega,k+1,⟨rfl,wa1 _⟩,⟨by omega,?_⟩,by omega⟩)⟩) (λh1=>⟨λ_ _=>rfl,_,wa1 _,?_⟩)
 ·have e:=wr6 hok h2 n (by omega);have:=hR.2 (by rw[e,decide_eq_false h2]);rw[e] at this;exact this
 ·rw[orN,hok];exact h2
 ·have:k=n:=by omega
  subst this;exact hR.1 (by rw[hok];rfl)
theorem or_ok(hP:C.P=Tryz.prog):wae C 79 S_or:=by
 rintro args objs U Os vc h hvc;unfold S_or at h;split at h<;>cases h;rename_i n t m f fr;obtain⟨rfl,rfl,rfl,hn,hf⟩:=hvc;have hrow:wac [(0,AObj.row 3 1 n (wad (vInt f)) false)] [(0,.row 3 1 n f false)]:=⟨⟨rfl,rfl,rfl,rfl,rfl,λi hi=>(hf i hi).symm⟩,trivial⟩;refine wae.wpL (prg hP) [] [(3,L_or (vInt f) n)] 0 .nil (hP ▸ Tryz.func79) rfl rfl rfl [(wak Tryz.f79 3,L_or (vInt f) n)] (by kernel_rfl) ⟨or_loop hP _ _,trivial⟩ ?_;rw[nf_or];refine⟨⟨rfl,⟨rfl,rfl,rfl,rfl,rfl,hf⟩,trivial⟩,hn,waj (λh=>⟨λ_ _=>rfl,_,hrow,?_⟩) (λh=>⟨λ_ _=>rfl,_,hrow,rfl,rfl⟩)⟩;rw[h];exact⟨rfl,rfl⟩
theorem wr7(x:Int):∀l:List Int,orL (l++[x])=bif decide (orL l=0) then x else orL l
 |[]=>by simp only[List.nil_append,orL];by_cases h:x=0<;>simp[h]
 |y::l=>by
  rw[List.cons_append,orL,wr7 x l,orL]
  by_cases h:y=0
  ·simp[h]
  ·simp[h]
theorem woo(v:Nat->Int):∀n,orN v n=orL ((List.range n).map v)
 |0=>rfl
 |n+1=>by rw[List.range_succ,List.map_append,List.map_singleton,wr7,orN,woo v n]
theorem swo_of{α:Type}{c:α->α->Int}(h:PreC c):SWO (ltOf c) where
 irrefl x:=by simp[ltOf,h.self x]
 trans x y z h1 h2:=by
  simp only[ltOf,decide_eq_true_eq] at *;exact h.lt_trans h1 h2
 ntrans x y z h1 h2:=by
  simp only[ltOf,decide_eq_false_iff_not] at *;intro q;have:=h.neg x y;have:=h.neg y x;have:=h.neg y z;have:=h.neg z y;have:=h.neg x z;have:=h.neg z x;have:=h.trans z y x (by omega) (by omega);omega
theorem wy4(a b:List UInt8)(R:oR7):wpFn te [(80,.det wgi)] [] 0 Tryz.f122 [.str a,.str b] [] R=(True/\R (.q (cmpS a b)) []):=by kernel_rfl
theorem nf_mcmp(m m':MG)(R:oR7):wpFn te [(122,.det wls),(81,.det wdp),(123,.det wdp),(79,.det S_or)] [] 0 Tryz.f98 [.agg [.str m.dev,.q m.seq,.q m.kind,.str m.v.o,.str m.v.p,.q m.v.per,.q m.v.day,.q m.v.st,.q m.v.pr,.str m.v.rep,.str m.d.o,.str m.d.p,.q m.d.per,.str m.d.dev,.q m.d.num],.agg [.str m'.dev,.q m'.seq,.q m'.kind,.str m'.v.o,.str m'.v.p,.q m'.v.per,.q m'.v.day,.q m'.v.st,.q m'.v.pr,.str m'.v.rep,.str m'.d.o,.str m'.d.p,.q m'.d.per,.str m'.d.dev,.q m'.d.num]] [] R=(letI z0:=wau 1 (.q (cmpS m.dev m'.dev):: .q (cmpI m.seq m'.seq):: .q (cmpI m.kind m'.kind):: .q (cmpS m.v.o m'.v.o):: .q (cmpS m.v.p m'.v.p):: .q (cmpI m.v.per m'.v.per):: .q (cmpI m.v.day m'.v.day):: .q (cmpI m.v.st m'.v.st):: .q (cmpI m.v.pr m'.v.pr):: .q (cmpS m.v.rep m'.v.rep):: .q (cmpS m.d.o m'.d.o):: .q (cmpS m.d.p m'.d.p):: .q (cmpI m.d.per m'.d.per):: .q (cmpS m.d.dev m'.d.dev):: .q (cmpI m.d.num m'.d.num)::List.append [] (List.flatten (List.replicate (nat_lit 0) [.q 0])));True/\True/\True/\True/\True/\True/\True/\True/\True/\True/\True/\True/\True/\True/\True/\(15<=16777216/\1=1/\15<=9223372036854775807)/\(∀(i:Nat),i<15->true=true)/\(3=3/\false=false/\15=15/\15<=100/\∀(i:Nat),i<15->[AV.q (List.getD [cmpS m.dev m'.dev,cmpI m.seq m'.seq,cmpI m.kind m'.kind,cmpS m.v.o m'.v.o,cmpS m.v.p m'.v.p,cmpI m.v.per m'.v.per,cmpI m.v.day m'.v.day,cmpI m.v.st m'.v.st,cmpI m.v.pr m'.v.pr,cmpS m.v.rep m'.v.rep,cmpS m.d.o m'.d.o,cmpS m.d.p m'.d.p,cmpI m.d.per m'.d.per,cmpS m.d.dev m'.d.dev,cmpI m.d.num m'.d.num] i (0:Int))]=[.q (vInt z0 i)])/\(∀(i:Nat),i<15->true=true)/\R (.q (orN (vInt z0) 15)) []):=by kernel_rfl
theorem lt15{p:Nat->Prop}(h0:p 0)(h1:p 1)(h2:p 2)(h3:p 3)(h4:p 4)(h5:p 5)(h6:p 6)(h7:p 7)(h8:p 8)(h9:p 9)(h10:p 10)(h11:p 11)(h12:p 12)(h13:p 13)(h14:p 14):∀i,i<15->p i:=λi hi=>by
 match i,hi with
 |0,_=>exact h0
 |1,_=>exact h1
 |2,_=>exact h2
 |3,_=>exact h3
 |4,_=>exact h4
 |5,_=>exact h5
 |6,_=>exact h6
 |7,_=>exact h7
 |8,_=>exact h8
 |9,_=>exact h9
 |10,_=>exact h10
 |11,_=>exact h11
 |12,_=>exact h12
 |13,_=>exact h13
 |14,_=>exact h14
theorem w0v(hP:C.P=Tryz.prog):wae C 122 wls:=by
 rintro args objs U Os vc h hvc;unfold wls at h;split at h<;>cases h;rename_i a b;refine wae.wp0 (prg hP) [(80,.det wgi)] 0 (.cons (wre hP) .nil) (hP ▸ Tryz.func122) rfl rfl rfl ?_;rw[wy4];exact⟨trivial,rfl,rfl⟩
theorem mcmp_ok(hP:C.P=Tryz.prog):wae C 98 S_mcmp:=by
 rintro args objs U Os vc h hvc;unfold S_mcmp at h;split at h<;>simp only[sI7,pI7,reduceCtorEq] at h;rename_i dev seq kind o p per day st pr rep o' p' per' dev' num dev2 seq2 kind2 o2 p2 per2 day2 st2 pr2 rep2 o3 p3 per3 dev3 num2;obtain⟨rfl,rfl,rfl⟩:=h;have hn:=nf_mcmp ⟨dev,seq,kind,⟨o,p,per,day,st,pr,rep⟩,⟨o',p',per',dev',num⟩⟩ ⟨dev2,seq2,kind2,⟨o2,p2,per2,day2,st2,pr2,rep2⟩,⟨o3,p3,per3,dev3,num2⟩⟩;dsimp only at hn;refine wae.wp0 (prg hP) [(122,.det wls),(81,.det wdp),(123,.det wdp),(79,.det S_or)] 0 (.cons (w0v hP) (.cons (wtj hP) (.cons (w1v hP) (.cons (or_ok hP) .nil)))) (hP ▸ Tryz.func98) rfl rfl rfl ?_;rw[hn,woo];exact⟨trivial,trivial,trivial,trivial,trivial,trivial,trivial,trivial,trivial,trivial,trivial,trivial,trivial,trivial,trivial,⟨by omega,rfl,by omega⟩,λ_ _=>rfl,⟨rfl,rfl,rfl,by omega,lt15 rfl rfl rfl rfl rfl rfl rfl rfl rfl rfl rfl rfl rfl rfl rfl⟩,λ_ _=>rfl,rfl,rfl⟩
theorem wwd(hP:C.P=Tryz.prog):wa8 C 97 wmy:=by
 rintro args objs R h;unfold wmy at h;split at h
 ·rename_i n t m f fr;obtain⟨rfl,rfl,rfl,hn,hf,hR⟩:=h;generalize mgOf f=g at *;subst hf;have hS:=wat.sortK (C:=C) mgC 15 (λ_=>rfl) (λx u hu=>by
    simp only[mgC,List.mem_cons,List.not_mem_nil,or_false] at hu
    rcases hu with rfl | rfl | rfl | rfl | rfl | rfl | rfl | rfl | rfl | rfl | rfl | rfl | rfl | rfl | rfl<;>rfl) ordM (t:=47) (fS:=97) (g:=98)
   ⟨_,hP ▸ Tryz.func97,rfl,by decide⟩
   (λblk cap d w h1 h2 h3 h4=>by
    rw[hP] at h1 ⊢;exact AnyQ.slices_SortFunc Tryz.sort97 15 Tryz.isAgg47 Tryz.sizeOf47 _ (λ_=>rfl) (λx v hv=>by
     simp only[encV,mgC,List.map_cons,List.map_nil,List.mem_cons,List.not_mem_nil,or_false] at hv
     rcases hv with rfl | rfl | rfl | rfl | rfl | rfl | rfl | rfl | rfl | rfl | rfl | rfl | rfl | rfl | rfl<;>rfl) ordM (swo_of we5) 98 #[] blk 0 cap d w (enters_of Tryz.func98 (by kernel_rfl) rfl) h1 h2 h3 h4)
   (λp cap fv w=>by
    rw[hP];exact AnyF.slices_SortFunc_none Tryz.sort97 p cap fv w)
   (λx y=>mcmp_ok (C:=Ctx.bare C.P C.mixed) hP _ _ _ _ _ rfl trivial) g (n:=n) (by omega)
  refine hS.mono ?_;rintro u O ⟨rfl,f',hp,hs,rfl⟩;exact hR f' hp hs
 ·exact h.elim
end Go.Eng
namespace Go.Eng
open Go.Proofs Go.RowKit
set_option maxRecDepth 20000
theorem wx9(s:List UInt8)(cells:List AV)(R:oR7):wpFn te [] [(1,wnb s cells 199)] 0 Tryz.f175 [.str s,.ptr 0 0] [.cells cells 199] R=(letI z0:=([(0,.cells (AV.rnL (ren 1 []) cells) 199)]:oL7);some (St.mk [(0,.str s),(1,.ptr 0 0)] z0 1 [])=some (St.mk [(0,.str s),(1,.ptr 0 0)] [(0,.cells cells 199)] 1 [])/\wb8 cells/\R (.str (List.dropWhile (wbd cells) s)) z0):=by kernel_rfl
theorem wx7(cells:List AV)(P:List UInt8->Prop)(R:eR7):wav ⟨te,[(187,.det wfp)],[],1,16,0⟩ (wax Tryz.f175 1) [0,1] [0] [0] (wdn cells 199) P R (wdn cells 199 [])=(R (.exit 0) (St.mk [(0,.str [])] [(0,.cells (AV.rnL (ren 1 []) cells) 199)] 1 [])):=by kernel_rfl
theorem wx8(x:UInt8)(s:List UInt8)(cells:List AV)(P:List UInt8->Prop)(R:eR7):wav ⟨te,[(187,.det wfp)],[],1,16,0⟩ (wax Tryz.f175 1) [0,1] [0] [0] (wdn cells 199) P R (wdn cells 199 (x::s))=(letI z3:=AV.rnL (idxN [0]) cells;letI z2:=(↑(x::s).length:Int);letI z1:=([(0,.cells (AV.rnL (ren 1 []) (AV.rnL (sig [0] 1) z3)) 199)]:oL7);letI z0:=(↑(UInt8.toNat (List.getD (x::s) (0:Int).toNat (0:UInt8))):Int);wab (decide ((0:Int)<z2)) (((0:Int)<=0/\(0:Int)<z2)/\(wb8 z3/\(0:Int)<=z0/\z0<256)/\wab (!wbd z3 (UInt8.ofNat z0.toNat)) (R (.exit 0) (St.mk [(0,.str (x::s))] z1 1 [])) (((0:Int)<=1/\(1:Int)<=z2)/\∃(i':List UInt8),some (St.mk [(0,.str (List.drop (1:Int).toNat (x::s))),(1,.ptr 0 0)] z1 1 [])=some (St.mk [(0,.str i'),(1,.ptr 0 0)] [(0,.cells cells 199)] 1 [])/\P i')) (R (.exit 0) (St.mk [(0,.str (x::s))] [(0,.cells (AV.rnL (ren 1 []) cells) 199)] 1 []))):=by kernel_rfl
theorem wx6(s:List UInt8)(cells:List AV)(R:oR7):wpFn te [] [(1,wna s cells 199)] 0 Tryz.f176 [.str s,.ptr 0 0] [.cells cells 199] R=(letI z0:=([(0,.cells (AV.rnL (ren 1 []) cells) 199)]:oL7);some (St.mk [(0,.str s),(1,.ptr 0 0)] z0 1 [])=some (St.mk [(0,.str s),(1,.ptr 0 0)] [(0,.cells cells 199)] 1 [])/\wb8 cells/\s.length<=9223372036854775807/\R (.str (wcx (wbd cells) s)) z0):=by kernel_rfl
theorem wx5(s:List UInt8)(cells:List AV)(P:List UInt8->Prop)(R:eR7):wav ⟨te,[(187,.det wfp)],[],1,22,0⟩ (wax Tryz.f176 1) [0,1] [0] [0] (wdn cells 199) P R (wdn cells 199 s)=(letI z3:=AV.rnL (idxN [0]) cells;letI z2:=([(0,.cells (AV.rnL (ren 1 []) (AV.rnL (sig [0] 1) z3)) 199)]:oL7);letI z0:=(s.length:Int);letI z4:=(z0 - (1:Int));letI z1:=(↑(UInt8.toNat (List.getD s z4.toNat (0:UInt8))):Int);wab (decide ((0:Int)<z0)) (inR .i64 z4/\((0:Int)<=z0 - (1:Int)/\z0 - (1:Int)<z0)/\(wb8 z3/\(0:Int)<=z1/\z1<256)/\wab (!wbd z3 (UInt8.ofNat z1.toNat)) (R (.exit 0) (St.mk [(0,.str s)] z2 1 [])) (inR .i64 z4/\((0:Int)<=z0 - (1:Int)/\z0 - (1:Int)<=z0)/\∃(i':List UInt8),some (St.mk [(0,.str (List.take z4.toNat s)),(1,.ptr 0 0)] z2 1 [])=some (St.mk [(0,.str i'),(1,.ptr 0 0)] [(0,.cells cells 199)] 1 [])/\P i')) (R (.exit 0) (St.mk [(0,.str s)] [(0,.cells (AV.rnL (ren 1 []) cells) 199)] 1 []))):=by kernel_rfl
theorem nf_trim(s cs:List UInt8)(R:oR7):wpFn te [(175,.det wk5),(176,.det wk4)] [(1005,wm9 s cs)] 0 Tryz.f164 [.str s,.str cs] [] R=(letI z3:=St.mk [(0,.str s),(1,.str cs)] [] 0 [];letI z2:=((0:Int)<=0/\(0:Int)<(cs.length:Int):Prop);letI z1:=AV.rnL (idxN [0]) (setAV cs);letI z4:=AV.rnL (idxN [0]) (AV.rnL (sig [0] 1) z1);letI z0:=(some z3=some z3/\cs.length<4294967281/\(∀(b:UInt8),b∈cs->UInt8.toNat b<128)/\(wb8 z1/\s.length<=9223372036854775807)/\wb8 z4/\R (.str (List.dropWhile (wbd z4) (wcx (wbd z1) s))) []);wab (decide (s=[])) (R (.str s) []) (wab (decide (cs=[])) (R (.str s) []) (wab (decide ((cs.length:Int)=1)) (z2/\wab (decide ((↑(UInt8.toNat (List.getD cs (0:Int).toNat (0:UInt8))):Int)<128)) (z2/\False) z0) z0))):=by kernel_rfl
variable {C:Ctx} [C.Loose]
theorem mem2{α:Type}{l:List α}(h:l.length=2):∃a b,l=[a,b]:=by
 match l,h with
 |[a,b],_=>exact⟨a,b,rfl⟩
theorem mem1{α:Type}{l:List α}(h:l.length=1):∃a,l=[a]:=by
 match l,h with
 |[a],_=>exact⟨a,rfl⟩
theorem wq9(hP:C.P=Tryz.prog):wae C 187 wfp:=by
 have _:C.Loose:=inferInstance;rintro args objs U Os vc h hvc;unfold wfp at h;split at h<;>cases h;rename_i x cells t;obtain⟨hc,h0,h1⟩:=hvc;obtain⟨n,rfl⟩:∃n:UInt8,x=n.toNat:=⟨UInt8.ofNat x.toNat,by simp;omega⟩;refine wat.quiet ⟨Tryz.f187,hP ▸ Tryz.func187,rfl,by decide⟩ λE bs w cargs hW hl hv=>?_;obtain⟨a,b,rfl⟩:=mem2 hl;have e2:=(hv 1 _ _ rfl rfl).int_iff;subst e2;obtain⟨b,y,rfl,hcc,hy⟩:=hW.cell (r:=0) rfl (hv 0 _ _ rfl rfl) (hc.at_ n)
 cases hy;rw[hP];refine(Tryz.asciiSet_contains b n _ w hcc).mono ?_;rintro e w' ⟨rfl,rfl⟩;refine⟨_,rfl,rfl,?_⟩;have:UInt8.ofNat (n.toNat:Int).toNat=n:=by simp
 rw[this];exact .bool
theorem wv4(hP:C.P=Tryz.prog)(s:List UInt8)(cells:List AV):wai C 1 16 (wak Tryz.f175 1) (wnb s cells 199):=by
 rintro st Q ⟨h0,hc,hQ⟩;refine wai.mk (prg hP) [(187,.det wfp)] 0 (.cons (wq9 hP) .nil) [0,1] [0] [0] (wdn cells 199) (λs'=>s'.dropWhile (wbd cells)=s.dropWhile (wbd cells)) List.length s rfl h0 λs' hs'=>?_;have hrn:=hc.rn
 cases s' with
 |nil=>
  rw[wx7];simp only[hrn];rw[← hs'] at hQ;exact hQ
 |cons x r=>
  rw[wx8];simp only[hrn];have ex:UInt8.ofNat (Int.toNat (↑(UInt8.toNat (List.getD (x::r) (Int.toNat 0) 0))))=x:=by simp
  have hx:(List.getD (x::r) (Int.toNat 0) 0)=x:=rfl;have hlt:x.toNat<256:=x.toNat_lt;have hlen:(((x::r).length:Nat):Int)=(r.length:Int)+1:=by simp
  rw[hx] at ex;simp only[hx,ex,hlen];refine war (λ_=>⟨by omega,⟨hc,by omega,by omega⟩,war (λh=>?_) (λh=>?_)⟩) (λh=>?_)
  ·have h:wbd cells x=false:=by simpa using h
   rw[← hs',List.dropWhile_cons,h] at hQ;exact hQ
  ·have h:wbd cells x=true:=by simpa using h
   refine⟨by omega,r,rfl,?_,by simp⟩;rw[← hs',List.dropWhile_cons,h];rfl
  ·have:=of_decide_eq_false h;omega
theorem wv3(hP:C.P=Tryz.prog):wae C 175 wk5:=by
 rintro args objs U Os vc h hvc;unfold wk5 at h;split at h<;>cases h;rename_i s cells;refine wae.wpL (prg hP) [] [(1,wnb s cells 199)] 0 .nil (hP ▸ Tryz.func175) rfl rfl rfl [(wak Tryz.f175 1,wnb s cells 199)] (by kernel_rfl) ⟨wv4 hP s cells,trivial⟩ ?_;rw[wx9];simp only[hvc.rn];exact⟨trivial,hvc,by simp⟩
theorem wv2(hP:C.P=Tryz.prog)(s:List UInt8)(cells:List AV):wai C 1 22 (wak Tryz.f176 1) (wna s cells 199):=by
 rintro st Q ⟨h0,hc,hm,hQ⟩;refine wai.mk (prg hP) [(187,.det wfp)] 0 (.cons (wq9 hP) .nil) [0,1] [0] [0] (wdn cells 199) (λs'=>wcx (wbd cells) s'=wcx (wbd cells) s/\s'.length<=maxLen) List.length s ⟨rfl,hm⟩ h0 λs' hs'=>?_;have hrn:=hc.rn;obtain⟨hs',hm'⟩:=hs';have hm2:s'.length<=9223372036854775807:=hm';rw[wx5];simp only[hrn]
 rcases wwe s' with rfl | ⟨r,x,rfl⟩
 ·refine war (λh=>?_) (λ_=>?_)
  ·have:=of_decide_eq_true h;simp at this
  ·rw[← hs'] at hQ;exact hQ
 ·have hlen:(((r++[x]).length:Nat):Int)=(r.length:Int)+1:=by simp
  have e1:((r.length:Int)+1 - 1).toNat=r.length:=by omega
  have hx:(r++[x]).getD r.length 0=x:=by simp
  have ht:(r++[x]).take r.length=r:=by simp
  have ex:UInt8.ofNat ((x.toNat:Int)).toNat=x:=by simp
  have hlt:x.toNat<256:=x.toNat_lt;have hlr:(r++[x]).length=r.length+1:=by simp
  simp only[hlen,e1,hx,ht,ex,inR];refine war (λ_=>⟨by omega,by omega,⟨hc,by omega,by omega⟩,war (λh=>?_) (λh=>?_)⟩) (λh=>?_)
  ·have h:wbd cells x=false:=by simpa using h
   rw[← hs',wun,h] at hQ;exact hQ
  ·have h:wbd cells x=true:=by simpa using h
   refine⟨by omega,by omega,r,rfl,⟨?_,?_⟩,by omega⟩
   ·rw[← hs',wun,h];rfl
   ·show r.length<=9223372036854775807;omega
  ·have:=of_decide_eq_false h;omega
theorem wv1(hP:C.P=Tryz.prog):wae C 176 wk4:=by
 rintro args objs U Os vc h hvc;unfold wk4 at h;split at h<;>cases h;rename_i s cells;refine wae.wpL (prg hP) [] [(1,wna s cells 199)] 0 .nil (hP ▸ Tryz.func176) rfl rfl rfl [(wak Tryz.f176 1,wna s cells 199)] (by kernel_rfl) ⟨wv2 hP s cells,trivial⟩ ?_;rw[wx6];simp only[hvc.1.rn];exact⟨trivial,hvc.1,hvc.2,by simp⟩
theorem wwk{w:World}{M:Nat->Prop}{bs:Nat->Option Hd}(l:List UInt8):wcu w M bs (Lib.setCells l) (setAV l):=by
 have hs:(Lib.setCells l).size=256:=Lib.setCells_size l;have hl:(setAV l).length=256:=(we3 l).1;have at_:∀j,j<256->(Lib.setCells l)[j]?=some (.bool (l.contains (UInt8.ofNat j))):=by
  intro j hj;have:=Lib.setCells_at l (UInt8.ofNat j);have e:(UInt8.ofNat j).toNat=j:=by simp;omega
  rwa [e] at this
 refine⟨by rw[hs,hl],λj v hv=>?_,λj v u hv hu=>?_⟩
 ·have hj:j<256:=by rw[← hs];exact(Array.getElem?_eq_some_iff.1 hv).1
  rw[at_ j hj] at hv
  cases hv;rfl
 ·have hj:j<256:=by rw[← hs];exact(Array.getElem?_eq_some_iff.1 hv).1
  rw[at_ j hj] at hv
  cases hv;have:(setAV l)[j]?=some (.bool (l.contains (UInt8.ofNat j))):=by unfold setAV;simp[hj]
  rw[this] at hu
  cases hu;exact .bool
theorem w0z(hP:C.P=Tryz.prog):wae C 174 wve:=by
 rintro args objs U Os vc h hvc;unfold wve at h;split at h<;>cases h;rename_i l;obtain⟨hl,hascii⟩:=hvc;refine wat.below ⟨Tryz.f174,hP ▸ Tryz.func174,rfl,by decide⟩ λw M cargs _ _ hM hlen hv=>?_;obtain⟨a,rfl⟩:=mem1 hlen;have e1:=(hv 0 _ _ rfl rfl).str_iff;subst e1;rw[hP];refine(Tryz.strings_makeASCIISet (λw=>Tryz.zeroValue199 w) ⟨l.toArray⟩ w (by simpa[ByteArray.size] using hl) (λj b hb=>hascii b (by simpa using List.mem_of_getElem? hb))).mono ?_;rintro e w' ⟨rfl,rfl⟩;have hc:=wwk (w:=w.alloc (.cells (Lib.setCells l) 199)) (M:=M) (bs:=nob) l;refine⟨_,rfl,(Below.refl _ _).alloc (lR7 _) _,.tuple rfl λj v u hv hu=>?_⟩
 match j with
 |0=>simp at hv hu;subst hv;subst hu;exact .agg hc.1 hc.2.1 hc.2.2
 |1=>simp at hv hu;subst hv;subst hu;exact .bool
 |j+2=>simp at hv
def teSet:TE:=[(199,{ desc:=.array 256 4,sz:=256,bytes:=256,zero:=.agg (Array.replicate 256 (.bool false)) })]
@[irreducible] def zeroSet:List AV:=List.replicate 256 (.bool false)
theorem w3q(n:Nat):avcs (List.replicate n (.bool false))=some (List.replicate n (.bool false)):=by
 induction n with
 |zero=>rfl
 |succ n ih=>simp[List.replicate_succ,avcs,avc,ih]
theorem wv6:TE.ok Tryz.prog teSet:=by
 refine TE.ok_cons Tryz.underlying199 ⟨Tryz.t199,Tryz.type199,rfl,rfl,by kernel_rfl⟩ (λh=>by cases h) TE.ok_nil
theorem wvi:avcs (Value.agg (Array.replicate 256 (.bool false))).cells.toList=some zeroSet:=by
 have e:(Value.agg (Array.replicate 256 (.bool false))).cells.toList=List.replicate 256 (Value.bool false):=Array.toList_replicate;rw[e];unfold zeroSet;exact w3q 256
theorem wvj(cs:List UInt8):zeroSet.length=(setAV cs).length:=by
 rw[(we3 cs).1];unfold zeroSet;rw[List.length_replicate]
theorem wv0(hP:C.P=Tryz.prog)(s cs:List UInt8):wai C 0 43 (regC Tryz.f164 5) (wm9 s cs):=by
 rintro st Q ⟨h0,hl,hascii,hQ⟩;refine AWP.canonIs [0,1] h0 ?_ trivial;have hte:=(prg hP).ok;have hts:TE.ok C.P teSet:=hP ▸ wv6;have hrn:=(we3 cs).rn;refine AWP.canQ (te:=te) (Fe:=[0,5,6]) (Fr:=[]) ?_;show AWP C 0 43 (.region 5 (List.toArray _) false) _ _;refine AWP.region ?_;refine AOps.pure hte (prg hP).one rfl rfl rfl trivial ?_;refine AOps.callD (u2:=.nil) (cobjs:=[]) (U:=.tuple [.agg (setAV cs),.bool true]) (Os:=[]) (T2:=[(31,.tuple [.agg (setAV cs),.bool true]),(30,.str cs),(0,.str s),(1,.str cs)]) [] rfl rfl rfl rfl rfl rfl trivial (w0z hP [.str cs] [] _ _ _ rfl ⟨hl,hascii⟩) rfl ?_ rfl rfl ?_
 ·show (31,AV.tuple [.agg (AV.rnL _ (setAV cs)),.bool true])::_=_;rw[hrn];rfl
 refine AOps.pure hte (prg hP).one rfl rfl rfl trivial ?_;refine AOps.pure hte (prg hP).one rfl rfl rfl trivial ?_;refine AOps.pure hte (prg hP).one rfl rfl rfl trivial ?_;refine AOps.step (l:=[(_,.cells zeroSet 199)]) rfl (wan.allocW hts (t:=199) rfl rfl rfl wvi) rfl rfl rfl rfl ?_;refine AOps.step rfl (wan.storeW hts (t:=199) (new:=setAV cs) rfl rfl rfl rfl rfl rfl (wvj cs) (we3 cs).1) rfl rfl rfl rfl ?_;refine AOps.pure hte (prg hP).one rfl rfl rfl trivial ?_;refine AOps.nil ?_;refine canQ_of (s':=⟨[(0,.str s),(5,.ptr 0 0),(6,.bool true)],[(0,.cells (AV.rnL (ren 0 [(16,0)]) (setAV cs)) 199)],1,[]⟩) (by simp) ?_ ?_
 ·rfl
 ·rw[hrn];exact hQ
theorem wil(hP:C.P=Tryz.prog):wae C 164 wd3:=by
 rintro args objs U Os vc h hvc;unfold wd3 at h;split at h<;>cases h;rename_i s cs;obtain⟨hs,h2,hl,hascii⟩:=hvc
 refine wae.wpL (prg hP) [(175,.det wk5),(176,.det wk4)] [(1005,wm9 s cs)] 0 (.cons (wv3 hP) (.cons (wv1 hP) .nil)) (hP ▸ Tryz.func164) rfl rfl rfl
  [(regC Tryz.f164 5,wm9 s cs)] (by kernel_rfl) ⟨wv0 hP s cs,trivial⟩ ?_
 rw[nf_trim];have hrn:=(we3 cs).rn;have hc1:∀h:(cs.length:Int)=1,False:=by intro h;omega
 have hin:wbd (setAV cs)=(cs.contains ·):=funext (w1u cs)
 simp only[hrn,hin];refine war (λh=>?_) (λ_=>war (λh=>?_) (λ_=>war (λh=>?_) (λ_=>?_)))
 ·have h:=of_decide_eq_true h;subst h;simp[wd5,wcx]
 ·have h:=of_decide_eq_true h;subst h;simp at h2
 ·exact(hc1 (of_decide_eq_true h)).elim
 ·exact⟨trivial,hl,hascii,⟨we3 cs,hs⟩,we3 cs,rfl,trivial⟩
theorem nf_min(n:Nat)(v:Nat->Int)(R:oR7):wpFn te [] [(5,L_mm n v (minV v)),(1002,λ_ _=>False)] 0 Tryz.f184 [.own 0 n] [.row 3 1 n (λi=>[.q (v i)]) false] R=(letI z0:=([(0,.row 3 1 n (λ(i:Nat)=>[.q (v i)]) false)]:oL7);wab (decide ((n:Int)<1)) False (((0:Int)<=0/\(0:Int)<(n:Int))/\(0<n/\1=1)/\(TEq [(0,.own 0 n),(3,.q (v 0)),(4,.q 1)] [(0,.own 0 n),(3,.q (minV v 0)),(4,.q ((↑0:Int)+1))]/\wac z0 z0)/\1<=n/\n<=4611686018427387904/\(∀(i:Nat),i<n->true=true)/\∃(O':oL7),wac z0 O'/\R (.q (minV v (n - 1))) O')):=by kernel_rfl
theorem wy2(n:Nat)(v:Nat->Int)(k:Nat)(P:Nat->Prop)(R:eR7):wav ⟨te,[],[],1,25,0⟩ (wax Tryz.f184 5) [0,3,4] [3] [] (wfq n v (minV v)) P R (wfq n v (minV v) k)=(letI z0:=([(0,.row 3 1 n (λ(i:Nat)=>[.q (v i)]) false)]:oL7);wab (decide ((k:Int)+1<(n:Int))) (((0:Int)<=(k:Int)+1/\(k:Int)+1<(n:Int))/\(((k:Int)+1).toNat<n/\1=1)/\inR .i64 ((k:Int)+1+1)/\∃(i':Nat),(TEq [(0,.own 0 n),(3,.q (min (minV v k) (v ((k:Int)+1).toNat))),(4,.q ((k:Int)+1+1))] [(0,.own 0 n),(3,.q (minV v i')),(4,.q ((i':Int)+1))]/\wac z0 z0)/\P i') ((∀(i:Nat),i<n->true=true)/\∃(O':oL7),wac z0 O'/\R (.exit 0) (St.mk [(3,.q (minV v k))] O' 1 []))):=by kernel_rfl
theorem nf_max(n:Nat)(v:Nat->Int)(R:oR7):wpFn te [] [(5,L_mm n v (maxV v)),(1002,λ_ _=>False)] 0 Tryz.f185 [.own 0 n] [.row 3 1 n (λi=>[.q (v i)]) false] R=(letI z0:=([(0,.row 3 1 n (λ(i:Nat)=>[.q (v i)]) false)]:oL7);wab (decide ((n:Int)<1)) False (((0:Int)<=0/\(0:Int)<(n:Int))/\(0<n/\1=1)/\(TEq [(0,.own 0 n),(3,.q (v 0)),(4,.q 1)] [(0,.own 0 n),(3,.q (maxV v 0)),(4,.q ((↑0:Int)+1))]/\wac z0 z0)/\1<=n/\n<=4611686018427387904/\(∀(i:Nat),i<n->true=true)/\∃(O':oL7),wac z0 O'/\R (.q (maxV v (n - 1))) O')):=by kernel_rfl
theorem wy5(n:Nat)(v:Nat->Int)(k:Nat)(P:Nat->Prop)(R:eR7):wav ⟨te,[],[],1,25,0⟩ (wax Tryz.f185 5) [0,3,4] [3] [] (wfq n v (maxV v)) P R (wfq n v (maxV v) k)=(letI z0:=([(0,.row 3 1 n (λ(i:Nat)=>[.q (v i)]) false)]:oL7);wab (decide ((k:Int)+1<(n:Int))) (((0:Int)<=(k:Int)+1/\(k:Int)+1<(n:Int))/\(((k:Int)+1).toNat<n/\1=1)/\inR .i64 ((k:Int)+1+1)/\∃(i':Nat),(TEq [(0,.own 0 n),(3,.q (max (maxV v k) (v ((k:Int)+1).toNat))),(4,.q ((k:Int)+1+1))] [(0,.own 0 n),(3,.q (maxV v i')),(4,.q ((i':Int)+1))]/\wac z0 z0)/\P i') ((∀(i:Nat),i<n->true=true)/\∃(O':oL7),wac z0 O'/\R (.exit 0) (St.mk [(3,.q (maxV v k))] O' 1 []))):=by kernel_rfl
theorem wzn(n:Nat)(v:Nat->Int)(R:oR7):wpFn te [(184,.det wlr),(185,.det wlt),(186,.det wgs)] [(7,wnr n v)] 0 Tryz.f171 [.own 0 n] [.row 3 1 n (λi=>[.q (v i)]) false] R=(letI z8:=((0:Int)<=0/\(0:Int)<(n:Int):Prop);letI z7:=((0:Int)<=1/\(1:Int)<=(n:Int):Prop);letI z6:=(n - (1:Int).toNat);letI z5:=(vInt λ(i:Nat)=>[.q (v i)]);letI z4:=([(4,.str (wc4 (v 0)++wcd v 0)),(36,.sub 0 1 1 (n - 1)),(37,.q (↑(n - 1):Int)),(38,.q (↑0:Int))]:tL7);letI z3:=(3=3/\false=false/\1<=n/\n=n/\n<=4611686018427387904/\(λ(i:Nat)=>[.q (v i)])=wad z5:Prop);letI z2:=(∀(i:Nat),i<n->true=true:Prop);letI z1:=([(0,.row 3 1 n (λ(i:Nat)=>[.q (v i)]) false)]:oL7);letI z0:=(z2/\∃(O':oL7),wac z1 O'/\R (.tuple [.str [],.q 64]) O':Prop);wab (decide ((n:Int)<1)) z0 (wab (decide ((5:Int)<(n:Int))) z0 (z2/\z3/\z2/\wab (decide (minV z5 (n - 1)<1)) z0 (z2/\z3/\z2/\wab (decide ((99:Int)<maxV z5 (n - 1))) z0 (z8/\(0<n/\1=1)/\((0:Int)<=v 0/\v 0<100)/\z8/\(0<n/\1=1)/\wab (decide (v 0<10)) (([(48:UInt8)]).length+(decF (v 0)).length<=9223372036854775807/\z7/\(TEq [(4,.str ([(48:UInt8)]++decF (v 0))),(36,.sub 0 1 1 z6),(37,.q (z6:Int)),(38,.q 0)] z4/\wac z1 z1)/\wbf n v=true/\z2/\∃(O':oL7),wac z1 O'/\R (.tuple [.str (fmtZ n v),.q 0]) O') (z7/\(TEq [(4,.str (decF (v 0))),(36,.sub 0 1 1 z6),(37,.q (z6:Int)),(38,.q 0)] z4/\wac z1 z1)/\wbf n v=true/\z2/\∃(O':oL7),wac z1 O'/\R (.tuple [.str (fmtZ n v),.q 0]) O')))))):=by kernel_rfl
theorem wzm(n:Nat)(v:Nat->Int)(k:Nat)(P:Nat->Prop)(R:eR7):wav ⟨te,[(186,.det wgs)],[],1,49,0⟩ (wax Tryz.f171 7) [4,36,37,38] [4] [] (wmd n v) P R (wmd n v k)=(letI z2:=(↑(n - 1):Int);letI z1:=(v (1+(k:Int).toNat));letI z0:=([(0,.row 3 1 n (λ(i:Nat)=>[.q (v i)]) false)]:oL7);wab (decide ((k:Int)<z2)) (((0:Int)<=(k:Int)/\(k:Int)<z2/\1=1)/\(1+(k:Int).toNat<n/\1=1)/\((0:Int)<=v (1+(k:Int).toNat)/\v (1+(k:Int).toNat)<100)/\([(46:UInt8)]).length+(decF z1).length<=9223372036854775807/\(wc4 (v 0)++wcd v k).length+([(46:UInt8)]++decF z1).length<=9223372036854775807/\inR .i64 ((k:Int)+1)/\∃(i':Nat),(TEq [(4,.str (wc4 (v 0)++wcd v k++([(46:UInt8)]++decF z1))),(36,.sub 0 1 1 (n - 1)),(37,.q z2),(38,.q ((k:Int)+1))] [(4,.str (wc4 (v 0)++wcd v i')),(36,.sub 0 1 1 (n - 1)),(37,.q z2),(38,.q (i':Int))]/\wac z0 z0)/\P i') ((∀(i:Nat),i<n->true=true)/\∃(O':oL7),wac z0 O'/\R (.exit 0) (St.mk [(4,.str (wc4 (v 0)++wcd v k))] O' 1 []))):=by kernel_rfl
variable {C:Ctx} [C.Loose]
theorem w0t(hP:C.P=Tryz.prog)(n:Nat)(v:Nat->Int):wai C 1 25 (wak Tryz.f184 5) (L_mm n v (minV v)):=by
 have _:C.Loose:=inferInstance;rintro st Q ⟨h0,hn,hn2,hQ⟩;refine wai.mk (prg hP) [] 0 .nil [0,3,4] [3] [] (wfq n v (minV v)) (λk=>k+1<=n) (λk=>n - k) 0 hn h0 (λk hk=>?_) (λi=>⟨λ_ _=>rfl,trivial⟩);rw[wy2];refine waj (λh=>?_) (λh=>⟨λ_ _=>rfl,_,wbr,?_⟩)
 ·have e:((k:Int)+1).toNat=k+1:=by omega
  simp only[inR,e,and_true];exact⟨by omega,by omega,by omega,k+1,⟨rfl,wbr⟩,by omega,by omega⟩
 ·have:k=n - 1:=by omega
  rw[this];exact hQ
theorem w0w(hP:C.P=Tryz.prog)(n:Nat)(v:Nat->Int):wai C 1 25 (wak Tryz.f185 5) (L_mm n v (maxV v)):=by
 have _:C.Loose:=inferInstance;rintro st Q ⟨h0,hn,hn2,hQ⟩;refine wai.mk (prg hP) [] 0 .nil [0,3,4] [3] [] (wfq n v (maxV v)) (λk=>k+1<=n) (λk=>n - k) 0 hn h0 (λk hk=>?_) (λi=>⟨λ_ _=>rfl,trivial⟩);rw[wy5];refine waj (λh=>?_) (λh=>⟨λ_ _=>rfl,_,wbr,?_⟩)
 ·have e:((k:Int)+1).toNat=k+1:=by omega
  simp only[inR,e,and_true];exact⟨by omega,by omega,by omega,k+1,⟨rfl,wbr⟩,by omega,by omega⟩
 ·have:k=n - 1:=by omega
  rw[this];exact hQ
theorem min_ok(hP:C.P=Tryz.prog):wae C 184 wlr:=by
 rintro args objs U Os vc h hvc;unfold wlr at h;split at h<;>cases h;rename_i n t m f fr;obtain⟨rfl,rfl,hn,rfl,hn2,hf⟩:=hvc;generalize vInt f=v at hf;subst hf
 refine wae.wpL (prg hP) [] [(5,L_mm n v (minV v)),(1002,λ_ _=>False)] 0 .nil (hP ▸ Tryz.func184) rfl rfl rfl
  [(regC Tryz.f184 2,λ_ _=>False),(wak Tryz.f184 5,L_mm n v (minV v))] (by kernel_rfl) ⟨λ_ _ h=>h.elim,w0t hP n v,trivial⟩ ?_
 show wpFn _ _ _ _ _ _ [.row _ _ _ (λi=>[.q (v i)]) _] _;rw[nf_min];exact waj (λh=>absurd h (by omega)) (λ_=>⟨by omega,by omega,⟨rfl,wbr⟩,hn,hn2,λ_ _=>rfl,_,wbr,rfl,rfl⟩)
theorem max_ok(hP:C.P=Tryz.prog):wae C 185 wlt:=by
 rintro args objs U Os vc h hvc;unfold wlt at h;split at h<;>cases h;rename_i n t m f fr;obtain⟨rfl,rfl,hn,rfl,hn2,hf⟩:=hvc;generalize vInt f=v at hf;subst hf
 refine wae.wpL (prg hP) [] [(5,L_mm n v (maxV v)),(1002,λ_ _=>False)] 0 .nil (hP ▸ Tryz.func185) rfl rfl rfl
  [(regC Tryz.f185 2,λ_ _=>False),(wak Tryz.f185 5,L_mm n v (maxV v))] (by kernel_rfl) ⟨λ_ _ h=>h.elim,w0w hP n v,trivial⟩ ?_
 show wpFn _ _ _ _ _ _ [.row _ _ _ (λi=>[.q (v i)]) _] _;rw[nf_max];exact waj (λh=>absurd h (by omega)) (λ_=>⟨by omega,by omega,⟨rfl,wbr⟩,hn,hn2,λ_ _=>rfl,_,wbr,rfl,rfl⟩)
theorem ws9(hP:C.P=Tryz.prog):wae C 186 wgs:=by
 rintro args objs U Os vc h hvc;unfold wgs at h;split at h<;>cases h;rename_i n;obtain⟨i,rfl⟩:∃i:Nat,n=i:=⟨n.toNat,by omega⟩;refine wat.below ⟨Tryz.f186,hP ▸ Tryz.func186,rfl,by decide⟩ λw M cargs _ _ hM hl hv=>?_;obtain⟨a,rfl⟩:=mem1 hl;have:=(hv 0 _ _ rfl rfl).int_iff;subst this;rw[hP];refine(Tryz.strconv_Itoa_small i (by omega) w).mono ?_;rintro e w' ⟨rfl,rfl⟩;exact⟨_,rfl,Below.refl _ _,.str (by simp[decF])⟩
theorem w18(hP:C.P=Tryz.prog)(n:Nat)(v:Nat->Int):wai C 1 49 (wak Tryz.f171 7) (wnr n v):=by
 rintro st Q ⟨h0,hok,hQ⟩;have hv:=wt1 hok;have hn:=fmtOK_n hok;refine wai.mk (prg hP) [(186,.det wgs)] 0 (.cons (ws9 hP) .nil) [4,36,37,38] [4] [] (wmd n v) (λk=>k<=n - 1) (λk=>n - k) 0 (zL7 _) h0 (λk hk=>?_) (λi=>⟨λ_ _=>rfl,trivial⟩);rw[wzm];have hl1:=w2a (hv 0 (by omega));have hl2:=wt0 (n:=n) (λi hi=>hv i hi) k (by omega);refine waj (λh=>?_) (λh=>⟨λ_ _=>rfl,_,wbr,?_⟩)
 ·have hlt:k<n - 1:=by omega
  have e:1+(k:Int).toNat=k+1:=by omega
  have hk1:=hv (k+1) (by omega);have hl3:=wke hk1;simp only[inR,e,and_true,lA7,List.length_cons,List.length_nil];refine⟨by omega,by omega,by omega,by omega,by omega,by omega,k+1,⟨?_,wbr⟩,by omega,by omega⟩;unfold TEq;rw[show wcd v (k+1)=wcd v k++(46::decF (v (k+1))) from rfl];simp
 ·have:k=n - 1:=by omega
  rw[this];exact hQ
theorem w17(hP:C.P=Tryz.prog):wae C 171 wmb:=by
 rintro args objs U Os vc h hvc;unfold wmb at h;split at h<;>cases h;rename_i n t m f fr;obtain⟨rfl,rfl,rfl,hn2,hf⟩:=hvc;generalize vInt f=v at hf;subst hf
 refine wae.wpL (prg hP) [(184,.det wlr),(185,.det wlt),(186,.det wgs)] [(7,wnr n v)] 0 (.cons (min_ok hP) (.cons (max_ok hP) (.cons (ws9 hP) .nil))) (hP ▸ Tryz.func171) rfl rfl rfl
  [(wak Tryz.f171 7,wnr n v)] (by kernel_rfl) ⟨w18 hP n v,trivial⟩ ?_
 show wpFn _ _ _ _ _ _ [.row _ _ _ (λi=>[.q (v i)]) _] _;rw[wzn];have hvi:(vInt λi=>[AV.q (v i)])=v:=rfl;rw[hvi];have bad:wbf n v=false->(AV.tuple [.str [],.q 64]= .tuple [.str (bif wbf n v then fmtZ n v else []),.q (bif wbf n v then 0 else 64)]):=λh=>by rw[h];rfl
 have good:wbf n v=true->(AV.tuple [.str (fmtZ n v),.q 0]= .tuple [.str (bif wbf n v then fmtZ n v else []),.q (bif wbf n v then 0 else 64)]):=λh=>by rw[h];rfl
 refine waj (λh1=>⟨λ_ _=>rfl,_,wbr,bad ?_,rfl⟩) (λh1=>waj (λh2=>⟨λ_ _=>rfl,_,wbr,bad ?_,rfl⟩) (λh2=>⟨λ_ _=>rfl,⟨rfl,rfl,by omega,rfl,hn2,rfl⟩,λ_ _=>rfl,
  waj (λh3=>⟨λ_ _=>rfl,_,wbr,bad ?_,rfl⟩) (λh3=>⟨λ_ _=>rfl,⟨rfl,rfl,by omega,rfl,hn2,rfl⟩,λ_ _=>rfl,waj (λh4=>⟨λ_ _=>rfl,_,wbr,bad ?_,rfl⟩) (λh4=>?_)⟩)⟩))
 ·unfold wbf;rw[decide_eq_false (p:=1<=n) (by omega)];rfl
 ·unfold wbf;rw[decide_eq_false (p:=n<=5) (by omega)];simp
 ·unfold wbf;rw[decide_eq_false (p:=1<=minV v (n - 1)) (by omega)];simp
 ·unfold wbf;rw[decide_eq_false (p:=maxV v (n - 1)<=99) (by omega)];simp
 ·have hok:wbf n v=true:=by
   unfold wbf;rw[decide_eq_true (p:=1<=n) (by omega),decide_eq_true (p:=n<=5) (by omega),decide_eq_true (p:=1<=minV v (n - 1)) (by omega),decide_eq_true (p:=maxV v (n - 1)<=99) (by omega)];rfl
  have hv:=wt1 hok 0 (by omega);have hl3:=wke hv;refine⟨by omega,⟨by omega,rfl⟩,by omega,by omega,⟨by omega,rfl⟩,waj (λh5=>⟨by simp only[List.length_cons,List.length_nil];omega,by omega,⟨?_,wbr⟩,hok,λ_ _=>rfl,_,wbr,good hok,rfl⟩) (λh5=>⟨by omega,⟨?_,wbr⟩,hok,λ_ _=>rfl,_,wbr,good hok,rfl⟩)⟩
  ·unfold TEq wc4;rw[decide_eq_true h5];simp[wcd]
  ·unfold TEq wc4;rw[decide_eq_false h5];simp[wcd]
end Go.Eng
