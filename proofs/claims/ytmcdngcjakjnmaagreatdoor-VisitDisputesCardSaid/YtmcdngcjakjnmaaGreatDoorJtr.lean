/- Functions of the library: they compute what the plain functions say. -/
import Derived.Test.YtmcdngcjakjnmaaGreatDoorJtp
import Derived.Shelf.SlGeneric
import Derived.Ground.SlsfProg
import Derived.Shelf.SlSortCmp.NoneTotal
namespace Go.Proofs
open Go.Shelf
def Tryz.sort43_ren:Go.Shelf.Ren:=⟨λ | 6=>43 | 15=>83 | 14=>82 | 28=>110 | 29=>111 | 20=>102 | 21=>103 | 22=>104 | 23=>105 | 24=>106 | 25=>107 | 26=>108 | 27=>109 | 46=>125 | 47=>126 | 48=>127 | 49=>128 | 50=>129 | 57=>149 | n=>n,λ | 22=>70 | 24=>78 | 25=>84 | 3=>3 | 39=>117 | 0=>0 | 53=>124 | 55=>105 | 4=>4 | 46=>139 | 45=>138 | 50=>81 | 5=>5 | 9=>9 | 66=>152 | 70=>156 | 76=>172 | 77=>173 | n=>n,λ | n=>n⟩
theorem Tryz.sort43:Go.Proofs.SlLaysF0.n6 Tryz.prog Tryz.sort43_ren:={
 mixed:=by kernel_rfl
 f6:=⟨Tryz.f43.name,by decide,Tryz.func43.trans (congrArg some (by kernel_rfl))⟩
 f14:=⟨Tryz.f82.name,by decide,Tryz.func82.trans (congrArg some (by kernel_rfl))⟩
 f15:=Tryz.func83.trans (congrArg some (by kernel_rfl))
 f20:=⟨Tryz.f102.name,by decide,Tryz.func102.trans (congrArg some (by kernel_rfl))⟩
 f21:=⟨Tryz.f103.name,by decide,Tryz.func103.trans (congrArg some (by kernel_rfl))⟩
 f22:=⟨Tryz.f104.name,by decide,Tryz.func104.trans (congrArg some (by kernel_rfl))⟩
 f23:=⟨Tryz.f105.name,by decide,Tryz.func105.trans (congrArg some (by kernel_rfl))⟩
 f24:=⟨Tryz.f106.name,by decide,Tryz.func106.trans (congrArg some (by kernel_rfl))⟩
 f25:=⟨Tryz.f107.name,by decide,Tryz.func107.trans (congrArg some (by kernel_rfl))⟩
 f26:=⟨Tryz.f108.name,by decide,Tryz.func108.trans (congrArg some (by kernel_rfl))⟩
 f27:=⟨Tryz.f109.name,by decide,Tryz.func109.trans (congrArg some (by kernel_rfl))⟩
 f28:=Tryz.func110.trans (congrArg some (by kernel_rfl))
 f29:=Tryz.func111.trans (congrArg some (by kernel_rfl))
 f46:=⟨Tryz.f125.name,by decide,Tryz.func125.trans (congrArg some (by kernel_rfl))⟩
 f47:=Tryz.func126.trans (congrArg some (by kernel_rfl))
 f48:=Tryz.func127.trans (congrArg some (by kernel_rfl))
 f49:=⟨Tryz.f128.name,by decide,Tryz.func128.trans (congrArg some (by kernel_rfl))⟩
 f50:=⟨Tryz.f129.name,by decide,Tryz.func129.trans (congrArg some (by kernel_rfl))⟩
 f57:=⟨Tryz.f149.name,by decide,Tryz.func149.trans (congrArg some (by kernel_rfl))⟩
 t0:=Tryz.underlying0
 a0:=Tryz.isAgg0
 z0:=Tryz.sizeOf0
 v0:=Tryz.zeroValue0
 t3:=Tryz.underlying3
 a3:=Tryz.isAgg3
 z3:=Tryz.sizeOf3
 v3:=Tryz.zeroValue3
 t4:=Tryz.underlying4
 a4:=Tryz.isAgg4
 z4:=Tryz.sizeOf4
 v4:=Tryz.zeroValue4
 t5:=Tryz.underlying5
 a5:=Tryz.isAgg5
 z5:=Tryz.sizeOf5
 v5:=Tryz.zeroValue5
 t9:=Tryz.underlying9
 a9:=Tryz.isAgg9
 z9:=Tryz.sizeOf9
 v9:=Tryz.zeroValue9
 t22:=Tryz.underlying70
 a22:=Tryz.isAgg70
 z22:=Tryz.sizeOf70
 v22:=Tryz.zeroValue70
 t25:=Tryz.underlying84
 a25:=Tryz.isAgg84
 z25:=Tryz.sizeOf84
 v25:=Tryz.zeroValue84
 t39:=Tryz.underlying117
 a39:=Tryz.isAgg117
 z39:=Tryz.sizeOf117
 v39:=Tryz.zeroValue117
 t45:=Tryz.underlying138
 a45:=Tryz.isAgg138
 z45:=Tryz.sizeOf138
 v45:=Tryz.zeroValue138
 t46:=Tryz.underlying139
 a46:=Tryz.isAgg139
 z46:=Tryz.sizeOf139
 v46:=Tryz.zeroValue139
 t50:=Tryz.underlying81
 a50:=Tryz.isAgg81
 z50:=Tryz.sizeOf81
 v50:=Tryz.zeroValue81
 t53:=Tryz.underlying124
 a53:=Tryz.isAgg124
 z53:=Tryz.sizeOf124
 v53:=Tryz.zeroValue124
 t55:=Tryz.underlying105
 a55:=Tryz.isAgg105
 z55:=Tryz.sizeOf105
 v55:=Tryz.zeroValue105
 t66:=Tryz.underlying152
 a66:=Tryz.isAgg152
 z66:=Tryz.sizeOf152
 v66:=Tryz.zeroValue152
 t70:=Tryz.underlying156
 a70:=Tryz.isAgg156
 z70:=Tryz.sizeOf156
 v70:=Tryz.zeroValue156
 t76:=Tryz.underlying172
 a76:=Tryz.isAgg172
 z76:=Tryz.sizeOf172
 v76:=Tryz.zeroValue172
 t77:=Tryz.underlying173
 a77:=Tryz.isAgg173
 z77:=Tryz.sizeOf173
 v77:=Tryz.zeroValue173 }
def Tryz.sort97_ren:Go.Shelf.Ren:=⟨λ | 6=>97 | 15=>83 | 14=>121 | 28=>110 | 29=>111 | 20=>140 | 21=>141 | 22=>142 | 23=>143 | 24=>144 | 25=>145 | 26=>146 | 27=>147 | 46=>159 | 47=>126 | 48=>127 | 49=>160 | 50=>161 | 57=>168 | n=>n,λ | 22=>22 | 24=>47 | 25=>135 | 3=>3 | 39=>117 | 0=>0 | 53=>124 | 55=>105 | 4=>4 | 46=>139 | 45=>138 | 50=>81 | 5=>5 | 9=>9 | 66=>152 | 70=>156 | 76=>172 | 77=>173 | n=>n,λ | n=>n⟩
theorem Tryz.sort97:Go.Proofs.SlLaysF0.n6 Tryz.prog Tryz.sort97_ren:={
 mixed:=by kernel_rfl
 f6:=⟨Tryz.f97.name,by decide,Tryz.func97.trans (congrArg some (by kernel_rfl))⟩
 f14:=⟨Tryz.f121.name,by decide,Tryz.func121.trans (congrArg some (by kernel_rfl))⟩
 f15:=Tryz.func83.trans (congrArg some (by kernel_rfl))
 f20:=⟨Tryz.f140.name,by decide,Tryz.func140.trans (congrArg some (by kernel_rfl))⟩
 f21:=⟨Tryz.f141.name,by decide,Tryz.func141.trans (congrArg some (by kernel_rfl))⟩
 f22:=⟨Tryz.f142.name,by decide,Tryz.func142.trans (congrArg some (by kernel_rfl))⟩
 f23:=⟨Tryz.f143.name,by decide,Tryz.func143.trans (congrArg some (by kernel_rfl))⟩
 f24:=⟨Tryz.f144.name,by decide,Tryz.func144.trans (congrArg some (by kernel_rfl))⟩
 f25:=⟨Tryz.f145.name,by decide,Tryz.func145.trans (congrArg some (by kernel_rfl))⟩
 f26:=⟨Tryz.f146.name,by decide,Tryz.func146.trans (congrArg some (by kernel_rfl))⟩
 f27:=⟨Tryz.f147.name,by decide,Tryz.func147.trans (congrArg some (by kernel_rfl))⟩
 f28:=Tryz.func110.trans (congrArg some (by kernel_rfl))
 f29:=Tryz.func111.trans (congrArg some (by kernel_rfl))
 f46:=⟨Tryz.f159.name,by decide,Tryz.func159.trans (congrArg some (by kernel_rfl))⟩
 f47:=Tryz.func126.trans (congrArg some (by kernel_rfl))
 f48:=Tryz.func127.trans (congrArg some (by kernel_rfl))
 f49:=⟨Tryz.f160.name,by decide,Tryz.func160.trans (congrArg some (by kernel_rfl))⟩
 f50:=⟨Tryz.f161.name,by decide,Tryz.func161.trans (congrArg some (by kernel_rfl))⟩
 f57:=⟨Tryz.f168.name,by decide,Tryz.func168.trans (congrArg some (by kernel_rfl))⟩
 t0:=Tryz.underlying0
 a0:=Tryz.isAgg0
 z0:=Tryz.sizeOf0
 v0:=Tryz.zeroValue0
 t3:=Tryz.underlying3
 a3:=Tryz.isAgg3
 z3:=Tryz.sizeOf3
 v3:=Tryz.zeroValue3
 t4:=Tryz.underlying4
 a4:=Tryz.isAgg4
 z4:=Tryz.sizeOf4
 v4:=Tryz.zeroValue4
 t5:=Tryz.underlying5
 a5:=Tryz.isAgg5
 z5:=Tryz.sizeOf5
 v5:=Tryz.zeroValue5
 t9:=Tryz.underlying9
 a9:=Tryz.isAgg9
 z9:=Tryz.sizeOf9
 v9:=Tryz.zeroValue9
 t22:=Tryz.underlying22
 a22:=Tryz.isAgg22
 z22:=Tryz.sizeOf22
 v22:=Tryz.zeroValue22
 t25:=Tryz.underlying135
 a25:=Tryz.isAgg135
 z25:=Tryz.sizeOf135
 v25:=Tryz.zeroValue135
 t39:=Tryz.underlying117
 a39:=Tryz.isAgg117
 z39:=Tryz.sizeOf117
 v39:=Tryz.zeroValue117
 t45:=Tryz.underlying138
 a45:=Tryz.isAgg138
 z45:=Tryz.sizeOf138
 v45:=Tryz.zeroValue138
 t46:=Tryz.underlying139
 a46:=Tryz.isAgg139
 z46:=Tryz.sizeOf139
 v46:=Tryz.zeroValue139
 t50:=Tryz.underlying81
 a50:=Tryz.isAgg81
 z50:=Tryz.sizeOf81
 v50:=Tryz.zeroValue81
 t53:=Tryz.underlying124
 a53:=Tryz.isAgg124
 z53:=Tryz.sizeOf124
 v53:=Tryz.zeroValue124
 t55:=Tryz.underlying105
 a55:=Tryz.isAgg105
 z55:=Tryz.sizeOf105
 v55:=Tryz.zeroValue105
 t66:=Tryz.underlying152
 a66:=Tryz.isAgg152
 z66:=Tryz.sizeOf152
 v66:=Tryz.zeroValue152
 t70:=Tryz.underlying156
 a70:=Tryz.isAgg156
 z70:=Tryz.sizeOf156
 v70:=Tryz.zeroValue156
 t76:=Tryz.underlying172
 a76:=Tryz.isAgg172
 z76:=Tryz.sizeOf172
 v76:=Tryz.zeroValue172
 t77:=Tryz.underlying173
 a77:=Tryz.isAgg173
 z77:=Tryz.sizeOf173
 v77:=Tryz.zeroValue173 }
end Go.Proofs
namespace Go.Eng
open Go.Proofs Go.RowKit Go.Sort
def valA:AV->Value
 |.str l=>.string ⟨l.toArray⟩
 |.int k n=>.int k n
 |.bool b=>.bool b
 |_=>default
def weq:AV->Bool
 |.str _=>true
 |.int _ _=>true
 |.bool _=>true
 |_=>false
theorem wv4{w:World}{M:Nat->Prop}{bs:Nat->Option Hd}{v:Value}{u:AV}(hp:weq u=true)(h:V w M bs v u):v=valA u:=by
 cases u<;>simp only[weq,Bool.false_eq_true] at hp
 ·cases h;rfl
 ·cases h;rfl
 ·exact h.str_iff
theorem wsq{w:World}{M:Nat->Prop}{bs:Nat->Option Hd}{u:AV}(hp:weq u=true):V w M bs (valA u) u:=by
 cases u<;>simp only[weq,Bool.false_eq_true] at hp
 ·exact .bool
 ·exact .int
 ·exact .str rfl
theorem wsp{u:AV}(hp:weq u=true):(valA u).oneCell'=true:=by
 cases u<;>simp only[weq,Bool.false_eq_true] at hp<;>rfl
def Ctx.bare(P:Program)(h:P.follows .mixedOrders=true):Ctx:=⟨P,0,λ_=>True,h,λ_ _ _ h=>h,true⟩
theorem grow_of{w w':World}(h1:w'.os=w.os)(h2:w'.tape=w.tape)(h3:w'.output=w.output)(h4:w.heap.size<=w'.heap.size)(h5:∀b,b<w.heap.size->w'.heap[b]?=w.heap[b]?)(h6:w.drawn<=w'.drawn):
  ∃q os,w'=grow (w.drewN q) os:=by
 refine⟨w'.drawn - w.drawn,w'.heap.extract w.heap.size w'.heap.size,?_⟩;obtain⟨hp,tp,dr,os,out⟩:=w;obtain⟨hp',tp',dr',os',out'⟩:=w';simp only at h1 h2 h3 h4 h5 h6;subst h1;subst h2;subst h3;simp only[grow,World.drewN,World.mk.injEq,and_true,true_and];refine⟨?_,by omega⟩;apply Array.ext_getElem?;intro i;rw[Array.getElem?_append]
 by_cases h:i<hp.size
 ·rw[if_pos h,h5 i h]
 ·rw[if_neg h,Array.getElem?_extract]
  by_cases h':i<hp'.size
  ·rw[if_pos (by omega)];congr 1;omega
  ·rw[if_neg (by omega),Array.getElem?_eq_none (by omega)]
theorem ADet.grown{P:Program}{hm:P.follows .mixedOrders=true}{f:FuncId}{args:List AV}{u:AV}(h:ADet (Ctx.bare P hm) f args [] u [])(hu:weq u=true){w:World}{cargs:List Value}(hlen:cargs.length=args.length)
  (hV:∀(j:Nat) v x,cargs[j]?=some v->args[j]?=some x->V w (λ_=>False) nob v x):Calls P f cargs.toArray w λe w'=>e= .returned (valA u)/\∃q os,w'=grow (w.drewN q) os:=by
 have no:∀r,lkL [] r=none:=λr=>by cases r<;>rfl
 have nm:∀b',¬ mutB (lkL []) nob b':=by
  rintro b' ⟨r,o,c,ho,_⟩;rw[no r] at ho;cases ho
 have hw:WRep (Ctx.bare P hm) ⟨w,0,nob,λ_=>False,λ_=>False⟩ (lkL []) nob w:={
  obj:=λr o ho=>by rw[no r] at ho;cases ho
  sep:=λr r' o o' b c c' ho=>by rw[no r] at ho;cases ho
  out:=λb hb=>absurd hb (nm b)
  frz:=λr t sz n f b c ho=>by rw[no r] at ho;cases ho
  high:=λb hb=>zL7 _
  lt:=λr b c hb=>by simp[nob] at hb
  outlt:=λb hb=>hb.elim
  keep:=λb _ _=>rfl
  old:=λb hb=>absurd hb (nm b)
  size:=lR7 _
  pre:=λr x hr=>absurd hr (nZ7 r)
  os:=rfl
  tape:=.refl _ _
  output:=rfl
  laid:=trivial
  gle:=zL7 _ }
 refine(h.2 ⟨w,0,nob,λ_=>False,λ_=>False⟩ nob w cargs rfl rfl rfl hw (λ_ _=>rfl) hlen (λj v u hv hu=>(hV j v u hv hu).step_ (λb _ _ hb=>?_) (λ_ _ _=>rfl) (lR7 _) nob (λ_ _ h=>h))).mono ?_
 ·rcases hb with hb | hb
  ·exact hb
  ·exact nm b hb
 ·rintro e w' ⟨v,u',O',bs',rfl,⟨rfl,rfl⟩,hw',hV',_⟩;rw[wv4 hu hV'];exact⟨rfl,grow_of hw'.os hw'.tape.tape hw'.output hw'.size (λi hi=>hw'.keep i hi (λh=>h)) (hw'.tape.drawn rfl)⟩
section
variable {α:Type} [Inhabited α]
def encV(enc:α->List AV)(x:α):List Value:=(enc x).map valA
theorem arr_get(n:Nat)(f:Nat->α){i:Nat}(hi:i<n):(((List.range n).map f).toArray)[i]! =f i:=by simp[hi]
theorem war.sortK{C:Ctx}(enc:α->List AV)(k:Nat)(hk:∀x,(enc x).length=k)(hp:∀x u,u∈enc x->weq u=true)(cf:α->α->Int){fS g:FuncId}{t:TypeId}(heS:wiv C.P fS)
  (hS:∀(blk cap:Nat) (d:Array α) (w:World),CmpLays C.P g #[] (encV enc) k cf blk 0 d.size w->HoldsK (encV enc) k w blk 0 d->blk<w.heap.size->d.size<4611686018427387904->
   Calls C.P fS #[.slice (some ⟨blk,0,none⟩) d.size cap,.func (.func g) #[] #[]] w λe w'=>e= .returned (.tuple #[])/\∃d' n os,PermIn 0 d.size d d'/\SortedIn (ltOf cf) 0 d.size d'/\w'=sortWorldK (encV enc) k w blk 0 n d' os)
  (hN:∀(p:Option Addr) (cap:Nat) (fv:Value) (w:World),Calls C.P fS #[.slice p 0 cap,fv] w λe w'=>e= .returned (.tuple #[])/\w'=w)
  (hc:∀x y,ADet (Ctx.bare C.P C.mixed) g [.agg (enc x),.agg (enc y)] [] (.int .i64 (cf x y)) [])
  {n:Nat} (f:Nat->α) (hn:n<4611686018427387904):
  war C fS [.own 0 n,.func g []] [.row t k n (λi=>enc (f i)) false] λu O=>u= .tuple []/\∃f':Nat->α,((List.range n).map f').Perm ((List.range n).map f)/\(∀i j,i<j->j<n->¬ cf (f' j) (f' i)<0)/\
   O=[(0,.row t k n (λi=>enc (f' i)) false)]:=by
 refine⟨heS,λE bs w cargs h1 h2 h3 hW h5 h6 h7=>?_⟩;obtain⟨a,b,rfl⟩:∃a b,cargs=[a,b]:=by
  match cargs,h6 with
  |[a,b],_=>exact⟨a,b,rfl⟩
 have V0:=h7 0 _ _ rfl rfl;have V1:=h7 1 _ _ rfl rfl;generalize hu:AV.func g []=uf at V1
 cases V1<;>cases hu;rename_i caps hl hv;obtain rfl:caps=#[]:=Array.eq_empty_of_size_eq_zero hl;have hO:lkL [AObj.row t k n (λi=>enc (f i)) false]=lk [(0,.row t k n (λi=>enc (f i)) false)]:=by
  funext i
  cases i with
  |zero=>rfl
  |succ i=>rw[wax,if_neg (by show ¬ 0=i+1;omega)];simp[lkL,lk]
 have hbs:∀r,1+16<=r->lk [(0,AObj.row t k n (λi=>enc (f i)) false)] r=none/\bs r=none:=λr hr=>⟨by rw[wax,if_neg (by show ¬ 0=r;omega)];rfl,h5 r (by show 1<=r;omega)⟩;rw[hO] at hW V0;generalize huo:AV.own 0 n=uo at V0
 cases V0<;>cases huo
 case func.refl.ownnil.refl A x1 x2=>
  have hn0:n=0:=by assumption
  clear x1 x2;subst hn0;refine(hN A 0 _ w).mono ?_;rintro e w' ⟨rfl,rfl⟩;refine⟨_,.tuple [],[(0,.row t k 0 (λi=>enc (f i)) false)],bs,rfl,⟨rfl,f,.refl _,λi j _ hj=>absurd hj (nZ7 j),rfl⟩,hW,.tuple rfl (λj v u hv hu=>by simp at hu),hbs⟩
 case func.refl.own.refl bk c x1 x2 x3=>
  have hb:bs 0=some (.blk bk c):=by assumption
  clear x1 x2 x3;have hrow:=hW.obj 0 _ rfl
  rcases hrow with⟨h,_⟩ | ⟨bk',c',vs,hb',hh,hnc',hcm',hsz,hln,hone,hval⟩
  ·rw[h] at hb;cases hb
  obtain⟨rfl,rfl⟩:bk'=bk/\c'=c:=by
   rw[hb'] at hb;injection hb with hb;injection hb with e1 e2;exact⟨e1,e2⟩
  have hblk:bk'<w.heap.size:=hW.lt _ _ _ hb';have hle:n * k<=vs.size:=by rw[hsz];exact Nat.mul_le_mul_right k hnc'
  have hdiv:∀q,q<n * k->q / k<n/\q % k<k/\q / k * k+q % k=q:=λq hq=>by
   have k0:0<k:=by
    rcases Nat.eq_zero_or_pos k with h | h
    ·subst h;simp at hq
    ·exact h
   exact⟨Nat.div_lt_of_lt_mul (by rwa [Nat.mul_comm]),Nat.mod_lt _ k0,Nat.div_add_mod' q k⟩
  have hds:(((List.range n).map f).toArray).size=n:=by simp
  have hlen:∀x,(encV enc x).length=k:=λx=>by simp[encV,hk]
  have hH:HoldsK (encV enc) k w bk' 0 ((List.range n).map f).toArray:=by
   intro q hq;rw[size_flatK,hds] at hq;obtain⟨q1,q2,q3⟩:=hdiv q hq;rw[get_flatK _ _ _ _ (by rw[hds];exact hq),arr_get n f q1,Nat.zero_add];have hlt:q<vs.size:=by omega
   refine⟨?_,?_⟩
   ·rw[cell_of_row w bk' q vs t (0,0) hh];have hg:vs[q / k * k+q % k]?=some vs[q]:=by rw[q3];exact Array.getElem?_eq_getElem hlt
    have hu:(enc (f (q / k)))[q % k]?=some ((enc (f (q / k)))[q % k]'(by rw[hk];exact q2)):=List.getElem?_eq_getElem _;have:=wv4 (hp _ _ (List.mem_of_getElem? hu)) (hval (q / k) q1 (q % k) _ _ q2 hg hu);show vs[q]?=some (((enc (f (q / k))).map valA)[q % k]!);rw[Array.getElem?_eq_getElem hlt,this];congr 1;simp[hk,q2]
   ·simp[World.frozen?,hh]
  have hC:CmpLays C.P g #[] (encV enc) k cf bk' 0 ((List.range n).map f).toArray.size w:=by
   intro m os dk _ x y;have:=ADet.grown (hc x y) rfl (w:=sortWorldK (encV enc) k w bk' 0 m dk os) (cargs:=[.agg (encV enc x).toArray,.agg (encV enc y).toArray]) rfl (λj v u hv hu=>?_)
   ·simpa[valA] using this
   have ag:∀z:α,V (sortWorldK (encV enc) k w bk' 0 m dk os) (λ_=>False) nob (.agg (encV enc z).toArray) (.agg (enc z)):=λz=>by
    refine .agg (by simp[encV]) (λj v hv=>?_) (λj v u hv hu=>?_)
    ·simp only[List.getElem?_toArray,encV,List.getElem?_map,Option.map_eq_some_iff] at hv;obtain⟨u,hu,rfl⟩:=hv;exact wsp (hp _ _ (List.mem_of_getElem? hu))
    ·simp only[List.getElem?_toArray,encV,List.getElem?_map,hu,Option.map_some,sI7] at hv;subst hv;exact wsq (hp _ _ (List.mem_of_getElem? hu))
   match j with
   |0=>obtain rfl:=oJ7 hv;obtain rfl:=oJ7 hu;exact ag x
   |1=>obtain rfl:=oJ7 hv;obtain rfl:=oJ7 hu;exact ag y
   |j+2=>simp at hv
  have hcall:=hS bk' c' ((List.range n).map f).toArray w hC hH hblk (by rw[hds];exact hn);rw[hds] at hcall;refine hcall.mono ?_;rintro e w' ⟨rfl,d',m,os,hperm,hsort,rfl⟩;have hd':d'.size=n:=hperm.1.trans hds;have hlist:d'.toList=(List.range n).map (λi=>d'[i]!):=by
   apply List.ext_getElem?;intro i;rw[List.getElem?_map,Array.getElem?_toList]
   by_cases hi:i<n
   ·rw[List.getElem?_range hi,Option.map_some,getElem!_pos d' i (by omega),Array.getElem?_eq_getElem (by omega)]
   ·rw[Array.getElem?_eq_none (by omega),List.getElem?_eq_none (by simp;omega)];rfl
  have hnb:∀(o':AObj),lk [(0,o')]=up (lk [(0,AObj.row t k n (λi=>enc (f i)) false)]) 0 o':=λo'=>by
   funext i;rw[wax]
   by_cases h:(0:Nat)=i
   ·rw[if_pos h, ← h,wap]
   ·rw[if_neg h,wao _ _ _ h,wax,if_neg h]
  have hheap:∀b,b<w.heap.size->b≠bk'->(sortWorldK (encV enc) k w bk' 0 m d' os).heap[b]?=w.heap[b]?:=λb hb hne=>by
   show ((putRowK (encV enc) k (Sort.ahead w m) bk' 0 d').heap++os)[b]?=_;rw[Array.getElem?_append_left (by show b<(putRowK _ _ _ _ _ _).heap.size;rw[show (putRowK (encV enc) k (Sort.ahead w m) bk' 0 d').heap.size=w.heap.size from by simp[putRowK]];exact hb)];simp[putRowK,putRow,mapBlock,Array.getElem?_modify,Ne.symm hne]
  have hsize:w.heap.size<=(sortWorldK (encV enc) k w bk' 0 m d' os).heap.size:=by simp[sortWorldK,grow,putRowK]
  have hnew:(sortWorldK (encV enc) k w bk' 0 m d' os).heap[bk']?=some (.cells (putCells id 0 (flatK (encV enc) k d') vs) t (0,0)):=by
   show ((putRowK (encV enc) k (Sort.ahead w m) bk' 0 d').heap++os)[bk']?=_;rw[Array.getElem?_append_left (by rw[show (putRowK (encV enc) k (Sort.ahead w m) bk' 0 d').heap.size=w.heap.size from by simp[putRowK]];exact hblk)];simp[putRowK,putRow,mapBlock,Array.getElem?_modify,hh,onCells]
  have hcell:∀i,i<n->∀j,j<k->∀v,(putCells id 0 (flatK (encV enc) k d') vs)[i * k+j]?=some v->∃u,(enc d'[i]!)[j]?=some u/\v=valA u:=λi hi j hj v hv=>by
   have hlt:i * k+j<n * k:=by
    have:=Nat.mul_le_mul_right k (show i+1<=n from hi);rw[Nat.add_mul,Nat.one_mul] at this;omega
   have hlt2:i * k+j<vs.size:=by omega
   simp only[putCells,Array.getElem?_mapIdx,Array.getElem?_eq_getElem hlt2,Option.map_some,size_flatK,hd',zL7,Nat.zero_add,hlt,and_self,if_true,Nat.sub_zero,sI7,id] at hv;rw[get_flatK _ _ _ _ (by rw[hd'];exact hlt)] at hv;have e1:(i * k+j) / k=i:=(blk_iff k i _ (by omega)).1 ⟨by omega,by omega⟩;have e2:(i * k+j) % k=j:=by rw[Nat.mod_eq_sub_div_mul,e1];omega
   rw[e1,e2] at hv;refine⟨(enc d'[i]!)[j]'(by rw[hk];exact hj),List.getElem?_eq_getElem _,?_⟩;rw[← hv];simp[encV,hk,hj]
  refine⟨_,.tuple [],[(0,.row t k n (λi=>enc d'[i]!) false)],bs,rfl,⟨rfl,λi=>d'[i]!,?_,λi j hij hj=>?_,rfl⟩,?_,.tuple rfl (λj v u hv hu=>by simp at hu),λr hr=>⟨by rw[wax,if_neg (by show ¬ 0=r;exact λh=>by subst h;simp at hr)];rfl,(hbs r hr).2⟩⟩
  ·have:=hperm.2.2;have e1:d'.extract 0 n=d':=by rw[← hd'];exact Array.extract_size
   have e2:((List.range n).map f).toArray.extract 0 n=((List.range n).map f).toArray:=by
    have:=Array.extract_size (xs:=((List.range n).map f).toArray)
    rwa [hds] at this
   rw[e1,e2] at this;rw[← hlist];simpa using this
  ·have:=hsort i j (zL7 _) hij hj;simpa[ltOf] using this
  ·have hmb:∀b,mutB (lk [(0,AObj.row t k n (λi=>enc d'[i]!) false)]) bs b->mutB (lk [(0,AObj.row t k n (λi=>enc (f i)) false)]) bs b:=by
    rintro b ⟨r,o,c2,ho,hm,hb2⟩;rw[wax] at ho
    by_cases h:(0:Nat)=r
    ·subst h;exact⟨0,_,c2,rfl,rfl,hb2⟩
    ·rw[if_neg h] at ho;cases ho
   refine(hW.next (w':=sortWorldK (encV enc) k w bk' 0 m d' os) (λb=>b=bk') (λi h hi=>hi) (λi b c' hi=>.inl hi) (λb hb2=>by subst hb2;exact⟨0,_,c',rfl,rfl,hb'⟩) (λb hb2 hne=>hheap b hb2 hne) hsize (λb hb2=>.inl (hmb b hb2)) (λhSt i o' ho=>?_)
    (λi j o1 o2 b c1 c2 hi hj m1 m2 bi bj=>?_) (λi t' sz' n' f' b c2 ho hb2=>?_) rfl ⟨rfl,λ_=>Nat.le_add_right _ _⟩ rfl).2
   ·rw[wax] at ho
    by_cases h:(0:Nat)=i
    ·subst h;rw[if_pos rfl] at ho;injection ho with ho;subst ho;refine .inr (.inr ⟨bk',c',_,hb',hnew,hnc',hcm',by simp[putCells,hsz],λi hi=>hk _,λi hi j hj v hv=>?_,λi hi j v u hj hv hu=>?_⟩)
     ·obtain⟨u,hu,rfl⟩:=hcell i hi j hj v hv;exact wsp (hp _ _ (List.mem_of_getElem? hu))
     ·obtain⟨u',hu',rfl⟩:=hcell i hi j hj v hv;have hu:(enc d'[i]!)[j]?=some u:=hu;rw[hu'] at hu;injection hu with hu;subst hu;exact wsq (hp _ _ (List.mem_of_getElem? hu'))
    ·rw[if_neg h] at ho;cases ho
   ·rw[wax] at hi hj
    by_cases h:(0:Nat)=i
    ·by_cases h':(0:Nat)=j
     ·rw[← h, ← h']
     ·rw[if_neg h'] at hj;cases hj
    ·rw[if_neg h] at hi;cases hi
   ·rw[wax] at ho
    by_cases h:(0:Nat)=i
    ·rw[if_pos h] at ho;cases ho
    ·rw[if_neg h] at ho;cases ho
end
end Go.Eng
namespace Go.Eng
open Go.Proofs Go.RowKit Go.Sort
variable {C:Ctx}
set_option maxRecDepth 20000
theorem nf_nan(x:Int)(R:oR7):wpFn te [] [] 0 Tryz.f101 [.q x] [] R=(R (.bool !decide (x=x)) []):=by kernel_rfl
theorem nf_icmp(a b:Int)(R:oR7):wpFn te [(101,.det we5)] [] 0 Tryz.f81 [.q a,.q b] [] R=(True/\True/\wab (decide (a<b)) (R (.q (-1:Int)) []) (wab (decide (b<a)) (R (.q 1) []) (R (.q 0) []))):=by kernel_rfl
theorem w0c(x:Int)(R:oR7):wpFn te [] [] 0 Tryz.f148 [.q x] [] R=(R (.bool !decide (x=x)) []):=by kernel_rfl
theorem w0w(a b:Int)(R:oR7):wpFn te [(148,.det we5)] [] 0 Tryz.f123 [.q a,.q b] [] R=(True/\True/\wab (decide (a<b)) (R (.q (-1:Int)) []) (wab (decide (b<a)) (R (.q 1) []) (R (.q 0) []))):=by kernel_rfl
theorem nf_or(f:Nat->List AV)(n:Nat)(R:oR7):wpFn te [] [(3,L_or (vInt f) n)] 0 Tryz.f79 [.own 0 n] [.row 3 1 n f false] R=(letI z0:=([(0,.row 3 1 n (waj (vInt f)) false)]:oL7);(TEq [(3,.q 0),(6,.own 0 n),(7,.q (n:Int)),(8,.q 0)] [(3,.q 0),(6,.own 0 n),(7,.q (n:Int)),(8,.q (↑0:Int))]/\wac [(0,.row 3 1 n f false)] z0)/\n<=100/\wab (decide (orN (vInt f) n=0)) ((∀(i:Nat),i<n->true=true)/\∃(O':oL7),wac z0 O'/\R (.q 0) O') ((∀(i:Nat),i<n->true=true)/\∃(O':oL7),wac z0 O'/\R (.q (orN (vInt f) n)) O')):=by kernel_rfl
theorem wz6(v:Nat->Int)(n k:Nat)(P:Nat->Prop)(R:eR7):wat ⟨te,[],[],1,18,0⟩ (wau Tryz.f79 3) [3,6,7,8] [3] [2] (wl5 v n) P R (wl5 v n k)=(letI z0:=([(0,.row 3 1 n (waj v) false)]:oL7);wab (decide ((k:Int)<(n:Int))) (((0:Int)<=(k:Int)/\(k:Int)<(n:Int))/\((k:Int).toNat<n/\1=1)/\wab (!decide (v (k:Int).toNat=0)) ((∀(i:Nat),i<n->true=true)/\∃(O':oL7),wac z0 O'/\R .ret (St.mk [(2,.q (v (k:Int).toNat))] O' 1 [])) (inR .i64 ((k:Int)+1)/\∃(i':Nat),(TEq [(3,.q 0),(6,.own 0 n),(7,.q (n:Int)),(8,.q ((k:Int)+1))] [(3,.q 0),(6,.own 0 n),(7,.q (n:Int)),(8,.q (i':Int))]/\wac z0 z0)/\P i')) ((∀(i:Nat),i<n->true=true)/\∃(O':oL7),wac z0 O'/\R (.exit 0) (St.mk [(3,.q 0)] O' 1 []))):=by kernel_rfl
theorem wve:∀a b:List UInt8,Lib.compareBytes a b=cmpS a b
 |[],[]=>rfl
 |[],_::_=>rfl
 |_::_,[]=>rfl
 |a::x,b::y=>by
  have ih:=wve x y;rw[Lib.compareBytes,ih];unfold cmpS;simp only[Op.bytesLess]
  by_cases h:a<b
  ·simp[h]
  ·by_cases h':b<a
   ·have:(a==b)=false:=by
     rw[beq_eq_false_iff_ne];exact λe=>by subst e;exact h h'
    simp[h,h',this]
   ·have e:a=b:=by
     rcases Nat.lt_trichotomy a.toNat b.toNat with q | q | q
     ·exact absurd q h
     ·exact UInt8.toNat_inj.1 q
     ·exact absurd q h'
    subst e;simp[h]
theorem wr2(hP:C.P=Tryz.prog):wad C 80 wgy:=by
 rintro args objs U Os vc h hvc;unfold wgy at h;split at h<;>cases h;rename_i a b;refine war.quiet ⟨Tryz.f80,hP ▸ Tryz.func80,rfl,by decide⟩ λE bs w cargs hW hl hv=>?_;obtain⟨x,y,rfl⟩:∃x y,cargs=[x,y]:=by
  match cargs,hl with
  |[x,y],_=>exact⟨x,y,rfl⟩
 have e1:=(hv 0 _ _ rfl rfl).str_iff;have e2:=(hv 1 _ _ rfl rfl).str_iff;subst e1;subst e2;rw[hP];refine(Tryz.strings_Compare ⟨a.toArray⟩ ⟨b.toArray⟩ w).mono ?_;rintro e w' ⟨rfl,rfl⟩;refine⟨_,rfl,rfl,?_⟩;rw[wve];exact .int
theorem nan_ok(hP:C.P=Tryz.prog):wad C 101 we5:=by
 rintro args objs U Os vc h hvc;unfold we5 at h;split at h<;>cases h;refine wad.wp0 (prg hP) [] 0 .nil (hP ▸ Tryz.func101) rfl rfl rfl ?_;rw[nf_nan,decide_eq_true rfl];exact⟨rfl,rfl⟩
theorem w1r(hP:C.P=Tryz.prog):wad C 148 we5:=by
 rintro args objs U Os vc h hvc;unfold we5 at h;split at h<;>cases h;refine wad.wp0 (prg hP) [] 0 .nil (hP ▸ Tryz.func148) rfl rfl rfl ?_;rw[w0c,decide_eq_true rfl];exact⟨rfl,rfl⟩
theorem wt6(hP:C.P=Tryz.prog):wad C 81 wd0:=by
 rintro args objs U Os vc h hvc;unfold wd0 at h;split at h<;>cases h;refine wad.wp0 (prg hP) [(101,.det we5)] 0 (.cons (nan_ok hP) .nil) (hP ▸ Tryz.func81) rfl rfl rfl ?_;rw[nf_icmp];unfold cmpI;exact⟨trivial,trivial,wal (λh=>by rw[h];exact⟨rfl,rfl⟩) (λh=>wal (λk=>by rw[h,k];exact⟨rfl,rfl⟩) (λk=>by rw[h,k];exact⟨rfl,rfl⟩))⟩
theorem w29(hP:C.P=Tryz.prog):wad C 123 wd0:=by
 rintro args objs U Os vc h hvc;unfold wd0 at h;split at h<;>cases h;refine wad.wp0 (prg hP) [(148,.det we5)] 0 (.cons (w1r hP) .nil) (hP ▸ Tryz.func123) rfl rfl rfl ?_;rw[w0w];unfold cmpI;exact⟨trivial,trivial,wal (λh=>by rw[h];exact⟨rfl,rfl⟩) (λh=>wal (λk=>by rw[h,k];exact⟨rfl,rfl⟩) (λk=>by rw[h,k];exact⟨rfl,rfl⟩))⟩
theorem wst{v:Nat->Int}{k:Nat}(h:orN v k=0)(hv:v k≠0):∀n,k<n->orN v n=v k
 |0,hn=>by omega
 |n+1,hn=>by
  rw[orN]
  by_cases e:k=n
  ·subst e;rw[h];rfl
  ·rw[wst h hv n (by omega),decide_eq_false hv];rfl
theorem or_loop(hP:C.P=Tryz.prog)(v:Nat->Int)(n:Nat):waf C 1 18 (wah Tryz.f79 3) (L_or v n):=by
 rintro st Q ⟨h0,hn,hQ⟩;have hR:=wb0 hQ;refine waf.mk (prg hP) [] 0 .nil [3,6,7,8] [3] [2] (wl5 v n) (λk=>k<=n/\orN v k=0) (λk=>n - k) 0 ⟨zL7 _,rfl⟩ h0 (λk hk=>?_) (λi=>⟨λ_ _=>rfl,trivial⟩);obtain⟨hkn,hok⟩:=hk;rw[wz6,tN7];refine wag (λh1=>⟨⟨by omega,by omega⟩,⟨by omega,rfl⟩,waw (λh2=>⟨λ_ _=>rfl,_,wav _,?_⟩) (λh2=>⟨by simp only[inR];omega,k+1,⟨rfl,wav _⟩,⟨by omega,?_⟩,by omega⟩)⟩) (λh1=>⟨λ_ _=>rfl,_,wav _,?_⟩)
 ·have e:=wst hok h2 n (by omega);have:=hR.2 (by rw[e,decide_eq_false h2]);rw[e] at this;exact this
 ·rw[orN,hok];exact h2
 ·have:k=n:=by omega
  subst this;exact hR.1 (by rw[hok];rfl)
theorem or_ok(hP:C.P=Tryz.prog):wad C 79 S_or:=by
 rintro args objs U Os vc h hvc;unfold S_or at h;split at h<;>cases h;rename_i n t m f fr;obtain⟨rfl,rfl,rfl,hn,hf⟩:=hvc;have hrow:wac [(0,AObj.row 3 1 n (waj (vInt f)) false)] [(0,.row 3 1 n f false)]:=⟨⟨rfl,rfl,rfl,rfl,rfl,λi hi=>(hf i hi).symm⟩,trivial⟩;refine wad.wpL (prg hP) [] [(3,L_or (vInt f) n)] 0 .nil (hP ▸ Tryz.func79) rfl rfl rfl [(wah Tryz.f79 3,L_or (vInt f) n)] (by kernel_rfl) ⟨or_loop hP _ _,trivial⟩ ?_;rw[nf_or];refine⟨⟨rfl,⟨rfl,rfl,rfl,rfl,rfl,hf⟩,trivial⟩,hn,wag (λh=>⟨λ_ _=>rfl,_,hrow,?_⟩) (λh=>⟨λ_ _=>rfl,_,hrow,rfl,rfl⟩)⟩;rw[h];exact⟨rfl,rfl⟩
theorem wsu(x:Int):∀l:List Int,orL (l++[x])=bif decide (orL l=0) then x else orL l
 |[]=>by simp only[List.nil_append,orL];by_cases h:x=0<;>simp[h]
 |y::l=>by
  rw[List.cons_append,orL,wsu x l,orL]
  by_cases h:y=0
  ·simp[h]
  ·simp[h]
theorem wpd(v:Nat->Int):∀n,orN v n=orL ((List.range n).map v)
 |0=>rfl
 |n+1=>by rw[List.range_succ,List.map_append,List.map_singleton,wsu,orN,wpd v n]
theorem swo_of{α:Type}{c:α->α->Int}(h:PreC c):SWO (ltOf c) where
 irrefl x:=by simp[ltOf,h.self x]
 trans x y z h1 h2:=by
  simp only[ltOf,decide_eq_true_eq] at *;exact h.lt_trans h1 h2
 ntrans x y z h1 h2:=by
  simp only[ltOf,decide_eq_false_iff_not] at *;intro q;have:=h.neg x y;have:=h.neg y x;have:=h.neg y z;have:=h.neg z y;have:=h.neg x z;have:=h.neg z x;have:=h.trans z y x (by omega) (by omega);omega
theorem w0i(a b:List UInt8)(R:oR7):wpFn te [(80,.det wgy)] [] 0 Tryz.f122 [.str a,.str b] [] R=(True/\R (.q (cmpS a b)) []):=by kernel_rfl
theorem nf_mcmp(m m':MG)(R:oR7):wpFn te [(122,.det wmf),(81,.det wd0),(123,.det wd0),(79,.det S_or)] [] 0 Tryz.f98 [.agg [.str m.dev,.q m.seq,.q m.kind,.str m.v.o,.str m.v.p,.q m.v.per,.q m.v.day,.q m.v.st,.q m.v.pr,.str m.v.rep,.str m.d.o,.str m.d.p,.q m.d.per,.str m.d.dev,.q m.d.num],.agg [.str m'.dev,.q m'.seq,.q m'.kind,.str m'.v.o,.str m'.v.p,.q m'.v.per,.q m'.v.day,.q m'.v.st,.q m'.v.pr,.str m'.v.rep,.str m'.d.o,.str m'.d.p,.q m'.d.per,.str m'.d.dev,.q m'.d.num]] [] R=(letI z0:=waq 1 (.q (cmpS m.dev m'.dev):: .q (cmpI m.seq m'.seq):: .q (cmpI m.kind m'.kind):: .q (cmpS m.v.o m'.v.o):: .q (cmpS m.v.p m'.v.p):: .q (cmpI m.v.per m'.v.per):: .q (cmpI m.v.day m'.v.day):: .q (cmpI m.v.st m'.v.st):: .q (cmpI m.v.pr m'.v.pr):: .q (cmpS m.v.rep m'.v.rep):: .q (cmpS m.d.o m'.d.o):: .q (cmpS m.d.p m'.d.p):: .q (cmpI m.d.per m'.d.per):: .q (cmpS m.d.dev m'.d.dev):: .q (cmpI m.d.num m'.d.num)::List.append [] (List.flatten (List.replicate (nat_lit 0) [.q 0])));True/\True/\True/\True/\True/\True/\True/\True/\True/\True/\True/\True/\True/\True/\True/\(15<=16777216/\1=1/\15<=9223372036854775807)/\(∀(i:Nat),i<15->true=true)/\(3=3/\false=false/\15=15/\15<=100/\∀(i:Nat),i<15->[AV.q (List.getD [cmpS m.dev m'.dev,cmpI m.seq m'.seq,cmpI m.kind m'.kind,cmpS m.v.o m'.v.o,cmpS m.v.p m'.v.p,cmpI m.v.per m'.v.per,cmpI m.v.day m'.v.day,cmpI m.v.st m'.v.st,cmpI m.v.pr m'.v.pr,cmpS m.v.rep m'.v.rep,cmpS m.d.o m'.d.o,cmpS m.d.p m'.d.p,cmpI m.d.per m'.d.per,cmpS m.d.dev m'.d.dev,cmpI m.d.num m'.d.num] i (0:Int))]=[.q (vInt z0 i)])/\(∀(i:Nat),i<15->true=true)/\R (.q (orN (vInt z0) 15)) []):=by kernel_rfl
theorem lt15{p:Nat->Prop}(h0:p 0)(h1:p 1)(h2:p 2)(h3:p 3)(h4:p 4)(h5:p 5)(h6:p 6)(h7:p 7)(h8:p 8)(h9:p 9)(h10:p 10)(h11:p 11)(h12:p 12)(h13:p 13)(h14:p 14):∀i,i<15->p i:=λi hi=>by
 match i,hi with
 |0,_=>exact h0
 |1,_=>exact h1
 |2,_=>exact h2
 |3,_=>exact h3
 |4,_=>exact h4
 |5,_=>exact h5
 |6,_=>exact h6
 |7,_=>exact h7
 |8,_=>exact h8
 |9,_=>exact h9
 |10,_=>exact h10
 |11,_=>exact h11
 |12,_=>exact h12
 |13,_=>exact h13
 |14,_=>exact h14
theorem w19(hP:C.P=Tryz.prog):wad C 122 wmf:=by
 rintro args objs U Os vc h hvc;unfold wmf at h;split at h<;>cases h;rename_i a b;refine wad.wp0 (prg hP) [(80,.det wgy)] 0 (.cons (wr2 hP) .nil) (hP ▸ Tryz.func122) rfl rfl rfl ?_;rw[w0i];exact⟨trivial,rfl,rfl⟩
theorem mcmp_ok(hP:C.P=Tryz.prog):wad C 98 wdy:=by
 rintro args objs U Os vc h hvc;unfold wdy at h;split at h<;>simp only[sI7,pI7,reduceCtorEq] at h;rename_i dev seq kind o p per day st pr rep o' p' per' dev' num dev2 seq2 kind2 o2 p2 per2 day2 st2 pr2 rep2 o3 p3 per3 dev3 num2;obtain⟨rfl,rfl,rfl⟩:=h;have hn:=nf_mcmp ⟨dev,seq,kind,⟨o,p,per,day,st,pr,rep⟩,⟨o',p',per',dev',num⟩⟩ ⟨dev2,seq2,kind2,⟨o2,p2,per2,day2,st2,pr2,rep2⟩,⟨o3,p3,per3,dev3,num2⟩⟩;dsimp only at hn;refine wad.wp0 (prg hP) [(122,.det wmf),(81,.det wd0),(123,.det wd0),(79,.det S_or)] 0 (.cons (w19 hP) (.cons (wt6 hP) (.cons (w29 hP) (.cons (or_ok hP) .nil)))) (hP ▸ Tryz.func98) rfl rfl rfl ?_;rw[hn,wpd];exact⟨trivial,trivial,trivial,trivial,trivial,trivial,trivial,trivial,trivial,trivial,trivial,trivial,trivial,trivial,trivial,⟨by omega,rfl,by omega⟩,λ_ _=>rfl,⟨rfl,rfl,rfl,by omega,lt15 rfl rfl rfl rfl rfl rfl rfl rfl rfl rfl rfl rfl rfl rfl rfl⟩,λ_ _=>rfl,rfl,rfl⟩
theorem ww7(hP:C.P=Tryz.prog):wa8 C 97 wnk:=by
 rintro args objs R h;unfold wnk at h;split at h
 ·rename_i n t m f fr;obtain⟨rfl,rfl,rfl,hn,hf,hR⟩:=h;generalize mgOf f=g at *;subst hf;have hS:=war.sortK (C:=C) mgC 15 (λ_=>rfl) (λx u hu=>by
    simp only[mgC,List.mem_cons,List.not_mem_nil,or_false] at hu
    rcases hu with rfl | rfl | rfl | rfl | rfl | rfl | rfl | rfl | rfl | rfl | rfl | rfl | rfl | rfl | rfl<;>rfl) ordM (t:=47) (fS:=97) (g:=98)
   ⟨_,hP ▸ Tryz.func97,rfl,by decide⟩
   (λblk cap d w h1 h2 h3 h4=>by
    rw[hP] at h1 ⊢;exact AnyQ.slices_SortFunc Tryz.sort97 15 Tryz.isAgg47 Tryz.sizeOf47 _ (λ_=>rfl) (λx v hv=>by
     simp only[encV,mgC,List.map_cons,List.map_nil,List.mem_cons,List.not_mem_nil,or_false] at hv
     rcases hv with rfl | rfl | rfl | rfl | rfl | rfl | rfl | rfl | rfl | rfl | rfl | rfl | rfl | rfl | rfl<;>rfl) ordM (swo_of wcy) 98 #[] blk 0 cap d w (enters_of Tryz.func98 (by kernel_rfl) rfl) h1 h2 h3 h4)
   (λp cap fv w=>by
    rw[hP];exact AnyF.slices_SortFunc_none Tryz.sort97 p cap fv w)
   (λx y=>mcmp_ok (C:=Ctx.bare C.P C.mixed) hP _ _ _ _ _ rfl trivial) g (n:=n) (by omega)
  refine hS.mono ?_;rintro u O ⟨rfl,f',hp,hs,rfl⟩;exact hR f' hp hs
 ·exact h.elim
end Go.Eng
namespace Go.Eng
open Go.Proofs Go.RowKit
set_option maxRecDepth 20000
theorem wza(s:List UInt8)(cells:List AV)(R:oR7):wpFn te [] [(1,wnv s cells 199)] 0 Tryz.f175 [.str s,.ptr 0 0] [.cells cells 199] R=(letI z0:=([(0,.cells (AV.rnL (ren 1 []) cells) 199)]:oL7);some (St.mk [(0,.str s),(1,.ptr 0 0)] z0 1 [])=some (St.mk [(0,.str s),(1,.ptr 0 0)] [(0,.cells cells 199)] 1 [])/\wb9 cells/\R (.str (List.dropWhile (wbf cells) s)) z0):=by kernel_rfl
theorem wy8(cells:List AV)(P:List UInt8->Prop)(R:eR7):wat ⟨te,[(187,.det wf2)],[],1,16,0⟩ (wau Tryz.f175 1) [0,1] [0] [0] (wdx cells 199) P R (wdx cells 199 [])=(R (.exit 0) (St.mk [(0,.str [])] [(0,.cells (AV.rnL (ren 1 []) cells) 199)] 1 [])):=by kernel_rfl
theorem wy9(x:UInt8)(s:List UInt8)(cells:List AV)(P:List UInt8->Prop)(R:eR7):wat ⟨te,[(187,.det wf2)],[],1,16,0⟩ (wau Tryz.f175 1) [0,1] [0] [0] (wdx cells 199) P R (wdx cells 199 (x::s))=(letI z3:=AV.rnL (idxN [0]) cells;letI z2:=(↑(x::s).length:Int);letI z1:=([(0,.cells (AV.rnL (ren 1 []) (AV.rnL (sig [0] 1) z3)) 199)]:oL7);letI z0:=(↑(UInt8.toNat (List.getD (x::s) (0:Int).toNat (0:UInt8))):Int);wab (decide ((0:Int)<z2)) (((0:Int)<=0/\(0:Int)<z2)/\(wb9 z3/\(0:Int)<=z0/\z0<256)/\wab (!wbf z3 (UInt8.ofNat z0.toNat)) (R (.exit 0) (St.mk [(0,.str (x::s))] z1 1 [])) (((0:Int)<=1/\(1:Int)<=z2)/\∃(i':List UInt8),some (St.mk [(0,.str (List.drop (1:Int).toNat (x::s))),(1,.ptr 0 0)] z1 1 [])=some (St.mk [(0,.str i'),(1,.ptr 0 0)] [(0,.cells cells 199)] 1 [])/\P i')) (R (.exit 0) (St.mk [(0,.str (x::s))] [(0,.cells (AV.rnL (ren 1 []) cells) 199)] 1 []))):=by kernel_rfl
theorem wy7(s:List UInt8)(cells:List AV)(R:oR7):wpFn te [] [(1,wnu s cells 199)] 0 Tryz.f176 [.str s,.ptr 0 0] [.cells cells 199] R=(letI z0:=([(0,.cells (AV.rnL (ren 1 []) cells) 199)]:oL7);some (St.mk [(0,.str s),(1,.ptr 0 0)] z0 1 [])=some (St.mk [(0,.str s),(1,.ptr 0 0)] [(0,.cells cells 199)] 1 [])/\wb9 cells/\s.length<=9223372036854775807/\R (.str (wc0 (wbf cells) s)) z0):=by kernel_rfl
theorem wy6(s:List UInt8)(cells:List AV)(P:List UInt8->Prop)(R:eR7):wat ⟨te,[(187,.det wf2)],[],1,22,0⟩ (wau Tryz.f176 1) [0,1] [0] [0] (wdx cells 199) P R (wdx cells 199 s)=(letI z3:=AV.rnL (idxN [0]) cells;letI z2:=([(0,.cells (AV.rnL (ren 1 []) (AV.rnL (sig [0] 1) z3)) 199)]:oL7);letI z0:=(s.length:Int);letI z4:=(z0 - (1:Int));letI z1:=(↑(UInt8.toNat (List.getD s z4.toNat (0:UInt8))):Int);wab (decide ((0:Int)<z0)) (inR .i64 z4/\((0:Int)<=z0 - (1:Int)/\z0 - (1:Int)<z0)/\(wb9 z3/\(0:Int)<=z1/\z1<256)/\wab (!wbf z3 (UInt8.ofNat z1.toNat)) (R (.exit 0) (St.mk [(0,.str s)] z2 1 [])) (inR .i64 z4/\((0:Int)<=z0 - (1:Int)/\z0 - (1:Int)<=z0)/\∃(i':List UInt8),some (St.mk [(0,.str (List.take z4.toNat s)),(1,.ptr 0 0)] z2 1 [])=some (St.mk [(0,.str i'),(1,.ptr 0 0)] [(0,.cells cells 199)] 1 [])/\P i')) (R (.exit 0) (St.mk [(0,.str s)] [(0,.cells (AV.rnL (ren 1 []) cells) 199)] 1 []))):=by kernel_rfl
theorem nf_trim(s cs:List UInt8)(R:oR7):wpFn te [(175,.det wlk),(176,.det wlj)] [(1005,wnt s cs)] 0 Tryz.f164 [.str s,.str cs] [] R=(letI z3:=St.mk [(0,.str s),(1,.str cs)] [] 0 [];letI z2:=((0:Int)<=0/\(0:Int)<(cs.length:Int):Prop);letI z1:=AV.rnL (idxN [0]) (setAV cs);letI z4:=AV.rnL (idxN [0]) (AV.rnL (sig [0] 1) z1);letI z0:=(some z3=some z3/\cs.length<4294967281/\(∀(b:UInt8),b∈cs->UInt8.toNat b<128)/\(wb9 z1/\s.length<=9223372036854775807)/\wb9 z4/\R (.str (List.dropWhile (wbf z4) (wc0 (wbf z1) s))) []);wab (decide (s=[])) (R (.str s) []) (wab (decide (cs=[])) (R (.str s) []) (wab (decide ((cs.length:Int)=1)) (z2/\wab (decide ((↑(UInt8.toNat (List.getD cs (0:Int).toNat (0:UInt8))):Int)<128)) (z2/\False) z0) z0))):=by kernel_rfl
variable {C:Ctx} [C.Loose]
theorem mem2{α:Type}{l:List α}(h:l.length=2):∃a b,l=[a,b]:=by
 match l,h with
 |[a,b],_=>exact⟨a,b,rfl⟩
theorem mem1{α:Type}{l:List α}(h:l.length=1):∃a,l=[a]:=by
 match l,h with
 |[a],_=>exact⟨a,rfl⟩
theorem wrx(hP:C.P=Tryz.prog):wad C 187 wf2:=by
 have _:C.Loose:=inferInstance;rintro args objs U Os vc h hvc;unfold wf2 at h;split at h<;>cases h;rename_i x cells t;obtain⟨hc,h0,h1⟩:=hvc;obtain⟨n,rfl⟩:∃n:UInt8,x=n.toNat:=⟨UInt8.ofNat x.toNat,by simp;omega⟩;refine war.quiet ⟨Tryz.f187,hP ▸ Tryz.func187,rfl,by decide⟩ λE bs w cargs hW hl hv=>?_;obtain⟨a,b,rfl⟩:=mem2 hl;have e2:=(hv 1 _ _ rfl rfl).int_iff;subst e2;obtain⟨b,y,rfl,hcc,hy⟩:=hW.cell (r:=0) rfl (hv 0 _ _ rfl rfl) (hc.at_ n)
 cases hy;rw[hP];refine(Tryz.asciiSet_contains b n _ w hcc).mono ?_;rintro e w' ⟨rfl,rfl⟩;refine⟨_,rfl,rfl,?_⟩;have:UInt8.ofNat (n.toNat:Int).toNat=n:=by simp
 rw[this];exact .bool
theorem wwv(hP:C.P=Tryz.prog)(s:List UInt8)(cells:List AV):waf C 1 16 (wah Tryz.f175 1) (wnv s cells 199):=by
 rintro st Q ⟨h0,hc,hQ⟩;refine waf.mk (prg hP) [(187,.det wf2)] 0 (.cons (wrx hP) .nil) [0,1] [0] [0] (wdx cells 199) (λs'=>s'.dropWhile (wbf cells)=s.dropWhile (wbf cells)) List.length s rfl h0 λs' hs'=>?_;have hrn:=hc.rn
 cases s' with
 |nil=>
  rw[wy8];simp only[hrn];rw[← hs'] at hQ;exact hQ
 |cons x r=>
  rw[wy9];simp only[hrn];have ex:UInt8.ofNat (Int.toNat (↑(UInt8.toNat (List.getD (x::r) (Int.toNat 0) 0))))=x:=by simp
  have hx:(List.getD (x::r) (Int.toNat 0) 0)=x:=rfl;have hlt:x.toNat<256:=x.toNat_lt;have hlen:(((x::r).length:Nat):Int)=(r.length:Int)+1:=by simp
  rw[hx] at ex;simp only[hx,ex,hlen];refine wal (λ_=>⟨by omega,⟨hc,by omega,by omega⟩,wal (λh=>?_) (λh=>?_)⟩) (λh=>?_)
  ·have h:wbf cells x=false:=by simpa using h
   rw[← hs',List.dropWhile_cons,h] at hQ;exact hQ
  ·have h:wbf cells x=true:=by simpa using h
   refine⟨by omega,r,rfl,?_,by simp⟩;rw[← hs',List.dropWhile_cons,h];rfl
  ·have:=of_decide_eq_false h;omega
theorem wwu(hP:C.P=Tryz.prog):wad C 175 wlk:=by
 rintro args objs U Os vc h hvc;unfold wlk at h;split at h<;>cases h;rename_i s cells;refine wad.wpL (prg hP) [] [(1,wnv s cells 199)] 0 .nil (hP ▸ Tryz.func175) rfl rfl rfl [(wah Tryz.f175 1,wnv s cells 199)] (by kernel_rfl) ⟨wwv hP s cells,trivial⟩ ?_;rw[wza];simp only[hvc.rn];exact⟨trivial,hvc,by simp⟩
theorem wwt(hP:C.P=Tryz.prog)(s:List UInt8)(cells:List AV):waf C 1 22 (wah Tryz.f176 1) (wnu s cells 199):=by
 rintro st Q ⟨h0,hc,hm,hQ⟩;refine waf.mk (prg hP) [(187,.det wf2)] 0 (.cons (wrx hP) .nil) [0,1] [0] [0] (wdx cells 199) (λs'=>wc0 (wbf cells) s'=wc0 (wbf cells) s/\s'.length<=maxLen) List.length s ⟨rfl,hm⟩ h0 λs' hs'=>?_;have hrn:=hc.rn;obtain⟨hs',hm'⟩:=hs';have hm2:s'.length<=9223372036854775807:=hm';rw[wy6];simp only[hrn]
 rcases ww8 s' with rfl | ⟨r,x,rfl⟩
 ·refine wal (λh=>?_) (λ_=>?_)
  ·have:=of_decide_eq_true h;simp at this
  ·rw[← hs'] at hQ;exact hQ
 ·have hlen:(((r++[x]).length:Nat):Int)=(r.length:Int)+1:=by simp
  have e1:((r.length:Int)+1 - 1).toNat=r.length:=by omega
  have hx:(r++[x]).getD r.length 0=x:=by simp
  have ht:(r++[x]).take r.length=r:=by simp
  have ex:UInt8.ofNat ((x.toNat:Int)).toNat=x:=by simp
  have hlt:x.toNat<256:=x.toNat_lt;have hlr:(r++[x]).length=r.length+1:=by simp
  simp only[hlen,e1,hx,ht,ex,inR];refine wal (λ_=>⟨by omega,by omega,⟨hc,by omega,by omega⟩,wal (λh=>?_) (λh=>?_)⟩) (λh=>?_)
  ·have h:wbf cells x=false:=by simpa using h
   rw[← hs',wvb,h] at hQ;exact hQ
  ·have h:wbf cells x=true:=by simpa using h
   refine⟨by omega,by omega,r,rfl,⟨?_,?_⟩,by omega⟩
   ·rw[← hs',wvb,h];rfl
   ·show r.length<=9223372036854775807;omega
  ·have:=of_decide_eq_false h;omega
theorem wws(hP:C.P=Tryz.prog):wad C 176 wlj:=by
 rintro args objs U Os vc h hvc;unfold wlj at h;split at h<;>cases h;rename_i s cells;refine wad.wpL (prg hP) [] [(1,wnu s cells 199)] 0 .nil (hP ▸ Tryz.func176) rfl rfl rfl [(wah Tryz.f176 1,wnu s cells 199)] (by kernel_rfl) ⟨wwt hP s cells,trivial⟩ ?_;rw[wy7];simp only[hvc.1.rn];exact⟨trivial,hvc.1,hvc.2,by simp⟩
theorem wxf{w:World}{M:Nat->Prop}{bs:Nat->Option Hd}(l:List UInt8):wcu w M bs (Lib.setCells l) (setAV l):=by
 have hs:(Lib.setCells l).size=256:=Lib.setCells_size l;have hl:(setAV l).length=256:=(wff l).1;have at_:∀j,j<256->(Lib.setCells l)[j]?=some (.bool (l.contains (UInt8.ofNat j))):=by
  intro j hj;have:=Lib.setCells_at l (UInt8.ofNat j);have e:(UInt8.ofNat j).toNat=j:=by simp;omega
  rwa [e] at this
 refine⟨by rw[hs,hl],λj v hv=>?_,λj v u hv hu=>?_⟩
 ·have hj:j<256:=by rw[← hs];exact(Array.getElem?_eq_some_iff.1 hv).1
  rw[at_ j hj] at hv
  cases hv;rfl
 ·have hj:j<256:=by rw[← hs];exact(Array.getElem?_eq_some_iff.1 hv).1
  rw[at_ j hj] at hv
  cases hv;have:(setAV l)[j]?=some (.bool (l.contains (UInt8.ofNat j))):=by unfold setAV;simp[hj]
  rw[this] at hu
  cases hu;exact .bool
theorem w2d(hP:C.P=Tryz.prog):wad C 174 wv5:=by
 rintro args objs U Os vc h hvc;unfold wv5 at h;split at h<;>cases h;rename_i l;obtain⟨hl,hascii⟩:=hvc;refine war.below ⟨Tryz.f174,hP ▸ Tryz.func174,rfl,by decide⟩ λw M cargs _ _ hM hlen hv=>?_;obtain⟨a,rfl⟩:=mem1 hlen;have e1:=(hv 0 _ _ rfl rfl).str_iff;subst e1;rw[hP];refine(Tryz.strings_makeASCIISet (λw=>Tryz.zeroValue199 w) ⟨l.toArray⟩ w (by simpa[ByteArray.size] using hl) (λj b hb=>hascii b (by simpa using List.mem_of_getElem? hb))).mono ?_;rintro e w' ⟨rfl,rfl⟩;have hc:=wxf (w:=w.alloc (.cells (Lib.setCells l) 199)) (M:=M) (bs:=nob) l;refine⟨_,rfl,(Below.refl _ _).alloc (lR7 _) _,.tuple rfl λj v u hv hu=>?_⟩
 match j with
 |0=>simp at hv hu;subst hv;subst hu;exact .agg hc.1 hc.2.1 hc.2.2
 |1=>simp at hv hu;subst hv;subst hu;exact .bool
 |j+2=>simp at hv
def teSet:TE:=[(199,{ desc:=.array 256 4,sz:=256,bytes:=256,zero:=.agg (Array.replicate 256 (.bool false)) })]
@[irreducible] def zeroSet:List AV:=List.replicate 256 (.bool false)
theorem w48(n:Nat):avcs (List.replicate n (.bool false))=some (List.replicate n (.bool false)):=by
 induction n with
 |zero=>rfl
 |succ n ih=>simp[List.replicate_succ,avcs,avc,ih]
theorem wwy:TE.ok Tryz.prog teSet:=by
 refine TE.ok_cons Tryz.underlying199 ⟨Tryz.t199,Tryz.type199,rfl,rfl,by kernel_rfl⟩ (λh=>by cases h) TE.ok_nil
theorem wwa:avcs (Value.agg (Array.replicate 256 (.bool false))).cells.toList=some zeroSet:=by
 have e:(Value.agg (Array.replicate 256 (.bool false))).cells.toList=List.replicate 256 (Value.bool false):=Array.toList_replicate;rw[e];unfold zeroSet;exact w48 256
theorem wwb(cs:List UInt8):zeroSet.length=(setAV cs).length:=by
 rw[(wff cs).1];unfold zeroSet;rw[List.length_replicate]
theorem wwr(hP:C.P=Tryz.prog)(s cs:List UInt8):waf C 0 43 (regC Tryz.f164 5) (wnt s cs):=by
 rintro st Q ⟨h0,hl,hascii,hQ⟩;refine AWP.canonIs [0,1] h0 ?_ trivial;have hte:=(prg hP).ok;have hts:TE.ok C.P teSet:=hP ▸ wwy;have hrn:=(wff cs).rn;refine AWP.canQ (te:=te) (Fe:=[0,5,6]) (Fr:=[]) ?_;show AWP C 0 43 (.region 5 (List.toArray _) false) _ _;refine AWP.region ?_;refine AOps.pure hte (prg hP).one rfl rfl rfl trivial ?_;refine AOps.callD (u2:=.nil) (cobjs:=[]) (U:=.tuple [.agg (setAV cs),.bool true]) (Os:=[]) (T2:=[(31,.tuple [.agg (setAV cs),.bool true]),(30,.str cs),(0,.str s),(1,.str cs)]) [] rfl rfl rfl rfl rfl rfl trivial (w2d hP [.str cs] [] _ _ _ rfl ⟨hl,hascii⟩) rfl ?_ rfl rfl ?_
 ·show (31,AV.tuple [.agg (AV.rnL _ (setAV cs)),.bool true])::_=_;rw[hrn];rfl
 refine AOps.pure hte (prg hP).one rfl rfl rfl trivial ?_;refine AOps.pure hte (prg hP).one rfl rfl rfl trivial ?_;refine AOps.pure hte (prg hP).one rfl rfl rfl trivial ?_;refine AOps.step (l:=[(_,.cells zeroSet 199)]) rfl (wak.allocW hts (t:=199) rfl rfl rfl wwa) rfl rfl rfl rfl ?_;refine AOps.step rfl (wak.storeW hts (t:=199) (new:=setAV cs) rfl rfl rfl rfl rfl rfl (wwb cs) (wff cs).1) rfl rfl rfl rfl ?_;refine AOps.pure hte (prg hP).one rfl rfl rfl trivial ?_;refine AOps.nil ?_;refine canQ_of (s':=⟨[(0,.str s),(5,.ptr 0 0),(6,.bool true)],[(0,.cells (AV.rnL (ren 0 [(16,0)]) (setAV cs)) 199)],1,[]⟩) (by simp) ?_ ?_
 ·rfl
 ·rw[hrn];exact hQ
theorem wi1(hP:C.P=Tryz.prog):wad C 164 wee:=by
 rintro args objs U Os vc h hvc;unfold wee at h;split at h<;>cases h;rename_i s cs;obtain⟨hs,h2,hl,hascii⟩:=hvc
 refine wad.wpL (prg hP) [(175,.det wlk),(176,.det wlj)] [(1005,wnt s cs)] 0 (.cons (wwu hP) (.cons (wws hP) .nil)) (hP ▸ Tryz.func164) rfl rfl rfl
  [(regC Tryz.f164 5,wnt s cs)] (by kernel_rfl) ⟨wwr hP s cs,trivial⟩ ?_
 rw[nf_trim];have hrn:=(wff cs).rn;have hc1:∀h:(cs.length:Int)=1,False:=by intro h;omega
 have hin:wbf (setAV cs)=(cs.contains ·):=funext (w28 cs)
 simp only[hrn,hin];refine wal (λh=>?_) (λ_=>wal (λh=>?_) (λ_=>wal (λh=>?_) (λ_=>?_)))
 ·have h:=of_decide_eq_true h;subst h;simp[weh,wc0]
 ·have h:=of_decide_eq_true h;subst h;simp at h2
 ·exact(hc1 (of_decide_eq_true h)).elim
 ·exact⟨trivial,hl,hascii,⟨wff cs,hs⟩,wff cs,rfl,trivial⟩
end Go.Eng
