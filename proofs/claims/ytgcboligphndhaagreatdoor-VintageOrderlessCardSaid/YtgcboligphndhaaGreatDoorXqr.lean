/- Contents of packages. -/
import Derived.Test.YtgcboligphndhaaGreatDoorXqq
namespace Go.Eng
theorem waj.mkI{C:Ctx}{te:TE}(hte:Prg C te){m N:Nat}{x:Code}{s:St}{Q:Exit->St->Prop}(calls:List (Nat×CSpec)){ι:Type}(loops:ι->List (Nat×war))(fuel:Nat)(hc:wc7 C calls)(ls:ι->List (Code×war))(hls:∀i,wbg (loops i) x=ls i)(hL:∀i,wfl C m N (ls i))
  (F Fe Fr:List Nat) (S:ι->St) (I:ι->Prop) (μ:ι->Nat) (i0:ι) (hI:I i0)
  (h0:canonIs te m F s (S i0)) (round:∀i,I i->wa0 ⟨te,calls,loops i,m,N,fuel⟩ x F Fe Fr S (λi'=>I i'/\μ i'<μ i) Q (S i)) (hS:∀i,wcg (S i).O True:=by intro i;trivial):AWP C m N (.loop x) Q s:=by
 obtain⟨ρ0,hw⟩:=wit h0 (wdo (hS i0)).1;have key:AWP C m N (.loop x) (Eng.canQ te m Fe Fr Q) s:=by
  refine AWP.loop S I μ i0 hI hw λi hi=>?_;have hG:EnvOK C ⟨te,calls,loops i,m,N,fuel⟩:=⟨hte.ok,hte.one,hc⟩;refine(wdk hG x _ _ (by rw[hls i];exact(hL i).all) (round i hi)).mono λe s hq=>wo5 (λs hs=>?_) e s hq;obtain⟨i',h3,h1,h2⟩:=hs;obtain⟨ρ,hw'⟩:=wit h3 (wdo (hS i')).1;exact⟨i',ρ,h1,h2,hw'⟩
 exact key.canQ
theorem insRow{α:Type}[Inhabited α](enc:α->List AV)(L:List α)(x:α)(p:Nat)(hp:p<=L.length)(e0 ch:Nat->List AV)(hch:ch 0=enc x)(j:Nat)(hj:j<0+p+1+(L.length - p)):
  apF (0+p+1) (apF (0+p) (apF 0 e0 (λi=>enc (L.getD i default))) ch) (λi=>enc (L.getD (p+i) default)) j=enc ((L.take p++x::L.drop p).getD j default):=by
 unfold apF;have hlt:(L.take p).length=p:=by simp[hp]
 by_cases h1:j<p
 ·rw[if_pos (by omega),if_pos (by omega),if_neg (by omega)];show enc _=enc _;congr 1;rw[List.getD_eq_getElem?_getD,List.getD_eq_getElem?_getD,List.getElem?_append_left (by omega),List.getElem?_take,if_pos h1];rfl
 ·by_cases h2:j=p
  ·subst h2;rw[if_pos (by omega),if_neg (by omega),Nat.zero_add,Nat.sub_self,hch];show enc _=enc _;congr 1;rw[List.getD_eq_getElem?_getD,List.getElem?_append_right (by omega),hlt,Nat.sub_self];rfl
  ·rw[if_neg (by omega)];show enc _=enc _;congr 1;rw[List.getD_eq_getElem?_getD,List.getD_eq_getElem?_getD,List.getElem?_append_right (by omega),hlt];obtain⟨q,rfl⟩:∃q,j=p+1+q:=⟨j - (p+1),by omega⟩;rw[show p+1+q - p=q+1 by omega,List.getElem?_cons_succ,List.getElem?_drop,show p+1+q - (0+p+1)=q by omega]
theorem putRowL{α:Type}[Inhabited α](enc:α->List AV)(L:List α)(x:α)(ch:Nat->List AV)(hch:ch 0=enc x)(j:Nat)(hj:j<L.length+1):
  apF L.length (λi=>enc (L.getD i default)) ch j=enc ((L++[x]).getD j default):=by
 unfold apF
 by_cases h1:j<L.length
 ·rw[if_pos h1];show enc _=enc _;congr 1;rw[List.getD_eq_getElem?_getD,List.getD_eq_getElem?_getD,List.getElem?_append_left h1]
 ·have:j=L.length:=by omega
  subst this;rw[if_neg h1,Nat.sub_self,hch];show enc _=enc _;congr 1;simp
end Go.Eng
namespace Go.Eng
open Go.Proofs Go.RowKit
variable {C:Ctx} [C.Loose]
set_option maxRecDepth 20000
end Go.Eng
namespace Go.Proofs
open Go.Shelf
def Tryz.sort91_ren:Go.Shelf.Ren:=⟨λ | 6=>91 | 15=>137 | 14=>136 | 28=>175 | 29=>176 | 20=>167 | 21=>168 | 22=>169 | 23=>170 | 24=>171 | 25=>172 | 26=>173 | 27=>174 | 46=>208 | 47=>209 | 48=>210 | 49=>211 | 50=>212 | 57=>236 | n=>n,λ | 22=>92 | 24=>9 | 25=>125 | 3=>3 | 39=>168 | 0=>0 | 53=>201 | 55=>118 | 4=>4 | 46=>195 | 45=>194 | 50=>128 | 5=>5 | 9=>9 | 66=>226 | 70=>230 | 76=>250 | 77=>251 | n=>n,λ | n=>n⟩
theorem Tryz.sort91:Go.Proofs.SlLaysF0.n6 Tryz.prog Tryz.sort91_ren:={
 mixed:=by kernel_rfl
 f6:=⟨Tryz.f91.name,by decide,Tryz.func91.trans (congrArg some (by kernel_rfl))⟩
 f14:=⟨Tryz.f136.name,by decide,Tryz.func136.trans (congrArg some (by kernel_rfl))⟩
 f15:=Tryz.func137.trans (congrArg some (by kernel_rfl))
 f20:=⟨Tryz.f167.name,by decide,Tryz.func167.trans (congrArg some (by kernel_rfl))⟩
 f21:=⟨Tryz.f168.name,by decide,Tryz.func168.trans (congrArg some (by kernel_rfl))⟩
 f22:=⟨Tryz.f169.name,by decide,Tryz.func169.trans (congrArg some (by kernel_rfl))⟩
 f23:=⟨Tryz.f170.name,by decide,Tryz.func170.trans (congrArg some (by kernel_rfl))⟩
 f24:=⟨Tryz.f171.name,by decide,Tryz.func171.trans (congrArg some (by kernel_rfl))⟩
 f25:=⟨Tryz.f172.name,by decide,Tryz.func172.trans (congrArg some (by kernel_rfl))⟩
 f26:=⟨Tryz.f173.name,by decide,Tryz.func173.trans (congrArg some (by kernel_rfl))⟩
 f27:=⟨Tryz.f174.name,by decide,Tryz.func174.trans (congrArg some (by kernel_rfl))⟩
 f28:=Tryz.func175.trans (congrArg some (by kernel_rfl))
 f29:=Tryz.func176.trans (congrArg some (by kernel_rfl))
 f46:=⟨Tryz.f208.name,by decide,Tryz.func208.trans (congrArg some (by kernel_rfl))⟩
 f47:=Tryz.func209.trans (congrArg some (by kernel_rfl))
 f48:=Tryz.func210.trans (congrArg some (by kernel_rfl))
 f49:=⟨Tryz.f211.name,by decide,Tryz.func211.trans (congrArg some (by kernel_rfl))⟩
 f50:=⟨Tryz.f212.name,by decide,Tryz.func212.trans (congrArg some (by kernel_rfl))⟩
 f57:=⟨Tryz.f236.name,by decide,Tryz.func236.trans (congrArg some (by kernel_rfl))⟩
 t0:=Tryz.underlying0
 a0:=Tryz.isAgg0
 z0:=Tryz.sizeOf0
 v0:=Tryz.zeroValue0
 t3:=Tryz.underlying3
 a3:=Tryz.isAgg3
 z3:=Tryz.sizeOf3
 v3:=Tryz.zeroValue3
 t4:=Tryz.underlying4
 a4:=Tryz.isAgg4
 z4:=Tryz.sizeOf4
 v4:=Tryz.zeroValue4
 t5:=Tryz.underlying5
 a5:=Tryz.isAgg5
 z5:=Tryz.sizeOf5
 v5:=Tryz.zeroValue5
 t9:=Tryz.underlying9
 a9:=Tryz.isAgg9
 z9:=Tryz.sizeOf9
 v9:=Tryz.zeroValue9
 t22:=Tryz.underlying92
 a22:=Tryz.isAgg92
 z22:=Tryz.sizeOf92
 v22:=Tryz.zeroValue92
 t25:=Tryz.underlying125
 a25:=Tryz.isAgg125
 z25:=Tryz.sizeOf125
 v25:=Tryz.zeroValue125
 t39:=Tryz.underlying168
 a39:=Tryz.isAgg168
 z39:=Tryz.sizeOf168
 v39:=Tryz.zeroValue168
 t45:=Tryz.underlying194
 a45:=Tryz.isAgg194
 z45:=Tryz.sizeOf194
 v45:=Tryz.zeroValue194
 t46:=Tryz.underlying195
 a46:=Tryz.isAgg195
 z46:=Tryz.sizeOf195
 v46:=Tryz.zeroValue195
 t50:=Tryz.underlying128
 a50:=Tryz.isAgg128
 z50:=Tryz.sizeOf128
 v50:=Tryz.zeroValue128
 t53:=Tryz.underlying201
 a53:=Tryz.isAgg201
 z53:=Tryz.sizeOf201
 v53:=Tryz.zeroValue201
 t55:=Tryz.underlying118
 a55:=Tryz.isAgg118
 z55:=Tryz.sizeOf118
 v55:=Tryz.zeroValue118
 t66:=Tryz.underlying226
 a66:=Tryz.isAgg226
 z66:=Tryz.sizeOf226
 v66:=Tryz.zeroValue226
 t70:=Tryz.underlying230
 a70:=Tryz.isAgg230
 z70:=Tryz.sizeOf230
 v70:=Tryz.zeroValue230
 t76:=Tryz.underlying250
 a76:=Tryz.isAgg250
 z76:=Tryz.sizeOf250
 v76:=Tryz.zeroValue250
 t77:=Tryz.underlying251
 a77:=Tryz.isAgg251
 z77:=Tryz.sizeOf251
 v77:=Tryz.zeroValue251 }
end Go.Proofs
namespace Go.Eng
open Go.Proofs Go.RowKit Go.Sort
def valA:AV->Value
 |.str l=>.string ⟨l.toArray⟩
 |.int k n=>.int k n
 |.bool b=>.bool b
 |_=>default
def wpj:AV->Bool
 |.str _=>true
 |.int _ _=>true
 |.bool _=>true
 |_=>false
theorem V_plain{w:World}{M:Nat->Prop}{bs:Nat->Option Hd}{v:Value}{u:AV}(hp:wpj u=true)(h:V w M bs v u):v=valA u:=by
 cases u<;>simp only[wpj,Bool.false_eq_true] at hp
 ·cases h;rfl
 ·cases h;rfl
 ·exact h.str_iff
def Ctx.bare(P:Program)(h:P.follows .mixedOrders=true):Ctx:=⟨P,0,λ_=>True,h,λ_ _ _ h=>h,true⟩
theorem grow_of{w w':World}(h1:w'.os=w.os)(h2:w'.tape=w.tape)(h3:w'.output=w.output)(h4:w.heap.size<=w'.heap.size)(h5:∀b,b<w.heap.size->w'.heap[b]?=w.heap[b]?)(h6:w.drawn<=w'.drawn):
  ∃q os,w'=grow (w.drewN q) os:=by
 refine⟨w'.drawn - w.drawn,w'.heap.extract w.heap.size w'.heap.size,?_⟩;obtain⟨hp,tp,dr,os,out⟩:=w;obtain⟨hp',tp',dr',os',out'⟩:=w';simp only at h1 h2 h3 h4 h5 h6;subst h1;subst h2;subst h3;simp only[grow,World.drewN,World.mk.injEq,and_true,true_and];refine⟨?_,by omega⟩;apply Array.ext_getElem?;intro i;rw[Array.getElem?_append]
 by_cases h:i<hp.size
 ·rw[if_pos h,h5 i h]
 ·rw[if_neg h,Array.getElem?_extract]
  by_cases h':i<hp'.size
  ·rw[if_pos (by omega)];congr 1;omega
  ·rw[if_neg (by omega),Array.getElem?_eq_none (by omega)]
theorem ADet.grown{P:Program}{hm:P.follows .mixedOrders=true}{f:FuncId}{args:List AV}{u:AV}(h:ADet (Ctx.bare P hm) f args [] u [])(hu:wpj u=true){w:World}{cargs:List Value}(hlen:cargs.length=args.length)
  (hV:∀(j:Nat) v x,cargs[j]?=some v->args[j]?=some x->V w (λ_=>False) nob v x):Calls P f cargs.toArray w λe w'=>e= .returned (valA u)/\∃q os,w'=grow (w.drewN q) os:=by
 have no:∀r,lkL [] r=none:=λr=>by cases r<;>rfl
 have nm:∀b',¬ mutB (lkL []) nob b':=by
  rintro b' ⟨r,o,c,ho,_⟩;rw[no r] at ho;cases ho
 have hw:WRep (Ctx.bare P hm) ⟨w,0,nob,λ_=>False,λ_=>False⟩ (lkL []) nob w:={
  obj:=λr o ho=>by rw[no r] at ho;cases ho
  sep:=λr r' o o' b c c' ho=>by rw[no r] at ho;cases ho
  out:=λb hb=>absurd hb (nm b)
  frz:=λr t sz n f b c ho=>by rw[no r] at ho;cases ho
  high:=λb hb=>zL7 _
  lt:=λr b c hb=>by simp[nob] at hb
  outlt:=λb hb=>hb.elim
  keep:=λb _ _=>rfl
  old:=λb hb=>absurd hb (nm b)
  size:=lR7 _
  pre:=λr x hr=>absurd hr (nZ7 r)
  os:=rfl
  tape:=.refl _ _
  output:=rfl
  laid:=trivial
  gle:=zL7 _ }
 refine(h.2 ⟨w,0,nob,λ_=>False,λ_=>False⟩ nob w cargs rfl rfl rfl hw (λ_ _=>rfl) hlen (λj v u hv hu=>(hV j v u hv hu).step_ (λb _ _ hb=>?_) (λ_ _ _=>rfl) (lR7 _) nob (λ_ _ h=>h))).mono ?_
 ·rcases hb with hb | hb
  ·exact hb
  ·exact nm b hb
 ·rintro e w' ⟨v,u',O',bs',rfl,⟨rfl,rfl⟩,hw',hV',_⟩;rw[V_plain hu hV'];exact⟨rfl,grow_of hw'.os hw'.tape.tape hw'.output hw'.size (λi hi=>hw'.keep i hi (λh=>h)) (hw'.tape.drawn rfl)⟩
section
variable {α:Type} [Inhabited α]
theorem arr_get(n:Nat)(f:Nat->α){i:Nat}(hi:i<n):(((List.range n).map f).toArray)[i]! =f i:=by simp[hi]
end
end Go.Eng
namespace Go.Eng
open Go.Proofs Go.RowKit Go.Sort
variable {C:Ctx}
set_option maxRecDepth 20000
theorem nf_nan(x:Int)(R:oR7):wpFn te [] [] 0 Tryz.f139 [.q x] [] R=(R (.bool !decide (x=x)) []):=by kernel_rfl
theorem nf_icmp(a b:Int)(R:oR7):wpFn te [(139,.det wl5)] [] 0 Tryz.f95 [.q a,.q b] [] R=(True/\True/\wad (decide (a<b)) (R (.q (-1:Int)) []) (wad (decide (b<a)) (R (.q 1) []) (R (.q 0) []))):=by kernel_rfl
theorem nf_or(f:Nat->List AV)(n:Nat)(R:oR7):wpFn te [] [(3,L_or (vInt f) n)] 0 Tryz.f93 [.own 0 n] [.row 3 1 n f false] R=(letI z0:=([(0,.row 3 1 n (wab (vInt f)) false)]:oL7);(TEq [(3,.q 0),(6,.own 0 n),(7,.q (n:Int)),(8,.q 0)] [(3,.q 0),(6,.own 0 n),(7,.q (n:Int)),(8,.q (↑0:Int))]/\wae [(0,.row 3 1 n f false)] z0)/\n<=100/\wad (decide (orN (vInt f) n=0)) ((∀(i:Nat),i<n->true=true)/\∃(O':oL7),wae z0 O'/\R (.q 0) O') ((∀(i:Nat),i<n->true=true)/\∃(O':oL7),wae z0 O'/\R (.q (orN (vInt f) n)) O')):=by kernel_rfl
theorem wzf(v:Nat->Int)(n k:Nat)(P:Nat->Prop)(R:eR7):wa0 ⟨te,[],[],1,18,0⟩ (wa2 Tryz.f93 3) [3,6,7,8] [3] [2] (wl0 v n) P R (wl0 v n k)=(letI z0:=([(0,.row 3 1 n (wab v) false)]:oL7);wad (decide ((k:Int)<(n:Int))) (((0:Int)<=(k:Int)/\(k:Int)<(n:Int))/\((k:Int).toNat<n/\1=1)/\wad (!decide (v (k:Int).toNat=0)) ((∀(i:Nat),i<n->true=true)/\∃(O':oL7),wae z0 O'/\R .ret (St.mk [(2,.q (v (k:Int).toNat))] O' 1 [])) (inR .i64 ((k:Int)+1)/\∃(i':Nat),(TEq [(3,.q 0),(6,.own 0 n),(7,.q (n:Int)),(8,.q ((k:Int)+1))] [(3,.q 0),(6,.own 0 n),(7,.q (n:Int)),(8,.q (i':Int))]/\wae z0 z0)/\P i')) ((∀(i:Nat),i<n->true=true)/\∃(O':oL7),wae z0 O'/\R (.exit 0) (St.mk [(3,.q 0)] O' 1 []))):=by kernel_rfl
theorem wvu:∀a b:List UInt8,Lib.compareBytes a b=cmpS a b
 |[],[]=>rfl
 |[],_::_=>rfl
 |_::_,[]=>rfl
 |a::x,b::y=>by
  have ih:=wvu x y;rw[Lib.compareBytes,ih];unfold cmpS;simp only[Op.bytesLess]
  by_cases h:a<b
  ·simp[h]
  ·by_cases h':b<a
   ·have:(a==b)=false:=by
     rw[beq_eq_false_iff_ne];exact λe=>by subst e;exact h h'
    simp[h,h',this]
   ·have e:a=b:=by
     rcases Nat.lt_trichotomy a.toNat b.toNat with q | q | q
     ·exact absurd q h
     ·exact UInt8.toNat_inj.1 q
     ·exact absurd q h'
    subst e;simp[h]
theorem scmp_ok(hP:C.P=Tryz.prog):waf C 94 wlu:=by
 rintro args objs U Os vc h hvc;unfold wlu at h;split at h<;>cases h;rename_i a b;refine wan.quiet ⟨Tryz.f94,hP ▸ Tryz.func94,rfl,by decide⟩ λE bs w cargs hW hl hv=>?_;obtain⟨x,y,rfl⟩:∃x y,cargs=[x,y]:=by
  match cargs,hl with
  |[x,y],_=>exact⟨x,y,rfl⟩
 have e1:=(hv 0 _ _ rfl rfl).str_iff;have e2:=(hv 1 _ _ rfl rfl).str_iff;subst e1;subst e2;rw[hP];refine(Tryz.strings_Compare ⟨a.toArray⟩ ⟨b.toArray⟩ w).mono ?_;rintro e w' ⟨rfl,rfl⟩;refine⟨_,rfl,rfl,?_⟩;rw[wvu];exact .int
theorem nan_ok(hP:C.P=Tryz.prog):waf C 139 wl5:=by
 rintro args objs U Os vc h hvc;unfold wl5 at h;split at h<;>cases h;refine waf.wp0 (prg hP) [] 0 .nil (hP ▸ Tryz.func139) rfl rfl rfl ?_;rw[nf_nan,decide_eq_true rfl];exact⟨rfl,rfl⟩
theorem icmp_ok(hP:C.P=Tryz.prog):waf C 95 wmu:=by
 rintro args objs U Os vc h hvc;unfold wmu at h;split at h<;>cases h;refine waf.wp0 (prg hP) [(139,.det wl5)] 0 (.cons (nan_ok hP) .nil) (hP ▸ Tryz.func95) rfl rfl rfl ?_;rw[nf_icmp];unfold cmpI;exact⟨trivial,trivial,waz (λh=>by rw[h];exact⟨rfl,rfl⟩) (λh=>waz (λk=>by rw[h,k];exact⟨rfl,rfl⟩) (λk=>by rw[h,k];exact⟨rfl,rfl⟩))⟩
theorem ws7{v:Nat->Int}{k:Nat}(h:orN v k=0)(hv:v k≠0):∀n,k<n->orN v n=v k
 |0,hn=>by omega
 |n+1,hn=>by
  rw[orN]
  by_cases e:k=n
  ·subst e;rw[h];rfl
  ·rw[ws7 h hv n (by omega),decide_eq_false hv];rfl
theorem or_loop(hP:C.P=Tryz.prog)(v:Nat->Int)(n:Nat):waj C 1 18 (wam Tryz.f93 3) (L_or v n):=by
 rintro st Q ⟨h0,hn,hQ⟩;have hR:=wb3 hQ;refine waj.mk (prg hP) [] 0 .nil [3,6,7,8] [3] [2] (wl0 v n) (λk=>k<=n/\orN v k=0) (λk=>n - k) 0 ⟨zL7 _,rfl⟩ h0 (λk hk=>?_) (λi=>⟨λ_ _=>rfl,trivial⟩);obtain⟨hkn,hok⟩:=hk;rw[wzf,tN7];refine wak (λh1=>⟨⟨by omega,by omega⟩,⟨by omega,rfl⟩,wb7 (λh2=>⟨λ_ _=>rfl,_,wal _,?_⟩) (λh2=>⟨by simp only[inR];omega,k+1,⟨rfl,wal _⟩,⟨by omega,?_⟩,by omega⟩)⟩) (λh1=>⟨λ_ _=>rfl,_,wal _,?_⟩)
 ·have e:=ws7 hok h2 n (by omega);have:=hR.2 (by rw[e,decide_eq_false h2]);rw[e] at this;exact this
 ·rw[orN,hok];exact h2
 ·have:k=n:=by omega
  subst this;exact hR.1 (by rw[hok];rfl)
theorem or_ok(hP:C.P=Tryz.prog):waf C 93 S_or:=by
 rintro args objs U Os vc h hvc;unfold S_or at h;split at h<;>cases h;rename_i n t m f fr;obtain⟨rfl,rfl,rfl,hn,hf⟩:=hvc;have hrow:wae [(0,AObj.row 3 1 n (wab (vInt f)) false)] [(0,.row 3 1 n f false)]:=⟨⟨rfl,rfl,rfl,rfl,rfl,λi hi=>(hf i hi).symm⟩,trivial⟩;refine waf.wpL (prg hP) [] [(3,L_or (vInt f) n)] 0 .nil (hP ▸ Tryz.func93) rfl rfl rfl [(wam Tryz.f93 3,L_or (vInt f) n)] (by kernel_rfl) ⟨or_loop hP _ _,trivial⟩ ?_;rw[nf_or];refine⟨⟨rfl,⟨rfl,rfl,rfl,rfl,rfl,hf⟩,trivial⟩,hn,wak (λh=>⟨λ_ _=>rfl,_,hrow,?_⟩) (λh=>⟨λ_ _=>rfl,_,hrow,rfl,rfl⟩)⟩;rw[h];exact⟨rfl,rfl⟩
theorem ws8(x:Int):∀l:List Int,orL (l++[x])=bif decide (orL l=0) then x else orL l
 |[]=>by simp only[List.nil_append,orL];by_cases h:x=0<;>simp[h]
 |y::l=>by
  rw[List.cons_append,orL,ws8 x l,orL]
  by_cases h:y=0
  ·simp[h]
  ·simp[h]
theorem orN_eq(v:Nat->Int):∀n,orN v n=orL ((List.range n).map v)
 |0=>rfl
 |n+1=>by rw[List.range_succ,List.map_append,List.map_singleton,ws8,orN,orN_eq v n]
theorem swo_of{α:Type}{c:α->α->Int}(h:PreC c):SWO (ltOf c) where
 irrefl x:=by simp[ltOf,h.self x]
 trans x y z h1 h2:=by
  simp only[ltOf,decide_eq_true_eq] at *;exact h.lt_trans h1 h2
 ntrans x y z h1 h2:=by
  simp only[ltOf,decide_eq_false_iff_not] at *;intro q;have:=h.neg x y;have:=h.neg y x;have:=h.neg y z;have:=h.neg z y;have:=h.neg x z;have:=h.neg z x;have:=h.trans z y x (by omega) (by omega);omega
end Go.Eng
namespace Go.Eng
open Go.Proofs Go.RowKit
set_option maxRecDepth 20000
theorem wyp(s:List UInt8)(cells:List AV)(R:oR7):wpFn te [] [(1,wnx s cells 262)] 0 Tryz.f248 [.str s,.ptr 0 0] [.cells cells 262] R=(letI z0:=([(0,.cells (AV.rnL (ren 1 []) cells) 262)]:oL7);some (St.mk [(0,.str s),(1,.ptr 0 0)] z0 1 [])=some (St.mk [(0,.str s),(1,.ptr 0 0)] [(0,.cells cells 262)] 1 [])/\wcl cells/\R (.str (List.dropWhile (wbm cells) s)) z0):=by kernel_rfl
theorem wyn(cells:List AV)(P:List UInt8->Prop)(R:eR7):wa0 ⟨te,[(262,.det wga)],[],1,16,0⟩ (wa2 Tryz.f248 1) [0,1] [0] [0] (wec cells 262) P R (wec cells 262 [])=(R (.exit 0) (St.mk [(0,.str [])] [(0,.cells (AV.rnL (ren 1 []) cells) 262)] 1 [])):=by kernel_rfl
theorem wyo(x:UInt8)(s:List UInt8)(cells:List AV)(P:List UInt8->Prop)(R:eR7):wa0 ⟨te,[(262,.det wga)],[],1,16,0⟩ (wa2 Tryz.f248 1) [0,1] [0] [0] (wec cells 262) P R (wec cells 262 (x::s))=(letI z3:=AV.rnL (idxN [0]) cells;letI z2:=(↑(x::s).length:Int);letI z1:=([(0,.cells (AV.rnL (ren 1 []) (AV.rnL (sig [0] 1) z3)) 262)]:oL7);letI z0:=(↑(UInt8.toNat (List.getD (x::s) (0:Int).toNat (0:UInt8))):Int);wad (decide ((0:Int)<z2)) (((0:Int)<=0/\(0:Int)<z2)/\(wcl z3/\(0:Int)<=z0/\z0<256)/\wad (!wbm z3 (UInt8.ofNat z0.toNat)) (R (.exit 0) (St.mk [(0,.str (x::s))] z1 1 [])) (((0:Int)<=1/\(1:Int)<=z2)/\∃(i':List UInt8),some (St.mk [(0,.str (List.drop (1:Int).toNat (x::s))),(1,.ptr 0 0)] z1 1 [])=some (St.mk [(0,.str i'),(1,.ptr 0 0)] [(0,.cells cells 262)] 1 [])/\P i')) (R (.exit 0) (St.mk [(0,.str (x::s))] [(0,.cells (AV.rnL (ren 1 []) cells) 262)] 1 []))):=by kernel_rfl
theorem wym(s:List UInt8)(cells:List AV)(R:oR7):wpFn te [] [(1,wnw s cells 262)] 0 Tryz.f249 [.str s,.ptr 0 0] [.cells cells 262] R=(letI z0:=([(0,.cells (AV.rnL (ren 1 []) cells) 262)]:oL7);some (St.mk [(0,.str s),(1,.ptr 0 0)] z0 1 [])=some (St.mk [(0,.str s),(1,.ptr 0 0)] [(0,.cells cells 262)] 1 [])/\wcl cells/\s.length<=9223372036854775807/\R (.str (wdd (wbm cells) s)) z0):=by kernel_rfl
theorem wyl(s:List UInt8)(cells:List AV)(P:List UInt8->Prop)(R:eR7):wa0 ⟨te,[(262,.det wga)],[],1,22,0⟩ (wa2 Tryz.f249 1) [0,1] [0] [0] (wec cells 262) P R (wec cells 262 s)=(letI z3:=AV.rnL (idxN [0]) cells;letI z2:=([(0,.cells (AV.rnL (ren 1 []) (AV.rnL (sig [0] 1) z3)) 262)]:oL7);letI z0:=(s.length:Int);letI z4:=(z0 - (1:Int));letI z1:=(↑(UInt8.toNat (List.getD s z4.toNat (0:UInt8))):Int);wad (decide ((0:Int)<z0)) (inR .i64 z4/\((0:Int)<=z0 - (1:Int)/\z0 - (1:Int)<z0)/\(wcl z3/\(0:Int)<=z1/\z1<256)/\wad (!wbm z3 (UInt8.ofNat z1.toNat)) (R (.exit 0) (St.mk [(0,.str s)] z2 1 [])) (inR .i64 z4/\((0:Int)<=z0 - (1:Int)/\z0 - (1:Int)<=z0)/\∃(i':List UInt8),some (St.mk [(0,.str (List.take z4.toNat s)),(1,.ptr 0 0)] z2 1 [])=some (St.mk [(0,.str i'),(1,.ptr 0 0)] [(0,.cells cells 262)] 1 [])/\P i')) (R (.exit 0) (St.mk [(0,.str s)] [(0,.cells (AV.rnL (ren 1 []) cells) 262)] 1 []))):=by kernel_rfl
theorem nf_trim(s cs:List UInt8)(R:oR7):wpFn te [(248,.det wll),(249,.det wlk)] [(1005,wnv s cs)] 0 Tryz.f228 [.str s,.str cs] [] R=(letI z3:=St.mk [(0,.str s),(1,.str cs)] [] 0 [];letI z2:=((0:Int)<=0/\(0:Int)<(cs.length:Int):Prop);letI z1:=AV.rnL (idxN [0]) (setAV cs);letI z4:=AV.rnL (idxN [0]) (AV.rnL (sig [0] 1) z1);letI z0:=(some z3=some z3/\cs.length<4294967281/\(∀(b:UInt8),b∈cs->UInt8.toNat b<128)/\(wcl z1/\s.length<=9223372036854775807)/\wcl z4/\R (.str (List.dropWhile (wbm z4) (wdd (wbm z1) s))) []);wad (decide (s=[])) (R (.str s) []) (wad (decide (cs=[])) (R (.str s) []) (wad (decide ((cs.length:Int)=1)) (z2/\wad (decide ((↑(UInt8.toNat (List.getD cs (0:Int).toNat (0:UInt8))):Int)<128)) (z2/\False) z0) z0))):=by kernel_rfl
variable {C:Ctx} [C.Loose]
theorem mem2{α:Type}{l:List α}(h:l.length=2):∃a b,l=[a,b]:=by
 match l,h with
 |[a,b],_=>exact⟨a,b,rfl⟩
theorem mem1{α:Type}{l:List α}(h:l.length=1):∃a,l=[a]:=by
 match l,h with
 |[a],_=>exact⟨a,rfl⟩
theorem wsj(hP:C.P=Tryz.prog):waf C 262 wga:=by
 have _:C.Loose:=inferInstance;rintro args objs U Os vc h hvc;unfold wga at h;split at h<;>cases h;rename_i x cells t;obtain⟨hc,h0,h1⟩:=hvc;obtain⟨n,rfl⟩:∃n:UInt8,x=n.toNat:=⟨UInt8.ofNat x.toNat,by simp;omega⟩;refine wan.quiet ⟨Tryz.f262,hP ▸ Tryz.func262,rfl,by decide⟩ λE bs w cargs hW hl hv=>?_;obtain⟨a,b,rfl⟩:=mem2 hl;have e2:=(hv 1 _ _ rfl rfl).int_iff;subst e2;obtain⟨b,y,rfl,hcc,hy⟩:=hW.cell (r:=0) rfl (hv 0 _ _ rfl rfl) (hc.at_ n)
 cases hy;rw[hP];refine(Tryz.asciiSet_contains b n _ w hcc).mono ?_;rintro e w' ⟨rfl,rfl⟩;refine⟨_,rfl,rfl,?_⟩;have:UInt8.ofNat (n.toNat:Int).toNat=n:=by simp
 rw[this];exact .bool
theorem ww3(hP:C.P=Tryz.prog)(s:List UInt8)(cells:List AV):waj C 1 16 (wam Tryz.f248 1) (wnx s cells 262):=by
 rintro st Q ⟨h0,hc,hQ⟩;refine waj.mk (prg hP) [(262,.det wga)] 0 (.cons (wsj hP) .nil) [0,1] [0] [0] (wec cells 262) (λs'=>s'.dropWhile (wbm cells)=s.dropWhile (wbm cells)) List.length s rfl h0 λs' hs'=>?_;have hrn:=hc.rn
 cases s' with
 |nil=>
  rw[wyn];simp only[hrn];rw[← hs'] at hQ;exact hQ
 |cons x r=>
  rw[wyo];simp only[hrn];have ex:UInt8.ofNat (Int.toNat (↑(UInt8.toNat (List.getD (x::r) (Int.toNat 0) 0))))=x:=by simp
  have hx:(List.getD (x::r) (Int.toNat 0) 0)=x:=rfl;have hlt:x.toNat<256:=x.toNat_lt;have hlen:(((x::r).length:Nat):Int)=(r.length:Int)+1:=by simp
  rw[hx] at ex;simp only[hx,ex,hlen];refine waz (λ_=>⟨by omega,⟨hc,by omega,by omega⟩,waz (λh=>?_) (λh=>?_)⟩) (λh=>?_)
  ·have h:wbm cells x=false:=by simpa using h
   rw[← hs',List.dropWhile_cons,h] at hQ;exact hQ
  ·have h:wbm cells x=true:=by simpa using h
   refine⟨by omega,r,rfl,?_,by simp⟩;rw[← hs',List.dropWhile_cons,h];rfl
  ·have:=of_decide_eq_false h;omega
theorem ww2(hP:C.P=Tryz.prog):waf C 248 wll:=by
 rintro args objs U Os vc h hvc;unfold wll at h;split at h<;>cases h;rename_i s cells;refine waf.wpL (prg hP) [] [(1,wnx s cells 262)] 0 .nil (hP ▸ Tryz.func248) rfl rfl rfl [(wam Tryz.f248 1,wnx s cells 262)] (by kernel_rfl) ⟨ww3 hP s cells,trivial⟩ ?_;rw[wyp];simp only[hvc.rn];exact⟨trivial,hvc,by simp⟩
theorem ww1(hP:C.P=Tryz.prog)(s:List UInt8)(cells:List AV):waj C 1 22 (wam Tryz.f249 1) (wnw s cells 262):=by
 rintro st Q ⟨h0,hc,hm,hQ⟩;refine waj.mk (prg hP) [(262,.det wga)] 0 (.cons (wsj hP) .nil) [0,1] [0] [0] (wec cells 262) (λs'=>wdd (wbm cells) s'=wdd (wbm cells) s/\s'.length<=maxLen) List.length s ⟨rfl,hm⟩ h0 λs' hs'=>?_;have hrn:=hc.rn;obtain⟨hs',hm'⟩:=hs';have hm2:s'.length<=9223372036854775807:=hm';rw[wyl];simp only[hrn]
 rcases wxg s' with rfl | ⟨r,x,rfl⟩
 ·refine waz (λh=>?_) (λ_=>?_)
  ·have:=of_decide_eq_true h;simp at this
  ·rw[← hs'] at hQ;exact hQ
 ·have hlen:(((r++[x]).length:Nat):Int)=(r.length:Int)+1:=by simp
  have e1:((r.length:Int)+1 - 1).toNat=r.length:=by omega
  have hx:(r++[x]).getD r.length 0=x:=by simp
  have ht:(r++[x]).take r.length=r:=by simp
  have ex:UInt8.ofNat ((x.toNat:Int)).toNat=x:=by simp
  have hlt:x.toNat<256:=x.toNat_lt;have hlr:(r++[x]).length=r.length+1:=by simp
  simp only[hlen,e1,hx,ht,ex,inR];refine waz (λ_=>⟨by omega,by omega,⟨hc,by omega,by omega⟩,waz (λh=>?_) (λh=>?_)⟩) (λh=>?_)
  ·have h:wbm cells x=false:=by simpa using h
   rw[← hs',wvo,h] at hQ;exact hQ
  ·have h:wbm cells x=true:=by simpa using h
   refine⟨by omega,by omega,r,rfl,⟨?_,?_⟩,by omega⟩
   ·rw[← hs',wvo,h];rfl
   ·show r.length<=9223372036854775807;omega
  ·have:=of_decide_eq_false h;omega
theorem ww0(hP:C.P=Tryz.prog):waf C 249 wlk:=by
 rintro args objs U Os vc h hvc;unfold wlk at h;split at h<;>cases h;rename_i s cells;refine waf.wpL (prg hP) [] [(1,wnw s cells 262)] 0 .nil (hP ▸ Tryz.func249) rfl rfl rfl [(wam Tryz.f249 1,wnw s cells 262)] (by kernel_rfl) ⟨ww1 hP s cells,trivial⟩ ?_;rw[wym];simp only[hvc.1.rn];exact⟨trivial,hvc.1,hvc.2,by simp⟩
theorem wxk{w:World}{M:Nat->Prop}{bs:Nat->Option Hd}(l:List UInt8):wc6 w M bs (Lib.setCells l) (setAV l):=by
 have hs:(Lib.setCells l).size=256:=Lib.setCells_size l;have hl:(setAV l).length=256:=(wft l).1;have at_:∀j,j<256->(Lib.setCells l)[j]?=some (.bool (l.contains (UInt8.ofNat j))):=by
  intro j hj;have:=Lib.setCells_at l (UInt8.ofNat j);have e:(UInt8.ofNat j).toNat=j:=by simp;omega
  rwa [e] at this
 refine⟨by rw[hs,hl],λj v hv=>?_,λj v u hv hu=>?_⟩
 ·have hj:j<256:=by rw[← hs];exact(Array.getElem?_eq_some_iff.1 hv).1
  rw[at_ j hj] at hv
  cases hv;rfl
 ·have hj:j<256:=by rw[← hs];exact(Array.getElem?_eq_some_iff.1 hv).1
  rw[at_ j hj] at hv
  cases hv;have:(setAV l)[j]?=some (.bool (l.contains (UInt8.ofNat j))):=by unfold setAV;simp[hj]
  rw[this] at hu
  cases hu;exact .bool
theorem w07(hP:C.P=Tryz.prog):waf C 247 wwj:=by
 rintro args objs U Os vc h hvc;unfold wwj at h;split at h<;>cases h;rename_i l;obtain⟨hl,hascii⟩:=hvc;refine wan.below ⟨Tryz.f247,hP ▸ Tryz.func247,rfl,by decide⟩ λw M cargs _ _ hM hlen hv=>?_;obtain⟨a,rfl⟩:=mem1 hlen;have e1:=(hv 0 _ _ rfl rfl).str_iff;subst e1;rw[hP];refine(Tryz.strings_makeASCIISet (λw=>Tryz.zeroValue262 w) ⟨l.toArray⟩ w (by simpa[ByteArray.size] using hl) (λj b hb=>hascii b (by simpa using List.mem_of_getElem? hb))).mono ?_;rintro e w' ⟨rfl,rfl⟩;have hc:=wxk (w:=w.alloc (.cells (Lib.setCells l) 262)) (M:=M) (bs:=nob) l;refine⟨_,rfl,(Below.refl _ _).alloc (lR7 _) _,.tuple rfl λj v u hv hu=>?_⟩
 match j with
 |0=>simp at hv hu;subst hv;subst hu;exact .agg hc.1 hc.2.1 hc.2.2
 |1=>simp at hv hu;subst hv;subst hu;exact .bool
 |j+2=>simp at hv
def teSet:TE:=[(262,{ desc:=.array 256 4,sz:=256,bytes:=256,zero:=.agg (Array.replicate 256 (.bool false)) })]
@[irreducible] def zeroSet:List AV:=List.replicate 256 (.bool false)
theorem w34(n:Nat):avcs (List.replicate n (.bool false))=some (List.replicate n (.bool false)):=by
 induction n with
 |zero=>rfl
 |succ n ih=>simp[List.replicate_succ,avcs,avc,ih]
theorem ww7:TE.ok Tryz.prog teSet:=by
 refine TE.ok_cons Tryz.underlying262 ⟨Tryz.t262,Tryz.type262,rfl,rfl,by kernel_rfl⟩ (λh=>by cases h) TE.ok_nil
theorem wwm:avcs (Value.agg (Array.replicate 256 (.bool false))).cells.toList=some zeroSet:=by
 have e:(Value.agg (Array.replicate 256 (.bool false))).cells.toList=List.replicate 256 (Value.bool false):=Array.toList_replicate;rw[e];unfold zeroSet;exact w34 256
theorem wwn(cs:List UInt8):zeroSet.length=(setAV cs).length:=by
 rw[(wft cs).1];unfold zeroSet;rw[List.length_replicate]
theorem wwz(hP:C.P=Tryz.prog)(s cs:List UInt8):waj C 0 43 (regC Tryz.f228 5) (wnv s cs):=by
 rintro st Q ⟨h0,hl,hascii,hQ⟩;refine AWP.canonIs [0,1] h0 ?_ trivial;have hte:=(prg hP).ok;have hts:TE.ok C.P teSet:=hP ▸ ww7;have hrn:=(wft cs).rn;refine AWP.canQ (te:=te) (Fe:=[0,5,6]) (Fr:=[]) ?_;show AWP C 0 43 (.region 5 (List.toArray _) false) _ _;refine AWP.region ?_;refine AOps.pure hte (prg hP).one rfl rfl rfl trivial ?_;refine AOps.callD (u2:=.nil) (cobjs:=[]) (U:=.tuple [.agg (setAV cs),.bool true]) (Os:=[]) (T2:=[(31,.tuple [.agg (setAV cs),.bool true]),(30,.str cs),(0,.str s),(1,.str cs)]) [] rfl rfl rfl rfl rfl rfl trivial (w07 hP [.str cs] [] _ _ _ rfl ⟨hl,hascii⟩) rfl ?_ rfl rfl ?_
 ·show (31,AV.tuple [.agg (AV.rnL _ (setAV cs)),.bool true])::_=_;rw[hrn];rfl
 refine AOps.pure hte (prg hP).one rfl rfl rfl trivial ?_;refine AOps.pure hte (prg hP).one rfl rfl rfl trivial ?_;refine AOps.pure hte (prg hP).one rfl rfl rfl trivial ?_;refine AOps.step (l:=[(_,.cells zeroSet 262)]) rfl (wat.allocW hts (t:=262) rfl rfl rfl wwm) rfl rfl rfl rfl ?_;refine AOps.step rfl (wat.storeW hts (t:=262) (new:=setAV cs) rfl rfl rfl rfl rfl rfl (wwn cs) (wft cs).1) rfl rfl rfl rfl ?_;refine AOps.pure hte (prg hP).one rfl rfl rfl trivial ?_;refine AOps.nil ?_;refine canQ_of (s':=⟨[(0,.str s),(5,.ptr 0 0),(6,.bool true)],[(0,.cells (AV.rnL (ren 0 [(16,0)]) (setAV cs)) 262)],1,[]⟩) (by simp) ?_ ?_
 ·rfl
 ·rw[hrn];exact hQ
theorem wht(hP:C.P=Tryz.prog):waf C 228 wet:=by
 rintro args objs U Os vc h hvc;unfold wet at h;split at h<;>cases h;rename_i s cs;obtain⟨hs,h2,hl,hascii⟩:=hvc
 refine waf.wpL (prg hP) [(248,.det wll),(249,.det wlk)] [(1005,wnv s cs)] 0 (.cons (ww2 hP) (.cons (ww0 hP) .nil)) (hP ▸ Tryz.func228) rfl rfl rfl
  [(regC Tryz.f228 5,wnv s cs)] (by kernel_rfl) ⟨wwz hP s cs,trivial⟩ ?_
 rw[nf_trim];have hrn:=(wft cs).rn;have hc1:∀h:(cs.length:Int)=1,False:=by intro h;omega
 have hin:wbm (setAV cs)=(cs.contains ·):=funext (w16 cs)
 simp only[hrn,hin];refine waz (λh=>?_) (λ_=>waz (λh=>?_) (λ_=>waz (λh=>?_) (λ_=>?_)))
 ·have h:=of_decide_eq_true h;subst h;simp[wew,wdd]
 ·have h:=of_decide_eq_true h;subst h;simp at h2
 ·exact(hc1 (of_decide_eq_true h)).elim
 ·exact⟨trivial,hl,hascii,⟨wft cs,hs⟩,wft cs,rfl,trivial⟩
theorem nf_min(n:Nat)(v:Nat->Int)(R:oR7):wpFn te [] [(5,L_mm n v (minV v)),(1002,λ_ _=>False)] 0 Tryz.f260 [.own 0 n] [.row 3 1 n (λi=>[.q (v i)]) false] R=(letI z0:=([(0,.row 3 1 n (λ(i:Nat)=>[.q (v i)]) false)]:oL7);wad (decide ((n:Int)<1)) False (((0:Int)<=0/\(0:Int)<(n:Int))/\(0<n/\1=1)/\(TEq [(0,.own 0 n),(3,.q (v 0)),(4,.q 1)] [(0,.own 0 n),(3,.q (minV v 0)),(4,.q ((↑0:Int)+1))]/\wae z0 z0)/\1<=n/\n<=4611686018427387904/\(∀(i:Nat),i<n->true=true)/\∃(O':oL7),wae z0 O'/\R (.q (minV v (n - 1))) O')):=by kernel_rfl
theorem wzn(n:Nat)(v:Nat->Int)(k:Nat)(P:Nat->Prop)(R:eR7):wa0 ⟨te,[],[],1,25,0⟩ (wa2 Tryz.f260 5) [0,3,4] [3] [] (wgb n v (minV v)) P R (wgb n v (minV v) k)=(letI z0:=([(0,.row 3 1 n (λ(i:Nat)=>[.q (v i)]) false)]:oL7);wad (decide ((k:Int)+1<(n:Int))) (((0:Int)<=(k:Int)+1/\(k:Int)+1<(n:Int))/\(((k:Int)+1).toNat<n/\1=1)/\inR .i64 ((k:Int)+1+1)/\∃(i':Nat),(TEq [(0,.own 0 n),(3,.q (min (minV v k) (v ((k:Int)+1).toNat))),(4,.q ((k:Int)+1+1))] [(0,.own 0 n),(3,.q (minV v i')),(4,.q ((i':Int)+1))]/\wae z0 z0)/\P i') ((∀(i:Nat),i<n->true=true)/\∃(O':oL7),wae z0 O'/\R (.exit 0) (St.mk [(3,.q (minV v k))] O' 1 []))):=by kernel_rfl
theorem nf_max(n:Nat)(v:Nat->Int)(R:oR7):wpFn te [] [(5,L_mm n v (maxV v)),(1002,λ_ _=>False)] 0 Tryz.f261 [.own 0 n] [.row 3 1 n (λi=>[.q (v i)]) false] R=(letI z0:=([(0,.row 3 1 n (λ(i:Nat)=>[.q (v i)]) false)]:oL7);wad (decide ((n:Int)<1)) False (((0:Int)<=0/\(0:Int)<(n:Int))/\(0<n/\1=1)/\(TEq [(0,.own 0 n),(3,.q (v 0)),(4,.q 1)] [(0,.own 0 n),(3,.q (maxV v 0)),(4,.q ((↑0:Int)+1))]/\wae z0 z0)/\1<=n/\n<=4611686018427387904/\(∀(i:Nat),i<n->true=true)/\∃(O':oL7),wae z0 O'/\R (.q (maxV v (n - 1))) O')):=by kernel_rfl
theorem wzo(n:Nat)(v:Nat->Int)(k:Nat)(P:Nat->Prop)(R:eR7):wa0 ⟨te,[],[],1,25,0⟩ (wa2 Tryz.f261 5) [0,3,4] [3] [] (wgb n v (maxV v)) P R (wgb n v (maxV v) k)=(letI z0:=([(0,.row 3 1 n (λ(i:Nat)=>[.q (v i)]) false)]:oL7);wad (decide ((k:Int)+1<(n:Int))) (((0:Int)<=(k:Int)+1/\(k:Int)+1<(n:Int))/\(((k:Int)+1).toNat<n/\1=1)/\inR .i64 ((k:Int)+1+1)/\∃(i':Nat),(TEq [(0,.own 0 n),(3,.q (max (maxV v k) (v ((k:Int)+1).toNat))),(4,.q ((k:Int)+1+1))] [(0,.own 0 n),(3,.q (maxV v i')),(4,.q ((i':Int)+1))]/\wae z0 z0)/\P i') ((∀(i:Nat),i<n->true=true)/\∃(O':oL7),wae z0 O'/\R (.exit 0) (St.mk [(3,.q (maxV v k))] O' 1 []))):=by kernel_rfl
theorem wz5(n:Nat)(v:Nat->Int)(R:oR7):wpFn te [(260,.det wmb),(261,.det wmc),(133,.det whd)] [(7,wol n v)] 0 Tryz.f244 [.own 0 n] [.row 3 1 n (λi=>[.q (v i)]) false] R=(letI z8:=((0:Int)<=0/\(0:Int)<(n:Int):Prop);letI z7:=((0:Int)<=1/\(1:Int)<=(n:Int):Prop);letI z6:=(n - (1:Int).toNat);letI z5:=(vInt λ(i:Nat)=>[.q (v i)]);letI z4:=([(4,.str (wdr (v 0)++wcp v 0)),(36,.sub 0 1 1 (n - 1)),(37,.q (↑(n - 1):Int)),(38,.q (↑0:Int))]:tL7);letI z3:=(3=3/\false=false/\1<=n/\n=n/\n<=4611686018427387904/\(λ(i:Nat)=>[.q (v i)])=wab z5:Prop);letI z2:=(∀(i:Nat),i<n->true=true:Prop);letI z1:=([(0,.row 3 1 n (λ(i:Nat)=>[.q (v i)]) false)]:oL7);letI z0:=(z2/\∃(O':oL7),wae z1 O'/\R (.tuple [.str [],.q 64]) O':Prop);wad (decide ((n:Int)<1)) z0 (wad (decide ((5:Int)<(n:Int))) z0 (z2/\z3/\z2/\wad (decide (minV z5 (n - 1)<1)) z0 (z2/\z3/\z2/\wad (decide ((99:Int)<maxV z5 (n - 1))) z0 (z8/\(0<n/\1=1)/\((0:Int)<=v 0/\v 0<100)/\z8/\(0<n/\1=1)/\wad (decide (v 0<10)) (([(48:UInt8)]).length+(decF (v 0)).length<=9223372036854775807/\z7/\(TEq [(4,.str ([(48:UInt8)]++decF (v 0))),(36,.sub 0 1 1 z6),(37,.q (z6:Int)),(38,.q 0)] z4/\wae z1 z1)/\wbn n v=true/\z2/\∃(O':oL7),wae z1 O'/\R (.tuple [.str (fmtZ n v),.q 0]) O') (z7/\(TEq [(4,.str (decF (v 0))),(36,.sub 0 1 1 z6),(37,.q (z6:Int)),(38,.q 0)] z4/\wae z1 z1)/\wbn n v=true/\z2/\∃(O':oL7),wae z1 O'/\R (.tuple [.str (fmtZ n v),.q 0]) O')))))):=by kernel_rfl
theorem wz4(n:Nat)(v:Nat->Int)(k:Nat)(P:Nat->Prop)(R:eR7):wa0 ⟨te,[(133,.det whd)],[],1,49,0⟩ (wa2 Tryz.f244 7) [4,36,37,38] [4] [] (wmx n v) P R (wmx n v k)=(letI z2:=(↑(n - 1):Int);letI z1:=(v (1+(k:Int).toNat));letI z0:=([(0,.row 3 1 n (λ(i:Nat)=>[.q (v i)]) false)]:oL7);wad (decide ((k:Int)<z2)) (((0:Int)<=(k:Int)/\(k:Int)<z2/\1=1)/\(1+(k:Int).toNat<n/\1=1)/\((0:Int)<=v (1+(k:Int).toNat)/\v (1+(k:Int).toNat)<100)/\([(46:UInt8)]).length+(decF z1).length<=9223372036854775807/\(wdr (v 0)++wcp v k).length+([(46:UInt8)]++decF z1).length<=9223372036854775807/\inR .i64 ((k:Int)+1)/\∃(i':Nat),(TEq [(4,.str (wdr (v 0)++wcp v k++([(46:UInt8)]++decF z1))),(36,.sub 0 1 1 (n - 1)),(37,.q z2),(38,.q ((k:Int)+1))] [(4,.str (wdr (v 0)++wcp v i')),(36,.sub 0 1 1 (n - 1)),(37,.q z2),(38,.q (i':Int))]/\wae z0 z0)/\P i') ((∀(i:Nat),i<n->true=true)/\∃(O':oL7),wae z0 O'/\R (.exit 0) (St.mk [(4,.str (wdr (v 0)++wcp v k))] O' 1 []))):=by kernel_rfl
variable {C:Ctx} [C.Loose]
theorem w04(hP:C.P=Tryz.prog)(n:Nat)(v:Nat->Int):waj C 1 25 (wam Tryz.f260 5) (L_mm n v (minV v)):=by
 have _:C.Loose:=inferInstance;rintro st Q ⟨h0,hn,hn2,hQ⟩;refine waj.mk (prg hP) [] 0 .nil [0,3,4] [3] [] (wgb n v (minV v)) (λk=>k+1<=n) (λk=>n - k) 0 hn h0 (λk hk=>?_) (λi=>⟨λ_ _=>rfl,trivial⟩);rw[wzn];refine wak (λh=>?_) (λh=>⟨λ_ _=>rfl,_,wb4,?_⟩)
 ·have e:((k:Int)+1).toNat=k+1:=by omega
  simp only[inR,e,and_true];exact⟨by omega,by omega,by omega,k+1,⟨rfl,wb4⟩,by omega,by omega⟩
 ·have:k=n - 1:=by omega
  rw[this];exact hQ
theorem w05(hP:C.P=Tryz.prog)(n:Nat)(v:Nat->Int):waj C 1 25 (wam Tryz.f261 5) (L_mm n v (maxV v)):=by
 have _:C.Loose:=inferInstance;rintro st Q ⟨h0,hn,hn2,hQ⟩;refine waj.mk (prg hP) [] 0 .nil [0,3,4] [3] [] (wgb n v (maxV v)) (λk=>k+1<=n) (λk=>n - k) 0 hn h0 (λk hk=>?_) (λi=>⟨λ_ _=>rfl,trivial⟩);rw[wzo];refine wak (λh=>?_) (λh=>⟨λ_ _=>rfl,_,wb4,?_⟩)
 ·have e:((k:Int)+1).toNat=k+1:=by omega
  simp only[inR,e,and_true];exact⟨by omega,by omega,by omega,k+1,⟨rfl,wb4⟩,by omega,by omega⟩
 ·have:k=n - 1:=by omega
  rw[this];exact hQ
theorem min_ok(hP:C.P=Tryz.prog):waf C 260 wmb:=by
 rintro args objs U Os vc h hvc;unfold wmb at h;split at h<;>cases h;rename_i n t m f fr;obtain⟨rfl,rfl,hn,rfl,hn2,hf⟩:=hvc;generalize vInt f=v at hf;subst hf
 refine waf.wpL (prg hP) [] [(5,L_mm n v (minV v)),(1002,λ_ _=>False)] 0 .nil (hP ▸ Tryz.func260) rfl rfl rfl
  [(regC Tryz.f260 2,λ_ _=>False),(wam Tryz.f260 5,L_mm n v (minV v))] (by kernel_rfl) ⟨λ_ _ h=>h.elim,w04 hP n v,trivial⟩ ?_
 show wpFn _ _ _ _ _ _ [.row _ _ _ (λi=>[.q (v i)]) _] _;rw[nf_min];exact wak (λh=>absurd h (by omega)) (λ_=>⟨by omega,by omega,⟨rfl,wb4⟩,hn,hn2,λ_ _=>rfl,_,wb4,rfl,rfl⟩)
theorem max_ok(hP:C.P=Tryz.prog):waf C 261 wmc:=by
 rintro args objs U Os vc h hvc;unfold wmc at h;split at h<;>cases h;rename_i n t m f fr;obtain⟨rfl,rfl,hn,rfl,hn2,hf⟩:=hvc;generalize vInt f=v at hf;subst hf
 refine waf.wpL (prg hP) [] [(5,L_mm n v (maxV v)),(1002,λ_ _=>False)] 0 .nil (hP ▸ Tryz.func261) rfl rfl rfl
  [(regC Tryz.f261 2,λ_ _=>False),(wam Tryz.f261 5,L_mm n v (maxV v))] (by kernel_rfl) ⟨λ_ _ h=>h.elim,w05 hP n v,trivial⟩ ?_
 show wpFn _ _ _ _ _ _ [.row _ _ _ (λi=>[.q (v i)]) _] _;rw[nf_max];exact wak (λh=>absurd h (by omega)) (λ_=>⟨by omega,by omega,⟨rfl,wb4⟩,hn,hn2,λ_ _=>rfl,_,wb4,rfl,rfl⟩)
theorem wuf(hP:C.P=Tryz.prog):waf C 133 whd:=by
 rintro args objs U Os vc h hvc;unfold whd at h;split at h<;>cases h;rename_i n;obtain⟨i,rfl⟩:∃i:Nat,n=i:=⟨n.toNat,by omega⟩;refine wan.below ⟨Tryz.f133,hP ▸ Tryz.func133,rfl,by decide⟩ λw M cargs _ _ hM hl hv=>?_;obtain⟨a,rfl⟩:=mem1 hl;have:=(hv 0 _ _ rfl rfl).int_iff;subst this;rw[hP];refine(Tryz.strconv_Itoa_small i (by omega) w).mono ?_;rintro e w' ⟨rfl,rfl⟩;exact⟨_,rfl,Below.refl _ _,.str (by simp[decF])⟩
theorem w2f(hP:C.P=Tryz.prog)(n:Nat)(v:Nat->Int):waj C 1 49 (wam Tryz.f244 7) (wol n v):=by
 rintro st Q ⟨h0,hok,hQ⟩;have hv:=wu0 hok;have hn:=fmtOK_n hok;refine waj.mk (prg hP) [(133,.det whd)] 0 (.cons (wuf hP) .nil) [4,36,37,38] [4] [] (wmx n v) (λk=>k<=n - 1) (λk=>n - k) 0 (zL7 _) h0 (λk hk=>?_) (λi=>⟨λ_ _=>rfl,trivial⟩);rw[wz4];have hl1:=w2g (hv 0 (by omega));have hl2:=wuz (n:=n) (λi hi=>hv i hi) k (by omega);refine wak (λh=>?_) (λh=>⟨λ_ _=>rfl,_,wb4,?_⟩)
 ·have hlt:k<n - 1:=by omega
  have e:1+(k:Int).toNat=k+1:=by omega
  have hk1:=hv (k+1) (by omega);have hl3:=wku hk1;simp only[inR,e,and_true,lA7,List.length_cons,List.length_nil];refine⟨by omega,by omega,by omega,by omega,by omega,by omega,k+1,⟨?_,wb4⟩,by omega,by omega⟩;unfold TEq;rw[show wcp v (k+1)=wcp v k++(46::decF (v (k+1))) from rfl];simp
 ·have:k=n - 1:=by omega
  rw[this];exact hQ
theorem w2e(hP:C.P=Tryz.prog):waf C 244 wmv:=by
 rintro args objs U Os vc h hvc;unfold wmv at h;split at h<;>cases h;rename_i n t m f fr;obtain⟨rfl,rfl,rfl,hn2,hf⟩:=hvc;generalize vInt f=v at hf;subst hf
 refine waf.wpL (prg hP) [(260,.det wmb),(261,.det wmc),(133,.det whd)] [(7,wol n v)] 0 (.cons (min_ok hP) (.cons (max_ok hP) (.cons (wuf hP) .nil))) (hP ▸ Tryz.func244) rfl rfl rfl
  [(wam Tryz.f244 7,wol n v)] (by kernel_rfl) ⟨w2f hP n v,trivial⟩ ?_
 show wpFn _ _ _ _ _ _ [.row _ _ _ (λi=>[.q (v i)]) _] _;rw[wz5];have hvi:(vInt λi=>[AV.q (v i)])=v:=rfl;rw[hvi];have bad:wbn n v=false->(AV.tuple [.str [],.q 64]= .tuple [.str (bif wbn n v then fmtZ n v else []),.q (bif wbn n v then 0 else 64)]):=λh=>by rw[h];rfl
 have good:wbn n v=true->(AV.tuple [.str (fmtZ n v),.q 0]= .tuple [.str (bif wbn n v then fmtZ n v else []),.q (bif wbn n v then 0 else 64)]):=λh=>by rw[h];rfl
 refine wak (λh1=>⟨λ_ _=>rfl,_,wb4,bad ?_,rfl⟩) (λh1=>wak (λh2=>⟨λ_ _=>rfl,_,wb4,bad ?_,rfl⟩) (λh2=>⟨λ_ _=>rfl,⟨rfl,rfl,by omega,rfl,hn2,rfl⟩,λ_ _=>rfl,
  wak (λh3=>⟨λ_ _=>rfl,_,wb4,bad ?_,rfl⟩) (λh3=>⟨λ_ _=>rfl,⟨rfl,rfl,by omega,rfl,hn2,rfl⟩,λ_ _=>rfl,wak (λh4=>⟨λ_ _=>rfl,_,wb4,bad ?_,rfl⟩) (λh4=>?_)⟩)⟩))
 ·unfold wbn;rw[decide_eq_false (p:=1<=n) (by omega)];rfl
 ·unfold wbn;rw[decide_eq_false (p:=n<=5) (by omega)];simp
 ·unfold wbn;rw[decide_eq_false (p:=1<=minV v (n - 1)) (by omega)];simp
 ·unfold wbn;rw[decide_eq_false (p:=maxV v (n - 1)<=99) (by omega)];simp
 ·have hok:wbn n v=true:=by
   unfold wbn;rw[decide_eq_true (p:=1<=n) (by omega),decide_eq_true (p:=n<=5) (by omega),decide_eq_true (p:=1<=minV v (n - 1)) (by omega),decide_eq_true (p:=maxV v (n - 1)<=99) (by omega)];rfl
  have hv:=wu0 hok 0 (by omega);have hl3:=wku hv;refine⟨by omega,⟨by omega,rfl⟩,by omega,by omega,⟨by omega,rfl⟩,wak (λh5=>⟨by simp only[List.length_cons,List.length_nil];omega,by omega,⟨?_,wb4⟩,hok,λ_ _=>rfl,_,wb4,good hok,rfl⟩) (λh5=>⟨by omega,⟨?_,wb4⟩,hok,λ_ _=>rfl,_,wb4,good hok,rfl⟩)⟩
  ·unfold TEq wdr;rw[decide_eq_true h5];simp[wcp]
  ·unfold TEq wdr;rw[decide_eq_false h5];simp[wcp]
theorem wy9(s:List UInt8)(R:oR7):wpFn te [(242,.det wlr),(244,.det wmv)] [(3,wn2 s)] 0 Tryz.f227 [.str s] [] R=(letI z2:=(∀(i:Nat),i<(words s).length->true=true:Prop);letI z1:=(vInt λ(i:Nat)=>[.q (wcc s i)]);letI z0:=(words s).length;(s.length<4294967281/\[(46:UInt8)]=[(46:UInt8)])/\(TEq [(0,.str s),(4,.own 0 0),(12,.view 1 z0 λ(i:Nat)=>[.str (List.getD (words s) i [])]),(13,.q (z0:Int)),(14,.q 0)] [(0,.str s),(4,.own 0 0),(12,.view 1 z0 λ(i:Nat)=>[.str (List.getD (words s) i [])]),(13,.q (z0:Int)),(14,.q (↑0:Int))]/\wae [(0,.row 3 1 0 (λ(_x:Nat)=>[]) false)] [(0,.row 3 1 0 (λ(i:Nat)=>[.q (wcc s i)]) false)])/\s.length<4294967281/\z2/\(3=3/\false=false/\(words s).length=(words s).length/\(words s).length<=4611686018427387904/\(λ(i:Nat)=>[.q (wcc s i)])=wab z1)/\z2/\wad (!decide ((bif wbn z0 z1 then (0:Int) else (64:Int))=0)) (R (.tuple [.nil,.q 60]) []) (wad (!decide ((bif wbn z0 z1 then fmtZ z0 z1 else [])=s)) (R (.tuple [.nil,.q 60]) []) (z2/\∃(O':oL7),wae [(0,.row 3 1 z0 (λ(i:Nat)=>[.q (wcc s i)]) false)] O'/\R (.tuple [.own 0 z0,.q 0]) O'))):=by kernel_rfl
theorem wy8(s:List UInt8)(k:Nat)(P:Nat->Prop)(R:eR7):wa0 ⟨te,[(243,.det wnf)],[],0,41,0⟩ (wa2 Tryz.f227 3) [0,4,12,13,14] [0,4] [] (wlz s) P R (wlz s k)=(letI z2:=(List.getD (words s) (k:Int).toNat []);letI z1:=TI.mk (TypeDesc.int IntKind.i64) 1 8 (Value.int IntKind.i64 0) false;letI z0:=(words s).length;wad (decide ((k:Int)<(z0:Int))) (((0:Int)<=(k:Int)/\(k:Int)<(z0:Int)/\1=1)/\z2.length<=281474976710656/\(1<=16777216/\1=1/\1<=9223372036854775807)/\((1<=1/\1=1)/\k<=k/\1=1/\3=3/\1=1/\k+1<=9223372036854775807/\(k+1) * TI.bytes z1<=140737488355328)/\inR .i64 ((k:Int)+1)/\∃(i':Nat),(TEq [(0,.str s),(4,.own 0 (k+1)),(12,.view 1 z0 λ(i:Nat)=>[.str (List.getD (words s) i [])]),(13,.q (z0:Int)),(14,.q ((k:Int)+1))] [(0,.str s),(4,.own 0 i'),(12,.view 1 z0 λ(i:Nat)=>[.str (List.getD (words s) i [])]),(13,.q (z0:Int)),(14,.q (i':Int))]/\wae [(0,.row 3 1 (k+1) (apF k (λ(i:Nat)=>[.q (wcc s i)]) (waq (TI.sz z1) (.q (wiw z2)::List.append [] wbt))) false)] [(0,.row 3 1 i' (λ(i:Nat)=>[.q (wcc s i)]) false)])/\P i') ((∀(i:Nat),i<k->true=true)/\∃(O':oL7),wae [(0,.row 3 1 k (λ(i:Nat)=>[.q (wcc s i)]) false)] O'/\R (.exit 0) (St.mk [(0,.str s),(4,.own 0 k)] O' 1 []))):=by kernel_rfl
variable {C:Ctx} [C.Loose]
theorem wxc(hP:C.P=Tryz.prog)(hL:∀w,C.laid w->LaidW w):waf C 242 wlr:=by
 rintro args objs U Os vc h hvc;unfold wlr at h;split at h<;>cases h;rename_i s sep;obtain⟨hs,rfl⟩:=hvc;refine wan.below ⟨Tryz.f242,hP ▸ Tryz.func242,rfl,by decide⟩ λw M cargs hlaid _ hM hl hv=>?_;obtain⟨m,hm⟩:=(hL w hlaid).maxLen;obtain⟨a,b,rfl⟩:=mem2 hl;have e1:=(hv 0 _ _ rfl rfl).str_iff;have e2:=(hv 1 _ _ rfl rfl).str_iff;subst e1;subst e2;rw[hP];refine(Tryz.strings_Split ⟨s.toArray⟩ ⟨#[46]⟩ m w (by simpa[ByteArray.size] using hs) hm (by decide)).mono ?_;rintro e w' ⟨rfl,rfl⟩;have hd:=Lib.splitB_data ⟨#[46]⟩ 0 (Lib.countB ⟨s.toArray⟩ ⟨#[46]⟩) ⟨s.toArray⟩;have hw:(Lib.splitB ⟨#[46]⟩ 0 (Lib.countB ⟨s.toArray⟩ ⟨#[46]⟩) ⟨s.toArray⟩).map (·.data.toList)=words s:=by
  rw[hd];simp[words,Lib.split]
 have hlen:(Lib.splitB ⟨#[46]⟩ 0 (Lib.countB ⟨s.toArray⟩ ⟨#[46]⟩) ⟨s.toArray⟩).length=(words s).length:=by rw[← hw];simp
 have hcnt:Lib.countB ⟨s.toArray⟩ ⟨#[46]⟩+1=(words s).length:=by
  rw[whr]
 refine⟨_,rfl,(Below.refl _ _).alloc (lR7 _) _,?_⟩;rw[hcnt];have hle:=Lib.count_le s [46];refine V.newview hM (by simp[hlen]) (by rw[whr];unfold maxLen;omega) (λi v hv=>?_) (λi v hv=>?_)
 ·rw[List.getElem?_toArray,List.getElem?_map] at hv;obtain⟨x,_,rfl⟩:=Option.map_eq_some_iff.1 hv;exact rfl
 ·simp at hv;obtain⟨x,hx,rfl⟩:=hv;refine⟨_,rfl,.str ?_⟩;have:(words s)[i]?=some x.data.toList:=by rw[← hw];simp[hx]
  simp[List.getD,this]
theorem atoi_ok(hP:C.P=Tryz.prog)(hL:∀w,C.laid w->LaidW w):waf C 243 wnf:=by
 rintro args objs U Os vc h hvc;unfold wnf at h;split at h<;>cases h;rename_i s;refine wan.below ⟨Tryz.f243,hP ▸ Tryz.func243,rfl,by decide⟩ λw M cargs hlaid _ hM hl hv=>?_;obtain⟨a,rfl⟩:=mem1 hl;have e1:=(hv 0 _ _ rfl rfl).str_iff;subst e1;rw[hP];have hsz:(⟨s.toArray⟩:ByteArray).size=s.length:=by simp[ByteArray.size]
 have hdt:(⟨s.toArray⟩:ByteArray).data.toList=s:=by simp
 have tup:∀(w':World) (n:Int) (e:Value),V w' M nob (.tuple #[.int .i64 n,e]) (.tuple [.int .i64 n,.any]):=λw' n e=>.tuple rfl λj v u hv hu=>by
  match j with
  |0=>simp at hv hu;subst hv;subst hu;exact .int
  |1=>simp at hv hu;subst hv;subst hu;exact .any
  |j+2=>simp at hv
 unfold wiw
 cases hh:Lib.atoiAll s with
 |ok v=>
  refine(Tryz.strconv_Atoi_ok ⟨s.toArray⟩ (by omega) v (by rw[hdt];exact hh) w).mono ?_;rintro e w' ⟨rfl,hw⟩;refine⟨_,rfl,?_,tup _ _ _⟩
  rcases hw with rfl | ⟨t,rfl⟩
  ·exact Below.refl _ _
  ·exact Lib.bytesWorld_below _ _ _
 |range=>
  obtain⟨t,p,he⟩:=(hL w hlaid).errR;refine(Any.strconv_Atoi_range Tryz.laysC172 ⟨s.toArray⟩ (by omega) (by rw[hdt];exact hh) _ w he (.inr ⟨t,p,rfl⟩)).mono ?_;rintro e w' ⟨N,rfl,_,_,hb⟩;rw[hdt];exact⟨_,rfl,hb,tup _ _ _⟩
 |_=>
  obtain⟨t,p,he⟩:=(hL w hlaid).errS;refine(Any.strconv_Atoi_syntax Tryz.laysC172 ⟨s.toArray⟩ (by omega) (by rw[hdt];exact hh) _ w he (.inr ⟨t,p,rfl⟩)).mono ?_;rintro e w' ⟨N,rfl,_,_,hb⟩;exact⟨_,rfl,hb,tup _ _ _⟩
theorem wx1(hP:C.P=Tryz.prog)(hL:∀w,C.laid w->LaidW w)(s:List UInt8):waj C 0 41 (wam Tryz.f227 3) (wn2 s):=by
 rintro st Q ⟨h0,hs,hQ⟩;refine AWP.ownNil 4 3 1 ?_;have hwl:(words s).length<=s.length+2:=by
  have:=Lib.count_le s [46];rw[whr];omega
 refine waj.mk (prg hP) [(243,.det wnf)] 0 (.cons (atoi_ok hP hL) .nil) [0,4,12,13,14] [0,4] [] (wlz s) (λk=>k<=(words s).length) (λk=>(words s).length - k) 0 (zL7 _) h0 (λk hk=>?_) (λi=>⟨λ_ _=>rfl,trivial⟩);rw[wy8];refine wak (λh=>?_) (λh=>⟨λ_ _=>rfl,_,wb4,?_⟩)
 ·have hlt:k<(words s).length:=by omega
  have hlw:((words s).getD k []).length<=s.length:=by
   have:=wwr s ((words s).getD k []) (by simp[List.getD,hlt]);exact this
  have hrow:∀i,i<k+1->apF k (λi=>[AV.q (wcc s i)]) (waq 1 [.q (wiw ((words s).getD k []))]) i=[.q (wcc s i)]:=by
   intro i hi;unfold apF;split
   ·rfl
   ·have:i=k:=by omega
    subst this;rw[Nat.sub_self];rfl
  simp only[inR,tN7]
  and_intros
  any_goals omega
  any_goals (simp;done)
  exact⟨k+1,⟨rfl,⟨rfl,rfl,rfl,rfl,rfl,hrow⟩,trivial⟩,by omega,by omega⟩
 ·have:k=(words s).length:=by omega
  rw[this] at *;exact hQ
theorem wx0(hP:C.P=Tryz.prog)(hL:∀w,C.laid w->LaidW w):wa4 C 227 wnn:=by
 rintro args objs R h;unfold wnn at h;split at h
 ·rename_i s;obtain⟨hs,hR⟩:=h;have hR:=wb3 hR
  refine wa4.wpL (prg hP) [(242,.det wlr),(244,.det wmv)] [(3,wn2 s)] 0 (.cons (wxc hP hL) (.cons (w2e hP) .nil)) (hP ▸ Tryz.func227) rfl rfl rfl
   [(wam Tryz.f227 3,wn2 s)] (by kernel_rfl) ⟨wx1 hP hL s,trivial⟩ ?_
  rw[wy9];have hvi:(vInt λi=>[AV.q (wcc s i)])=wcc s:=rfl;rw[hvi];have hwl:(words s).length<=s.length+2:=by
   have:=Lib.count_le s [46];rw[whr];omega
  refine⟨⟨hs,rfl⟩,⟨rfl,⟨rfl,rfl,rfl,rfl,rfl,λi hi=>by omega⟩,trivial⟩,hs,λ_ _=>rfl,⟨rfl,rfl,rfl,by omega,rfl⟩,λ_ _=>rfl,?_⟩
  cases hok:wbn (words s).length (wcc s) with
  |false=>exact hR.2 (by unfold wdw;rw[hok];rfl)
  |true=>
   have e0:(!decide ((bif true then (0:Int) else 64)=0))=false:=rfl
   rw[e0];show wad (!decide (fmtZ (words s).length (wcc s)=s)) _ _;refine wb7 (λh1=>hR.2 ?_) (λh1=>⟨λ_ _=>rfl,_,wb4,hR.1 ?_⟩)
   ·unfold wdw;rw[hok,decide_eq_false h1];rfl
   ·unfold wdw;rw[hok];exact decide_eq_true h1
 ·exact h.elim
end Go.Eng
namespace Go.Eng
open Go.Proofs Go.RowKit
variable {C:Ctx} [C.Loose]
set_option maxRecDepth 20000
theorem wzq(s:List UInt8)(R:oR7):wpFn te [(227,.rel wnn)] [] 0 Tryz.f198 [.str s] [] R=(s.length<4294967281/\wad (wdw s) ((∀(i:Nat),i<(words s).length->true=true)/\R (.q (↑(words s).length:Int)) []) (wad (!decide (s=[])) (R (.q (-1:Int)) []) (R (.q 0) []))):=by kernel_rfl
theorem w1g(hP:C.P=Tryz.prog)(hL:∀w,C.laid w->LaidW w):waf C 198 wmd:=by
 rintro args objs U Os vc h hvc;unfold wmd at h;split at h<;>cases h;rename_i s;refine waf.wp0 (prg hP) [(227,.rel wnn)] 0 (.cons (wx0 hP hL) .nil) (hP ▸ Tryz.func198) rfl rfl rfl ?_;rw[wzq];refine⟨hvc,waz (λh=>⟨λ_ _=>rfl,?_,rfl⟩) (λh=>wb7 (λh'=>⟨?_,rfl⟩) (λh'=>⟨?_,rfl⟩))⟩
 ·unfold wfx;rw[h]
 ·unfold wfx;rw[h,decide_eq_false h']
 ·unfold wfx;rw[h,decide_eq_true h']
end Go.Eng
namespace Go.Eng
open Go.Proofs Go.RowKit
set_option maxRecDepth 20000
theorem nf_qty(d c a:Int)(R:oR7):wpFn te [] [] 0 Tryz.f200 [.agg [.q d,.q c,.q a]] [] R=(wad (decide (d<1)) (R (.q 80) []) (wad (decide ((4:Int)<d)) (R (.q 80) []) (wad (decide (c<1)) (R (.q 81) []) (wad (decide ((100:Int)<c)) (R (.q 81) []) (wad (decide (a<1)) (R (.q 82) []) ((c≠(0:Int)/\inR .i64 (Int.tdiv (1099511627776:Int) c))/\wad (decide (Int.tdiv (1099511627776:Int) c<a)) (R (.q 82) []) (R (.q 0) []))))))):=by kernel_rfl
variable {C:Ctx} [C.Loose]
theorem qty_ok(hP:C.P=Tryz.prog):waf C 200 wly:=by
 have _:C.Loose:=inferInstance;rintro args objs U Os vc h hvc;unfold wly at h;split at h<;>cases h;rename_i d c a;refine waf.wp0 (prg hP) [] 0 .nil (hP ▸ Tryz.func200) rfl rfl rfl ?_;rw[nf_qty];refine waz (λh1=>?_) (λh1=>waz (λh2=>?_) (λh2=>waz (λh3=>?_) (λh3=>waz (λh4=>?_) (λh4=>waz (λh5=>?_) (λh5=>⟨wxu (of_decide_eq_false h3) (of_decide_eq_false h4),waz (λh6=>?_) (λh6=>?_)⟩)))))
 all_goals simp only[qtyF, *,cond_true,cond_false,and_self]
end Go.Eng
