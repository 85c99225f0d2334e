/- Names of products: the functions compute what the plain functions say. -/
import Derived.Test.YtmcdngcjakjnmaaGreatDoorJvm
namespace Go.Eng
open Go.Proofs Go.RowKit
set_option maxRecDepth 20000
theorem w0k(s:List UInt8)(cells:List AV)(R:oR7):wpFn te [] [(1,wox s cells 199)] 0 Tryz.f175 [.str s,.ptr 0 0] [.cells cells 199] R=(letI z0:=([(0,.cells (AV.rnL (ren 1 []) cells) 199)]:oL7);some (St.mk [(0,.str s),(1,.ptr 0 0)] z0 1 [])=some (St.mk [(0,.str s),(1,.ptr 0 0)] [(0,.cells cells 199)] 1 [])/\wcd cells/\R (.str (List.dropWhile (wbi cells) s)) z0):=by kernel_rfl
theorem w0i(cells:List AV)(P:List UInt8->Prop)(R:eR7):wat ⟨te,[(187,.det wge)],[],1,16,0⟩ (wav Tryz.f175 1) [0,1] [0] [0] (wd7 cells 199) P R (wd7 cells 199 [])=(R (.exit 0) (St.mk [(0,.str [])] [(0,.cells (AV.rnL (ren 1 []) cells) 199)] 1 [])):=by kernel_rfl
theorem w0j(x:UInt8)(s:List UInt8)(cells:List AV)(P:List UInt8->Prop)(R:eR7):wat ⟨te,[(187,.det wge)],[],1,16,0⟩ (wav Tryz.f175 1) [0,1] [0] [0] (wd7 cells 199) P R (wd7 cells 199 (x::s))=(letI z3:=AV.rnL (idxN [0]) cells;letI z2:=(↑(x::s).length:Int);letI z1:=([(0,.cells (AV.rnL (ren 1 []) (AV.rnL (sig [0] 1) z3)) 199)]:oL7);letI z0:=(↑(UInt8.toNat (List.getD (x::s) (0:Int).toNat (0:UInt8))):Int);wab (decide ((0:Int)<z2)) (((0:Int)<=0/\(0:Int)<z2)/\(wcd z3/\(0:Int)<=z0/\z0<256)/\wab (!wbi z3 (UInt8.ofNat z0.toNat)) (R (.exit 0) (St.mk [(0,.str (x::s))] z1 1 [])) (((0:Int)<=1/\(1:Int)<=z2)/\∃(i':List UInt8),some (St.mk [(0,.str (List.drop (1:Int).toNat (x::s))),(1,.ptr 0 0)] z1 1 [])=some (St.mk [(0,.str i'),(1,.ptr 0 0)] [(0,.cells cells 199)] 1 [])/\P i')) (R (.exit 0) (St.mk [(0,.str (x::s))] [(0,.cells (AV.rnL (ren 1 []) cells) 199)] 1 []))):=by kernel_rfl
theorem w0h(s:List UInt8)(cells:List AV)(R:oR7):wpFn te [] [(1,wow s cells 199)] 0 Tryz.f176 [.str s,.ptr 0 0] [.cells cells 199] R=(letI z0:=([(0,.cells (AV.rnL (ren 1 []) cells) 199)]:oL7);some (St.mk [(0,.str s),(1,.ptr 0 0)] z0 1 [])=some (St.mk [(0,.str s),(1,.ptr 0 0)] [(0,.cells cells 199)] 1 [])/\wcd cells/\s.length<=9223372036854775807/\R (.str (wc6 (wbi cells) s)) z0):=by kernel_rfl
theorem w0g(s:List UInt8)(cells:List AV)(P:List UInt8->Prop)(R:eR7):wat ⟨te,[(187,.det wge)],[],1,22,0⟩ (wav Tryz.f176 1) [0,1] [0] [0] (wd7 cells 199) P R (wd7 cells 199 s)=(letI z3:=AV.rnL (idxN [0]) cells;letI z2:=([(0,.cells (AV.rnL (ren 1 []) (AV.rnL (sig [0] 1) z3)) 199)]:oL7);letI z0:=(s.length:Int);letI z4:=(z0 - (1:Int));letI z1:=(↑(UInt8.toNat (List.getD s z4.toNat (0:UInt8))):Int);wab (decide ((0:Int)<z0)) (inR .i64 z4/\((0:Int)<=z0 - (1:Int)/\z0 - (1:Int)<z0)/\(wcd z3/\(0:Int)<=z1/\z1<256)/\wab (!wbi z3 (UInt8.ofNat z1.toNat)) (R (.exit 0) (St.mk [(0,.str s)] z2 1 [])) (inR .i64 z4/\((0:Int)<=z0 - (1:Int)/\z0 - (1:Int)<=z0)/\∃(i':List UInt8),some (St.mk [(0,.str (List.take z4.toNat s)),(1,.ptr 0 0)] z2 1 [])=some (St.mk [(0,.str i'),(1,.ptr 0 0)] [(0,.cells cells 199)] 1 [])/\P i')) (R (.exit 0) (St.mk [(0,.str s)] [(0,.cells (AV.rnL (ren 1 []) cells) 199)] 1 []))):=by kernel_rfl
theorem nf_trim(s cs:List UInt8)(R:oR7):wpFn te [(175,.det wmg),(176,.det wmf)] [(1005,wov s cs)] 0 Tryz.f164 [.str s,.str cs] [] R=(letI z3:=St.mk [(0,.str s),(1,.str cs)] [] 0 [];letI z2:=((0:Int)<=0/\(0:Int)<(cs.length:Int):Prop);letI z1:=AV.rnL (idxN [0]) (setAV cs);letI z4:=AV.rnL (idxN [0]) (AV.rnL (sig [0] 1) z1);letI z0:=(some z3=some z3/\cs.length<4294967281/\(∀(b:UInt8),b∈cs->UInt8.toNat b<128)/\(wcd z1/\s.length<=9223372036854775807)/\wcd z4/\R (.str (List.dropWhile (wbi z4) (wc6 (wbi z1) s))) []);wab (decide (s=[])) (R (.str s) []) (wab (decide (cs=[])) (R (.str s) []) (wab (decide ((cs.length:Int)=1)) (z2/\wab (decide ((↑(UInt8.toNat (List.getD cs (0:Int).toNat (0:UInt8))):Int)<128)) (z2/\False) z0) z0))):=by kernel_rfl
variable {C:Ctx} [C.Loose]
theorem mem2{α:Type}{l:List α}(h:l.length=2):∃a b,l=[a,b]:=by
 match l,h with
 |[a,b],_=>exact⟨a,b,rfl⟩
theorem mem1{α:Type}{l:List α}(h:l.length=1):∃a,l=[a]:=by
 match l,h with
 |[a],_=>exact⟨a,rfl⟩
theorem ws6(hP:C.P=Tryz.prog):wad C 187 wge:=by
 have _:C.Loose:=inferInstance;rintro args objs U Os vc h hvc;unfold wge at h;split at h<;>cases h;rename_i x cells t;obtain⟨hc,h0,h1⟩:=hvc;obtain⟨n,rfl⟩:∃n:UInt8,x=n.toNat:=⟨UInt8.ofNat x.toNat,by simp;omega⟩;refine waw.quiet ⟨Tryz.f187,hP ▸ Tryz.func187,rfl,by decide⟩ λE bs w cargs hW hl hv=>?_;obtain⟨a,b,rfl⟩:=mem2 hl;have e2:=(hv 1 _ _ rfl rfl).int_iff;subst e2;obtain⟨b,y,rfl,hcc,hy⟩:=hW.cell (r:=0) rfl (hv 0 _ _ rfl rfl) (hc.at_ n)
 cases hy;rw[hP];refine(Tryz.asciiSet_contains b n _ w hcc).mono ?_;rintro e w' ⟨rfl,rfl⟩;refine⟨_,rfl,rfl,?_⟩;have:UInt8.ofNat (n.toNat:Int).toNat=n:=by simp
 rw[this];exact .bool
theorem wx7(hP:C.P=Tryz.prog)(s:List UInt8)(cells:List AV):wah C 1 16 (wai Tryz.f175 1) (wox s cells 199):=by
 rintro st Q ⟨h0,hc,hQ⟩;refine wah.mk (prg hP) [(187,.det wge)] 0 (.cons (ws6 hP) .nil) [0,1] [0] [0] (wd7 cells 199) (λs'=>s'.dropWhile (wbi cells)=s.dropWhile (wbi cells)) List.length s rfl h0 λs' hs'=>?_;have hrn:=hc.rn
 cases s' with
 |nil=>
  rw[w0i];simp only[hrn];rw[← hs'] at hQ;exact hQ
 |cons x r=>
  rw[w0j];simp only[hrn];have ex:UInt8.ofNat (Int.toNat (↑(UInt8.toNat (List.getD (x::r) (Int.toNat 0) 0))))=x:=by simp
  have hx:(List.getD (x::r) (Int.toNat 0) 0)=x:=rfl;have hlt:x.toNat<256:=x.toNat_lt;have hlen:(((x::r).length:Nat):Int)=(r.length:Int)+1:=by simp
  rw[hx] at ex;simp only[hx,ex,hlen];refine wan (λ_=>⟨by omega,⟨hc,by omega,by omega⟩,wan (λh=>?_) (λh=>?_)⟩) (λh=>?_)
  ·have h:wbi cells x=false:=by simpa using h
   rw[← hs',List.dropWhile_cons,h] at hQ;exact hQ
  ·have h:wbi cells x=true:=by simpa using h
   refine⟨by omega,r,rfl,?_,by simp⟩;rw[← hs',List.dropWhile_cons,h];rfl
  ·have:=of_decide_eq_false h;omega
theorem wx6(hP:C.P=Tryz.prog):wad C 175 wmg:=by
 rintro args objs U Os vc h hvc;unfold wmg at h;split at h<;>cases h;rename_i s cells;refine wad.wpL (prg hP) [] [(1,wox s cells 199)] 0 .nil (hP ▸ Tryz.func175) rfl rfl rfl [(wai Tryz.f175 1,wox s cells 199)] (by kernel_rfl) ⟨wx7 hP s cells,trivial⟩ ?_;rw[w0k];simp only[hvc.rn];exact⟨trivial,hvc,by simp⟩
theorem wx5(hP:C.P=Tryz.prog)(s:List UInt8)(cells:List AV):wah C 1 22 (wai Tryz.f176 1) (wow s cells 199):=by
 rintro st Q ⟨h0,hc,hm,hQ⟩;refine wah.mk (prg hP) [(187,.det wge)] 0 (.cons (ws6 hP) .nil) [0,1] [0] [0] (wd7 cells 199) (λs'=>wc6 (wbi cells) s'=wc6 (wbi cells) s/\s'.length<=maxLen) List.length s ⟨rfl,hm⟩ h0 λs' hs'=>?_;have hrn:=hc.rn;obtain⟨hs',hm'⟩:=hs';have hm2:s'.length<=9223372036854775807:=hm';rw[w0g];simp only[hrn]
 rcases wyj s' with rfl | ⟨r,x,rfl⟩
 ·refine wan (λh=>?_) (λ_=>?_)
  ·have:=of_decide_eq_true h;simp at this
  ·rw[← hs'] at hQ;exact hQ
 ·have hlen:(((r++[x]).length:Nat):Int)=(r.length:Int)+1:=by simp
  have e1:((r.length:Int)+1 - 1).toNat=r.length:=by omega
  have hx:(r++[x]).getD r.length 0=x:=by simp
  have ht:(r++[x]).take r.length=r:=by simp
  have ex:UInt8.ofNat ((x.toNat:Int)).toNat=x:=by simp
  have hlt:x.toNat<256:=x.toNat_lt;have hlr:(r++[x]).length=r.length+1:=by simp
  simp only[hlen,e1,hx,ht,ex,inR];refine wan (λ_=>⟨by omega,by omega,⟨hc,by omega,by omega⟩,wan (λh=>?_) (λh=>?_)⟩) (λh=>?_)
  ·have h:wbi cells x=false:=by simpa using h
   rw[← hs',wwo,h] at hQ;exact hQ
  ·have h:wbi cells x=true:=by simpa using h
   refine⟨by omega,by omega,r,rfl,⟨?_,?_⟩,by omega⟩
   ·rw[← hs',wwo,h];rfl
   ·show r.length<=9223372036854775807;omega
  ·have:=of_decide_eq_false h;omega
theorem wx4(hP:C.P=Tryz.prog):wad C 176 wmf:=by
 rintro args objs U Os vc h hvc;unfold wmf at h;split at h<;>cases h;rename_i s cells;refine wad.wpL (prg hP) [] [(1,wow s cells 199)] 0 .nil (hP ▸ Tryz.func176) rfl rfl rfl [(wai Tryz.f176 1,wow s cells 199)] (by kernel_rfl) ⟨wx5 hP s cells,trivial⟩ ?_;rw[w0h];simp only[hvc.1.rn];exact⟨trivial,hvc.1,hvc.2,by simp⟩
theorem wyq{w:World}{M:Nat->Prop}{bs:Nat->Option Hd}(l:List UInt8):wc0 w M bs (Lib.setCells l) (setAV l):=by
 have hs:(Lib.setCells l).size=256:=Lib.setCells_size l;have hl:(setAV l).length=256:=(wfq l).1;have at_:∀j,j<256->(Lib.setCells l)[j]?=some (.bool (l.contains (UInt8.ofNat j))):=by
  intro j hj;have:=Lib.setCells_at l (UInt8.ofNat j);have e:(UInt8.ofNat j).toNat=j:=by simp;omega
  rwa [e] at this
 refine⟨by rw[hs,hl],λj v hv=>?_,λj v u hv hu=>?_⟩
 ·have hj:j<256:=by rw[← hs];exact(Array.getElem?_eq_some_iff.1 hv).1
  rw[at_ j hj] at hv
  cases hv;rfl
 ·have hj:j<256:=by rw[← hs];exact(Array.getElem?_eq_some_iff.1 hv).1
  rw[at_ j hj] at hv
  cases hv;have:(setAV l)[j]?=some (.bool (l.contains (UInt8.ofNat j))):=by unfold setAV;simp[hj]
  rw[this] at hu
  cases hu;exact .bool
theorem w33(hP:C.P=Tryz.prog):wad C 174 wxi:=by
 rintro args objs U Os vc h hvc;unfold wxi at h;split at h<;>cases h;rename_i l;obtain⟨hl,hascii⟩:=hvc;refine waw.below ⟨Tryz.f174,hP ▸ Tryz.func174,rfl,by decide⟩ λw M cargs _ _ hM hlen hv=>?_;obtain⟨a,rfl⟩:=mem1 hlen;have e1:=(hv 0 _ _ rfl rfl).str_iff;subst e1;rw[hP];refine(Tryz.strings_makeASCIISet (λw=>Tryz.zeroValue199 w) ⟨l.toArray⟩ w (by simpa[ByteArray.size] using hl) (λj b hb=>hascii b (by simpa using List.mem_of_getElem? hb))).mono ?_;rintro e w' ⟨rfl,rfl⟩;have hc:=wyq (w:=w.alloc (.cells (Lib.setCells l) 199)) (M:=M) (bs:=nob) l;refine⟨_,rfl,(Below.refl _ _).alloc (lR7 _) _,.tuple rfl λj v u hv hu=>?_⟩
 match j with
 |0=>simp at hv hu;subst hv;subst hu;exact .agg hc.1 hc.2.1 hc.2.2
 |1=>simp at hv hu;subst hv;subst hu;exact .bool
 |j+2=>simp at hv
def teSet:TE:=[(199,{ desc:=.array 256 4,sz:=256,bytes:=256,zero:=.agg (Array.replicate 256 (.bool false)) })]
@[irreducible] def zeroSet:List AV:=List.replicate 256 (.bool false)
theorem w65(n:Nat):avcs (List.replicate n (.bool false))=some (List.replicate n (.bool false)):=by
 induction n with
 |zero=>rfl
 |succ n ih=>simp[List.replicate_succ,avcs,avc,ih]
theorem wya:TE.ok Tryz.prog teSet:=by
 refine TE.ok_cons Tryz.underlying199 ⟨Tryz.t199,Tryz.type199,rfl,rfl,by kernel_rfl⟩ (λh=>by cases h) TE.ok_nil
theorem wxn:avcs (Value.agg (Array.replicate 256 (.bool false))).cells.toList=some zeroSet:=by
 have e:(Value.agg (Array.replicate 256 (.bool false))).cells.toList=List.replicate 256 (Value.bool false):=Array.toList_replicate;rw[e];unfold zeroSet;exact w65 256
theorem wxo(cs:List UInt8):zeroSet.length=(setAV cs).length:=by
 rw[(wfq cs).1];unfold zeroSet;rw[List.length_replicate]
theorem wx3(hP:C.P=Tryz.prog)(s cs:List UInt8):wah C 0 43 (regC Tryz.f164 5) (wov s cs):=by
 rintro st Q ⟨h0,hl,hascii,hQ⟩;refine AWP.canonIs [0,1] h0 ?_ trivial;have hte:=(prg hP).ok;have hts:TE.ok C.P teSet:=hP ▸ wya;have hrn:=(wfq cs).rn;refine AWP.canQ (te:=te) (Fe:=[0,5,6]) (Fr:=[]) ?_;show AWP C 0 43 (.region 5 (List.toArray _) false) _ _;refine AWP.region ?_;refine AOps.pure hte (prg hP).one rfl rfl rfl trivial ?_;refine AOps.callD (u2:=.nil) (cobjs:=[]) (U:=.tuple [.agg (setAV cs),.bool true]) (Os:=[]) (T2:=[(31,.tuple [.agg (setAV cs),.bool true]),(30,.str cs),(0,.str s),(1,.str cs)]) [] rfl rfl rfl rfl rfl rfl trivial (w33 hP [.str cs] [] _ _ _ rfl ⟨hl,hascii⟩) rfl ?_ rfl rfl ?_
 ·show (31,AV.tuple [.agg (AV.rnL _ (setAV cs)),.bool true])::_=_;rw[hrn];rfl
 refine AOps.pure hte (prg hP).one rfl rfl rfl trivial ?_;refine AOps.pure hte (prg hP).one rfl rfl rfl trivial ?_;refine AOps.pure hte (prg hP).one rfl rfl rfl trivial ?_;refine AOps.step (l:=[(_,.cells zeroSet 199)]) rfl (wao.allocW hts (t:=199) rfl rfl rfl wxn) rfl rfl rfl rfl ?_;refine AOps.step rfl (wao.storeW hts (t:=199) (new:=setAV cs) rfl rfl rfl rfl rfl rfl (wxo cs) (wfq cs).1) rfl rfl rfl rfl ?_;refine AOps.pure hte (prg hP).one rfl rfl rfl trivial ?_;refine AOps.nil ?_;refine canQ_of (s':=⟨[(0,.str s),(5,.ptr 0 0),(6,.bool true)],[(0,.cells (AV.rnL (ren 0 [(16,0)]) (setAV cs)) 199)],1,[]⟩) (by simp) ?_ ?_
 ·rfl
 ·rw[hrn];exact hQ
theorem wjs(hP:C.P=Tryz.prog):wad C 164 weo:=by
 rintro args objs U Os vc h hvc;unfold weo at h;split at h<;>cases h;rename_i s cs;obtain⟨hs,h2,hl,hascii⟩:=hvc
 refine wad.wpL (prg hP) [(175,.det wmg),(176,.det wmf)] [(1005,wov s cs)] 0 (.cons (wx6 hP) (.cons (wx4 hP) .nil)) (hP ▸ Tryz.func164) rfl rfl rfl
  [(regC Tryz.f164 5,wov s cs)] (by kernel_rfl) ⟨wx3 hP s cs,trivial⟩ ?_
 rw[nf_trim];have hrn:=(wfq cs).rn;have hc1:∀h:(cs.length:Int)=1,False:=by intro h;omega
 have hin:wbi (setAV cs)=(cs.contains ·):=funext (w42 cs)
 simp only[hrn,hin];refine wan (λh=>?_) (λ_=>wan (λh=>?_) (λ_=>wan (λh=>?_) (λ_=>?_)))
 ·have h:=of_decide_eq_true h;subst h;simp[wer,wc6]
 ·have h:=of_decide_eq_true h;subst h;simp at h2
 ·exact(hc1 (of_decide_eq_true h)).elim
 ·exact⟨trivial,hl,hascii,⟨wfq cs,hs⟩,wfq cs,rfl,trivial⟩
theorem nf_min(n:Nat)(v:Nat->Int)(R:oR7):wpFn te [] [(5,L_mm n v (minV v)),(1002,λ_ _=>False)] 0 Tryz.f184 [.own 0 n] [.row 3 1 n (λi=>[.q (v i)]) false] R=(letI z0:=([(0,.row 3 1 n (λ(i:Nat)=>[.q (v i)]) false)]:oL7);wab (decide ((n:Int)<1)) False (((0:Int)<=0/\(0:Int)<(n:Int))/\(0<n/\1=1)/\(TEq [(0,.own 0 n),(3,.q (v 0)),(4,.q 1)] [(0,.own 0 n),(3,.q (minV v 0)),(4,.q ((↑0:Int)+1))]/\wac z0 z0)/\1<=n/\n<=4611686018427387904/\(∀(i:Nat),i<n->true=true)/\∃(O':oL7),wac z0 O'/\R (.q (minV v (n - 1))) O')):=by kernel_rfl
theorem w1w(n:Nat)(v:Nat->Int)(k:Nat)(P:Nat->Prop)(R:eR7):wat ⟨te,[],[],1,25,0⟩ (wav Tryz.f184 5) [0,3,4] [3] [] (wgg n v (minV v)) P R (wgg n v (minV v) k)=(letI z0:=([(0,.row 3 1 n (λ(i:Nat)=>[.q (v i)]) false)]:oL7);wab (decide ((k:Int)+1<(n:Int))) (((0:Int)<=(k:Int)+1/\(k:Int)+1<(n:Int))/\(((k:Int)+1).toNat<n/\1=1)/\inR .i64 ((k:Int)+1+1)/\∃(i':Nat),(TEq [(0,.own 0 n),(3,.q (min (minV v k) (v ((k:Int)+1).toNat))),(4,.q ((k:Int)+1+1))] [(0,.own 0 n),(3,.q (minV v i')),(4,.q ((i':Int)+1))]/\wac z0 z0)/\P i') ((∀(i:Nat),i<n->true=true)/\∃(O':oL7),wac z0 O'/\R (.exit 0) (St.mk [(3,.q (minV v k))] O' 1 []))):=by kernel_rfl
theorem nf_max(n:Nat)(v:Nat->Int)(R:oR7):wpFn te [] [(5,L_mm n v (maxV v)),(1002,λ_ _=>False)] 0 Tryz.f185 [.own 0 n] [.row 3 1 n (λi=>[.q (v i)]) false] R=(letI z0:=([(0,.row 3 1 n (λ(i:Nat)=>[.q (v i)]) false)]:oL7);wab (decide ((n:Int)<1)) False (((0:Int)<=0/\(0:Int)<(n:Int))/\(0<n/\1=1)/\(TEq [(0,.own 0 n),(3,.q (v 0)),(4,.q 1)] [(0,.own 0 n),(3,.q (maxV v 0)),(4,.q ((↑0:Int)+1))]/\wac z0 z0)/\1<=n/\n<=4611686018427387904/\(∀(i:Nat),i<n->true=true)/\∃(O':oL7),wac z0 O'/\R (.q (maxV v (n - 1))) O')):=by kernel_rfl
theorem w1z(n:Nat)(v:Nat->Int)(k:Nat)(P:Nat->Prop)(R:eR7):wat ⟨te,[],[],1,25,0⟩ (wav Tryz.f185 5) [0,3,4] [3] [] (wgg n v (maxV v)) P R (wgg n v (maxV v) k)=(letI z0:=([(0,.row 3 1 n (λ(i:Nat)=>[.q (v i)]) false)]:oL7);wab (decide ((k:Int)+1<(n:Int))) (((0:Int)<=(k:Int)+1/\(k:Int)+1<(n:Int))/\(((k:Int)+1).toNat<n/\1=1)/\inR .i64 ((k:Int)+1+1)/\∃(i':Nat),(TEq [(0,.own 0 n),(3,.q (max (maxV v k) (v ((k:Int)+1).toNat))),(4,.q ((k:Int)+1+1))] [(0,.own 0 n),(3,.q (maxV v i')),(4,.q ((i':Int)+1))]/\wac z0 z0)/\P i') ((∀(i:Nat),i<n->true=true)/\∃(O':oL7),wac z0 O'/\R (.exit 0) (St.mk [(3,.q (maxV v k))] O' 1 []))):=by kernel_rfl
theorem w2k(n:Nat)(v:Nat->Int)(R:oR7):wpFn te [(184,.det wm8),(185,.det wna),(186,.det whv)] [(7,wpm n v)] 0 Tryz.f171 [.own 0 n] [.row 3 1 n (λi=>[.q (v i)]) false] R=(letI z8:=((0:Int)<=0/\(0:Int)<(n:Int):Prop);letI z7:=((0:Int)<=1/\(1:Int)<=(n:Int):Prop);letI z6:=(n - (1:Int).toNat);letI z5:=(vInt λ(i:Nat)=>[.q (v i)]);letI z4:=([(4,.str (wdj (v 0)++wcj v 0)),(36,.sub 0 1 1 (n - 1)),(37,.q (↑(n - 1):Int)),(38,.q (↑0:Int))]:tL7);letI z3:=(3=3/\false=false/\1<=n/\n=n/\n<=4611686018427387904/\(λ(i:Nat)=>[.q (v i)])=waf z5:Prop);letI z2:=(∀(i:Nat),i<n->true=true:Prop);letI z1:=([(0,.row 3 1 n (λ(i:Nat)=>[.q (v i)]) false)]:oL7);letI z0:=(z2/\∃(O':oL7),wac z1 O'/\R (.tuple [.str [],.q 64]) O':Prop);wab (decide ((n:Int)<1)) z0 (wab (decide ((5:Int)<(n:Int))) z0 (z2/\z3/\z2/\wab (decide (minV z5 (n - 1)<1)) z0 (z2/\z3/\z2/\wab (decide ((99:Int)<maxV z5 (n - 1))) z0 (z8/\(0<n/\1=1)/\((0:Int)<=v 0/\v 0<100)/\z8/\(0<n/\1=1)/\wab (decide (v 0<10)) (([(48:UInt8)]).length+(decF (v 0)).length<=9223372036854775807/\z7/\(TEq [(4,.str ([(48:UInt8)]++decF (v 0))),(36,.sub 0 1 1 z6),(37,.q (z6:Int)),(38,.q 0)] z4/\wac z1 z1)/\wbk n v=true/\z2/\∃(O':oL7),wac z1 O'/\R (.tuple [.str (fmtZ n v),.q 0]) O') (z7/\(TEq [(4,.str (decF (v 0))),(36,.sub 0 1 1 z6),(37,.q (z6:Int)),(38,.q 0)] z4/\wac z1 z1)/\wbk n v=true/\z2/\∃(O':oL7),wac z1 O'/\R (.tuple [.str (fmtZ n v),.q 0]) O')))))):=by kernel_rfl
theorem w2j(n:Nat)(v:Nat->Int)(k:Nat)(P:Nat->Prop)(R:eR7):wat ⟨te,[(186,.det whv)],[],1,49,0⟩ (wav Tryz.f171 7) [4,36,37,38] [4] [] (wny n v) P R (wny n v k)=(letI z2:=(↑(n - 1):Int);letI z1:=(v (1+(k:Int).toNat));letI z0:=([(0,.row 3 1 n (λ(i:Nat)=>[.q (v i)]) false)]:oL7);wab (decide ((k:Int)<z2)) (((0:Int)<=(k:Int)/\(k:Int)<z2/\1=1)/\(1+(k:Int).toNat<n/\1=1)/\((0:Int)<=v (1+(k:Int).toNat)/\v (1+(k:Int).toNat)<100)/\([(46:UInt8)]).length+(decF z1).length<=9223372036854775807/\(wdj (v 0)++wcj v k).length+([(46:UInt8)]++decF z1).length<=9223372036854775807/\inR .i64 ((k:Int)+1)/\∃(i':Nat),(TEq [(4,.str (wdj (v 0)++wcj v k++([(46:UInt8)]++decF z1))),(36,.sub 0 1 1 (n - 1)),(37,.q z2),(38,.q ((k:Int)+1))] [(4,.str (wdj (v 0)++wcj v i')),(36,.sub 0 1 1 (n - 1)),(37,.q z2),(38,.q (i':Int))]/\wac z0 z0)/\P i') ((∀(i:Nat),i<n->true=true)/\∃(O':oL7),wac z0 O'/\R (.exit 0) (St.mk [(4,.str (wdj (v 0)++wcj v k))] O' 1 []))):=by kernel_rfl
variable {C:Ctx} [C.Loose]
theorem w3w(hP:C.P=Tryz.prog)(n:Nat)(v:Nat->Int):wah C 1 25 (wai Tryz.f184 5) (L_mm n v (minV v)):=by
 have _:C.Loose:=inferInstance;rintro st Q ⟨h0,hn,hn2,hQ⟩;refine wah.mk (prg hP) [] 0 .nil [0,3,4] [3] [] (wgg n v (minV v)) (λk=>k+1<=n) (λk=>n - k) 0 hn h0 (λk hk=>?_) (λi=>⟨λ_ _=>rfl,trivial⟩);rw[w1w];refine wag (λh=>?_) (λh=>⟨λ_ _=>rfl,_,wbu,?_⟩)
 ·have e:((k:Int)+1).toNat=k+1:=by omega
  simp only[inR,e,and_true];exact⟨by omega,by omega,by omega,k+1,⟨rfl,wbu⟩,by omega,by omega⟩
 ·have:k=n - 1:=by omega
  rw[this];exact hQ
theorem w30(hP:C.P=Tryz.prog)(n:Nat)(v:Nat->Int):wah C 1 25 (wai Tryz.f185 5) (L_mm n v (maxV v)):=by
 have _:C.Loose:=inferInstance;rintro st Q ⟨h0,hn,hn2,hQ⟩;refine wah.mk (prg hP) [] 0 .nil [0,3,4] [3] [] (wgg n v (maxV v)) (λk=>k+1<=n) (λk=>n - k) 0 hn h0 (λk hk=>?_) (λi=>⟨λ_ _=>rfl,trivial⟩);rw[w1z];refine wag (λh=>?_) (λh=>⟨λ_ _=>rfl,_,wbu,?_⟩)
 ·have e:((k:Int)+1).toNat=k+1:=by omega
  simp only[inR,e,and_true];exact⟨by omega,by omega,by omega,k+1,⟨rfl,wbu⟩,by omega,by omega⟩
 ·have:k=n - 1:=by omega
  rw[this];exact hQ
theorem min_ok(hP:C.P=Tryz.prog):wad C 184 wm8:=by
 rintro args objs U Os vc h hvc;unfold wm8 at h;split at h<;>cases h;rename_i n t m f fr;obtain⟨rfl,rfl,hn,rfl,hn2,hf⟩:=hvc;generalize vInt f=v at hf;subst hf
 refine wad.wpL (prg hP) [] [(5,L_mm n v (minV v)),(1002,λ_ _=>False)] 0 .nil (hP ▸ Tryz.func184) rfl rfl rfl
  [(regC Tryz.f184 2,λ_ _=>False),(wai Tryz.f184 5,L_mm n v (minV v))] (by kernel_rfl) ⟨λ_ _ h=>h.elim,w3w hP n v,trivial⟩ ?_
 show wpFn _ _ _ _ _ _ [.row _ _ _ (λi=>[.q (v i)]) _] _;rw[nf_min];exact wag (λh=>absurd h (by omega)) (λ_=>⟨by omega,by omega,⟨rfl,wbu⟩,hn,hn2,λ_ _=>rfl,_,wbu,rfl,rfl⟩)
theorem max_ok(hP:C.P=Tryz.prog):wad C 185 wna:=by
 rintro args objs U Os vc h hvc;unfold wna at h;split at h<;>cases h;rename_i n t m f fr;obtain⟨rfl,rfl,hn,rfl,hn2,hf⟩:=hvc;generalize vInt f=v at hf;subst hf
 refine wad.wpL (prg hP) [] [(5,L_mm n v (maxV v)),(1002,λ_ _=>False)] 0 .nil (hP ▸ Tryz.func185) rfl rfl rfl
  [(regC Tryz.f185 2,λ_ _=>False),(wai Tryz.f185 5,L_mm n v (maxV v))] (by kernel_rfl) ⟨λ_ _ h=>h.elim,w30 hP n v,trivial⟩ ?_
 show wpFn _ _ _ _ _ _ [.row _ _ _ (λi=>[.q (v i)]) _] _;rw[nf_max];exact wag (λh=>absurd h (by omega)) (λ_=>⟨by omega,by omega,⟨rfl,wbu⟩,hn,hn2,λ_ _=>rfl,_,wbu,rfl,rfl⟩)
theorem wve(hP:C.P=Tryz.prog):wad C 186 whv:=by
 rintro args objs U Os vc h hvc;unfold whv at h;split at h<;>cases h;rename_i n;obtain⟨i,rfl⟩:∃i:Nat,n=i:=⟨n.toNat,by omega⟩;refine waw.below ⟨Tryz.f186,hP ▸ Tryz.func186,rfl,by decide⟩ λw M cargs _ _ hM hl hv=>?_;obtain⟨a,rfl⟩:=mem1 hl;have:=(hv 0 _ _ rfl rfl).int_iff;subst this;rw[hP];refine(Tryz.strconv_Itoa_small i (by omega) w).mono ?_;rintro e w' ⟨rfl,rfl⟩;exact⟨_,rfl,Below.refl _ _,.str (by simp[decF])⟩
theorem w5h(hP:C.P=Tryz.prog)(n:Nat)(v:Nat->Int):wah C 1 49 (wai Tryz.f171 7) (wpm n v):=by
 rintro st Q ⟨h0,hok,hQ⟩;have hv:=wv4 hok;have hn:=fmtOK_n hok;refine wah.mk (prg hP) [(186,.det whv)] 0 (.cons (wve hP) .nil) [4,36,37,38] [4] [] (wny n v) (λk=>k<=n - 1) (λk=>n - k) 0 (zL7 _) h0 (λk hk=>?_) (λi=>⟨λ_ _=>rfl,trivial⟩);rw[w2j];have hl1:=w5j (hv 0 (by omega));have hl2:=wv3 (n:=n) (λi hi=>hv i hi) k (by omega);refine wag (λh=>?_) (λh=>⟨λ_ _=>rfl,_,wbu,?_⟩)
 ·have hlt:k<n - 1:=by omega
  have e:1+(k:Int).toNat=k+1:=by omega
  have hk1:=hv (k+1) (by omega);have hl3:=wlr hk1;simp only[inR,e,and_true,lA7,List.length_cons,List.length_nil];refine⟨by omega,by omega,by omega,by omega,by omega,by omega,k+1,⟨?_,wbu⟩,by omega,by omega⟩;unfold TEq;rw[show wcj v (k+1)=wcj v k++(46::decF (v (k+1))) from rfl];simp
 ·have:k=n - 1:=by omega
  rw[this];exact hQ
theorem w5g(hP:C.P=Tryz.prog):wad C 171 wnw:=by
 rintro args objs U Os vc h hvc;unfold wnw at h;split at h<;>cases h;rename_i n t m f fr;obtain⟨rfl,rfl,rfl,hn2,hf⟩:=hvc;generalize vInt f=v at hf;subst hf
 refine wad.wpL (prg hP) [(184,.det wm8),(185,.det wna),(186,.det whv)] [(7,wpm n v)] 0 (.cons (min_ok hP) (.cons (max_ok hP) (.cons (wve hP) .nil))) (hP ▸ Tryz.func171) rfl rfl rfl
  [(wai Tryz.f171 7,wpm n v)] (by kernel_rfl) ⟨w5h hP n v,trivial⟩ ?_
 show wpFn _ _ _ _ _ _ [.row _ _ _ (λi=>[.q (v i)]) _] _;rw[w2k];have hvi:(vInt λi=>[AV.q (v i)])=v:=rfl;rw[hvi];have bad:wbk n v=false->(AV.tuple [.str [],.q 64]= .tuple [.str (bif wbk n v then fmtZ n v else []),.q (bif wbk n v then 0 else 64)]):=λh=>by rw[h];rfl
 have good:wbk n v=true->(AV.tuple [.str (fmtZ n v),.q 0]= .tuple [.str (bif wbk n v then fmtZ n v else []),.q (bif wbk n v then 0 else 64)]):=λh=>by rw[h];rfl
 refine wag (λh1=>⟨λ_ _=>rfl,_,wbu,bad ?_,rfl⟩) (λh1=>wag (λh2=>⟨λ_ _=>rfl,_,wbu,bad ?_,rfl⟩) (λh2=>⟨λ_ _=>rfl,⟨rfl,rfl,by omega,rfl,hn2,rfl⟩,λ_ _=>rfl,
  wag (λh3=>⟨λ_ _=>rfl,_,wbu,bad ?_,rfl⟩) (λh3=>⟨λ_ _=>rfl,⟨rfl,rfl,by omega,rfl,hn2,rfl⟩,λ_ _=>rfl,wag (λh4=>⟨λ_ _=>rfl,_,wbu,bad ?_,rfl⟩) (λh4=>?_)⟩)⟩))
 ·unfold wbk;rw[decide_eq_false (p:=1<=n) (by omega)];rfl
 ·unfold wbk;rw[decide_eq_false (p:=n<=5) (by omega)];simp
 ·unfold wbk;rw[decide_eq_false (p:=1<=minV v (n - 1)) (by omega)];simp
 ·unfold wbk;rw[decide_eq_false (p:=maxV v (n - 1)<=99) (by omega)];simp
 ·have hok:wbk n v=true:=by
   unfold wbk;rw[decide_eq_true (p:=1<=n) (by omega),decide_eq_true (p:=n<=5) (by omega),decide_eq_true (p:=1<=minV v (n - 1)) (by omega),decide_eq_true (p:=maxV v (n - 1)<=99) (by omega)];rfl
  have hv:=wv4 hok 0 (by omega);have hl3:=wlr hv;refine⟨by omega,⟨by omega,rfl⟩,by omega,by omega,⟨by omega,rfl⟩,wag (λh5=>⟨by simp only[List.length_cons,List.length_nil];omega,by omega,⟨?_,wbu⟩,hok,λ_ _=>rfl,_,wbu,good hok,rfl⟩) (λh5=>⟨by omega,⟨?_,wbu⟩,hok,λ_ _=>rfl,_,wbu,good hok,rfl⟩)⟩
  ·unfold TEq wdj;rw[decide_eq_true h5];simp[wcj]
  ·unfold TEq wdj;rw[decide_eq_false h5];simp[wcj]
theorem w1h(s:List UInt8)(R:oR7):wpFn te [(169,.det wmi),(171,.det wnw)] [(3,wpa s)] 0 Tryz.f163 [.str s] [] R=(letI z2:=(∀(i:Nat),i<(words s).length->true=true:Prop);letI z1:=(vInt λ(i:Nat)=>[.q (wb3 s i)]);letI z0:=(words s).length;(s.length<4294967281/\[(46:UInt8)]=[(46:UInt8)])/\(TEq [(0,.str s),(4,.own 0 0),(12,.view 1 z0 λ(i:Nat)=>[.str (List.getD (words s) i [])]),(13,.q (z0:Int)),(14,.q 0)] [(0,.str s),(4,.own 0 0),(12,.view 1 z0 λ(i:Nat)=>[.str (List.getD (words s) i [])]),(13,.q (z0:Int)),(14,.q (↑0:Int))]/\wac [(0,.row 3 1 0 (λ(_x:Nat)=>[]) false)] [(0,.row 3 1 0 (λ(i:Nat)=>[.q (wb3 s i)]) false)])/\s.length<4294967281/\z2/\(3=3/\false=false/\(words s).length=(words s).length/\(words s).length<=4611686018427387904/\(λ(i:Nat)=>[.q (wb3 s i)])=waf z1)/\z2/\wab (!decide ((bif wbk z0 z1 then (0:Int) else (64:Int))=0)) (R (.tuple [.nil,.q 60]) []) (wab (!decide ((bif wbk z0 z1 then fmtZ z0 z1 else [])=s)) (R (.tuple [.nil,.q 60]) []) (z2/\∃(O':oL7),wac [(0,.row 3 1 z0 (λ(i:Nat)=>[.q (wb3 s i)]) false)] O'/\R (.tuple [.own 0 z0,.q 0]) O'))):=by kernel_rfl
theorem w1g(s:List UInt8)(k:Nat)(P:Nat->Prop)(R:eR7):wat ⟨te,[(170,.det wof)],[],0,41,0⟩ (wav Tryz.f163 3) [0,4,12,13,14] [0,4] [] (wmy s) P R (wmy s k)=(letI z2:=(List.getD (words s) (k:Int).toNat []);letI z1:=TI.mk (TypeDesc.int IntKind.i64) 1 8 (Value.int IntKind.i64 0) false;letI z0:=(words s).length;wab (decide ((k:Int)<(z0:Int))) (((0:Int)<=(k:Int)/\(k:Int)<(z0:Int)/\1=1)/\z2.length<=281474976710656/\(1<=16777216/\1=1/\1<=9223372036854775807)/\((1<=1/\1=1)/\k<=k/\1=1/\3=3/\1=1/\k+1<=9223372036854775807/\(k+1) * TI.bytes z1<=140737488355328)/\inR .i64 ((k:Int)+1)/\∃(i':Nat),(TEq [(0,.str s),(4,.own 0 (k+1)),(12,.view 1 z0 λ(i:Nat)=>[.str (List.getD (words s) i [])]),(13,.q (z0:Int)),(14,.q ((k:Int)+1))] [(0,.str s),(4,.own 0 i'),(12,.view 1 z0 λ(i:Nat)=>[.str (List.getD (words s) i [])]),(13,.q (z0:Int)),(14,.q (i':Int))]/\wac [(0,.row 3 1 (k+1) (apF k (λ(i:Nat)=>[.q (wb3 s i)]) (war (TI.sz z1) (.q (wjg z2)::List.append [] (List.flatten (List.replicate (nat_lit 0) [.q 0]))))) false)] [(0,.row 3 1 i' (λ(i:Nat)=>[.q (wb3 s i)]) false)])/\P i') ((∀(i:Nat),i<k->true=true)/\∃(O':oL7),wac [(0,.row 3 1 k (λ(i:Nat)=>[.q (wb3 s i)]) false)] O'/\R (.exit 0) (St.mk [(0,.str s),(4,.own 0 k)] O' 1 []))):=by kernel_rfl
variable {C:Ctx} [C.Loose]
theorem wyg(hP:C.P=Tryz.prog)(hL:∀w,C.laid w->LaidW w):wad C 169 wmi:=by
 rintro args objs U Os vc h hvc;unfold wmi at h;split at h<;>cases h;rename_i s sep;obtain⟨hs,rfl⟩:=hvc;refine waw.below ⟨Tryz.f169,hP ▸ Tryz.func169,rfl,by decide⟩ λw M cargs hlaid _ hM hl hv=>?_;obtain⟨m,hm⟩:=(hL w hlaid).maxLen;obtain⟨a,b,rfl⟩:=mem2 hl;have e1:=(hv 0 _ _ rfl rfl).str_iff;have e2:=(hv 1 _ _ rfl rfl).str_iff;subst e1;subst e2;rw[hP];refine(Tryz.strings_Split ⟨s.toArray⟩ ⟨#[46]⟩ m w (by simpa[ByteArray.size] using hs) hm (by decide)).mono ?_;rintro e w' ⟨rfl,rfl⟩;have hd:=Lib.splitB_data ⟨#[46]⟩ 0 (Lib.countB ⟨s.toArray⟩ ⟨#[46]⟩) ⟨s.toArray⟩;have hw:(Lib.splitB ⟨#[46]⟩ 0 (Lib.countB ⟨s.toArray⟩ ⟨#[46]⟩) ⟨s.toArray⟩).map (·.data.toList)=words s:=by
  rw[hd];simp[words,Lib.split]
 have hlen:(Lib.splitB ⟨#[46]⟩ 0 (Lib.countB ⟨s.toArray⟩ ⟨#[46]⟩) ⟨s.toArray⟩).length=(words s).length:=by rw[← hw];simp
 have hcnt:Lib.countB ⟨s.toArray⟩ ⟨#[46]⟩+1=(words s).length:=by
  rw[wh8]
 refine⟨_,rfl,(Below.refl _ _).alloc (lR7 _) _,?_⟩;rw[hcnt];have hle:=Lib.count_le s [46];refine V.newview hM (by simp[hlen]) (by rw[wh8];unfold maxLen;omega) (λi v hv=>?_) (λi v hv=>?_)
 ·rw[List.getElem?_toArray,List.getElem?_map] at hv;obtain⟨x,_,rfl⟩:=Option.map_eq_some_iff.1 hv;exact rfl
 ·simp at hv;obtain⟨x,hx,rfl⟩:=hv;refine⟨_,rfl,.str ?_⟩;have:(words s)[i]?=some x.data.toList:=by rw[← hw];simp[hx]
  simp[List.getD,this]
theorem atoi_ok(hP:C.P=Tryz.prog)(hL:∀w,C.laid w->LaidW w):wad C 170 wof:=by
 rintro args objs U Os vc h hvc;unfold wof at h;split at h<;>cases h;rename_i s;refine waw.below ⟨Tryz.f170,hP ▸ Tryz.func170,rfl,by decide⟩ λw M cargs hlaid _ hM hl hv=>?_;obtain⟨a,rfl⟩:=mem1 hl;have e1:=(hv 0 _ _ rfl rfl).str_iff;subst e1;rw[hP];have hsz:(⟨s.toArray⟩:ByteArray).size=s.length:=by simp[ByteArray.size]
 have hdt:(⟨s.toArray⟩:ByteArray).data.toList=s:=by simp
 have tup:∀(w':World) (n:Int) (e:Value),V w' M nob (.tuple #[.int .i64 n,e]) (.tuple [.int .i64 n,.any]):=λw' n e=>.tuple rfl λj v u hv hu=>by
  match j with
  |0=>simp at hv hu;subst hv;subst hu;exact .int
  |1=>simp at hv hu;subst hv;subst hu;exact .any
  |j+2=>simp at hv
 unfold wjg
 cases hh:Lib.atoiAll s with
 |ok v=>
  refine(Tryz.strconv_Atoi_ok ⟨s.toArray⟩ (by omega) v (by rw[hdt];exact hh) w).mono ?_;rintro e w' ⟨rfl,hw⟩;refine⟨_,rfl,?_,tup _ _ _⟩
  rcases hw with rfl | ⟨t,rfl⟩
  ·exact Below.refl _ _
  ·exact Lib.bytesWorld_below _ _ _
 |range=>
  obtain⟨t,p,he⟩:=(hL w hlaid).errR;refine(Any.strconv_Atoi_range Tryz.laysC172 ⟨s.toArray⟩ (by omega) (by rw[hdt];exact hh) _ w he (.inr ⟨t,p,rfl⟩)).mono ?_;rintro e w' ⟨N,rfl,_,_,hb⟩;rw[hdt];exact⟨_,rfl,hb,tup _ _ _⟩
 |_=>
  obtain⟨t,p,he⟩:=(hL w hlaid).errS;refine(Any.strconv_Atoi_syntax Tryz.laysC172 ⟨s.toArray⟩ (by omega) (by rw[hdt];exact hh) _ w he (.inr ⟨t,p,rfl⟩)).mono ?_;rintro e w' ⟨N,rfl,_,_,hb⟩;exact⟨_,rfl,hb,tup _ _ _⟩
theorem wzw(hP:C.P=Tryz.prog)(hL:∀w,C.laid w->LaidW w)(s:List UInt8):wah C 0 41 (wai Tryz.f163 3) (wpa s):=by
 rintro st Q ⟨h0,hs,hQ⟩;refine AWP.ownNil 4 3 1 ?_;have hwl:(words s).length<=s.length+2:=by
  have:=Lib.count_le s [46];rw[wh8];omega
 refine wah.mk (prg hP) [(170,.det wof)] 0 (.cons (atoi_ok hP hL) .nil) [0,4,12,13,14] [0,4] [] (wmy s) (λk=>k<=(words s).length) (λk=>(words s).length - k) 0 (zL7 _) h0 (λk hk=>?_) (λi=>⟨λ_ _=>rfl,trivial⟩);rw[w1g];refine wag (λh=>?_) (λh=>⟨λ_ _=>rfl,_,wbu,?_⟩)
 ·have hlt:k<(words s).length:=by omega
  have hlw:((words s).getD k []).length<=s.length:=by
   have:=wxs s ((words s).getD k []) (by simp[List.getD,hlt]);exact this
  have hrow:∀i,i<k+1->apF k (λi=>[AV.q (wb3 s i)]) (war 1 [.q (wjg ((words s).getD k []))]) i=[.q (wb3 s i)]:=by
   intro i hi;unfold apF;split
   ·rfl
   ·have:i=k:=by omega
    subst this;rw[Nat.sub_self];rfl
  simp only[inR,tN7]
  and_intros
  any_goals omega
  any_goals (simp;done)
  exact⟨k+1,⟨rfl,⟨rfl,rfl,rfl,rfl,rfl,hrow⟩,trivial⟩,by omega,by omega⟩
 ·have:k=(words s).length:=by omega
  rw[this] at *;exact hQ
theorem wzv(hP:C.P=Tryz.prog)(hL:∀w,C.laid w->LaidW w):wa8 C 163 won:=by
 rintro args objs R h;unfold won at h;split at h
 ·rename_i s;obtain⟨hs,hR⟩:=h;have hR:=wbq hR
  refine wa8.wpL (prg hP) [(169,.det wmi),(171,.det wnw)] [(3,wpa s)] 0 (.cons (wyg hP hL) (.cons (w5g hP) .nil)) (hP ▸ Tryz.func163) rfl rfl rfl
   [(wai Tryz.f163 3,wpa s)] (by kernel_rfl) ⟨wzw hP hL s,trivial⟩ ?_
  rw[w1h];have hvi:(vInt λi=>[AV.q (wb3 s i)])=wb3 s:=rfl;rw[hvi];have hwl:(words s).length<=s.length+2:=by
   have:=Lib.count_le s [46];rw[wh8];omega
  refine⟨⟨hs,rfl⟩,⟨rfl,⟨rfl,rfl,rfl,rfl,rfl,λi hi=>by omega⟩,trivial⟩,hs,λ_ _=>rfl,⟨rfl,rfl,rfl,by omega,rfl⟩,λ_ _=>rfl,?_⟩
  cases hok:wbk (words s).length (wb3 s) with
  |false=>exact hR.2 (by unfold wdo;rw[hok];rfl)
  |true=>
   have e0:(!decide ((bif true then (0:Int) else 64)=0))=false:=rfl
   rw[e0];show wab (!decide (fmtZ (words s).length (wb3 s)=s)) _ _;refine wax (λh1=>hR.2 ?_) (λh1=>⟨λ_ _=>rfl,_,wbu,hR.1 ?_⟩)
   ·unfold wdo;rw[hok,decide_eq_false h1];rfl
   ·unfold wdo;rw[hok];exact decide_eq_true h1
 ·exact h.elim
end Go.Eng
namespace Go.Eng
open Go.Proofs Go.RowKit
variable {C:Ctx} [C.Loose]
set_option maxRecDepth 20000
theorem w12(s:List UInt8)(R:oR7):wpFn te [(163,.rel won)] [] 0 Tryz.f153 [.str s] [] R=(s.length<4294967281/\wab (wdo s) ((∀(i:Nat),i<(words s).length->true=true)/\R (.q (↑(words s).length:Int)) []) (wab (!decide (s=[])) (R (.q (-1:Int)) []) (R (.q 0) []))):=by kernel_rfl
theorem w4c(hP:C.P=Tryz.prog)(hL:∀w,C.laid w->LaidW w):wad C 153 wnd:=by
 rintro args objs U Os vc h hvc;unfold wnd at h;split at h<;>cases h;rename_i s;refine wad.wp0 (prg hP) [(163,.rel won)] 0 (.cons (wzv hP hL) .nil) (hP ▸ Tryz.func153) rfl rfl rfl ?_;rw[w12];refine⟨hvc,wan (λh=>⟨λ_ _=>rfl,?_,rfl⟩) (λh=>wax (λh'=>⟨?_,rfl⟩) (λh'=>⟨?_,rfl⟩))⟩
 ·unfold wfy;rw[h]
 ·unfold wfy;rw[h,decide_eq_false h']
 ·unfold wfy;rw[h,decide_eq_true h']
end Go.Eng
namespace Go.Eng
open Go.Proofs Go.RowKit
set_option maxRecDepth 20000
theorem nf_qty(d c a:Int)(R:oR7):wpFn te [] [] 0 Tryz.f155 [.agg [.q d,.q c,.q a]] [] R=(wab (decide (d<1)) (R (.q 80) []) (wab (decide ((4:Int)<d)) (R (.q 80) []) (wab (decide (c<1)) (R (.q 81) []) (wab (decide ((100:Int)<c)) (R (.q 81) []) (wab (decide (a<1)) (R (.q 82) []) ((c≠(0:Int)/\inR .i64 (Int.tdiv (1099511627776:Int) c))/\wab (decide (Int.tdiv (1099511627776:Int) c<a)) (R (.q 82) []) (R (.q 0) []))))))):=by kernel_rfl
variable {C:Ctx} [C.Loose]
theorem qty_ok(hP:C.P=Tryz.prog):wad C 155 wmw:=by
 have _:C.Loose:=inferInstance;rintro args objs U Os vc h hvc;unfold wmw at h;split at h<;>cases h;rename_i d c a;refine wad.wp0 (prg hP) [] 0 .nil (hP ▸ Tryz.func155) rfl rfl rfl ?_;rw[nf_qty];refine wan (λh1=>?_) (λh1=>wan (λh2=>?_) (λh2=>wan (λh3=>?_) (λh3=>wan (λh4=>?_) (λh4=>wan (λh5=>?_) (λh5=>⟨wzn (of_decide_eq_false h3) (of_decide_eq_false h4),wan (λh6=>?_) (λh6=>?_)⟩)))))
 all_goals simp only[qtyF, *,cond_true,cond_false,and_self]
theorem w2a(s:List UInt8)(r:Int)(R:oR7):wpFn te [(191,.det whw),(192,.det wmd)] [(38,wpk s),(5,wpj s (Utf8.encode r).data.toList),(25,λ_ _=>False)] 0 Tryz.f180 [.str s,.int .i32 r] [] R=(letI z3:=St.mk [(0,.str s),(175,.ptr 0 0)] [(0,.siter s 0)] 1 [];letI z1:=Array.toList (ByteArray.data (Utf8.encode r));letI z4:=(z1.length:Int);letI z2:=(St.mk [(0,.str s),(7,.str z1),(8,.q (z4 - (1:Int))),(9,.q (z4 - (1:Int)))] [] 0 []);letI z0:=(wab (decide (r=65533)) (some z3=some z3/\ascii s=true/\R (.q (-1:Int)) []) (True/\wab (!Lib.validRune r) (R (.q (-1:Int)) []) (True/\inR .i64 (z4 - (1:Int))/\some z2=some z2/\ascii s=true/\s.length<=1000000/\2<=z1.length/\z1.length<=4/\128<=UInt8.toNat (List.getD z1 (z1.length - 1) (0:UInt8))/\R (.q (-1:Int)) []/\R (.q (-1:Int)) [])));wab (decide ((0:Int)<=r)) (wab (decide (r<128)) (inR .u8 r/\True/\R (.q (Lib.indexByte s (Nat.toUInt8 r.toNat))) []) z0) z0):=by kernel_rfl
theorem w19(s:List UInt8)(k:Nat)(P:Nat->Prop)(R:eR7):wat ⟨te,[],[],0,187,0⟩ (wav Tryz.f180 38) [0,175] [] [4] (wnp s) P R (wnp s k)=(wab (decide (k<s.length)) (True/\wab (decide ((↑(wbp s k).1:Int)=65533)) (R .ret (St.mk [(4,.q (k:Int))] [] 0 [])) (∃(i':Nat),some (St.mk [(0,.str s),(175,.ptr 0 0)] [(0,.siter s (k+(wbp s k).2))] 1 [])=some (St.mk [(0,.str s),(175,.ptr 0 0)] [(0,.siter s i')] 1 [])/\P i')) (True/\R (.exit 9) (St.mk [] [] 0 []))):=by kernel_rfl
theorem w18(s e:List UInt8)(P:Unit->Prop)(R:eR7):wat ⟨te,[(191,.det whw)],[(12,λ_ _=>False),(1015,λ_ _=>False),(1016,λ_ _=>False)],0,187,0⟩ (wav Tryz.f180 5) [0,7,8,9] [] [4] (λ_=>wno s e) P R (wno s e)=(letI z5:=(s.length:Int);letI z0:=(e.length:Int);letI z4:=((0:Int)<=z0 - (1:Int)/\z0 - (1:Int)<z0:Prop);letI z3:=(List.drop (z0 - (1:Int)+1).toNat s);letI z1:=(↑(UInt8.toNat (List.getD e (z0 - (1:Int)).toNat (0:UInt8))):Int);letI z2:=(Lib.indexByte z3 (Nat.toUInt8 z1.toNat)+1);wab (decide (z0 - (1:Int)<z5)) (((0:Int)<=z0 - (1:Int)/\z0 - (1:Int)<z5)/\z4/\wab (!decide ((↑(UInt8.toNat (List.getD s (z0 - (1:Int)).toNat (0:UInt8))):Int)=z1)) (inR .i64 (z0 - (1:Int)+1)/\((0:Int)<=z0 - (1:Int)+1/\z0 - (1:Int)+1<=z5)/\z4/\True/\wab (decide (Lib.indexByte z3 (Nat.toUInt8 z1.toNat)<0)) (R .ret (St.mk [(4,.q (-1:Int))] [] 0 [])) (inR .i64 z2/\inR .i64 (z0 - (1:Int)+z2)/\False)) False) (R (.exit 1) (St.mk [] [] 0 []))):=by kernel_rfl
theorem w2u(s:List UInt8)(r:Int)(R:oR7):wpFn te [(180,.det wnq)] [] 0 Tryz.f167 [.str s,.int .i32 r] [] R=((ascii s=true/\s.length<=1000000/\(0:Int)<=r/\r<=1114111)/\R (.bool (decide ((0:Int)<=wb9 s r))) []):=by kernel_rfl
variable {C:Ctx} [C.Loose]
theorem wvj(hP:C.P=Tryz.prog):wad C 191 whw:=by
 rintro args objs U Os vc h hvc;unfold whw at h;split at h<;>cases h;rename_i s c;refine waw.below ⟨Tryz.f191,hP ▸ Tryz.func191,rfl,by decide⟩ λw M cargs _ _ hM hl hv=>?_;obtain⟨a,b,rfl⟩:=mem2 hl;have e1:=(hv 0 _ _ rfl rfl).str_iff;have e2:=(hv 1 _ _ rfl rfl).int_iff;subst e1;subst e2;rw[hP];refine(Tryz.strings_IndexByte ⟨s.toArray⟩ c w).mono ?_;rintro e w' ⟨rfl,rfl⟩;exact⟨_,rfl,Below.refl _ _,.int⟩
theorem wx1(hP:C.P=Tryz.prog):wad C 192 wmd:=by
 rintro args objs U Os vc h hvc;unfold wmd at h;split at h<;>cases h;rename_i r;refine waw.below ⟨Tryz.f192,hP ▸ Tryz.func192,rfl,by decide⟩ λw M cargs _ _ hM hl hv=>?_;obtain⟨a,rfl⟩:=mem1 hl;have e1:=(hv 0 _ _ rfl rfl).int_iff;subst e1;rw[hP];refine(Tryz.utf8_ValidRune r w).mono ?_;rintro e w' ⟨rfl,rfl⟩;exact⟨_,rfl,Below.refl _ _,.bool⟩
theorem w4u(hP:C.P=Tryz.prog)(s:List UInt8):wah C 0 187 (wai Tryz.f180 38) (wpk s):=by
 have _:C.Loose:=inferInstance;rintro st Q ⟨h0,ha,hQ⟩;refine wah.mk (prg hP) [] 0 .nil [0,175] [] [4] (wnp s) (λk=>k<=s.length) (λk=>s.length - k) 0 (zL7 _) h0 λk hk=>?_;rw[w19];refine wan (λh=>?_) (λh=>⟨trivial,hQ⟩);have h:=of_decide_eq_true h;have hlt:=ww9 ha h;rw[wp9 h hlt];refine⟨trivial,wan (λh'=>?_) (λ_=>⟨k+1,rfl,by omega,by omega⟩)⟩;have h':=of_decide_eq_true h';simp only at h';omega
theorem w4t(hP:C.P=Tryz.prog)(s e:List UInt8):wah C 0 187 (wai Tryz.f180 5) (wpj s e):=by
 rintro st Q ⟨h0,ha,hs,h2,h4,hl,hQ1,hQ2⟩
 refine wah.mkL (prg hP) [(191,.det whw)] [(12,λ_ _=>False),(1015,λ_ _=>False),(1016,λ_ _=>False)] 0 (.cons (wvj hP) .nil)
  [(wai Tryz.f180 12,λ_ _=>False),(regC Tryz.f180 15,λ_ _=>False),(regC Tryz.f180 16,λ_ _=>False)] (by kernel_rfl)
  ⟨λ_ _ h=>h.elim,λ_ _ h=>h.elim,λ_ _ h=>h.elim,trivial⟩ [0,7,8,9] [] [4] (λ_:Unit=>wno s e) (λ_=>True) (λ_=>0) () trivial h0 λ_ _=>?_
 rw[w18];refine wan (λh=>?_) (λh=>hQ1);have h:=of_decide_eq_true h;have e1:((e.length:Int) - 1).toNat=e.length - 1:=by omega
 have e2:((e.length:Int) - 1+1).toNat=e.length:=by omega
 have hlo:=ww9 ha (k:=e.length - 1) (by omega);simp only[e1,e2,inR];have hne:decide (((s.getD (e.length - 1) 0).toNat:Int)=((e.getD (e.length - 1) 0).toNat:Int))=false:=decide_eq_false (by omega);rw[hne];have hb:(e.getD (e.length - 1) 0).toNat<256:=(e.getD (e.length - 1) 0).toNat_lt;have hneg:=w40 (w68 ha e.length) (c:=((e.getD (e.length - 1) 0).toNat:Int).toNat.toUInt8) (by rw[wsr];exact hl);refine⟨by omega,by omega,by omega,by omega,by omega,trivial,?_⟩;rw[hneg];exact hQ2
theorem w4x(hP:C.P=Tryz.prog):wad C 180 wnq:=by
 rintro args objs U Os vc h hvc;unfold wnq at h;split at h<;>cases h;rename_i s r;obtain⟨ha,hs,h0,h1⟩:=hvc
 refine wad.wpL (prg hP) [(191,.det whw),(192,.det wmd)] [(38,wpk s),(5,wpj s (Utf8.encode r).data.toList),(25,λ_ _=>False)] 0
  (.cons (wvj hP) (.cons (wx1 hP) .nil)) (hP ▸ Tryz.func180) rfl rfl rfl
  [(wai Tryz.f180 38,wpk s),(wai Tryz.f180 5,wpj s (Utf8.encode r).data.toList),(wai Tryz.f180 25,λ_ _=>False)] (by kernel_rfl)
  ⟨w4u hP s,w4t hP s _,λ_ _ h=>h.elim,trivial⟩ ?_
 rw[w2a];refine wan (λ_=>wan (λh=>?_) (λh=>?_)) (λh=>absurd h0 (of_decide_eq_false h))
 ·have h':=of_decide_eq_true h;refine⟨by simp only[inR];omega,trivial,?_,rfl⟩;simp only[wb9,h]
 ·have h':=of_decide_eq_false h;refine wan (λ_=>⟨rfl,ha,?_,rfl⟩) (λ_=>⟨trivial,wan (λ_=>⟨?_,rfl⟩) (λhv=>?_)⟩)
  ·simp only[wb9,h]
  ·simp only[wb9,h]
  ·have hv:Lib.validRune r=true:=by simpa using hv
   obtain⟨l1,l2,l3⟩:=w5w (by omega) hv;refine⟨trivial,by simp only[inR];omega,rfl,ha,hs,l1,l2,l3,⟨?_,rfl⟩,⟨?_,rfl⟩⟩
   ·simp only[wb9,h]
   ·simp only[wb9,h]
theorem w56(hP:C.P=Tryz.prog):wad C 167 wn4:=by
 rintro args objs U Os vc h hvc;unfold wn4 at h;split at h<;>cases h;rename_i s r;refine wad.wp0 (prg hP) [(180,.det wnq)] 0 (.cons (w4x hP) .nil) (hP ▸ Tryz.func167) rfl rfl rfl ?_;rw[w2u];exact⟨hvc,rfl,rfl⟩
theorem w1t(r:Int)(R:oR7):wpFn te [(167,.det wn4)] [] 0 Tryz.f166 [.int .i32 r] [] R=((true=true/\38<=1000000/\(0:Int)<=r/\r<=1114111)/\R (.bool !decide ((0:Int)<=wb9 ([(97:UInt8),98,99,100,101,102,103,104,105,106,107,108,109,110,111,112,113,114,115,116,117,118,119,120,121,122,48,49,50,51,52,53,54,55,56,57,45,46]) r)) []):=by kernel_rfl
theorem w2c(s:List UInt8)(R:oR7):wpFn te [] [(2,wpl s)] 0 Tryz.f190 [.str s,.func 166 [],.bool true] [] R=(letI z0:=St.mk [(1,.func 166 []),(2,.bool true),(10,.ptr 0 0)] [(0,.siter s 0)] 1 [];some z0=some z0/\wab (List.all s isNB) (R (.q (-1:Int)) []) (R (.q (↑(wc9 s):Int)) [])):=by kernel_rfl
theorem w2b(s:List UInt8)(k:Nat)(P:Nat->Prop)(R:eR7):wat ⟨te,[(166,.det wm5)],[],0,21,0⟩ (wav Tryz.f190 2) [1,2,10] [] [6] (wns s) P R (wns s k)=(letI z1:=([(1,.func 166 []),(2,.bool true),(10,.ptr 0 0)]:tL7);letI z0:=(↑(wbp s k).1:Int);wab (decide (k<s.length)) (True/\((0:Int)<=z0/\z0<=1114111)/\wab (decide ((!decide ((0:Int)<=wb9 we1 z0))=true)) (R .ret (St.mk [(6,.q (k:Int))] [] 0 [])) (∃(i':Nat),some (St.mk z1 [(0,.siter s (k+(wbp s k).2))] 1 [])=some (St.mk z1 [(0,.siter s i')] 1 [])/\P i')) (True/\R (.exit 0) (St.mk [] [] 0 []))):=by kernel_rfl
theorem w3a(s:List UInt8)(R:oR7):wpFn te [(190,.det wnr)] [] 0 Tryz.f179 [.str s,.func 166 []] [] R=(True/\R (.q (we5 s)) []):=by kernel_rfl
theorem w3b(s:List UInt8)(R:oR7):wpFn te [(179,.det woh)] [] 0 Tryz.f165 [.str s,.func 166 []] [] R=(True/\R (.bool (decide ((0:Int)<=we5 s))) []):=by kernel_rfl
theorem nf_name(s:List UInt8)(R:oR7):wpFn te [(164,.det weo),(165,.det woi)] [] 0 Tryz.f154 [.str s] [] R=(wab (!decide (s=[])) (wab (decide ((s.length:Int)<=24)) (((0:Int)<=1/\(1:Int)<=(s.length:Int))/\((List.take (1:Int).toNat s).length<=9223372036854775807/\2<=36/\36<4294967281/\∀(b:UInt8),b∈[(97:UInt8),98,99,100,101,102,103,104,105,106,107,108,109,110,111,112,113,114,115,116,117,118,119,120,121,122,48,49,50,51,52,53,54,55,56,57]->UInt8.toNat b<128)/\wab (decide (wer ([(97:UInt8),98,99,100,101,102,103,104,105,106,107,108,109,110,111,112,113,114,115,116,117,118,119,120,121,122,48,49,50,51,52,53,54,55,56,57]) (List.take (1:Int).toNat s)=[])) (True/\R (.bool !!List.all s isNB) []) (R (.bool false) [])) (R (.bool false) [])) (R (.bool false) [])):=by kernel_rfl
variable {C:Ctx} [C.Loose]
theorem w3j(hP:C.P=Tryz.prog):wad C 166 wm5:=by
 rintro args objs U Os vc h hvc;unfold wm5 at h;split at h<;>cases h;rename_i r;refine wad.wp0 (prg hP) [(167,.det wn4)] 0 (.cons (w56 hP) .nil) (hP ▸ Tryz.func166) rfl rfl rfl ?_;rw[w1t];exact⟨⟨rfl,by omega,hvc.1,hvc.2⟩,rfl,rfl⟩
theorem w4z(hP:C.P=Tryz.prog)(s:List UInt8):wah C 0 21 (wai Tryz.f190 2) (wpl s):=by
 rintro st Q ⟨h0,hQ⟩;have hQ:=wbq hQ;refine wah.mk (prg hP) [(166,.det wm5)] 0 (.cons (w3j hP) .nil) [1,2,10] [] [6] (wns s) (λk=>k<=s.length/\∀j,j<k->isNB (s.getD j 0)=true) (λk=>s.length - k) 0 ⟨zL7 _,λj h=>by omega⟩ h0 λk ⟨hk,hall⟩=>?_;rw[w2b];refine wan (λh=>?_) (λh=>⟨trivial,?_⟩)
 ·have h:=of_decide_eq_true h;have hle:=wyz h;refine⟨trivial,⟨by omega,by omega⟩,?_⟩
  -- what the predicate says of the rune is what isNB says of the byte
  have key:(decide (0<=wb9 we1 ((wbp s k).1:Int)))=isNB (s.getD k 0)/\(isNB (s.getD k 0)=true->(wbp s k).2=1):=by
   by_cases hlo:(s.getD k 0).toNat<128
   ·rw[wp9 h hlo];exact⟨w3e _ hlo,λ_=>rfl⟩
   ·have hh:=wth h (by omega);have hn:isNB (s.getD k 0)=false:=by
     generalize s.getD k 0=b at *;simp only[isNB,wei,Bool.or_eq_false_iff,Bool.and_eq_false_imp,decide_eq_true_eq,decide_eq_false_iff_not];omega
    rw[w3f _ hh.1,hn];exact⟨rfl,λh=>by cases h⟩
  rw[key.1];refine wan (λhb=>?_) (λhb=>?_)
  ·have hb:isNB (s.getD k 0)=false:=by simpa using hb
   have hf:s.all isNB=false:=by
    cases ha:s.all isNB with
    |false=>rfl
    |true=>
     have:=List.all_eq_true.1 ha (s.getD k 0) (by simp[List.getD,h]);rw[hb] at this;cases this
   obtain⟨b1,b2,b3⟩:=w63 hf;have:wc9 s=k:=by
    rcases Nat.lt_trichotomy (wc9 s) k with hl | hl | hl
    ·rw[hall _ hl] at b2;cases b2
    ·exact hl
    ·rw[b3 k hl] at hb;cases hb
   have hq:=hQ.2 hf;rw[this] at hq;exact hq
  ·have hb:isNB (s.getD k 0)=true:=by simpa using hb
   rw[key.2 hb];refine⟨k+1,rfl,⟨by omega,λj hj=>?_⟩,by omega⟩
   rcases Nat.lt_succ_iff_lt_or_eq.1 hj with hj | rfl
   ·exact hall j hj
   ·exact hb
 ·have h:=of_decide_eq_false h;refine hQ.1 (List.all_eq_true.2 λb hb=>?_);obtain⟨j,hj,rfl⟩:=List.getElem_of_mem hb;have:=hall j (by omega);simpa[List.getD,hj] using this
theorem w4y(hP:C.P=Tryz.prog):wad C 190 wnr:=by
 rintro args objs U Os vc h hvc;unfold wnr at h;split at h<;>cases h;rename_i s;refine wad.wpL (prg hP) [] [(2,wpl s)] 0 .nil (hP ▸ Tryz.func190) rfl rfl rfl [(wai Tryz.f190 2,wpl s)] (by kernel_rfl) ⟨w4z hP s,trivial⟩ ?_;rw[w2c];refine⟨rfl,wan (λh=>⟨?_,rfl⟩) (λh=>⟨?_,rfl⟩)⟩
 ·simp only[we5,h]
 ·simp only[we5,h]
theorem w7e(hP:C.P=Tryz.prog):wad C 179 woh:=by
 rintro args objs U Os vc h hvc;unfold woh at h;split at h<;>cases h;rename_i s;refine wad.wp0 (prg hP) [(190,.det wnr)] 0 (.cons (w4y hP) .nil) (hP ▸ Tryz.func179) rfl rfl rfl ?_;rw[w3a];exact⟨trivial,rfl,rfl⟩
theorem w7f(hP:C.P=Tryz.prog):wad C 165 woi:=by
 rintro args objs U Os vc h hvc;unfold woi at h;split at h<;>cases h;rename_i s;refine wad.wp0 (prg hP) [(179,.det woh)] 0 (.cons (w7e hP) .nil) (hP ▸ Tryz.func165) rfl rfl rfl ?_;rw[w3b,w5m];exact⟨trivial,rfl,rfl⟩
theorem wum(hP:C.P=Tryz.prog):wad C 154 wht:=by
 rintro args objs U Os vc h hvc;unfold wht at h;split at h<;>cases h;rename_i s;refine wad.wp0 (prg hP) [(164,.det weo),(165,.det woi)] 0 (.cons (wjs hP) (.cons (w7f hP) .nil)) (hP ▸ Tryz.func154) rfl rfl rfl ?_;rw[nf_name]
 cases s with
 |nil=>exact⟨rfl,rfl⟩
 |cons b r=>
  have e:(b::r).take (Int.toNat 1)=[b]:=rfl;have hasc:∀x∈wkj,UInt8.toNat x<128:=by decide+kernel
  rw[e,wx8];have hl:(List.length (b::r):Int)=r.length+1:=by simp
  have hl':List.length (b::r)=r.length+1:=rfl;have hd:(b::r).getD 0 0=b:=rfl;refine wan (λ_=>wan (λh=>⟨by omega,⟨by simp,by omega,by omega,hasc⟩,wan (λh'=>⟨trivial,?_,rfl⟩) (λh'=>⟨?_,rfl⟩)⟩) (λh=>⟨?_,rfl⟩)) (λh=>by simp at h)
  ·have h:=of_decide_eq_true h;simp only[wa3,hd,h',hl',Bool.not_not];rw[decide_eq_true (by omega),decide_eq_true (by omega)];rfl
  ·simp only[wa3,hd,h',Bool.and_false,Bool.false_and]
  ·have h:=of_decide_eq_false h;simp only[wa3,hl'];rw[decide_eq_false (p:=r.length+1<=24) (by omega)];simp
end Go.Eng
