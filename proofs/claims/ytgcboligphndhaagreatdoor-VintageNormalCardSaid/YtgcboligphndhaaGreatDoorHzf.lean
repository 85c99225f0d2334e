/- split. -/
import Derived.Test.YtgcboligphndhaaGreatDoorHzb
namespace Go.Eng
open Go.Proofs Go.RowKit
variable {C:Ctx} [C.Loose]
set_option maxRecDepth 20000
theorem nf_clD(F:FL)(d:Int)(R:oR7):wpFn te [] [] 0 Tryz.f143 [.agg [.str F.id,.q F.ver,.q F.day,.q F.kind,.view 15 F.ms.length (wae (atM F.ms)),.view 5 F.rs.length (wah (atR F.rs)),.view 5 F.ts.length (wag (atT F.ts))],.ptr 0 0] [.cells [.q d] 3] R=(R (.bool (decide (d<F.day))) [(0,.cells [.q d] 3)]):=by kernel_rfl
theorem nf_ixD(d:Int)(g:Nat->FL)(n:Nat)(R:oR7):wpFn te [(143,.det wfy)] [(2,wo3 d g n)] 0 Tryz.f144 [.own 0 n,.func 143 [.ptr 1 0]] [.row 49 7 n (wac g) false,.cells [.q d] 3] R=(letI z0:=([(0,.row 49 7 n (wac g) false),(1,.cells [.q d] 3)]:oL7);(TEq [(0,.own 0 n),(1,.func 143 [.ptr 1 0]),(7,.q (n:Int)),(8,.q 0)] [(0,.own 0 n),(1,.func 143 [.ptr 1 0]),(7,.q (n:Int)),(8,.q (↑0:Int))]/\waf z0 z0)/\n<=1000/\(∀(i:Nat),i<n->FL.Rg (g i))/\True/\wab (decide (fstB (λ(i:Nat)=>qD d (g i)) n<n)) ((∀(i:Nat),i<n->true=true)/\∃(O':oL7),waf z0 O'/\R (.q (↑(fstB (λ(i:Nat)=>qD d (g i)) n):Int)) O') ((∀(i:Nat),i<n->true=true)/\∃(O':oL7),waf z0 O'/\R (.q (-1:Int)) O')):=by kernel_rfl
theorem w02(d:Int)(g:Nat->FL)(n k:Nat)(P:Nat->Prop)(R:eR7):wa0 ⟨te,[(143,.det wfy)],[],2,19,0⟩ (wa1 Tryz.f144 2) [0,1,7,8] [] [4] (wm3 d g n) P R (wm3 d g n k)=(letI z2:=([(0,.row 49 7 n (wac g) false),(1,.cells [.q d] 3)]:oL7);letI z0:=(g (k:Int).toNat);letI z1:=flV z0.id z0.ver z0.day z0.kind z0.ms.length (wae (atM z0.ms)) z0.rs.length (wah (atR z0.rs)) z0.ts.length (wag (atT z0.ts));wab (decide ((k:Int)<(n:Int))) (((0:Int)<=(k:Int)/\(k:Int)<(n:Int))/\((k:Int).toNat<n/\7=7)/\((FlC z0.ms.length (wae (atM z0.ms)) z0.rs.length (wah (atR z0.rs)) z0.ts.length (wag (atT z0.ts))/\FL.Rg z1)/\3=3/\True)/\wab (qD d z1) ((∀(i:Nat),i<n->true=true)/\∃(O':oL7),waf z2 O'/\R .ret (St.mk [(4,.q (k:Int))] O' 2 [])) (inR .i64 ((k:Int)+1)/\∃(i':Nat),(TEq [(0,.own 0 n),(1,.func 143 [.ptr 1 0]),(7,.q (n:Int)),(8,.q ((k:Int)+1))] [(0,.own 0 n),(1,.func 143 [.ptr 1 0]),(7,.q (n:Int)),(8,.q (i':Int))]/\waf z2 z2)/\P i')) ((∀(i:Nat),i<n->true=true)/\∃(O':oL7),waf z2 O'/\R (.exit 0) (St.mk [] O' 2 []))):=by kernel_rfl
theorem nf_dfD(d:Int)(g:Nat->FL)(n:Nat)(R:oR7):wpFn te [(144,.det wm4)] [(5,wpd d g n (fstB (λi=>qD d (g i)) n))] 0 Tryz.f100 [.own 0 n,.func 143 [.ptr 1 0]] [.row 49 7 n (wac g) false,.cells [.q d] 3] R=(letI z3:=(ixB (λ(i:Nat)=>qD d (flOf (wac g) i)) n+1);letI z2:=([(0,.row 49 7 n (wac g) false),(1,.cells [.q d] 3)]:oL7);letI z1:=(∀(i:Nat),i<n->true=true:Prop);letI z0:=(FI.mk (fstB (λ(i:Nat)=>qD d (g i)) n+1) (fstB (λ(i:Nat)=>qD d (g i)) n) g);z1/\(49=49/\3=3/\false=false/\n=n/\n<=1000/\wac g=wac (flOf (wac g))/\(∀(i:Nat),i<n->FL.Rg (flOf (wac g) i))/\True)/\z1/\wab (decide (ixB (λ(i:Nat)=>qD d (flOf (wac g) i)) n=(-1:Int))) (z1/\∃(O':oL7),waf z2 O'/\R (.own 0 n) O') (inR .i64 z3/\(TEq [(0,.own 0 n),(1,.func 143 [.ptr 1 0]),(5,.q (ixB (λ(i:Nat)=>qD d (flOf (wac g) i)) n)),(6,.q z3)] [(0,.own 0 n),(1,.func 143 [.ptr 1 0]),(5,.q (↑(FI.w z0):Int)),(6,.q (↑(FI.k z0):Int))]/\waf z2 [(0,.row 49 7 n (wac (FI.h z0)) false),(1,.cells [.q d] 3)])/\(fstB (λ(i:Nat)=>qD d (g i)) n<n/\n<=1000)/\(∀(i:Nat),i<n->FL.Rg (g i))/\True/\(∀(j:Nat),j<fstB (λ(i:Nat)=>qD d (g i)) n->qD d (g j)=false)/\qD d (g (fstB (λ(i:Nat)=>qD d (g i)) n))=true/\∀(w:Nat) (h:Nat->FL),letI z4:=((0:Int)<=(w:Int)/\(w:Int)<=(n:Int):Prop);w<=n->lst h w=kfL (qD d) g n->z4/\(w:Int).toNat<=n/\z4/\(∀(i:Nat),i<(w:Int).toNat->true=true)/\∃(O':oL7),waf [(0,.row 49 7 (w:Int).toNat (wac h) false),(1,.cells [.q d] 3)] O'/\R (.own 0 (w:Int).toNat) O')):=by kernel_rfl
theorem w1i(d:Int)(n:Nat)(i:FI)(P:FI->Prop)(R:eR7):wa0 ⟨te,[(143,.det wfy)],[],2,42,0⟩ (wa1 Tryz.f100 5) [0,1,5,6] [0,5] [] (wnl d n) P R (wnl d n i)=(letI z4:=([(0,.row 49 7 n (wac (FI.h i)) false),(1,.cells [.q d] 3)]:oL7);letI z3:=(↑(FI.w i):Int);letI z2:=(↑(FI.k i):Int);letI z11:=(z2+1);letI z0:=(FI.h i z2.toNat);letI z10:=wag (atT z0.ts);letI z9:=z0.ts.length;letI z8:=wah (atR z0.rs);letI z7:=z0.rs.length;letI z6:=wae (atM z0.ms);letI z5:=z0.ms.length;letI z1:=flV z0.id z0.ver z0.day z0.kind z5 z6 z7 z8 z9 z10;wab (decide (z2<(n:Int))) (((0:Int)<=z2/\z2<(n:Int))/\(z2.toNat<n/\7=7)/\((FlC z5 z6 z7 z8 z9 z10/\FL.Rg z1)/\3=3/\True)/\wab (!qD d z1) (((0:Int)<=z3/\z3<(n:Int))/\(List.length [AV.str z0.id,.q z0.ver,.q z0.day,.q z0.kind,.view 15 z5 z6,.view 5 z7 z8,.view 5 z9 z10]=7/\z3.toNat<n/\7=7)/\inR .i64 (z3+1)/\inR .i64 z11/\∃(i':FI),(TEq [(0,.own 0 n),(1,.func 143 [.ptr 1 0]),(5,.q (z3+1)),(6,.q z11)] [(0,.own 0 n),(1,.func 143 [.ptr 1 0]),(5,.q (↑(FI.w i'):Int)),(6,.q (↑(FI.k i'):Int))]/\waf [(0,.row 49 7 n (λ(k:Nat)=>if k=Int.toNat z3 then [.str z0.id,.q z0.ver,.q z0.day,.q z0.kind,.view 15 z5 z6,.view 5 z7 z8,.view 5 z9 z10] else wac (FI.h i) k) false),(1,.cells [.q d] 3)] [(0,.row 49 7 n (wac (FI.h i')) false),(1,.cells [.q d] 3)])/\P i') (inR .i64 z11/\∃(i':FI),(TEq [(0,.own 0 n),(1,.func 143 [.ptr 1 0]),(5,.q z3),(6,.q z11)] [(0,.own 0 n),(1,.func 143 [.ptr 1 0]),(5,.q (↑(FI.w i'):Int)),(6,.q (↑(FI.k i'):Int))]/\waf z4 [(0,.row 49 7 n (wac (FI.h i')) false),(1,.cells [.q d] 3)])/\P i')) ((∀(i:Nat),i<n->true=true)/\∃(O':oL7),waf z4 O'/\R (.exit 0) (St.mk [(0,.own 0 n),(5,.q z3)] O' 2 []))):=by kernel_rfl
theorem nf_clV(F:FL)(es:List (AV×AV))(R:oR7):wpFn te [] [] 0 Tryz.f101 [.agg [.str F.id,.q F.ver,.q F.day,.q F.kind,.view 15 F.ms.length (wae (atM F.ms)),.view 5 F.rs.length (wah (atR F.rs)),.view 5 F.ts.length (wag (atT F.ts))],.ptr 0 0] [.cells [.map 1] 132,.amap es] R=(letI z2:=Option.getD (mget es (.str F.id)) (zvA (.q 0));letI z1:=(ren (List.length [AObj.cells [.map 1] (132:TypeId),.amap es]) []);letI z0:=([(0,.cells [.map 1] 132),(1,.amap (List.map (λ(p:AV×AV)=>(AV.rn z1 p.1,AV.rn z1 p.2)) es))]:oL7);wab (!decide (F.kind=1)) ((wbu (TI.desc (TI.mk TypeDesc.string 1 16 (Value.string (ByteArray.mk #[])) false)) es/\.q (war z2)=Option.getD (mget es (.str F.id)) (zvA (.q 0)))/\R (.bool (decide (F.ver<war z2))) z0) (R (.bool false) z0)):=by kernel_rfl
theorem nf_ixV(es:List (AV×AV))(g:Nat->FL)(n:Nat)(R:oR7):wpFn te [(101,.det wfx)] [(2,wo2 es g n)] 0 Tryz.f144 [.own 0 n,.func 101 [.ptr 1 0]] [.row 49 7 n (wac g) false,.cells [.map 2] 132,.amap es] R=(letI z1:=(ren (List.length [AObj.row (49:TypeId) 7 n (wac g) false,.cells [.map 2] (132:TypeId),.amap es]) []);letI z0:=([(0,.row 49 7 n (wac g) false),(1,.cells [.map 2] 132),(List.length [AObj.cells [.map 2] (132:TypeId),.amap es],.amap (List.map (λ(p:AV×AV)=>(AV.rn z1 p.1,AV.rn z1 p.2)) es))]:oL7);(TEq [(0,.own 0 n),(1,.func 101 [.ptr 1 0]),(7,.q (n:Int)),(8,.q 0)] [(0,.own 0 n),(1,.func 101 [.ptr 1 0]),(7,.q (n:Int)),(8,.q (↑0:Int))]/\waf [(0,.row 49 7 n (wac g) false),(1,.cells [.map 2] 132),(2,.amap (List.map (λ(p:AV×AV)=>(AV.rn (ren 3 []) p.1,AV.rn (ren 3 []) p.2)) es))] [(0,.row 49 7 n (wac g) false),(1,.cells [.map 2] 132),(2,.amap es)])/\n<=1000/\(∀(i:Nat),i<n->FL.Rg (g i))/\EsV es/\wab (decide (fstB (λ(i:Nat)=>qV es (g i)) n<n)) ((∀(i:Nat),i<n->true=true)/\∃(O':oL7),waf z0 O'/\R (.q (↑(fstB (λ(i:Nat)=>qV es (g i)) n):Int)) O') ((∀(i:Nat),i<n->true=true)/\∃(O':oL7),waf z0 O'/\R (.q (-1:Int)) O')):=by kernel_rfl
theorem w01(es:List (AV×AV))(g:Nat->FL)(n k:Nat)(P:Nat->Prop)(R:eR7):wa0 ⟨te,[(101,.det wfx)],[],3,19,0⟩ (wa1 Tryz.f144 2) [0,1,7,8] [] [4] (wm1 es g n) P R (wm1 es g n k)=(letI z2:=(List.map (λ(p:AV×AV)=>(AV.rn (idxN [1,2]) p.1,AV.rn (idxN [1,2]) p.2)) es);letI z1:=([(0,.row 49 7 n (wac g) false),(1,.cells [.map 2] 132),(2,.amap (List.map (λ(p:AV×AV)=>(AV.rn (ren 3 []) p.1,AV.rn (ren 3 []) p.2)) (List.map (λ(p:AV×AV)=>(AV.rn (sig [1,2] 3) p.1,AV.rn (sig [1,2] 3) p.2)) z2)))]:oL7);letI z0:=(g (k:Int).toNat);letI z3:=flV z0.id z0.ver z0.day z0.kind z0.ms.length (wae (atM z0.ms)) z0.rs.length (wah (atR z0.rs)) z0.ts.length (wag (atT z0.ts));wab (decide ((k:Int)<(n:Int))) (((0:Int)<=(k:Int)/\(k:Int)<(n:Int))/\((k:Int).toNat<n/\7=7)/\((FlC z0.ms.length (wae (atM z0.ms)) z0.rs.length (wah (atR z0.rs)) z0.ts.length (wag (atT z0.ts))/\FL.Rg z3)/\132=132/\EsV z2)/\wab (qV z2 z3) ((∀(i:Nat),i<n->true=true)/\∃(O':oL7),waf z1 O'/\R .ret (St.mk [(4,.q (k:Int))] O' 3 [])) (inR .i64 ((k:Int)+1)/\∃(i':Nat),(TEq [(0,.own 0 n),(1,.func 101 [.ptr 1 0]),(7,.q (n:Int)),(8,.q ((k:Int)+1))] [(0,.own 0 n),(1,.func 101 [.ptr 1 0]),(7,.q (n:Int)),(8,.q (i':Int))]/\waf z1 [(0,.row 49 7 n (wac g) false),(1,.cells [.map 2] 132),(2,.amap es)])/\P i')) ((∀(i:Nat),i<n->true=true)/\∃(O':oL7),waf [(0,.row 49 7 n (wac g) false),(1,.cells [.map 2] 132),(2,.amap (List.map (λ(p:AV×AV)=>(AV.rn (ren 3 []) p.1,AV.rn (ren 3 []) p.2)) es))] O'/\R (.exit 0) (St.mk [] O' 3 []))):=by kernel_rfl
theorem nf_dfV(es:List (AV×AV))(g:Nat->FL)(n:Nat)(R:oR7):wpFn te [(144,.det wm2)] [(5,wpc es g n (fstB (λi=>qV es (g i)) n))] 0 Tryz.f100 [.own 0 n,.func 101 [.ptr 1 0]] [.row 49 7 n (wac g) false,.cells [.map 2] 132,.amap es] R=(letI z4:=(∀(i:Nat),i<n->true=true:Prop);letI z2:=(FI.mk (fstB (λ(i:Nat)=>qV es (g i)) n+1) (fstB (λ(i:Nat)=>qV es (g i)) n) g);letI z1:=(ren (List.length [AObj.row (49:TypeId) 7 n (wac g) false,.cells [.map 2] (132:TypeId),.amap es]) []);letI z0:=(List.map (λ(p:AV×AV)=>(AV.rn (idxN [0,1,2]) p.1,AV.rn (idxN [0,1,2]) p.2)) es);letI z5:=(ixB (λ(i:Nat)=>qV z0 (flOf (wac g) i)) n+1);letI z3:=(List.map (λ(p:AV×AV)=>(AV.rn (sig [0,1,2] 3) p.1,AV.rn (sig [0,1,2] 3) p.2)) z0);z4/\(49=49/\132=132/\false=false/\n=n/\n<=1000/\wac g=wac (flOf (wac g))/\(∀(i:Nat),i<n->FL.Rg (flOf (wac g) i))/\EsV z0)/\z4/\wab (decide (ixB (λ(i:Nat)=>qV z0 (flOf (wac g) i)) n=(-1:Int))) (z4/\∃(O':oL7),waf [(0,.row 49 7 n (wac g) false),(1,.cells [.map 2] 132),(List.length [AObj.cells [.map 2] (132:TypeId),.amap es],.amap (List.map (λ(p:AV×AV)=>(AV.rn z1 p.1,AV.rn z1 p.2)) z3))] O'/\R (.own 0 n) O') (inR .i64 z5/\(TEq [(0,.own 0 n),(1,.func 101 [.ptr 1 0]),(5,.q (ixB (λ(i:Nat)=>qV z0 (flOf (wac g) i)) n)),(6,.q z5)] [(0,.own 0 n),(1,.func 101 [.ptr 1 0]),(5,.q (↑(FI.w z2):Int)),(6,.q (↑(FI.k z2):Int))]/\waf [(0,.row 49 7 n (wac g) false),(1,.cells [.map 2] 132),(2,.amap (List.map (λ(p:AV×AV)=>(AV.rn (ren 3 []) p.1,AV.rn (ren 3 []) p.2)) z3))] [(0,.row 49 7 n (wac (FI.h z2)) false),(1,.cells [.map 2] 132),(2,.amap es)])/\(fstB (λ(i:Nat)=>qV es (g i)) n<n/\n<=1000)/\(∀(i:Nat),i<n->FL.Rg (g i))/\EsV es/\(∀(j:Nat),j<fstB (λ(i:Nat)=>qV es (g i)) n->qV es (g j)=false)/\qV es (g (fstB (λ(i:Nat)=>qV es (g i)) n))=true/\∀(w:Nat) (h:Nat->FL),letI z6:=((0:Int)<=(w:Int)/\(w:Int)<=(n:Int):Prop);w<=n->lst h w=kfL (qV es) g n->z6/\(w:Int).toNat<=n/\z6/\(∀(i:Nat),i<(w:Int).toNat->true=true)/\∃(O':oL7),waf [(0,.row 49 7 (w:Int).toNat (wac h) false),(1,.cells [.map 2] 132),(List.length [AObj.cells [.map 2] (132:TypeId),.amap es],.amap (List.map (λ(p:AV×AV)=>(AV.rn z1 p.1,AV.rn z1 p.2)) es))] O'/\R (.own 0 (w:Int).toNat) O')):=by kernel_rfl
theorem w1h(es:List (AV×AV))(n:Nat)(i:FI)(P:FI->Prop)(R:eR7):wa0 ⟨te,[(101,.det wfx)],[],3,42,0⟩ (wa1 Tryz.f100 5) [0,1,5,6] [0,5] [] (wnk es n) P R (wnk es n i)=(letI z5:=(↑(FI.w i):Int);letI z4:=(↑(FI.k i):Int);letI z12:=(z4+1);letI z1:=(List.map (λ(p:AV×AV)=>(AV.rn (idxN [1,2]) p.1,AV.rn (idxN [1,2]) p.2)) es);letI z2:=(List.map (λ(p:AV×AV)=>(AV.rn (ren 3 []) p.1,AV.rn (ren 3 []) p.2)) (List.map (λ(p:AV×AV)=>(AV.rn (sig [1,2] 5) p.1,AV.rn (sig [1,2] 5) p.2)) z1));letI z0:=(FI.h i z4.toNat);letI z11:=wag (atT z0.ts);letI z10:=z0.ts.length;letI z9:=wah (atR z0.rs);letI z8:=z0.rs.length;letI z7:=wae (atM z0.ms);letI z6:=z0.ms.length;letI z3:=flV z0.id z0.ver z0.day z0.kind z6 z7 z8 z9 z10 z11;wab (decide (z4<(n:Int))) (((0:Int)<=z4/\z4<(n:Int))/\(z4.toNat<n/\7=7)/\((FlC z6 z7 z8 z9 z10 z11/\FL.Rg z3)/\132=132/\EsV z1)/\wab (!qV z1 z3) (((0:Int)<=z5/\z5<(n:Int))/\(List.length [AV.str z0.id,.q z0.ver,.q z0.day,.q z0.kind,.view 15 z6 z7,.view 5 z8 z9,.view 5 z10 z11]=7/\z5.toNat<n/\7=7)/\inR .i64 (z5+1)/\inR .i64 z12/\∃(i':FI),(TEq [(0,.own 0 n),(1,.func 101 [.ptr 1 0]),(5,.q (z5+1)),(6,.q z12)] [(0,.own 0 n),(1,.func 101 [.ptr 1 0]),(5,.q (↑(FI.w i'):Int)),(6,.q (↑(FI.k i'):Int))]/\waf [(0,.row 49 7 n (λ(k:Nat)=>if k=Int.toNat z5 then [.str z0.id,.q z0.ver,.q z0.day,.q z0.kind,.view 15 z6 z7,.view 5 z8 z9,.view 5 z10 z11] else wac (FI.h i) k) false),(1,.cells [.map 2] 132),(2,.amap z2)] [(0,.row 49 7 n (wac (FI.h i')) false),(1,.cells [.map 2] 132),(2,.amap es)])/\P i') (inR .i64 z12/\∃(i':FI),(TEq [(0,.own 0 n),(1,.func 101 [.ptr 1 0]),(5,.q z5),(6,.q z12)] [(0,.own 0 n),(1,.func 101 [.ptr 1 0]),(5,.q (↑(FI.w i'):Int)),(6,.q (↑(FI.k i'):Int))]/\waf [(0,.row 49 7 n (wac (FI.h i)) false),(1,.cells [.map 2] 132),(2,.amap z2)] [(0,.row 49 7 n (wac (FI.h i')) false),(1,.cells [.map 2] 132),(2,.amap es)])/\P i')) ((∀(i:Nat),i<n->true=true)/\∃(O':oL7),waf [(0,.row 49 7 n (wac (FI.h i)) false),(1,.cells [.map 2] 132),(2,.amap (List.map (λ(p:AV×AV)=>(AV.rn (ren 3 []) p.1,AV.rn (ren 3 []) p.2)) es))] O'/\R (.exit 0) (St.mk [(0,.own 0 n),(5,.q z5)] O' 3 []))):=by kernel_rfl
theorem whb(σ:Nat->Option Nat)(K:List (List UInt8))(v:List UInt8->Int):(entI K v).map (λp=>(AV.rn σ p.1,AV.rn σ p.2))=entI K v:=by
 unfold entI;rw[List.map_map];rfl
theorem wvx{K:List (List UInt8)}{v:List UInt8->Int}(h:K.Nodup):wbu .string (entI K v):=by
 refine⟨List.all_eq_true.2 λp hp=>?_,?_⟩
 ·obtain⟨r,_,rfl⟩:=List.mem_map.1 hp;rfl
 ·unfold entI;rw[List.map_map];refine List.pairwise_map.2 (h.imp λ{a b} hab he=>hab ?_);have he:AV.str a=AV.str b:=he;injection he
theorem wqj(v:List UInt8->Int)(x:List UInt8):∀K,Option.getD (mget (entI K v) (.str x)) (.q 0)= .q (if x∈K then v x else 0)
 |[]=>rfl
 |t::K=>by
  show Option.getD (match keq (.str t) (.str x) with | true=>some (AV.q (v t)) | false=>mget (entI K v) (.str x)) (.q 0)=_
  have ih:=wqj v x K;rw[wg6]
  by_cases h:t=x
  ·subst h;simp
  ·have h':¬ x=t:=λe=>h e.symm;rw[decide_eq_false h];simp only[List.mem_cons,h',false_or];exact ih
theorem wgb(q:FL->Bool)(g:Nat->FL)(k:Nat):kfL q g (k+1)=kfL q g k++bif q (g k) then [] else [g k]:=by
 unfold kfL;rw[wii,List.filter_append]
 cases h:q (g k)<;>simp[h]
theorem win{q:FL->Bool}{g:Nat->FL}:∀ {k:Nat},(∀j,j<k->q (g j)=false)->kfL q g k=lst g k
 |0,_=>rfl
 |k+1,h=>by
  rw[wgb,win λj hj=>h j (by omega),h k (by omega),wii];rfl
theorem wro(hP:C.P=Tryz.prog):wai C 143 wfy:=by
 have _:C.Loose:=inferInstance;rintro args objs U Os vc h hvc;unfold wfy at h;split at h<;>cases h;rename_i id ver day kind nm fm nr fr nt ft d t2;obtain⟨⟨hc,hs⟩,rfl,hE⟩:=hvc;have l1:(lst (mgOf fm) nm).length=nm:=by simp[lst]
 have l2:(lst (rwOf fr) nr).length=nr:=by simp[lst]
 have l3:(lst (rtOf ft) nt).length=nt:=by simp[lst]
 obtain⟨c1,c2,c3⟩:=hc;unfold flV at hs ⊢;generalize lst (mgOf fm) nm=ms at *;generalize lst (rwOf fr) nr=rs at *;generalize lst (rtOf ft) nt=ts at *;subst l1;subst l2;subst l3;subst c1;subst c2;subst c3;refine wai.wp0 (prg hP) [] 0 .nil (hP ▸ Tryz.func143) rfl rfl rfl ?_;refine(nf_clD ⟨id,ver,day,kind,ms,rs,ts⟩ d _).mpr ?_;exact⟨rfl,rfl⟩
theorem w2y(hP:C.P=Tryz.prog)(d:Int)(g:Nat->FL)(n:Nat):waj C 2 19 (wal Tryz.f144 2) (wo3 d g n):=by
 rintro st Q ⟨h0,hn,hrg,hE,hQ⟩;have hR:=wbt hQ;refine waj.mk (prg hP) [(143,.det wfy)] 0 (.cons (wro hP) .nil) [0,1,7,8] [] [4] (wm3 d g n) (λk=>k<=n/\fstB (λi=>qD d (g i)) k=k) (λk=>n - k) 0 ⟨zL7 _,rfl⟩ h0 (λk hk=>?_) (λi=>⟨λ_ _=>rfl,trivial⟩);obtain⟨hkn,hok⟩:=hk;rw[w02,tN7,wcg];refine wak (λh1=>?_) (λh1=>?_)
 ·refine⟨⟨by omega,by omega⟩,⟨by omega,rfl⟩,⟨⟨wcl _,hrg k (by omega)⟩,rfl,trivial⟩,wax (λh2=>?_) (λh2=>⟨by simp only[inR];omega,k+1,⟨rfl,wam _⟩,⟨by omega,wiv hok h2⟩,by omega⟩)⟩;have e:=wix hok h2 n (by omega);have:=hR.1 (by rw[e,decide_eq_true];omega);rw[e] at this;exact⟨λ_ _=>rfl,_,wam _,this⟩
 ·have:k=n:=by omega
  subst this;exact⟨λ_ _=>rfl,_,wam _,hR.2 (by rw[hok,decide_eq_false];omega)⟩
theorem ixD_ok(hP:C.P=Tryz.prog):wai C 144 wm4:=by
 rintro args objs U Os vc h hvc;unfold wm4 at h;split at h<;>cases h;rename_i n t m f fr d t2;obtain⟨rfl,rfl,rfl,rfl,hn,hf,hrg,hE⟩:=hvc;generalize flOf f=g at *;subst hf;refine wai.wpL (prg hP) [(143,.det wfy)] [(2,wo3 d g n)] 0 (.cons (wro hP) .nil) (hP ▸ Tryz.func144) rfl rfl rfl [(wal Tryz.f144 2,wo3 d g n)] (by kernel_rfl) ⟨w2y hP _ g n,trivial⟩ ?_;rw[nf_ixD];unfold ixB;refine⟨⟨rfl,wam _⟩,hn,hrg,trivial,wak (λh=>?_) (λh=>?_)⟩
 ·rw[decide_eq_true h];exact⟨λ_ _=>rfl,_,wam _,rfl,rfl⟩
 ·rw[decide_eq_false h];exact⟨λ_ _=>rfl,_,wam _,rfl,rfl⟩
theorem w39(hP:C.P=Tryz.prog)(d:Int)(g:Nat->FL)(n i0:Nat):waj C 2 42 (wal Tryz.f100 5) (wpd d g n i0):=by
 rintro st Q ⟨h0,⟨hi0,hn⟩,hrg,hE,hall,hdel,hQ⟩
 refine waj.mk (prg hP) [(143,.det wfy)] 0 (.cons (wro hP) .nil) [0,1,5,6] [0,5] [] (wnl d n) (λi=>i.k<=n/\i.w<i.k/\lst i.h i.w=kfL (qD d) g i.k/\∀j,i.w<=j->i.h j=g j) (λi=>n - i.k) ⟨i0+1,i0,g⟩
  ⟨hi0,Nat.lt_succ_self _,?_,λ_ _=>rfl⟩ h0 (λi hi=>?_) (λi=>⟨λ_ _=>rfl,trivial⟩)
 ·show lst g i0=kfL (qD d) g (i0+1);rw[wgb,hdel,win hall];simp
 obtain⟨k,w,h⟩:=i;obtain⟨i1,i2,i3,i4⟩:=hi;dsimp only at i1 i2 i3 i4;rw[w1i];dsimp only
 rw[tN7,tN7,wcg];refine wak (λh1=>?_) (λh1=>?_)
 ·have hk:k<n:=by omega
  have r1:h k=g k:=i4 _ (by omega);refine⟨⟨by omega,by omega⟩,⟨by omega,rfl⟩,⟨⟨wcl _,by rw[r1];exact hrg k hk⟩,rfl,trivial⟩,wcb (λq=>?_) (λq=>?_)⟩
  ·have q:qD d (h k)=false:=q;rw[r1] at q;refine⟨⟨by omega,by omega⟩,⟨rfl,by omega,rfl⟩,by simp only[inR];omega,by simp only[inR];omega,⟨k+1,w+1,λj=>if j=w then h k else h j⟩,⟨rfl,⟨rfl,rfl,rfl,rfl,rfl,λj hj=>?_⟩,rfl,trivial⟩,⟨hk,?_,?_,λj hj=>?_⟩,?_⟩
   ·unfold wac
    by_cases e:j=w
    ·simp only[e,if_true]
    ·simp only[e,if_false]
   ·show w+1<k+1;omega
   ·show lst (λj=>if j=w then h k else h j) (w+1)=kfL (qD d) g (k+1)
    have e:lst (λj=>if j=w then h k else h j) w=lst h w:=List.map_congr_left λj hj=>by
     have:=List.mem_range.1 hj;rw[if_neg (by omega)]
    rw[wii,wgb,q,e,i3,if_pos rfl,r1];rfl
   ·have hj:w+1<=j:=hj;show (if j=w then h k else h j)=g j
    rw[if_neg (by omega)];exact i4 j (by omega)
   ·show n - (k+1)<n - k;omega
  ·have q:qD d (h k)=true:=q;rw[r1] at q;refine⟨by simp only[inR];omega,⟨k+1,w,h⟩,⟨rfl,wam _⟩,⟨hk,?_,?_,i4⟩,?_⟩
   ·show w<k+1;omega
   ·show lst h w=kfL (qD d) g (k+1);rw[wgb,q,i3];simp
   ·show n - (k+1)<n - k;omega
 ·have:k=n:=by omega
  subst this;exact⟨λ_ _=>rfl,_,wam _,hQ w h (by omega) i3⟩
theorem delD_ok(hP:C.P=Tryz.prog):wa6 C 100 wob:=by
 rintro args objs R h;unfold wob at h;split at h
 ·rename_i n t m f fr d t2;obtain⟨rfl,rfl,rfl,rfl,hn,hf,hrg,hE,hR⟩:=h;generalize flOf f=g at *;subst hf;refine wa6.wpL (prg hP) [(144,.det wm4)] [(5,wpd d g n (fstB (λi=>qD d (g i)) n))] 0 (.cons (ixD_ok hP) .nil) (hP ▸ Tryz.func100) rfl rfl rfl [(wal Tryz.f100 5,wpd d g n (fstB (λi=>qD d (g i)) n))] (by kernel_rfl) ⟨w39 hP _ g n _,trivial⟩ ?_;rw[nf_dfD];rw[wea];obtain⟨f1,f2⟩:=wky (λi=>qD d (g i)) n;have fle:=wiw (λi=>qD d (g i)) n
  by_cases hlt:fstB (λi=>qD d (g i)) n<n
  ·have hix:ixB (λi=>qD d (g i)) n=(fstB (λi=>qD d (g i)) n:Int):=by unfold ixB;rw[decide_eq_true hlt];rfl
   rw[hix];have f2:=f2 hlt;generalize fstB (λi=>qD d (g i)) n=i0 at *;refine⟨λ_ _=>rfl,⟨rfl,rfl,rfl,rfl,hn,rfl,hrg,trivial⟩,λ_ _=>rfl,wak (λq=>absurd q (by omega)) (λ_=>⟨by simp only[inR];omega,⟨rfl,wam _⟩,⟨hlt,hn⟩,hrg,trivial,f1,f2,λw h hw hl=>?_⟩)⟩;rw[tN7];exact⟨⟨by omega,by omega⟩,hw,⟨by omega,by omega⟩,λ_ _=>rfl,_,wam _,hR w h hw hl⟩
  ·have hix:ixB (λi=>qD d (g i)) n= -1:=by unfold ixB;rw[decide_eq_false hlt];rfl
   rw[hix];have e0:fstB (λi=>qD d (g i)) n=n:=by omega
   rw[e0] at f1;exact⟨λ_ _=>rfl,⟨rfl,rfl,rfl,rfl,hn,rfl,hrg,trivial⟩,λ_ _=>rfl,wak (λ_=>⟨λ_ _=>rfl,_,wam _,hR n g (lR7 _) (win f1).symm⟩) (λq=>absurd rfl q)⟩
 ·exact h.elim
theorem wrn(hP:C.P=Tryz.prog):wai C 101 wfx:=by
 have _:C.Loose:=inferInstance;rintro args objs U Os vc h hvc;unfold wfx at h;split at h<;>cases h;rename_i id ver day kind nm fm nr fr nt ft es t2;obtain⟨⟨hc,hs⟩,rfl,hE⟩:=hvc;have l1:(lst (mgOf fm) nm).length=nm:=by simp[lst]
 have l2:(lst (rwOf fr) nr).length=nr:=by simp[lst]
 have l3:(lst (rtOf ft) nt).length=nt:=by simp[lst]
 obtain⟨c1,c2,c3⟩:=hc;unfold flV at hs ⊢;generalize lst (mgOf fm) nm=ms at *;generalize lst (rwOf fr) nr=rs at *;generalize lst (rtOf ft) nt=ts at *;subst l1;subst l2;subst l3;subst c1;subst c2;subst c3;obtain⟨P,v,rfl,hnd⟩:=hE;refine wai.wp0 (prg hP) [] 0 .nil (hP ▸ Tryz.func101) rfl rfl rfl ?_;refine(nf_clV ⟨id,ver,day,kind,ms,rs,ts⟩ (entI P v) _).mpr ?_
 repeat rw[whb]
 have hk:wbu .string (entI P v):=wvx hnd;have hm:=wqj v id P;have hq:qV (entI P v) ⟨id,ver,day,kind,ms,rs,ts⟩=(!decide (kind=1) && decide (ver<war ((mget (entI P v) (.str id)).getD (.q 0)))):=rfl;rw[hq];refine wbh (λh1=>⟨⟨hk,?_⟩,?_,rfl⟩) (λh1=>⟨?_,rfl⟩)
 ·show AV.q (war (Option.getD (mget (entI P v) (.str id)) (.q 0)))=Option.getD (mget (entI P v) (.str id)) (.q 0);rw[hm]
  first | done | rfl
 ·have h1:¬ kind=1:=h1;rw[decide_eq_false h1];rfl
 ·have h1:kind=1:=h1;rw[decide_eq_true h1];rfl
theorem w2x(hP:C.P=Tryz.prog)(es:List (AV×AV))(g:Nat->FL)(n:Nat):waj C 3 19 (wal Tryz.f144 2) (wo2 es g n):=by
 rintro st Q ⟨h0,hn,hrg,hE,hQ⟩;obtain⟨P,v,rfl,hnd⟩:=hE;have hR:=wbt hQ;refine waj.mk (prg hP) [(101,.det wfx)] 0 (.cons (wrn hP) .nil) [0,1,7,8] [] [4] (wm1 (entI P v) g n) (λk=>k<=n/\fstB (λi=>qV (entI P v) (g i)) k=k) (λk=>n - k) 0 ⟨zL7 _,rfl⟩ h0 (λk hk=>?_) (λi=>⟨λ_ _=>rfl,trivial⟩);obtain⟨hkn,hok⟩:=hk;rw[w01,tN7,wcg]
 repeat rw[whb]
 refine wak (λh1=>?_) (λh1=>?_)
 ·refine⟨⟨by omega,by omega⟩,⟨by omega,rfl⟩,⟨⟨wcl _,hrg k (by omega)⟩,rfl,⟨P,v,rfl,hnd⟩⟩,wax (λh2=>?_) (λh2=>⟨by simp only[inR];omega,k+1,⟨rfl,wam _⟩,⟨by omega,wiv hok h2⟩,by omega⟩)⟩;have e:=wix hok h2 n (by omega);have:=hR.1 (by rw[e,decide_eq_true];omega);rw[e] at this;exact⟨λ_ _=>rfl,_,wam _,this⟩
 ·have:k=n:=by omega
  subst this;exact⟨λ_ _=>rfl,_,wam _,hR.2 (by rw[hok,decide_eq_false];omega)⟩
theorem ixV_ok(hP:C.P=Tryz.prog):wai C 144 wm2:=by
 rintro args objs U Os vc h hvc;unfold wm2 at h;split at h<;>cases h;rename_i n t m f fr es t2;obtain⟨rfl,rfl,rfl,rfl,hn,hf,hrg,hE⟩:=hvc;generalize flOf f=g at *;subst hf;obtain⟨P,v,rfl,hnd⟩:=hE;refine wai.wpL (prg hP) [(101,.det wfx)] [(2,wo2 (entI P v) g n)] 0 (.cons (wrn hP) .nil) (hP ▸ Tryz.func144) rfl rfl rfl [(wal Tryz.f144 2,wo2 (entI P v) g n)] (by kernel_rfl) ⟨w2x hP _ g n,trivial⟩ ?_;rw[nf_ixV]
 repeat rw[whb]
 unfold ixB;refine⟨⟨rfl,wam _⟩,hn,hrg,⟨P,v,rfl,hnd⟩,wak (λh=>?_) (λh=>?_)⟩
 ·rw[decide_eq_true h];exact⟨λ_ _=>rfl,_,wam _,rfl,rfl⟩
 ·rw[decide_eq_false h];exact⟨λ_ _=>rfl,_,wam _,rfl,rfl⟩
theorem w38(hP:C.P=Tryz.prog)(es:List (AV×AV))(g:Nat->FL)(n i0:Nat):waj C 3 42 (wal Tryz.f100 5) (wpc es g n i0):=by
 rintro st Q ⟨h0,⟨hi0,hn⟩,hrg,hE,hall,hdel,hQ⟩;obtain⟨P,v,rfl,hnd⟩:=hE
 refine waj.mk (prg hP) [(101,.det wfx)] 0 (.cons (wrn hP) .nil) [0,1,5,6] [0,5] [] (wnk (entI P v) n) (λi=>i.k<=n/\i.w<i.k/\lst i.h i.w=kfL (qV (entI P v)) g i.k/\∀j,i.w<=j->i.h j=g j) (λi=>n - i.k) ⟨i0+1,i0,g⟩
  ⟨hi0,Nat.lt_succ_self _,?_,λ_ _=>rfl⟩ h0 (λi hi=>?_) (λi=>⟨λ_ _=>rfl,trivial⟩)
 ·show lst g i0=kfL (qV (entI P v)) g (i0+1);rw[wgb,hdel,win hall];simp
 obtain⟨k,w,h⟩:=i;obtain⟨i1,i2,i3,i4⟩:=hi;dsimp only at i1 i2 i3 i4;rw[w1h];dsimp only
 rw[tN7,tN7,wcg]
 repeat rw[whb]
 refine wak (λh1=>?_) (λh1=>?_)
 ·have hk:k<n:=by omega
  have r1:h k=g k:=i4 _ (by omega);refine⟨⟨by omega,by omega⟩,⟨by omega,rfl⟩,⟨⟨wcl _,by rw[r1];exact hrg k hk⟩,rfl,⟨P,v,rfl,hnd⟩⟩,wcb (λq=>?_) (λq=>?_)⟩
  ·have q:qV (entI P v) (h k)=false:=q;rw[r1] at q;refine⟨⟨by omega,by omega⟩,⟨rfl,by omega,rfl⟩,by simp only[inR];omega,by simp only[inR];omega,⟨k+1,w+1,λj=>if j=w then h k else h j⟩,⟨rfl,⟨rfl,rfl,rfl,rfl,rfl,λj hj=>?_⟩,rfl,rfl,trivial⟩,⟨hk,?_,?_,λj hj=>?_⟩,?_⟩
   ·unfold wac
    by_cases e:j=w
    ·simp only[e,if_true]
    ·simp only[e,if_false]
   ·show w+1<k+1;omega
   ·show lst (λj=>if j=w then h k else h j) (w+1)=kfL (qV (entI P v)) g (k+1)
    have e:lst (λj=>if j=w then h k else h j) w=lst h w:=List.map_congr_left λj hj=>by
     have:=List.mem_range.1 hj;rw[if_neg (by omega)]
    rw[wii,wgb,q,e,i3,if_pos rfl,r1];rfl
   ·have hj:w+1<=j:=hj;show (if j=w then h k else h j)=g j
    rw[if_neg (by omega)];exact i4 j (by omega)
   ·show n - (k+1)<n - k;omega
  ·have q:qV (entI P v) (h k)=true:=q;rw[r1] at q;refine⟨by simp only[inR];omega,⟨k+1,w,h⟩,⟨rfl,wam _⟩,⟨hk,?_,?_,i4⟩,?_⟩
   ·show w<k+1;omega
   ·show lst h w=kfL (qV (entI P v)) g (k+1);rw[wgb,q,i3];simp
   ·show n - (k+1)<n - k;omega
 ·have:k=n:=by omega
  subst this;exact⟨λ_ _=>rfl,_,wam _,hQ w h (by omega) i3⟩
theorem delV_ok(hP:C.P=Tryz.prog):wa6 C 100 woa:=by
 rintro args objs R h;unfold woa at h;split at h
 ·rename_i n t m f fr es t2;obtain⟨rfl,rfl,rfl,rfl,hn,hf,hrg,hE,hR⟩:=h;generalize flOf f=g at *;subst hf;obtain⟨P,v,rfl,hnd⟩:=hE;refine wa6.wpL (prg hP) [(144,.det wm2)] [(5,wpc (entI P v) g n (fstB (λi=>qV (entI P v) (g i)) n))] 0 (.cons (ixV_ok hP) .nil) (hP ▸ Tryz.func100) rfl rfl rfl [(wal Tryz.f100 5,wpc (entI P v) g n (fstB (λi=>qV (entI P v) (g i)) n))] (by kernel_rfl) ⟨w38 hP _ g n _,trivial⟩ ?_;rw[nf_dfV]
  repeat rw[whb]
  rw[wea];obtain⟨f1,f2⟩:=wky (λi=>qV (entI P v) (g i)) n;have fle:=wiw (λi=>qV (entI P v) (g i)) n
  by_cases hlt:fstB (λi=>qV (entI P v) (g i)) n<n
  ·have hix:ixB (λi=>qV (entI P v) (g i)) n=(fstB (λi=>qV (entI P v) (g i)) n:Int):=by unfold ixB;rw[decide_eq_true hlt];rfl
   rw[hix];have f2:=f2 hlt;generalize fstB (λi=>qV (entI P v) (g i)) n=i0 at *;refine⟨λ_ _=>rfl,⟨rfl,rfl,rfl,rfl,hn,rfl,hrg,⟨P,v,rfl,hnd⟩⟩,λ_ _=>rfl,wak (λq=>absurd q (by omega)) (λ_=>⟨by simp only[inR];omega,⟨rfl,wam _⟩,⟨hlt,hn⟩,hrg,⟨P,v,rfl,hnd⟩,f1,f2,λw h hw hl=>?_⟩)⟩;rw[tN7];exact⟨⟨by omega,by omega⟩,hw,⟨by omega,by omega⟩,λ_ _=>rfl,_,wam _,hR w h hw hl⟩
  ·have hix:ixB (λi=>qV (entI P v) (g i)) n= -1:=by unfold ixB;rw[decide_eq_false hlt];rfl
   rw[hix];have e0:fstB (λi=>qV (entI P v) (g i)) n=n:=by omega
   rw[e0] at f1;exact⟨λ_ _=>rfl,⟨rfl,rfl,rfl,rfl,hn,rfl,hrg,⟨P,v,rfl,hnd⟩⟩,λ_ _=>rfl,wak (λ_=>⟨λ_ _=>rfl,_,wam _,hR n g (lR7 _) (win f1).symm⟩) (λq=>absurd rfl q)⟩
 ·exact h.elim
theorem nf_spl(g:Nat->FL)(n:Nat)(d:Int)(R:oR7):letI z1:=nrmL okV (flOf (wac g)) n;letI z3:=(∀(i:Nat),i<z1.length->true=true:Prop);letI z0:=knwL okV g n d;letI z2:=z0.length;wpFn te [(39,.det wmp),(100,.rel wob)] [(4,L_s4 z0),(9,L_s9 z0)] 0 Tryz.f99 [.view 7 n (wac g),.q d] [] R=((n<=1000/\wac g=wac (flOf (wac g))/\∀(i:Nat),i<n->FL.Gd (flOf (wac g) i))/\z3/\z3/\49=49/\3=3/\false=false/\z1.length=z1.length/\z1.length<=1000/\wac (atF z1)=wac (flOf (wac (atF z1)))/\(∀(i:Nat),i<z1.length->FL.Rg (flOf (wac (atF z1)) i))/\True/\∀(k:Nat) (h:Nat->FL),k<=z1.length->lst h k=kfL (qD d) (flOf (wac (atF z1))) z1.length->(∀(i:Nat),i<k->true=true)/\(TEq [(4,.nil),(5,.nil),(6,.own 0 k),(7,.map 1),(17,.own 0 k),(18,.q (k:Int)),(19,.q 0)] [(4,.nil),(5,.nil),(6,.own 0 z2),(7,.map 1),(17,.own 0 z2),(18,.q (z2:Int)),(19,.q (↑0:Int))]/\waf [(0,.row 49 7 k (wac h) false),(1,.amap (List.map (λ(p:AV×AV)=>(AV.rn (ren 0 [(1,0),(33,1)]) p.1,AV.rn (ren 0 [(1,0),(33,1)]) p.2)) []))] [(0,.row 49 7 z2 (wac (atF z0)) false),(1,.amap (entM (cntL (edG z0) 0)))])/\z0.length<=1000/\(TEq [(4,.own 0 0),(5,.own 1 0),(7,.map 2),(34,.own 3 z2),(35,.q (z2:Int)),(36,.q 0)] [(4,.own 0 0),(5,.own 1 0),(7,.map 2),(34,.own 3 z2),(35,.q (z2:Int)),(36,.q (↑0:Int))]/\waf [(0,.row 49 7 0 (λ(_x:Nat)=>[]) false),(1,.row 49 7 0 (λ(_x:Nat)=>[]) false),(2,.amap (List.map (λ(p:AV×AV)=>(AV.rn (ren 0 [(3,0),(2,1),(1,2),(0,3)]) p.1,AV.rn (ren 0 [(3,0),(2,1),(1,2),(0,3)]) p.2)) (entM (cntL (edG z0) z2)))),(3,.row 49 7 z2 (wac (atF z0)) false)] [(0,.row 49 7 0 (wac (atF (selG z0 0))) false),(1,.row 49 7 0 (wac (atF (selB z0 0))) false),(2,.amap (entM (cntL (edG z0) z2))),(3,.row 49 7 z2 (wac (atF z0)) false)])/\z0.length<=1000/\(∀(i:Nat),i<(wbo z0).length->true=true)/\(∀(i:Nat),i<(badL z0).length->true=true)/\∃(O':oL7),waf [(0,.row 49 7 (wbo z0).length (wac (atF (wbo z0))) false),(1,.row 49 7 (badL z0).length (wac (atF (badL z0))) false)] O'/\R (.tuple [.own 0 (wbo z0).length,.own 1 (badL z0).length]) O'):=by kernel_rfl
theorem wz0(L:List FL)(k:Nat)(P:Nat->Prop)(R:eR7):letI z5:=wac (atF L);letI z4:=ren 0 [(0,0),(1,1)];letI z3:=cntL (edG L) k;letI z1:=L.length;letI z2:=([(4,.nil),(5,.nil),(6,.own 0 z1),(7,.map 1),(9,.ptr 2 0),(17,.own 0 z1),(18,.q (z1:Int)),(19,.q (k:Int))]:tL7);letI z0:=(atF L (k:Int).toNat);wa0 ⟨te,[],[(1006,L_s6 z3 (atF L k) L k)],0,59,0⟩ (wa1 Tryz.f99 4) [4,5,6,7,17,18,19] [4,5,6,7] [] (S_s4 L) P R (S_s4 L k)=(wab (decide ((k:Int)<(z1:Int))) (((0:Int)<=(k:Int)/\(k:Int)<(z1:Int))/\((k:Int).toNat<L.length/\7=7)/\(TEq z2 z2/\waf [(0,.row 49 7 z1 z5 false),(1,.amap (List.map (λ(p:AV×AV)=>(AV.rn (ren 0 [(0,0),(1,1),(2,2)]) p.1,AV.rn (ren 0 [(0,0),(1,1),(2,2)]) p.2)) (entM z3))),(2,.cells [.str z0.id,.q z0.ver,.q z0.day,.q z0.kind,.view 15 z0.ms.length (wae (atM z0.ms)),.view 5 z0.rs.length (wah (atR z0.rs)),.view 5 z0.ts.length (wag (atT z0.ts))] 49)] [(0,.row 49 7 z1 z5 false),(1,.amap (entM z3)),(2,.cells [.str (atF L k).id,.q (atF L k).ver,.q (atF L k).day,.q (atF L k).kind,.view 15 (atF L k).ms.length (wae (atM (atF L k).ms)),.view 5 (atF L k).rs.length (wah (atR (atF L k).rs)),.view 5 (atF L k).ts.length (wag (atT (atF L k).ts))] 49)])/\List.Nodup (List.map Prod.fst z3)/\inR .i64 (getC z3 (mk2 (edM (atF L k)))+1)/\inR .i64 ((k:Int)+1)/\∃(i':Nat),(TEq [(4,.nil),(5,.nil),(6,.own 0 z1),(7,.map 1),(17,.own 0 z1),(18,.q (z1:Int)),(19,.q ((k:Int)+1))] [(4,.nil),(5,.nil),(6,.own 0 z1),(7,.map 1),(17,.own 0 z1),(18,.q (z1:Int)),(19,.q (i':Int))]/\waf [(0,.row 49 7 z1 z5 false),(1,.amap (List.map (λ(p:AV×AV)=>(AV.rn z4 p.1,AV.rn z4 p.2)) (entM (addC z3 (mk2 (edM (atF L k)))))))] [(0,.row 49 7 z1 z5 false),(1,.amap (entM (cntL (edG L) i')))])/\P i') ((∀(i:Nat),i<L.length->true=true)/\∃(O':oL7),waf [(0,.row 49 7 z1 z5 false),(1,.amap (List.map (λ(p:AV×AV)=>(AV.rn z4 p.1,AV.rn z4 p.2)) (entM z3)))] O'/\R (.exit 0) (St.mk [(4,.nil),(5,.nil),(6,.own 0 z1),(7,.map 1)] O' 2 []))):=by kernel_rfl
theorem nf_s6a(u4 u5 u6 u17 u18 u19 c2 c3 c4 c5 c6:AV)(id:List UInt8)(ver:Int)(es:List (AV×AV))(r:AObj):letI z7:=([(4,u4),(5,u5),(6,u6),(7,.map 1),(9,.ptr 2 0),(17,u17),(18,u18),(19,u19)]:tL7);letI z2:=([(0,r),(1,.amap es),(2,.cells [.str id,.q ver,c2,c3,c4,c5,c6] 49)]:oL7);letI z3:=St.mk z7 z2 3 [];letI z1:=([(4,u4),(5,u5),(6,u6),(7,.map 1),(9,.ptr 2 0),(17,u17),(18,u18),(19,u19),(23,.map 1),(28,.agg [.str id,.q ver])]:tL7);letI z6:=St.mk z1 z2 3 [];letI z0:=(z1=z1/\z2=z2/\St.nx z3=St.nx z6:Prop);letI z5:=z0/\z1=z1/\z2=z2/\St.nx z3=St.nx z6;letI z4:=z0/\z0/\z1=z1/\z2=z2/\St.nx z3=St.nx z6;rgA ⟨te,[],[],0,59,0⟩ (regC Tryz.f99 6) [0,1,2,3,4,5] [4,5,6,7,9,17,18,19,23,28] ⟨z1,z2,3,[]⟩ ⟨z7,z2,3,[]⟩=((z4/\z5/\z1=z1/\z2=z2/\St.nx z3=St.nx z6)/\(z4/\(z0/\z0/\z0/\z1=z1/\z2=z2/\St.nx z3=St.nx z6)/\z5/\z4/\z0/\z0/\z1=z1/\z2=z2/\St.nx z3=St.nx z6)/\(z5/\z1=z1/\z2=z2/\St.nx z3=St.nx z6)/\(z5/\z4/\z0/\z0/\z1=z1/\z2=z2/\St.nx z3=St.nx z6)/\z0/\z0/\z0/\z1=z1/\z2=z2/\St.nx z3=St.nx z6):=by kernel_rfl
theorem nf_s6(E:List ((List UInt8×Int)×Int))(F:FL)(L:List FL)(k:Nat)(Q:eR7):rgB ⟨te,[],[],0,59,0⟩ (regC Tryz.f99 6) [0,1,2,3,4,5] [4,5,6,7,9,17,18,19] Q (S_s6b E F L k)=(letI z18:=L.length;letI z16:=Env.te (Env.mk te [] [] 0 59 0);letI z15:=zvA (.q 0);letI z14:=ren 0 [(0,0),(1,1),(2,2)];letI z9:=(∀(i:Nat),i<L.length->true=true:Prop);letI z7:=([.str F.id,.q F.ver,.q F.day,.q F.kind,.view 15 F.ms.length (wae (atM F.ms)),.view 5 F.rs.length (wah (atR F.rs)),.view 5 F.ts.length (wag (atT F.ts))]:List AV);letI z3:=([(4,.nil),(5,.nil),(6,.own 0 z18),(7,.map 1),(9,.ptr 2 0),(17,.own 0 z18),(18,.q (z18:Int)),(19,.q (k:Int))]:tL7);letI z0:=([.str F.id,.q F.ver]:List AV);letI z13:=mget (entM E) (.agg z0);letI z11:=(↑(midx (entM E) (.agg z0)):Int);letI z10:=(war (Option.getD z13 z15)+1);letI z6:=wc3 z16 173 (entM E)/\.q (war (Option.getD z13 (.q 0)))=Option.getD z13 (.q 0);letI z5:=ment (.q 0) (entM E) (.agg z0);letI z19:=List.getD z5 z11.toNat (.any,.any);letI z8:=Option.getD (mget z5 (.agg z0)) z15;letI z17:=(war z8+1);letI z12:=wc3 z16 173 z5/\.q (war z8)=Option.getD (mget z5 (.agg z0)) z15;letI z4:=((0:Int)<=z11/\z11<(z5.length:Int):Prop);letI z2:=([(0,.row 49 7 z18 (wac (atF L)) false),(1,.amap (List.map (λ(p:AV×AV)=>(AV.rn z14 p.1,AV.rn z14 p.2)) (List.set z5 z11.toNat (z19.1,.q z10)))),(2,.cells z7 49)]:oL7);letI z1:=([(0,.row 49 7 z18 (wac (atF L)) false),(1,.amap (List.map (λ(p:AV×AV)=>(AV.rn z14 p.1,AV.rn z14 p.2)) (List.set z5 z11.toNat (z19.1,.q z17)))),(2,.cells z7 49)]:oL7);((wc3 z16 173 (entM E)/\.q (war (Option.getD z13 z15))=Option.getD z13 z15)/\(inR .i64 z10/\z6/\z4/\z9/\∃(O':oL7),waf z2 O'/\Q .normal (St.mk z3 O' 3 []))/\z6/\(inR .i64 z10/\z4/\z9/\∃(O':oL7),waf z2 O'/\Q .normal (St.mk z3 O' 3 []))/\inR .i64 z10/\z4/\z9/\∃(O':oL7),waf z2 O'/\Q .normal (St.mk z3 O' 3 []))/\z6/\(z12/\(inR .i64 z17/\z4/\z9/\∃(O':oL7),waf z1 O'/\Q .normal (St.mk z3 O' 3 []))/\inR .i64 z17/\z4/\z9/\∃(O':oL7),waf z1 O'/\Q .normal (St.mk z3 O' 3 []))/\z12/\inR .i64 z17/\z4/\z9/\∃(O':oL7),waf z1 O'/\Q .normal (St.mk z3 O' 3 [])):=by kernel_rfl
theorem wzz(L:List FL)(k:Nat)(P:Nat->Prop)(R:eR7):wa0 ⟨te,[],[],0,59,0⟩ (wa1 Tryz.f99 9) [4,5,7,34,35,36] [4,5] [] (S_s9 L) P R (S_s9 L k)=(letI z13:=ren 0 [(23,0),(1,1),(2,2),(3,3)];letI z12:=ren 0 [(0,0),(23,1),(2,2),(3,3)];letI z11:=wac (atF (selB L k));letI z10:=wac (atF (selG L k));letI z9:=(selG L k).length+1;letI z8:=(selB L k).length+1;letI z7:=(7<=16777216/\7=7/\1<=9223372036854775807:Prop);letI z6:=(selB L k).length;letI z5:=(selG L k).length;letI z2:=L.length;letI z4:=entM (cntL (edG L) z2);letI z0:=(atF L (k:Int).toNat);letI z3:=mget z4 (.agg [.str z0.id,.q z0.ver]);letI z1:=wap (TI.sz wbr) (.str z0.id:: .q z0.ver:: .q z0.day:: .q z0.kind:: .view 15 z0.ms.length (wae (atM z0.ms)):: .view 5 z0.rs.length (wah (atR z0.rs)):: .view 5 z0.ts.length (wag (atT z0.ts))::List.append [] wdi);wab (decide ((k:Int)<(z2:Int))) (((0:Int)<=(k:Int)/\(k:Int)<(z2:Int))/\((k:Int).toNat<L.length/\7=7)/\(wc3 (Env.te (Env.mk te [] [] 0 59 0)) 173 z4/\.q (war (Option.getD z3 (zvA (.q 0))))=Option.getD z3 (zvA (.q 0)))/\wab (decide ((1:Int)<war (Option.getD z3 (zvA (.q 0))))) (z7/\((1<=1/\7=7)/\(selB L k).length<=(selB L k).length/\7=7/\49=49/\7=7/\(selB L k).length+1<=9223372036854775807/\z8 * TI.bytes wbr<=140737488355328)/\inR .i64 ((k:Int)+1)/\∃(i':Nat),(TEq [(4,.own 0 z5),(5,.own 1 z8),(7,.map 2),(34,.own 3 z2),(35,.q (z2:Int)),(36,.q ((k:Int)+1))] [(4,.own 0 (selG L i').length),(5,.own 1 (selB L i').length),(7,.map 2),(34,.own 3 z2),(35,.q (z2:Int)),(36,.q (i':Int))]/\waf [(0,.row 49 7 z5 z10 false),(1,.row 49 7 z8 (apF z6 z11 z1) false),(2,.amap (List.map (λ(p:AV×AV)=>(AV.rn z12 p.1,AV.rn z12 p.2)) z4)),(3,.row 49 7 z2 (wac (atF L)) false)] [(0,.row 49 7 (selG L i').length (wac (atF (selG L i'))) false),(1,.row 49 7 (selB L i').length (wac (atF (selB L i'))) false),(2,.amap z4),(3,.row 49 7 z2 (wac (atF L)) false)])/\P i') (z7/\((1<=1/\7=7)/\(selG L k).length<=(selG L k).length/\7=7/\49=49/\7=7/\(selG L k).length+1<=9223372036854775807/\z9 * TI.bytes wbr<=140737488355328)/\inR .i64 ((k:Int)+1)/\∃(i':Nat),(TEq [(4,.own 0 z9),(5,.own 1 z6),(7,.map 2),(34,.own 3 z2),(35,.q (z2:Int)),(36,.q ((k:Int)+1))] [(4,.own 0 (selG L i').length),(5,.own 1 (selB L i').length),(7,.map 2),(34,.own 3 z2),(35,.q (z2:Int)),(36,.q (i':Int))]/\waf [(0,.row 49 7 z9 (apF z5 z10 z1) false),(1,.row 49 7 z6 z11 false),(2,.amap (List.map (λ(p:AV×AV)=>(AV.rn z13 p.1,AV.rn z13 p.2)) z4)),(3,.row 49 7 z2 (wac (atF L)) false)] [(0,.row 49 7 (selG L i').length (wac (atF (selG L i'))) false),(1,.row 49 7 (selB L i').length (wac (atF (selB L i'))) false),(2,.amap z4),(3,.row 49 7 z2 (wac (atF L)) false)])/\P i')) ((∀(i:Nat),i<(selG L k).length->true=true)/\(∀(i:Nat),i<(selB L k).length->true=true)/\∃(O':oL7),waf [(0,.row 49 7 z5 z10 false),(1,.row 49 7 z6 z11 false)] O'/\R (.exit 2) (St.mk [(4,.own 0 z5),(5,.own 1 z6)] O' 2 []))):=by kernel_rfl
theorem wrd{L:List ((List UInt8×Int)×Int)}(h:(L.map Prod.fst).Nodup):wc3 te 173 (entM L):=by
 refine⟨List.all_eq_true.2 λp hp=>?_,(w3y h).2⟩;obtain⟨r,_,rfl⟩:=List.mem_map.1 hp;have:∀(a:List UInt8) (b:Int),keyA te 173 (.agg [.str a,.q b])=true:=λa b=>by kernel_rfl
 exact this _ _
theorem w2u{ES:List (AV×AV)}{i:Nat}{v:AV}(hi:i<ES.length)(h:wc3 te 173 (ES.set i ((ES.getD i (.any,.any)).1,v))):wc3 te 173 ES:=by
 have e:(ES.set i ((ES.getD i (.any,.any)).1,v)).map Prod.fst=ES.map Prod.fst:=by
  apply List.ext_getElem
  ·simp
  ·intro j h1 h2;simp only[List.getElem_map,List.getElem_set];split
   ·rename_i e;subst e;simp[hi]
   ·rfl
 obtain⟨h1,h2⟩:=h;rw[e] at h2;refine⟨?_,h2⟩;have f:∀l:List (AV×AV),(l.all λp=>keyA te 173 p.1)=(l.map Prod.fst).all λk=>keyA te 173 k:=λl=>by rw[List.all_map];rfl
 rw[f] at h1 ⊢;rw[e] at h1;exact h1
theorem s6_ok(hP:C.P=Tryz.prog)(E:List ((List UInt8×Int)×Int))(F:FL)(L:List FL)(k:Nat):waj C 0 59 (regC Tryz.f99 6) (L_s6 E F L k):=by
 have _:C.Loose:=inferInstance;rintro st Q ⟨h0,hnd,hin,hQ⟩;refine waj.cut (SA:=S_s6b E F L k) (prg hP) [] 0 .nil [4,5,6,7,9,17,18,19] [4,5,6,7,9,17,18,19] [0,1,2,3,4,5] [4,5,6,7,9,17,18,19,23,28] h0 ?_ ?_ ⟨λ_ _=>rfl,trivial⟩
 ·refine(nf_s6a .nil .nil (.own 0 L.length) (.own 0 L.length) (.q L.length) (.q k) (.q F.day) (.q F.kind) (.view 15 F.ms.length (wae (atM F.ms))) (.view 5 F.rs.length (wah (atR F.rs))) (.view 5 F.ts.length (wag (atT F.ts))) F.id F.ver (entM E) (.row 49 7 L.length (wac (atF L)) false)).mpr ?_
  repeat' first | exact rfl | refine And.intro ?_ ?_
 rw[nf_s6];have zz:zvA (.q 0)= .q 0:=rfl;have F1:Option.getD (mget (entM E) (.agg [.str F.id,.q F.ver])) (.q 0)= .q (getC E (mk2 (edM F))):=wqi (mk2 (edM F)) E;obtain⟨F3,F4,F5⟩:=ment_K (mk2 (edM F)) E;have K1:=wrd hnd;have K2:wc3 te 173 (ment (.q 0) (entM E) (keyK (mk2 (edM F)))):=w2u F4 (F5.symm ▸ wrd (wr2 (mk2 (edM F)) hnd));change Option.getD (mget (ment (.q 0) (entM E) (.agg [.str F.id,.q F.ver])) (.agg [.str F.id,.q F.ver])) (.q 0)= .q (getC E (mk2 (edM F))) at F3;change midx (entM E) (.agg [.str F.id,.q F.ver])<(ment (.q 0) (entM E) (.agg [.str F.id,.q F.ver])).length at F4;change (ment (.q 0) (entM E) (.agg [.str F.id,.q F.ver])).set (midx (entM E) (.agg [.str F.id,.q F.ver])) (((ment (.q 0) (entM E) (.agg [.str F.id,.q F.ver])).getD (midx (entM E) (.agg [.str F.id,.q F.ver])) (.any,.any)).1,.q (getC E (mk2 (edM F))+1))=entM (addC E (mk2 (edM F))) at F5;change wc3 te 173 (ment (.q 0) (entM E) (.agg [.str F.id,.q F.ver])) at K2;have F6:(0:Int)<=(midx (entM E) (.agg [.str F.id,.q F.ver]):Int)/\(midx (entM E) (.agg [.str F.id,.q F.ver]):Int)<((ment (.q 0) (entM E) (.agg [.str F.id,.q F.ver])).length:Int):=by omega
 simp only[zz,F1,F3,war,tN7,F5,wgg];have leaf:∃O',waf (S_s6 (addC E (mk2 (edM F))) F L k).O O'/\Q .normal ⟨(S_s6 (addC E (mk2 (edM F))) F L k).T,O',3,[]⟩:=⟨_,wam _,hQ⟩;have all:∀i,i<L.length->True:=λ_ _=>trivial;have K1:=(and_true (wc3 te 173 (entM E))).symm ▸ K1
 repeat' first | exact leaf | exact trivial | exact K1 | exact K2 | exact⟨K2,trivial⟩ | exact hin | exact F6 | exact all | refine And.intro ?_ ?_
theorem s4_loop(hP:C.P=Tryz.prog)(L:List FL):waj C 0 59 (wal Tryz.f99 4) (L_s4 L):=by
 rintro st Q ⟨h0,hn,hQ⟩;refine waj.mkI (prg hP) [] (λk=>[(1006,L_s6 (cntL (edG L) k) (atF L k) L k)]) 0 .nil (λk=>[(regC Tryz.f99 6,L_s6 (cntL (edG L) k) (atF L k) L k)]) (λk=>by kernel_rfl) (λk=>⟨s6_ok hP _ _ L k,trivial⟩) [4,5,6,7,17,18,19] [4,5,6,7] [] (S_s4 L) (λk=>k<=L.length) (λk=>L.length - k) 0 (zL7 _) h0 (λk hk=>?_) (λk=>⟨λ_ _=>rfl,trivial⟩);rw[wz0,tN7,wgg,wgg];have hb:=wq7 (edG L) (mk2 (edM (atF L k))) k;have hc:=wtv (edG L) (mk2 (edM (atF L k))) k;refine wak (λh1=>⟨⟨by omega,by omega⟩,⟨by omega,rfl⟩,⟨rfl,wam _⟩,wrl (edG L) k,by simp only[inR];omega,by simp only[inR];omega,k+1,⟨rfl,?_⟩,by omega,by omega⟩) (λh1=>?_)
 ·exact wam _
 ·have:k=L.length:=by omega
  subst this
  first | exact⟨λ_ _=>rfl,_,wam _,hQ⟩ | (rw[wgg];exact⟨λ_ _=>rfl,_,wam _,hQ⟩)
theorem snocF(G:List FL)(x:FL)(ch:Nat->List AV)(hch:ch 0=wbb x):∀i,i<G.length+1->apF G.length (wac (atF G)) ch i=wac (atF (G++[x])) i:=λi hi=>by
 unfold apF
 by_cases h:i<G.length
 ·rw[if_pos h];show wbb (atF G i)=wbb (atF (G++[x]) i);congr 1;simp[atF,List.getD_eq_getElem?_getD,List.getElem?_append_left h]
 ·have:i=G.length:=by omega
  subst this;rw[if_neg h,Nat.sub_self,hch];show wbb x=wbb (atF (G++[x]) G.length);congr 1;simp[atF]
theorem s9_loop(hP:C.P=Tryz.prog)(L:List FL):waj C 0 59 (wal Tryz.f99 9) (L_s9 L):=by
 have _:C.Loose:=inferInstance;rintro st Q ⟨h0,hn,hQ⟩;refine AWP.ownNil 5 49 7 (AWP.ownNil 4 49 7 ?_);refine waj.mk (prg hP) [] 0 .nil [4,5,7,34,35,36] [4,5] [] (S_s9 L) (λk=>k<=L.length) (λk=>L.length - k) 0 (zL7 _) h0 (λk hk=>?_) (λ_=>⟨λ_ _=>rfl,λ_ _=>rfl,λ_ _=>rfl,trivial⟩);have zz:zvA (.q 0)= .q 0:=rfl;rw[wzz,tN7];have l1:=wjx (λi=> !cfB L i) L k;have l2:=wjx (cfB L) L k;have hF:Option.getD (mget (entM (cntL (edG L) L.length)) (.agg [.str (atF L k).id,.q (atF L k).ver])) (.q 0)= .q (getC (cntL (edG L) L.length) (mk2 (edM (atF L k)))):=wqi (mk2 (edM (atF L k))) _;rw[zz,hF,wq7,wgg,wgg];have hc:cfB L k=decide (1<numC (edG L) (mk2 (edM (atF L k))) L.length):=rfl;have sG:selG L (k+1)=bif !cfB L k then selG L k++[atF L k] else selG L k:=rfl
 have sB:selB L (k+1)=bif cfB L k then selB L k++[atF L k] else selB L k:=rfl
 refine wak (λh1=>⟨⟨by omega,by omega⟩,⟨by omega,rfl⟩,⟨wrd (wrl _ _),rfl⟩,wak (λh2=>?_) (λh2=>?_)⟩) (λh1=>?_)
 ·have hk':cfB L k=true:=decide_eq_true h2;rw[hk'] at sG sB;have sG:selG L (k+1)=selG L k:=sG;have sB:selB L (k+1)=selB L k++[atF L k]:=sB;have l2:(selB L k).length<=k:=l2;refine⟨⟨by omega,rfl,by omega⟩,⟨⟨lR7 _,rfl⟩,lR7 _,rfl,rfl,rfl,by omega,?_⟩,by simp only[inR];omega,k+1,?_,by omega,by omega⟩
  ·show ((selB L k).length+1) * 112<=_;omega
  ·rw[sG,sB,lA7];exact⟨rfl,rQ7,⟨rfl,rfl,rfl,rfl,rfl,snocF _ _ _ rfl⟩,rfl,rQ7,trivial⟩
 ·have hk':cfB L k=false:=decide_eq_false h2;rw[hk'] at sG sB;have sG:selG L (k+1)=selG L k++[atF L k]:=sG;have sB:selB L (k+1)=selB L k:=sB;have l1:(selG L k).length<=k:=l1;refine⟨⟨by omega,rfl,by omega⟩,⟨⟨lR7 _,rfl⟩,lR7 _,rfl,rfl,rfl,by omega,?_⟩,by simp only[inR];omega,k+1,?_,by omega,by omega⟩
  ·show ((selG L k).length+1) * 112<=_;omega
  ·rw[sG,sB,lA7];exact⟨rfl,⟨rfl,rfl,rfl,rfl,rfl,snocF _ _ _ rfl⟩,rQ7,rfl,rQ7,trivial⟩
 ·have:k=L.length:=by omega
  subst this;exact⟨λ_ _=>rfl,λ_ _=>rfl,_,wam _,hQ⟩
theorem wka{g:Nat->FL}{n:Nat}(hg:∀i,i<n->(g i).Gd):∀x∈nrmL okV g n,x.Gd:=λx hx=>by
 obtain⟨i,b,rfl⟩:=wg2.1 hx;exact hg i b.lt
theorem wj9(g:Nat->FL)(n:Nat):(nrmL okV g n).length<=n:=by
 have:∀k,(nrmK okV g n k).length<=k:=λk=>by
  induction k with
  |zero=>exact lR7 _
  |succ k ih=>
   rw[nrmK]
   cases kept okV g n k with
   |true=>
    have hp:=wi7 (nrmK okV g n k) (g k) (nrmK okV g n k).length;rw[cond_true,insF,lA7,List.length_cons,List.length_take,List.length_drop];omega
   |false=>rw[cond_false];omega
 exact this n
theorem kf_day(L:List FL)(d:Int):kfL (qD d) (atF L) L.length=L.filter λf=>decide (f.day<=d):=by
 unfold kfL;rw[show lst (atF L) L.length=L from wd4 L _];refine List.filter_congr λx _=>?_;unfold qD
 by_cases h:d<x.day
 ·rw[decide_eq_true h,decide_eq_false (by omega)];rfl
 ·rw[decide_eq_false h,decide_eq_true (by omega)];rfl
theorem spl_at(hP:C.P=Tryz.prog)(hL:∀w,C.laid w->LaidW w)(g:Nat->FL)(n:Nat)(d:Int)(hn:n<=1000)(hg:∀i,i<n->(g i).Gd):ADet C 99 [.view 7 n (wac g),.q d] [] (.tuple [.own 0 (wbo (knwL okV g n d)).length,.own 1 (badL (knwL okV g n d)).length])
     [(0,.row 49 7 (wbo (knwL okV g n d)).length (wac (atF (wbo (knwL okV g n d)))) false),(1,.row 49 7 (badL (knwL okV g n d)).length (wac (atF (badL (knwL okV g n d)))) false)]:=by
 refine wa6.wpL (prg hP) [(39,.det wmp),(100,.rel wob)] [(4,L_s4 (knwL okV g n d)),(9,L_s9 (knwL okV g n d))] 0 (.cons (nrmz_ok hP hL) (.cons (delD_ok hP) .nil)) (hP ▸ Tryz.func99) rfl rfl rfl
   [(wal Tryz.f99 4,L_s4 (knwL okV g n d)),(wal Tryz.f99 9,L_s9 (knwL okV g n d))] (by kernel_rfl) ⟨s4_loop hP _,s9_loop hP _,trivial⟩ ?_
 rw[nf_spl,wea,wea,wgg];have hl:=wj9 g n;have hgd:=wka hg;have hk:kfL (qD d) (atF (nrmL okV g n)) (nrmL okV g n).length=knwL okV g n d:=kf_day _ d;generalize nrmL okV g n=N at *;rw[hk];generalize knwL okV g n d=K at *;refine⟨⟨hn,rfl,hg⟩,λ_ _=>rfl,λ_ _=>rfl,rfl,rfl,rfl,rfl,by omega,rfl,λi hi=>(hgd _ (weg hi)).rg,trivial,λk h hkn hlst=>?_⟩;obtain⟨e1,e2⟩:=lst_at hlst wde;subst e1;refine⟨λ_ _=>rfl,⟨rfl,⟨rfl,rfl,rfl,rfl,rfl,λi hi=>?_⟩,rfl,trivial⟩,by omega,⟨rfl,⟨rfl,rfl,rfl,rfl,rfl,λi hi=>absurd hi (nZ7 i)⟩,⟨rfl,rfl,rfl,rfl,rfl,λi hi=>absurd hi (nZ7 i)⟩,rfl,rQ7,trivial⟩,by omega,λ_ _=>rfl,λ_ _=>rfl,_,wam _,rfl,rfl⟩;show wbb (h i)=wbb (K.getD i wde);rw[e2 i hi]
theorem spl_ok(hP:C.P=Tryz.prog)(hL:∀w,C.laid w->LaidW w):wai C 99 wl9:=by
 rintro args objs U Os vc h hvc;unfold wl9 at h;split at h<;>cases h;rename_i n f d;obtain⟨hn,hf,hg⟩:=hvc;generalize flOf f=g at *;subst hf;exact spl_at hP hL g n d hn hg
end Go.Eng
