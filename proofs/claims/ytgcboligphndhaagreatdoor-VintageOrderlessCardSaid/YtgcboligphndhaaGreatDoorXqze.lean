/- DeleteFunc and IndexFunc at files. -/
import Derived.Test.YtgcboligphndhaaGreatDoorXqy
import Derived.Test.YtgcboligphndhaaGreatDoorXqz
namespace Go.Eng
open Go.Proofs Go.RowKit
variable {C:Ctx} [C.Loose]
set_option maxRecDepth 20000
theorem nf_clD(F:FL)(d:Int)(R:oR7):wpFn te [] [] 0 Tryz.f143 [.agg [.str F.id,.q F.ver,.q F.day,.q F.kind,.view 15 F.ms.length (wag (atM F.ms)),.view 5 F.rs.length (wai (atR F.rs)),.view 5 F.ts.length (wah (atT F.ts))],.ptr 0 0] [.cells [.q d] 3] R=(R (.bool (decide (d<F.day))) [(0,.cells [.q d] 3)]):=by kernel_rfl
theorem nf_ixD(d:Int)(g:Nat->FL)(n:Nat)(R:oR7):wpFn te [(143,.det wfh)] [(2,woe d g n)] 0 Tryz.f144 [.own 0 n,.func 143 [.ptr 1 0]] [.row 49 7 n (wac g) false,.cells [.q d] 3] R=(letI z0:=([(0,.row 49 7 n (wac g) false),(1,.cells [.q d] 3)]:oL7);(TEq [(0,.own 0 n),(1,.func 143 [.ptr 1 0]),(7,.q (n:Int)),(8,.q 0)] [(0,.own 0 n),(1,.func 143 [.ptr 1 0]),(7,.q (n:Int)),(8,.q (↑0:Int))]/\wae z0 z0)/\n<=1000/\(∀(i:Nat),i<n->FL.Rg (g i))/\True/\wad (decide (fstB (λ(i:Nat)=>qD d (g i)) n<n)) ((∀(i:Nat),i<n->true=true)/\∃(O':oL7),wae z0 O'/\R (.q (↑(fstB (λ(i:Nat)=>qD d (g i)) n):Int)) O') ((∀(i:Nat),i<n->true=true)/\∃(O':oL7),wae z0 O'/\R (.q (-1:Int)) O')):=by kernel_rfl
theorem wzt(d:Int)(g:Nat->FL)(n k:Nat)(P:Nat->Prop)(R:eR7):wa0 ⟨te,[(143,.det wfh)],[],2,19,0⟩ (wa2 Tryz.f144 2) [0,1,7,8] [] [4] (wmg d g n) P R (wmg d g n k)=(letI z2:=([(0,.row 49 7 n (wac g) false),(1,.cells [.q d] 3)]:oL7);letI z0:=(g (k:Int).toNat);letI z1:=flV z0.id z0.ver z0.day z0.kind z0.ms.length (wag (atM z0.ms)) z0.rs.length (wai (atR z0.rs)) z0.ts.length (wah (atT z0.ts));wad (decide ((k:Int)<(n:Int))) (((0:Int)<=(k:Int)/\(k:Int)<(n:Int))/\((k:Int).toNat<n/\7=7)/\((FlC z0.ms.length (wag (atM z0.ms)) z0.rs.length (wai (atR z0.rs)) z0.ts.length (wah (atT z0.ts))/\FL.Rg z1)/\3=3/\True)/\wad (qD d z1) ((∀(i:Nat),i<n->true=true)/\∃(O':oL7),wae z2 O'/\R .ret (St.mk [(4,.q (k:Int))] O' 2 [])) (inR .i64 ((k:Int)+1)/\∃(i':Nat),(TEq [(0,.own 0 n),(1,.func 143 [.ptr 1 0]),(7,.q (n:Int)),(8,.q ((k:Int)+1))] [(0,.own 0 n),(1,.func 143 [.ptr 1 0]),(7,.q (n:Int)),(8,.q (i':Int))]/\wae z2 z2)/\P i')) ((∀(i:Nat),i<n->true=true)/\∃(O':oL7),wae z2 O'/\R (.exit 0) (St.mk [] O' 2 []))):=by kernel_rfl
theorem nf_dfD(d:Int)(g:Nat->FL)(n:Nat)(R:oR7):wpFn te [(144,.det wmh)] [(5,wop d g n (fstB (λi=>qD d (g i)) n))] 0 Tryz.f100 [.own 0 n,.func 143 [.ptr 1 0]] [.row 49 7 n (wac g) false,.cells [.q d] 3] R=(letI z3:=(ixB (λ(i:Nat)=>qD d (flOf (wac g) i)) n+1);letI z2:=([(0,.row 49 7 n (wac g) false),(1,.cells [.q d] 3)]:oL7);letI z1:=(∀(i:Nat),i<n->true=true:Prop);letI z0:=(FI.mk (fstB (λ(i:Nat)=>qD d (g i)) n+1) (fstB (λ(i:Nat)=>qD d (g i)) n) g);z1/\(49=49/\3=3/\false=false/\n=n/\n<=1000/\wac g=wac (flOf (wac g))/\(∀(i:Nat),i<n->FL.Rg (flOf (wac g) i))/\True)/\z1/\wad (decide (ixB (λ(i:Nat)=>qD d (flOf (wac g) i)) n=(-1:Int))) (z1/\∃(O':oL7),wae z2 O'/\R (.own 0 n) O') (inR .i64 z3/\(TEq [(0,.own 0 n),(1,.func 143 [.ptr 1 0]),(5,.q (ixB (λ(i:Nat)=>qD d (flOf (wac g) i)) n)),(6,.q z3)] [(0,.own 0 n),(1,.func 143 [.ptr 1 0]),(5,.q (↑(FI.w z0):Int)),(6,.q (↑(FI.k z0):Int))]/\wae z2 [(0,.row 49 7 n (wac (FI.h z0)) false),(1,.cells [.q d] 3)])/\(fstB (λ(i:Nat)=>qD d (g i)) n<n/\n<=1000)/\(∀(i:Nat),i<n->FL.Rg (g i))/\True/\(∀(j:Nat),j<fstB (λ(i:Nat)=>qD d (g i)) n->qD d (g j)=false)/\qD d (g (fstB (λ(i:Nat)=>qD d (g i)) n))=true/\∀(w:Nat) (h:Nat->FL),letI z4:=((0:Int)<=(w:Int)/\(w:Int)<=(n:Int):Prop);w<=n->lst h w=kfL (qD d) g n->z4/\(w:Int).toNat<=n/\z4/\(∀(i:Nat),i<(w:Int).toNat->true=true)/\∃(O':oL7),wae [(0,.row 49 7 (w:Int).toNat (wac h) false),(1,.cells [.q d] 3)] O'/\R (.own 0 (w:Int).toNat) O')):=by kernel_rfl
theorem w0a(d:Int)(n:Nat)(i:FI)(P:FI->Prop)(R:eR7):wa0 ⟨te,[(143,.det wfh)],[],2,42,0⟩ (wa2 Tryz.f100 5) [0,1,5,6] [0,5] [] (wm0 d n) P R (wm0 d n i)=(letI z4:=([(0,.row 49 7 n (wac (FI.h i)) false),(1,.cells [.q d] 3)]:oL7);letI z3:=(↑(FI.w i):Int);letI z2:=(↑(FI.k i):Int);letI z11:=(z2+1);letI z0:=(FI.h i z2.toNat);letI z10:=wah (atT z0.ts);letI z9:=z0.ts.length;letI z8:=wai (atR z0.rs);letI z7:=z0.rs.length;letI z6:=wag (atM z0.ms);letI z5:=z0.ms.length;letI z1:=flV z0.id z0.ver z0.day z0.kind z5 z6 z7 z8 z9 z10;wad (decide (z2<(n:Int))) (((0:Int)<=z2/\z2<(n:Int))/\(z2.toNat<n/\7=7)/\((FlC z5 z6 z7 z8 z9 z10/\FL.Rg z1)/\3=3/\True)/\wad (!qD d z1) (((0:Int)<=z3/\z3<(n:Int))/\(List.length [AV.str z0.id,.q z0.ver,.q z0.day,.q z0.kind,.view 15 z5 z6,.view 5 z7 z8,.view 5 z9 z10]=7/\z3.toNat<n/\7=7)/\inR .i64 (z3+1)/\inR .i64 z11/\∃(i':FI),(TEq [(0,.own 0 n),(1,.func 143 [.ptr 1 0]),(5,.q (z3+1)),(6,.q z11)] [(0,.own 0 n),(1,.func 143 [.ptr 1 0]),(5,.q (↑(FI.w i'):Int)),(6,.q (↑(FI.k i'):Int))]/\wae [(0,.row 49 7 n (λ(k:Nat)=>if k=Int.toNat z3 then [.str z0.id,.q z0.ver,.q z0.day,.q z0.kind,.view 15 z5 z6,.view 5 z7 z8,.view 5 z9 z10] else wac (FI.h i) k) false),(1,.cells [.q d] 3)] [(0,.row 49 7 n (wac (FI.h i')) false),(1,.cells [.q d] 3)])/\P i') (inR .i64 z11/\∃(i':FI),(TEq [(0,.own 0 n),(1,.func 143 [.ptr 1 0]),(5,.q z3),(6,.q z11)] [(0,.own 0 n),(1,.func 143 [.ptr 1 0]),(5,.q (↑(FI.w i'):Int)),(6,.q (↑(FI.k i'):Int))]/\wae z4 [(0,.row 49 7 n (wac (FI.h i')) false),(1,.cells [.q d] 3)])/\P i')) ((∀(i:Nat),i<n->true=true)/\∃(O':oL7),wae z4 O'/\R (.exit 0) (St.mk [(0,.own 0 n),(5,.q z3)] O' 2 []))):=by kernel_rfl
theorem nf_clV(F:FL)(es:List (AV×AV))(R:oR7):wpFn te [] [] 0 Tryz.f101 [.agg [.str F.id,.q F.ver,.q F.day,.q F.kind,.view 15 F.ms.length (wag (atM F.ms)),.view 5 F.rs.length (wai (atR F.rs)),.view 5 F.ts.length (wah (atT F.ts))],.ptr 0 0] [.cells [.map 1] 132,.amap es] R=(letI z2:=Option.getD (mget es (.str F.id)) (zvA (.q 0));letI z1:=(ren (List.length [AObj.cells [.map 1] (132:TypeId),.amap es]) []);letI z0:=([(0,.cells [.map 1] 132),(1,.amap (List.map (λ(p:AV×AV)=>(AV.rn z1 p.1,AV.rn z1 p.2)) es))]:oL7);wad (!decide (F.kind=1)) ((wbl (TI.desc (TI.mk TypeDesc.string 1 16 (Value.string (ByteArray.mk #[])) false)) es/\.q (wap z2)=Option.getD (mget es (.str F.id)) (zvA (.q 0)))/\R (.bool (decide (F.ver<wap z2))) z0) (R (.bool false) z0)):=by kernel_rfl
theorem nf_ixV(es:List (AV×AV))(g:Nat->FL)(n:Nat)(R:oR7):wpFn te [(101,.det wfg)] [(2,wod es g n)] 0 Tryz.f144 [.own 0 n,.func 101 [.ptr 1 0]] [.row 49 7 n (wac g) false,.cells [.map 2] 132,.amap es] R=(letI z1:=(ren (List.length [AObj.row (49:TypeId) 7 n (wac g) false,.cells [.map 2] (132:TypeId),.amap es]) []);letI z0:=([(0,.row 49 7 n (wac g) false),(1,.cells [.map 2] 132),(List.length [AObj.cells [.map 2] (132:TypeId),.amap es],.amap (List.map (λ(p:AV×AV)=>(AV.rn z1 p.1,AV.rn z1 p.2)) es))]:oL7);(TEq [(0,.own 0 n),(1,.func 101 [.ptr 1 0]),(7,.q (n:Int)),(8,.q 0)] [(0,.own 0 n),(1,.func 101 [.ptr 1 0]),(7,.q (n:Int)),(8,.q (↑0:Int))]/\wae [(0,.row 49 7 n (wac g) false),(1,.cells [.map 2] 132),(2,.amap (List.map (λ(p:AV×AV)=>(AV.rn (ren 3 []) p.1,AV.rn (ren 3 []) p.2)) es))] [(0,.row 49 7 n (wac g) false),(1,.cells [.map 2] 132),(2,.amap es)])/\n<=1000/\(∀(i:Nat),i<n->FL.Rg (g i))/\EsV es/\wad (decide (fstB (λ(i:Nat)=>qV es (g i)) n<n)) ((∀(i:Nat),i<n->true=true)/\∃(O':oL7),wae z0 O'/\R (.q (↑(fstB (λ(i:Nat)=>qV es (g i)) n):Int)) O') ((∀(i:Nat),i<n->true=true)/\∃(O':oL7),wae z0 O'/\R (.q (-1:Int)) O')):=by kernel_rfl
theorem wzs(es:List (AV×AV))(g:Nat->FL)(n k:Nat)(P:Nat->Prop)(R:eR7):wa0 ⟨te,[(101,.det wfg)],[],3,19,0⟩ (wa2 Tryz.f144 2) [0,1,7,8] [] [4] (wme es g n) P R (wme es g n k)=(letI z2:=(List.map (λ(p:AV×AV)=>(AV.rn (idxN [1,2]) p.1,AV.rn (idxN [1,2]) p.2)) es);letI z1:=([(0,.row 49 7 n (wac g) false),(1,.cells [.map 2] 132),(2,.amap (List.map (λ(p:AV×AV)=>(AV.rn (ren 3 []) p.1,AV.rn (ren 3 []) p.2)) (List.map (λ(p:AV×AV)=>(AV.rn (sig [1,2] 3) p.1,AV.rn (sig [1,2] 3) p.2)) z2)))]:oL7);letI z0:=(g (k:Int).toNat);letI z3:=flV z0.id z0.ver z0.day z0.kind z0.ms.length (wag (atM z0.ms)) z0.rs.length (wai (atR z0.rs)) z0.ts.length (wah (atT z0.ts));wad (decide ((k:Int)<(n:Int))) (((0:Int)<=(k:Int)/\(k:Int)<(n:Int))/\((k:Int).toNat<n/\7=7)/\((FlC z0.ms.length (wag (atM z0.ms)) z0.rs.length (wai (atR z0.rs)) z0.ts.length (wah (atT z0.ts))/\FL.Rg z3)/\132=132/\EsV z2)/\wad (qV z2 z3) ((∀(i:Nat),i<n->true=true)/\∃(O':oL7),wae z1 O'/\R .ret (St.mk [(4,.q (k:Int))] O' 3 [])) (inR .i64 ((k:Int)+1)/\∃(i':Nat),(TEq [(0,.own 0 n),(1,.func 101 [.ptr 1 0]),(7,.q (n:Int)),(8,.q ((k:Int)+1))] [(0,.own 0 n),(1,.func 101 [.ptr 1 0]),(7,.q (n:Int)),(8,.q (i':Int))]/\wae z1 [(0,.row 49 7 n (wac g) false),(1,.cells [.map 2] 132),(2,.amap es)])/\P i')) ((∀(i:Nat),i<n->true=true)/\∃(O':oL7),wae [(0,.row 49 7 n (wac g) false),(1,.cells [.map 2] 132),(2,.amap (List.map (λ(p:AV×AV)=>(AV.rn (ren 3 []) p.1,AV.rn (ren 3 []) p.2)) es))] O'/\R (.exit 0) (St.mk [] O' 3 []))):=by kernel_rfl
theorem nf_dfV(es:List (AV×AV))(g:Nat->FL)(n:Nat)(R:oR7):wpFn te [(144,.det wmf)] [(5,woo es g n (fstB (λi=>qV es (g i)) n))] 0 Tryz.f100 [.own 0 n,.func 101 [.ptr 1 0]] [.row 49 7 n (wac g) false,.cells [.map 2] 132,.amap es] R=(letI z4:=(∀(i:Nat),i<n->true=true:Prop);letI z2:=(FI.mk (fstB (λ(i:Nat)=>qV es (g i)) n+1) (fstB (λ(i:Nat)=>qV es (g i)) n) g);letI z1:=(ren (List.length [AObj.row (49:TypeId) 7 n (wac g) false,.cells [.map 2] (132:TypeId),.amap es]) []);letI z0:=(List.map (λ(p:AV×AV)=>(AV.rn (idxN [0,1,2]) p.1,AV.rn (idxN [0,1,2]) p.2)) es);letI z5:=(ixB (λ(i:Nat)=>qV z0 (flOf (wac g) i)) n+1);letI z3:=(List.map (λ(p:AV×AV)=>(AV.rn (sig [0,1,2] 3) p.1,AV.rn (sig [0,1,2] 3) p.2)) z0);z4/\(49=49/\132=132/\false=false/\n=n/\n<=1000/\wac g=wac (flOf (wac g))/\(∀(i:Nat),i<n->FL.Rg (flOf (wac g) i))/\EsV z0)/\z4/\wad (decide (ixB (λ(i:Nat)=>qV z0 (flOf (wac g) i)) n=(-1:Int))) (z4/\∃(O':oL7),wae [(0,.row 49 7 n (wac g) false),(1,.cells [.map 2] 132),(List.length [AObj.cells [.map 2] (132:TypeId),.amap es],.amap (List.map (λ(p:AV×AV)=>(AV.rn z1 p.1,AV.rn z1 p.2)) z3))] O'/\R (.own 0 n) O') (inR .i64 z5/\(TEq [(0,.own 0 n),(1,.func 101 [.ptr 1 0]),(5,.q (ixB (λ(i:Nat)=>qV z0 (flOf (wac g) i)) n)),(6,.q z5)] [(0,.own 0 n),(1,.func 101 [.ptr 1 0]),(5,.q (↑(FI.w z2):Int)),(6,.q (↑(FI.k z2):Int))]/\wae [(0,.row 49 7 n (wac g) false),(1,.cells [.map 2] 132),(2,.amap (List.map (λ(p:AV×AV)=>(AV.rn (ren 3 []) p.1,AV.rn (ren 3 []) p.2)) z3))] [(0,.row 49 7 n (wac (FI.h z2)) false),(1,.cells [.map 2] 132),(2,.amap es)])/\(fstB (λ(i:Nat)=>qV es (g i)) n<n/\n<=1000)/\(∀(i:Nat),i<n->FL.Rg (g i))/\EsV es/\(∀(j:Nat),j<fstB (λ(i:Nat)=>qV es (g i)) n->qV es (g j)=false)/\qV es (g (fstB (λ(i:Nat)=>qV es (g i)) n))=true/\∀(w:Nat) (h:Nat->FL),letI z6:=((0:Int)<=(w:Int)/\(w:Int)<=(n:Int):Prop);w<=n->lst h w=kfL (qV es) g n->z6/\(w:Int).toNat<=n/\z6/\(∀(i:Nat),i<(w:Int).toNat->true=true)/\∃(O':oL7),wae [(0,.row 49 7 (w:Int).toNat (wac h) false),(1,.cells [.map 2] 132),(List.length [AObj.cells [.map 2] (132:TypeId),.amap es],.amap (List.map (λ(p:AV×AV)=>(AV.rn z1 p.1,AV.rn z1 p.2)) es))] O'/\R (.own 0 (w:Int).toNat) O')):=by kernel_rfl
theorem wz9(es:List (AV×AV))(n:Nat)(i:FI)(P:FI->Prop)(R:eR7):wa0 ⟨te,[(101,.det wfg)],[],3,42,0⟩ (wa2 Tryz.f100 5) [0,1,5,6] [0,5] [] (wmz es n) P R (wmz es n i)=(letI z5:=(↑(FI.w i):Int);letI z4:=(↑(FI.k i):Int);letI z12:=(z4+1);letI z1:=(List.map (λ(p:AV×AV)=>(AV.rn (idxN [1,2]) p.1,AV.rn (idxN [1,2]) p.2)) es);letI z2:=(List.map (λ(p:AV×AV)=>(AV.rn (ren 3 []) p.1,AV.rn (ren 3 []) p.2)) (List.map (λ(p:AV×AV)=>(AV.rn (sig [1,2] 5) p.1,AV.rn (sig [1,2] 5) p.2)) z1));letI z0:=(FI.h i z4.toNat);letI z11:=wah (atT z0.ts);letI z10:=z0.ts.length;letI z9:=wai (atR z0.rs);letI z8:=z0.rs.length;letI z7:=wag (atM z0.ms);letI z6:=z0.ms.length;letI z3:=flV z0.id z0.ver z0.day z0.kind z6 z7 z8 z9 z10 z11;wad (decide (z4<(n:Int))) (((0:Int)<=z4/\z4<(n:Int))/\(z4.toNat<n/\7=7)/\((FlC z6 z7 z8 z9 z10 z11/\FL.Rg z3)/\132=132/\EsV z1)/\wad (!qV z1 z3) (((0:Int)<=z5/\z5<(n:Int))/\(List.length [AV.str z0.id,.q z0.ver,.q z0.day,.q z0.kind,.view 15 z6 z7,.view 5 z8 z9,.view 5 z10 z11]=7/\z5.toNat<n/\7=7)/\inR .i64 (z5+1)/\inR .i64 z12/\∃(i':FI),(TEq [(0,.own 0 n),(1,.func 101 [.ptr 1 0]),(5,.q (z5+1)),(6,.q z12)] [(0,.own 0 n),(1,.func 101 [.ptr 1 0]),(5,.q (↑(FI.w i'):Int)),(6,.q (↑(FI.k i'):Int))]/\wae [(0,.row 49 7 n (λ(k:Nat)=>if k=Int.toNat z5 then [.str z0.id,.q z0.ver,.q z0.day,.q z0.kind,.view 15 z6 z7,.view 5 z8 z9,.view 5 z10 z11] else wac (FI.h i) k) false),(1,.cells [.map 2] 132),(2,.amap z2)] [(0,.row 49 7 n (wac (FI.h i')) false),(1,.cells [.map 2] 132),(2,.amap es)])/\P i') (inR .i64 z12/\∃(i':FI),(TEq [(0,.own 0 n),(1,.func 101 [.ptr 1 0]),(5,.q z5),(6,.q z12)] [(0,.own 0 n),(1,.func 101 [.ptr 1 0]),(5,.q (↑(FI.w i'):Int)),(6,.q (↑(FI.k i'):Int))]/\wae [(0,.row 49 7 n (wac (FI.h i)) false),(1,.cells [.map 2] 132),(2,.amap z2)] [(0,.row 49 7 n (wac (FI.h i')) false),(1,.cells [.map 2] 132),(2,.amap es)])/\P i')) ((∀(i:Nat),i<n->true=true)/\∃(O':oL7),wae [(0,.row 49 7 n (wac (FI.h i)) false),(1,.cells [.map 2] 132),(2,.amap (List.map (λ(p:AV×AV)=>(AV.rn (ren 3 []) p.1,AV.rn (ren 3 []) p.2)) es))] O'/\R (.exit 0) (St.mk [(0,.own 0 n),(5,.q z5)] O' 3 []))):=by kernel_rfl
theorem nf_clC(F:FL)(es:List (AV×AV))(R:oR7):wpFn te [(33,.det wcy)] [] 0 Tryz.f104 [.agg [.str F.id,.q F.ver,.q F.day,.q F.kind,.view 15 F.ms.length (wag (atM F.ms)),.view 5 F.rs.length (wai (atR F.rs)),.view 5 F.ts.length (wah (atT F.ts))],.ptr 0 0] [.cells [.map 1] 135,.amap es] R=(letI z2:=(ren (List.length [AObj.cells [.map 1] (135:TypeId),.amap es]) []);letI z0:=flV F.id F.ver F.day F.kind F.ms.length (wag (atM F.ms)) F.rs.length (wai (atR F.rs)) F.ts.length (wah (atT F.ts));letI z1:=wer (Option.getD (mget es (.str (encF z0))) (zvA (.bool false)));(FlC F.ms.length (wag (atM F.ms)) F.rs.length (wai (atR F.rs)) F.ts.length (wah (atT F.ts))/\FL.Rg z0)/\(wbl (TI.desc (TI.mk TypeDesc.string 1 16 (Value.string (ByteArray.mk #[])) false)) es/\.bool z1=Option.getD (mget es (.str (encF z0))) (zvA (.bool false)))/\R (.bool z1) [(0,.cells [.map 1] 135),(1,.amap (List.map (λ(p:AV×AV)=>(AV.rn z2 p.1,AV.rn z2 p.2)) es))]):=by kernel_rfl
theorem nf_ixC(es:List (AV×AV))(g:Nat->FL)(n:Nat)(R:oR7):wpFn te [(104,.det wfi)] [(2,wof es g n)] 0 Tryz.f144 [.own 0 n,.func 104 [.ptr 1 0]] [.row 49 7 n (wac g) false,.cells [.map 2] 135,.amap es] R=(letI z1:=(ren (List.length [AObj.row (49:TypeId) 7 n (wac g) false,.cells [.map 2] (135:TypeId),.amap es]) []);letI z0:=([(0,.row 49 7 n (wac g) false),(1,.cells [.map 2] 135),(List.length [AObj.cells [.map 2] (135:TypeId),.amap es],.amap (List.map (λ(p:AV×AV)=>(AV.rn z1 p.1,AV.rn z1 p.2)) es))]:oL7);(TEq [(0,.own 0 n),(1,.func 104 [.ptr 1 0]),(7,.q (n:Int)),(8,.q 0)] [(0,.own 0 n),(1,.func 104 [.ptr 1 0]),(7,.q (n:Int)),(8,.q (↑0:Int))]/\wae [(0,.row 49 7 n (wac g) false),(1,.cells [.map 2] 135),(2,.amap (List.map (λ(p:AV×AV)=>(AV.rn (ren 3 []) p.1,AV.rn (ren 3 []) p.2)) es))] [(0,.row 49 7 n (wac g) false),(1,.cells [.map 2] 135),(2,.amap es)])/\n<=1000/\(∀(i:Nat),i<n->FL.Rg (g i))/\EsC es/\wad (decide (fstB (λ(i:Nat)=>qC es (g i)) n<n)) ((∀(i:Nat),i<n->true=true)/\∃(O':oL7),wae z0 O'/\R (.q (↑(fstB (λ(i:Nat)=>qC es (g i)) n):Int)) O') ((∀(i:Nat),i<n->true=true)/\∃(O':oL7),wae z0 O'/\R (.q (-1:Int)) O')):=by kernel_rfl
theorem wzu(es:List (AV×AV))(g:Nat->FL)(n k:Nat)(P:Nat->Prop)(R:eR7):wa0 ⟨te,[(104,.det wfi)],[],3,19,0⟩ (wa2 Tryz.f144 2) [0,1,7,8] [] [4] (wmi es g n) P R (wmi es g n k)=(letI z2:=(List.map (λ(p:AV×AV)=>(AV.rn (idxN [1,2]) p.1,AV.rn (idxN [1,2]) p.2)) es);letI z1:=([(0,.row 49 7 n (wac g) false),(1,.cells [.map 2] 135),(2,.amap (List.map (λ(p:AV×AV)=>(AV.rn (ren 3 []) p.1,AV.rn (ren 3 []) p.2)) (List.map (λ(p:AV×AV)=>(AV.rn (sig [1,2] 3) p.1,AV.rn (sig [1,2] 3) p.2)) z2)))]:oL7);letI z0:=(g (k:Int).toNat);letI z3:=flV z0.id z0.ver z0.day z0.kind z0.ms.length (wag (atM z0.ms)) z0.rs.length (wai (atR z0.rs)) z0.ts.length (wah (atT z0.ts));wad (decide ((k:Int)<(n:Int))) (((0:Int)<=(k:Int)/\(k:Int)<(n:Int))/\((k:Int).toNat<n/\7=7)/\((FlC z0.ms.length (wag (atM z0.ms)) z0.rs.length (wai (atR z0.rs)) z0.ts.length (wah (atT z0.ts))/\FL.Rg z3)/\135=135/\EsC z2)/\wad (qC z2 z3) ((∀(i:Nat),i<n->true=true)/\∃(O':oL7),wae z1 O'/\R .ret (St.mk [(4,.q (k:Int))] O' 3 [])) (inR .i64 ((k:Int)+1)/\∃(i':Nat),(TEq [(0,.own 0 n),(1,.func 104 [.ptr 1 0]),(7,.q (n:Int)),(8,.q ((k:Int)+1))] [(0,.own 0 n),(1,.func 104 [.ptr 1 0]),(7,.q (n:Int)),(8,.q (i':Int))]/\wae z1 [(0,.row 49 7 n (wac g) false),(1,.cells [.map 2] 135),(2,.amap es)])/\P i')) ((∀(i:Nat),i<n->true=true)/\∃(O':oL7),wae [(0,.row 49 7 n (wac g) false),(1,.cells [.map 2] 135),(2,.amap (List.map (λ(p:AV×AV)=>(AV.rn (ren 3 []) p.1,AV.rn (ren 3 []) p.2)) es))] O'/\R (.exit 0) (St.mk [] O' 3 []))):=by kernel_rfl
theorem nf_dfC(es:List (AV×AV))(g:Nat->FL)(n:Nat)(R:oR7):wpFn te [(144,.det wmj)] [(5,woq es g n (fstB (λi=>qC es (g i)) n))] 0 Tryz.f100 [.own 0 n,.func 104 [.ptr 1 0]] [.row 49 7 n (wac g) false,.cells [.map 2] 135,.amap es] R=(letI z4:=(∀(i:Nat),i<n->true=true:Prop);letI z2:=(FI.mk (fstB (λ(i:Nat)=>qC es (g i)) n+1) (fstB (λ(i:Nat)=>qC es (g i)) n) g);letI z1:=(ren (List.length [AObj.row (49:TypeId) 7 n (wac g) false,.cells [.map 2] (135:TypeId),.amap es]) []);letI z0:=(List.map (λ(p:AV×AV)=>(AV.rn (idxN [0,1,2]) p.1,AV.rn (idxN [0,1,2]) p.2)) es);letI z5:=(ixB (λ(i:Nat)=>qC z0 (flOf (wac g) i)) n+1);letI z3:=(List.map (λ(p:AV×AV)=>(AV.rn (sig [0,1,2] 3) p.1,AV.rn (sig [0,1,2] 3) p.2)) z0);z4/\(49=49/\135=135/\false=false/\n=n/\n<=1000/\wac g=wac (flOf (wac g))/\(∀(i:Nat),i<n->FL.Rg (flOf (wac g) i))/\EsC z0)/\z4/\wad (decide (ixB (λ(i:Nat)=>qC z0 (flOf (wac g) i)) n=(-1:Int))) (z4/\∃(O':oL7),wae [(0,.row 49 7 n (wac g) false),(1,.cells [.map 2] 135),(List.length [AObj.cells [.map 2] (135:TypeId),.amap es],.amap (List.map (λ(p:AV×AV)=>(AV.rn z1 p.1,AV.rn z1 p.2)) z3))] O'/\R (.own 0 n) O') (inR .i64 z5/\(TEq [(0,.own 0 n),(1,.func 104 [.ptr 1 0]),(5,.q (ixB (λ(i:Nat)=>qC z0 (flOf (wac g) i)) n)),(6,.q z5)] [(0,.own 0 n),(1,.func 104 [.ptr 1 0]),(5,.q (↑(FI.w z2):Int)),(6,.q (↑(FI.k z2):Int))]/\wae [(0,.row 49 7 n (wac g) false),(1,.cells [.map 2] 135),(2,.amap (List.map (λ(p:AV×AV)=>(AV.rn (ren 3 []) p.1,AV.rn (ren 3 []) p.2)) z3))] [(0,.row 49 7 n (wac (FI.h z2)) false),(1,.cells [.map 2] 135),(2,.amap es)])/\(fstB (λ(i:Nat)=>qC es (g i)) n<n/\n<=1000)/\(∀(i:Nat),i<n->FL.Rg (g i))/\EsC es/\(∀(j:Nat),j<fstB (λ(i:Nat)=>qC es (g i)) n->qC es (g j)=false)/\qC es (g (fstB (λ(i:Nat)=>qC es (g i)) n))=true/\∀(w:Nat) (h:Nat->FL),letI z6:=((0:Int)<=(w:Int)/\(w:Int)<=(n:Int):Prop);w<=n->lst h w=kfL (qC es) g n->z6/\(w:Int).toNat<=n/\z6/\(∀(i:Nat),i<(w:Int).toNat->true=true)/\∃(O':oL7),wae [(0,.row 49 7 (w:Int).toNat (wac h) false),(1,.cells [.map 2] 135),(List.length [AObj.cells [.map 2] (135:TypeId),.amap es],.amap (List.map (λ(p:AV×AV)=>(AV.rn z1 p.1,AV.rn z1 p.2)) es))] O'/\R (.own 0 (w:Int).toNat) O')):=by kernel_rfl
theorem w0b(es:List (AV×AV))(n:Nat)(i:FI)(P:FI->Prop)(R:eR7):wa0 ⟨te,[(104,.det wfi)],[],3,42,0⟩ (wa2 Tryz.f100 5) [0,1,5,6] [0,5] [] (wm1 es n) P R (wm1 es n i)=(letI z5:=(↑(FI.w i):Int);letI z4:=(↑(FI.k i):Int);letI z12:=(z4+1);letI z1:=(List.map (λ(p:AV×AV)=>(AV.rn (idxN [1,2]) p.1,AV.rn (idxN [1,2]) p.2)) es);letI z2:=(List.map (λ(p:AV×AV)=>(AV.rn (ren 3 []) p.1,AV.rn (ren 3 []) p.2)) (List.map (λ(p:AV×AV)=>(AV.rn (sig [1,2] 5) p.1,AV.rn (sig [1,2] 5) p.2)) z1));letI z0:=(FI.h i z4.toNat);letI z11:=wah (atT z0.ts);letI z10:=z0.ts.length;letI z9:=wai (atR z0.rs);letI z8:=z0.rs.length;letI z7:=wag (atM z0.ms);letI z6:=z0.ms.length;letI z3:=flV z0.id z0.ver z0.day z0.kind z6 z7 z8 z9 z10 z11;wad (decide (z4<(n:Int))) (((0:Int)<=z4/\z4<(n:Int))/\(z4.toNat<n/\7=7)/\((FlC z6 z7 z8 z9 z10 z11/\FL.Rg z3)/\135=135/\EsC z1)/\wad (!qC z1 z3) (((0:Int)<=z5/\z5<(n:Int))/\(List.length [AV.str z0.id,.q z0.ver,.q z0.day,.q z0.kind,.view 15 z6 z7,.view 5 z8 z9,.view 5 z10 z11]=7/\z5.toNat<n/\7=7)/\inR .i64 (z5+1)/\inR .i64 z12/\∃(i':FI),(TEq [(0,.own 0 n),(1,.func 104 [.ptr 1 0]),(5,.q (z5+1)),(6,.q z12)] [(0,.own 0 n),(1,.func 104 [.ptr 1 0]),(5,.q (↑(FI.w i'):Int)),(6,.q (↑(FI.k i'):Int))]/\wae [(0,.row 49 7 n (λ(k:Nat)=>if k=Int.toNat z5 then [.str z0.id,.q z0.ver,.q z0.day,.q z0.kind,.view 15 z6 z7,.view 5 z8 z9,.view 5 z10 z11] else wac (FI.h i) k) false),(1,.cells [.map 2] 135),(2,.amap z2)] [(0,.row 49 7 n (wac (FI.h i')) false),(1,.cells [.map 2] 135),(2,.amap es)])/\P i') (inR .i64 z12/\∃(i':FI),(TEq [(0,.own 0 n),(1,.func 104 [.ptr 1 0]),(5,.q z5),(6,.q z12)] [(0,.own 0 n),(1,.func 104 [.ptr 1 0]),(5,.q (↑(FI.w i'):Int)),(6,.q (↑(FI.k i'):Int))]/\wae [(0,.row 49 7 n (wac (FI.h i)) false),(1,.cells [.map 2] 135),(2,.amap z2)] [(0,.row 49 7 n (wac (FI.h i')) false),(1,.cells [.map 2] 135),(2,.amap es)])/\P i')) ((∀(i:Nat),i<n->true=true)/\∃(O':oL7),wae [(0,.row 49 7 n (wac (FI.h i)) false),(1,.cells [.map 2] 135),(2,.amap (List.map (λ(p:AV×AV)=>(AV.rn (ren 3 []) p.1,AV.rn (ren 3 []) p.2)) es))] O'/\R (.exit 0) (St.mk [(0,.own 0 n),(5,.q z5)] O' 3 []))):=by kernel_rfl
theorem wgz(σ:Nat->Option Nat)(K:List (List UInt8))(v:List UInt8->Int):(entI K v).map (λp=>(AV.rn σ p.1,AV.rn σ p.2))=entI K v:=by
 unfold entI;rw[List.map_map];rfl
theorem wg0(σ:Nat->Option Nat)(K:List (List UInt8)):(entB K).map (λp=>(AV.rn σ p.1,AV.rn σ p.2))=entB K:=by
 unfold entB;rw[List.map_map];rfl
theorem wvk{K:List (List UInt8)}{v:List UInt8->Int}(h:K.Nodup):wbl .string (entI K v):=by
 refine⟨List.all_eq_true.2 λp hp=>?_,?_⟩
 ·obtain⟨r,_,rfl⟩:=List.mem_map.1 hp;rfl
 ·unfold entI;rw[List.map_map];refine List.pairwise_map.2 (h.imp λ{a b} hab he=>hab ?_);have he:AV.str a=AV.str b:=he;injection he
theorem wvl{K:List (List UInt8)}(h:K.Nodup):wbl .string (entB K):=by
 refine⟨List.all_eq_true.2 λp hp=>?_,?_⟩
 ·obtain⟨r,_,rfl⟩:=List.mem_map.1 hp;rfl
 ·unfold entB;rw[List.map_map];refine List.pairwise_map.2 (h.imp λ{a b} hab he=>hab ?_);have he:AV.str a=AV.str b:=he;injection he
theorem wpx(v:List UInt8->Int)(x:List UInt8):∀K,Option.getD (mget (entI K v) (.str x)) (.q 0)= .q (if x∈K then v x else 0)
 |[]=>rfl
 |t::K=>by
  show Option.getD (match keq (.str t) (.str x) with | true=>some (AV.q (v t)) | false=>mget (entI K v) (.str x)) (.q 0)=_
  have ih:=wpx v x K;rw[wep]
  by_cases h:t=x
  ·subst h;simp
  ·have h':¬ x=t:=λe=>h e.symm;rw[decide_eq_false h];simp only[List.mem_cons,h',false_or];exact ih
theorem wpy(x:List UInt8):∀K,Option.getD (mget (entB K) (.str x)) (.bool false)= .bool (decide (x∈K))
 |[]=>rfl
 |t::K=>by
  show Option.getD (match keq (.str t) (.str x) with | true=>some (AV.bool true) | false=>mget (entB K) (.str x)) (.bool false)=_
  have ih:=wpy x K;rw[wep]
  by_cases h:t=x
  ·subst h;simp
  ·have h':¬ x=t:=λe=>h e.symm;rw[decide_eq_false h];simp only[List.mem_cons,h',false_or];exact ih
theorem wd2(q:FL->Bool)(g:Nat->FL)(k:Nat):kfL q g (k+1)=kfL q g k++bif q (g k) then [] else [g k]:=by
 unfold kfL;rw[wgp,List.filter_append]
 cases h:q (g k)<;>simp[h]
theorem wfy{q:FL->Bool}{g:Nat->FL}:∀ {k:Nat},(∀j,j<k->q (g j)=false)->kfL q g k=lst g k
 |0,_=>rfl
 |k+1,h=>by
  rw[wd2,wfy λj hj=>h j (by omega),h k (by omega),wgp];rfl
theorem wq6(hP:C.P=Tryz.prog):waf C 143 wfh:=by
 have _:C.Loose:=inferInstance;rintro args objs U Os vc h hvc;unfold wfh at h;split at h<;>cases h;rename_i id ver day kind nm fm nr fr nt ft d t2;obtain⟨⟨hc,hs⟩,rfl,hE⟩:=hvc;have l1:(lst (mgOf fm) nm).length=nm:=by simp[lst]
 have l2:(lst (rwOf fr) nr).length=nr:=by simp[lst]
 have l3:(lst (rtOf ft) nt).length=nt:=by simp[lst]
 obtain⟨c1,c2,c3⟩:=hc;unfold flV at hs ⊢;generalize lst (mgOf fm) nm=ms at *;generalize lst (rwOf fr) nr=rs at *;generalize lst (rtOf ft) nt=ts at *;subst l1;subst l2;subst l3;subst c1;subst c2;subst c3;refine waf.wp0 (prg hP) [] 0 .nil (hP ▸ Tryz.func143) rfl rfl rfl ?_;refine(nf_clD ⟨id,ver,day,kind,ms,rs,ts⟩ d _).mpr ?_;exact⟨rfl,rfl⟩
theorem w1q(hP:C.P=Tryz.prog)(d:Int)(g:Nat->FL)(n:Nat):waj C 2 19 (wam Tryz.f144 2) (woe d g n):=by
 rintro st Q ⟨h0,hn,hrg,hE,hQ⟩;have hR:=wb3 hQ;refine waj.mk (prg hP) [(143,.det wfh)] 0 (.cons (wq6 hP) .nil) [0,1,7,8] [] [4] (wmg d g n) (λk=>k<=n/\fstB (λi=>qD d (g i)) k=k) (λk=>n - k) 0 ⟨zL7 _,rfl⟩ h0 (λk hk=>?_) (λi=>⟨λ_ _=>rfl,trivial⟩);obtain⟨hkn,hok⟩:=hk;rw[wzt,tN7,wcq];refine wak (λh1=>?_) (λh1=>?_)
 ·refine⟨⟨by omega,by omega⟩,⟨by omega,rfl⟩,⟨⟨wdc _,hrg k (by omega)⟩,rfl,trivial⟩,waz (λh2=>?_) (λh2=>⟨by simp only[inR];omega,k+1,⟨rfl,wal _⟩,⟨by omega,wgt hok h2⟩,by omega⟩)⟩;have e:=wgv hok h2 n (by omega);have:=hR.1 (by rw[e,decide_eq_true];omega);rw[e] at this;exact⟨λ_ _=>rfl,_,wal _,this⟩
 ·have:k=n:=by omega
  subst this;exact⟨λ_ _=>rfl,_,wal _,hR.2 (by rw[hok,decide_eq_false];omega)⟩
theorem ixD_ok(hP:C.P=Tryz.prog):waf C 144 wmh:=by
 rintro args objs U Os vc h hvc;unfold wmh at h;split at h<;>cases h;rename_i n t m f fr d t2;obtain⟨rfl,rfl,rfl,rfl,hn,hf,hrg,hE⟩:=hvc;generalize flOf f=g at *;subst hf;refine waf.wpL (prg hP) [(143,.det wfh)] [(2,woe d g n)] 0 (.cons (wq6 hP) .nil) (hP ▸ Tryz.func144) rfl rfl rfl [(wam Tryz.f144 2,woe d g n)] (by kernel_rfl) ⟨w1q hP _ g n,trivial⟩ ?_;rw[nf_ixD];unfold ixB;refine⟨⟨rfl,wal _⟩,hn,hrg,trivial,wak (λh=>?_) (λh=>?_)⟩
 ·rw[decide_eq_true h];exact⟨λ_ _=>rfl,_,wal _,rfl,rfl⟩
 ·rw[decide_eq_false h];exact⟨λ_ _=>rfl,_,wal _,rfl,rfl⟩
theorem w21(hP:C.P=Tryz.prog)(d:Int)(g:Nat->FL)(n i0:Nat):waj C 2 42 (wam Tryz.f100 5) (wop d g n i0):=by
 rintro st Q ⟨h0,⟨hi0,hn⟩,hrg,hE,hall,hdel,hQ⟩
 refine waj.mk (prg hP) [(143,.det wfh)] 0 (.cons (wq6 hP) .nil) [0,1,5,6] [0,5] [] (wm0 d n) (λi=>i.k<=n/\i.w<i.k/\lst i.h i.w=kfL (qD d) g i.k/\∀j,i.w<=j->i.h j=g j) (λi=>n - i.k) ⟨i0+1,i0,g⟩
  ⟨hi0,Nat.lt_succ_self _,?_,λ_ _=>rfl⟩ h0 (λi hi=>?_) (λi=>⟨λ_ _=>rfl,trivial⟩)
 ·show lst g i0=kfL (qD d) g (i0+1);rw[wd2,hdel,wfy hall];simp
 obtain⟨k,w,h⟩:=i;obtain⟨i1,i2,i3,i4⟩:=hi;dsimp only at i1 i2 i3 i4;rw[w0a];dsimp only
 rw[tN7,tN7,wcq];refine wak (λh1=>?_) (λh1=>?_)
 ·have hk:k<n:=by omega
  have r1:h k=g k:=i4 _ (by omega);refine⟨⟨by omega,by omega⟩,⟨by omega,rfl⟩,⟨⟨wdc _,by rw[r1];exact hrg k hk⟩,rfl,trivial⟩,wcw (λq=>?_) (λq=>?_)⟩
  ·have q:qD d (h k)=false:=q;rw[r1] at q;refine⟨⟨by omega,by omega⟩,⟨rfl,by omega,rfl⟩,by simp only[inR];omega,by simp only[inR];omega,⟨k+1,w+1,λj=>if j=w then h k else h j⟩,⟨rfl,⟨rfl,rfl,rfl,rfl,rfl,λj hj=>?_⟩,rfl,trivial⟩,⟨hk,?_,?_,λj hj=>?_⟩,?_⟩
   ·unfold wac
    by_cases e:j=w
    ·simp only[e,if_true]
    ·simp only[e,if_false]
   ·show w+1<k+1;omega
   ·show lst (λj=>if j=w then h k else h j) (w+1)=kfL (qD d) g (k+1)
    have e:lst (λj=>if j=w then h k else h j) w=lst h w:=List.map_congr_left λj hj=>by
     have:=List.mem_range.1 hj;rw[if_neg (by omega)]
    rw[wgp,wd2,q,e,i3,if_pos rfl,r1];rfl
   ·have hj:w+1<=j:=hj;show (if j=w then h k else h j)=g j
    rw[if_neg (by omega)];exact i4 j (by omega)
   ·show n - (k+1)<n - k;omega
  ·have q:qD d (h k)=true:=q;rw[r1] at q;refine⟨by simp only[inR];omega,⟨k+1,w,h⟩,⟨rfl,wal _⟩,⟨hk,?_,?_,i4⟩,?_⟩
   ·show w<k+1;omega
   ·show lst h w=kfL (qD d) g (k+1);rw[wd2,q,i3];simp
   ·show n - (k+1)<n - k;omega
 ·have:k=n:=by omega
  subst this;exact⟨λ_ _=>rfl,_,wal _,hQ w h (by omega) i3⟩
theorem delD_ok(hP:C.P=Tryz.prog):wa4 C 100 wnt:=by
 rintro args objs R h;unfold wnt at h;split at h
 ·rename_i n t m f fr d t2;obtain⟨rfl,rfl,rfl,rfl,hn,hf,hrg,hE,hR⟩:=h;generalize flOf f=g at *;subst hf;refine wa4.wpL (prg hP) [(144,.det wmh)] [(5,wop d g n (fstB (λi=>qD d (g i)) n))] 0 (.cons (ixD_ok hP) .nil) (hP ▸ Tryz.func100) rfl rfl rfl [(wam Tryz.f100 5,wop d g n (fstB (λi=>qD d (g i)) n))] (by kernel_rfl) ⟨w21 hP _ g n _,trivial⟩ ?_;rw[nf_dfD];rw[wcr];obtain⟨f1,f2⟩:=wih (λi=>qD d (g i)) n;have fle:=wgu (λi=>qD d (g i)) n
  by_cases hlt:fstB (λi=>qD d (g i)) n<n
  ·have hix:ixB (λi=>qD d (g i)) n=(fstB (λi=>qD d (g i)) n:Int):=by unfold ixB;rw[decide_eq_true hlt];rfl
   rw[hix];have f2:=f2 hlt;generalize fstB (λi=>qD d (g i)) n=i0 at *;refine⟨λ_ _=>rfl,⟨rfl,rfl,rfl,rfl,hn,rfl,hrg,trivial⟩,λ_ _=>rfl,wak (λq=>absurd q (by omega)) (λ_=>⟨by simp only[inR];omega,⟨rfl,wal _⟩,⟨hlt,hn⟩,hrg,trivial,f1,f2,λw h hw hl=>?_⟩)⟩;rw[tN7];exact⟨⟨by omega,by omega⟩,hw,⟨by omega,by omega⟩,λ_ _=>rfl,_,wal _,hR w h hw hl⟩
  ·have hix:ixB (λi=>qD d (g i)) n= -1:=by unfold ixB;rw[decide_eq_false hlt];rfl
   rw[hix];have e0:fstB (λi=>qD d (g i)) n=n:=by omega
   rw[e0] at f1;exact⟨λ_ _=>rfl,⟨rfl,rfl,rfl,rfl,hn,rfl,hrg,trivial⟩,λ_ _=>rfl,wak (λ_=>⟨λ_ _=>rfl,_,wal _,hR n g (lR7 _) (wfy f1).symm⟩) (λq=>absurd rfl q)⟩
 ·exact h.elim
theorem wq5(hP:C.P=Tryz.prog):waf C 101 wfg:=by
 have _:C.Loose:=inferInstance;rintro args objs U Os vc h hvc;unfold wfg at h;split at h<;>cases h;rename_i id ver day kind nm fm nr fr nt ft es t2;obtain⟨⟨hc,hs⟩,rfl,hE⟩:=hvc;have l1:(lst (mgOf fm) nm).length=nm:=by simp[lst]
 have l2:(lst (rwOf fr) nr).length=nr:=by simp[lst]
 have l3:(lst (rtOf ft) nt).length=nt:=by simp[lst]
 obtain⟨c1,c2,c3⟩:=hc;unfold flV at hs ⊢;generalize lst (mgOf fm) nm=ms at *;generalize lst (rwOf fr) nr=rs at *;generalize lst (rtOf ft) nt=ts at *;subst l1;subst l2;subst l3;subst c1;subst c2;subst c3;obtain⟨P,v,rfl,hnd⟩:=hE;refine waf.wp0 (prg hP) [] 0 .nil (hP ▸ Tryz.func101) rfl rfl rfl ?_;refine(nf_clV ⟨id,ver,day,kind,ms,rs,ts⟩ (entI P v) _).mpr ?_
 repeat rw[wgz]
 have hk:wbl .string (entI P v):=wvk hnd;have hm:=wpx v id P;have hq:qV (entI P v) ⟨id,ver,day,kind,ms,rs,ts⟩=(!decide (kind=1) && decide (ver<wap ((mget (entI P v) (.str id)).getD (.q 0)))):=rfl;rw[hq];refine wb7 (λh1=>⟨⟨hk,?_⟩,?_,rfl⟩) (λh1=>⟨?_,rfl⟩)
 ·show AV.q (wap (Option.getD (mget (entI P v) (.str id)) (.q 0)))=Option.getD (mget (entI P v) (.str id)) (.q 0);rw[hm]
  first | done | rfl
 ·have h1:¬ kind=1:=h1;rw[decide_eq_false h1];rfl
 ·have h1:kind=1:=h1;rw[decide_eq_true h1];rfl
theorem w1p(hP:C.P=Tryz.prog)(es:List (AV×AV))(g:Nat->FL)(n:Nat):waj C 3 19 (wam Tryz.f144 2) (wod es g n):=by
 rintro st Q ⟨h0,hn,hrg,hE,hQ⟩;obtain⟨P,v,rfl,hnd⟩:=hE;have hR:=wb3 hQ;refine waj.mk (prg hP) [(101,.det wfg)] 0 (.cons (wq5 hP) .nil) [0,1,7,8] [] [4] (wme (entI P v) g n) (λk=>k<=n/\fstB (λi=>qV (entI P v) (g i)) k=k) (λk=>n - k) 0 ⟨zL7 _,rfl⟩ h0 (λk hk=>?_) (λi=>⟨λ_ _=>rfl,trivial⟩);obtain⟨hkn,hok⟩:=hk;rw[wzs,tN7,wcq]
 repeat rw[wgz]
 refine wak (λh1=>?_) (λh1=>?_)
 ·refine⟨⟨by omega,by omega⟩,⟨by omega,rfl⟩,⟨⟨wdc _,hrg k (by omega)⟩,rfl,⟨P,v,rfl,hnd⟩⟩,waz (λh2=>?_) (λh2=>⟨by simp only[inR];omega,k+1,⟨rfl,wal _⟩,⟨by omega,wgt hok h2⟩,by omega⟩)⟩;have e:=wgv hok h2 n (by omega);have:=hR.1 (by rw[e,decide_eq_true];omega);rw[e] at this;exact⟨λ_ _=>rfl,_,wal _,this⟩
 ·have:k=n:=by omega
  subst this;exact⟨λ_ _=>rfl,_,wal _,hR.2 (by rw[hok,decide_eq_false];omega)⟩
theorem ixV_ok(hP:C.P=Tryz.prog):waf C 144 wmf:=by
 rintro args objs U Os vc h hvc;unfold wmf at h;split at h<;>cases h;rename_i n t m f fr es t2;obtain⟨rfl,rfl,rfl,rfl,hn,hf,hrg,hE⟩:=hvc;generalize flOf f=g at *;subst hf;obtain⟨P,v,rfl,hnd⟩:=hE;refine waf.wpL (prg hP) [(101,.det wfg)] [(2,wod (entI P v) g n)] 0 (.cons (wq5 hP) .nil) (hP ▸ Tryz.func144) rfl rfl rfl [(wam Tryz.f144 2,wod (entI P v) g n)] (by kernel_rfl) ⟨w1p hP _ g n,trivial⟩ ?_;rw[nf_ixV]
 repeat rw[wgz]
 unfold ixB;refine⟨⟨rfl,wal _⟩,hn,hrg,⟨P,v,rfl,hnd⟩,wak (λh=>?_) (λh=>?_)⟩
 ·rw[decide_eq_true h];exact⟨λ_ _=>rfl,_,wal _,rfl,rfl⟩
 ·rw[decide_eq_false h];exact⟨λ_ _=>rfl,_,wal _,rfl,rfl⟩
theorem w20(hP:C.P=Tryz.prog)(es:List (AV×AV))(g:Nat->FL)(n i0:Nat):waj C 3 42 (wam Tryz.f100 5) (woo es g n i0):=by
 rintro st Q ⟨h0,⟨hi0,hn⟩,hrg,hE,hall,hdel,hQ⟩;obtain⟨P,v,rfl,hnd⟩:=hE
 refine waj.mk (prg hP) [(101,.det wfg)] 0 (.cons (wq5 hP) .nil) [0,1,5,6] [0,5] [] (wmz (entI P v) n) (λi=>i.k<=n/\i.w<i.k/\lst i.h i.w=kfL (qV (entI P v)) g i.k/\∀j,i.w<=j->i.h j=g j) (λi=>n - i.k) ⟨i0+1,i0,g⟩
  ⟨hi0,Nat.lt_succ_self _,?_,λ_ _=>rfl⟩ h0 (λi hi=>?_) (λi=>⟨λ_ _=>rfl,trivial⟩)
 ·show lst g i0=kfL (qV (entI P v)) g (i0+1);rw[wd2,hdel,wfy hall];simp
 obtain⟨k,w,h⟩:=i;obtain⟨i1,i2,i3,i4⟩:=hi;dsimp only at i1 i2 i3 i4;rw[wz9];dsimp only
 rw[tN7,tN7,wcq]
 repeat rw[wgz]
 refine wak (λh1=>?_) (λh1=>?_)
 ·have hk:k<n:=by omega
  have r1:h k=g k:=i4 _ (by omega);refine⟨⟨by omega,by omega⟩,⟨by omega,rfl⟩,⟨⟨wdc _,by rw[r1];exact hrg k hk⟩,rfl,⟨P,v,rfl,hnd⟩⟩,wcw (λq=>?_) (λq=>?_)⟩
  ·have q:qV (entI P v) (h k)=false:=q;rw[r1] at q;refine⟨⟨by omega,by omega⟩,⟨rfl,by omega,rfl⟩,by simp only[inR];omega,by simp only[inR];omega,⟨k+1,w+1,λj=>if j=w then h k else h j⟩,⟨rfl,⟨rfl,rfl,rfl,rfl,rfl,λj hj=>?_⟩,rfl,rfl,trivial⟩,⟨hk,?_,?_,λj hj=>?_⟩,?_⟩
   ·unfold wac
    by_cases e:j=w
    ·simp only[e,if_true]
    ·simp only[e,if_false]
   ·show w+1<k+1;omega
   ·show lst (λj=>if j=w then h k else h j) (w+1)=kfL (qV (entI P v)) g (k+1)
    have e:lst (λj=>if j=w then h k else h j) w=lst h w:=List.map_congr_left λj hj=>by
     have:=List.mem_range.1 hj;rw[if_neg (by omega)]
    rw[wgp,wd2,q,e,i3,if_pos rfl,r1];rfl
   ·have hj:w+1<=j:=hj;show (if j=w then h k else h j)=g j
    rw[if_neg (by omega)];exact i4 j (by omega)
   ·show n - (k+1)<n - k;omega
  ·have q:qV (entI P v) (h k)=true:=q;rw[r1] at q;refine⟨by simp only[inR];omega,⟨k+1,w,h⟩,⟨rfl,wal _⟩,⟨hk,?_,?_,i4⟩,?_⟩
   ·show w<k+1;omega
   ·show lst h w=kfL (qV (entI P v)) g (k+1);rw[wd2,q,i3];simp
   ·show n - (k+1)<n - k;omega
 ·have:k=n:=by omega
  subst this;exact⟨λ_ _=>rfl,_,wal _,hQ w h (by omega) i3⟩
theorem delV_ok(hP:C.P=Tryz.prog):wa4 C 100 wns:=by
 rintro args objs R h;unfold wns at h;split at h
 ·rename_i n t m f fr es t2;obtain⟨rfl,rfl,rfl,rfl,hn,hf,hrg,hE,hR⟩:=h;generalize flOf f=g at *;subst hf;obtain⟨P,v,rfl,hnd⟩:=hE;refine wa4.wpL (prg hP) [(144,.det wmf)] [(5,woo (entI P v) g n (fstB (λi=>qV (entI P v) (g i)) n))] 0 (.cons (ixV_ok hP) .nil) (hP ▸ Tryz.func100) rfl rfl rfl [(wam Tryz.f100 5,woo (entI P v) g n (fstB (λi=>qV (entI P v) (g i)) n))] (by kernel_rfl) ⟨w20 hP _ g n _,trivial⟩ ?_;rw[nf_dfV]
  repeat rw[wgz]
  rw[wcr];obtain⟨f1,f2⟩:=wih (λi=>qV (entI P v) (g i)) n;have fle:=wgu (λi=>qV (entI P v) (g i)) n
  by_cases hlt:fstB (λi=>qV (entI P v) (g i)) n<n
  ·have hix:ixB (λi=>qV (entI P v) (g i)) n=(fstB (λi=>qV (entI P v) (g i)) n:Int):=by unfold ixB;rw[decide_eq_true hlt];rfl
   rw[hix];have f2:=f2 hlt;generalize fstB (λi=>qV (entI P v) (g i)) n=i0 at *;refine⟨λ_ _=>rfl,⟨rfl,rfl,rfl,rfl,hn,rfl,hrg,⟨P,v,rfl,hnd⟩⟩,λ_ _=>rfl,wak (λq=>absurd q (by omega)) (λ_=>⟨by simp only[inR];omega,⟨rfl,wal _⟩,⟨hlt,hn⟩,hrg,⟨P,v,rfl,hnd⟩,f1,f2,λw h hw hl=>?_⟩)⟩;rw[tN7];exact⟨⟨by omega,by omega⟩,hw,⟨by omega,by omega⟩,λ_ _=>rfl,_,wal _,hR w h hw hl⟩
  ·have hix:ixB (λi=>qV (entI P v) (g i)) n= -1:=by unfold ixB;rw[decide_eq_false hlt];rfl
   rw[hix];have e0:fstB (λi=>qV (entI P v) (g i)) n=n:=by omega
   rw[e0] at f1;exact⟨λ_ _=>rfl,⟨rfl,rfl,rfl,rfl,hn,rfl,hrg,⟨P,v,rfl,hnd⟩⟩,λ_ _=>rfl,wak (λ_=>⟨λ_ _=>rfl,_,wal _,hR n g (lR7 _) (wfy f1).symm⟩) (λq=>absurd rfl q)⟩
 ·exact h.elim
theorem wq7(hP:C.P=Tryz.prog)(hL:∀w,C.laid w->LaidW w):waf C 104 wfi:=by
 rintro args objs U Os vc h hvc;unfold wfi at h;split at h<;>cases h;rename_i id ver day kind nm fm nr fr nt ft es t2;obtain⟨⟨hc,hs⟩,rfl,hE⟩:=hvc;have l1:(lst (mgOf fm) nm).length=nm:=by simp[lst]
 have l2:(lst (rwOf fr) nr).length=nr:=by simp[lst]
 have l3:(lst (rtOf ft) nt).length=nt:=by simp[lst]
 obtain⟨c1,c2,c3⟩:=hc;unfold flV at hs ⊢;generalize lst (mgOf fm) nm=ms at *;generalize lst (rwOf fr) nr=rs at *;generalize lst (rtOf ft) nt=ts at *;subst l1;subst l2;subst l3;subst c1;subst c2;subst c3;obtain⟨P,rfl,hnd⟩:=hE;refine waf.wp0 (prg hP) [(33,.det wcy)] 0 (.cons (wko hP hL) .nil) (hP ▸ Tryz.func104) rfl rfl rfl ?_;refine(nf_clC ⟨id,ver,day,kind,ms,rs,ts⟩ (entB P) _).mpr ?_
 repeat rw[wg0]
 have hm:=wpy (encF ⟨id,ver,day,kind,ms,rs,ts⟩) P;rw[wcq];refine⟨⟨wdc _,hs⟩,⟨wvl hnd,?_⟩,rfl,rfl⟩;show AV.bool (wer (Option.getD (mget (entB P) (.str (encF ⟨id,ver,day,kind,ms,rs,ts⟩))) (.bool false)))=Option.getD (mget (entB P) (.str (encF ⟨id,ver,day,kind,ms,rs,ts⟩))) (.bool false);rw[hm]
 first | done | rfl
theorem w1r(hP:C.P=Tryz.prog)(hL:∀w,C.laid w->LaidW w)(es:List (AV×AV))(g:Nat->FL)(n:Nat):waj C 3 19 (wam Tryz.f144 2) (wof es g n):=by
 rintro st Q ⟨h0,hn,hrg,hE,hQ⟩;obtain⟨P,rfl,hnd⟩:=hE;have hR:=wb3 hQ;refine waj.mk (prg hP) [(104,.det wfi)] 0 (.cons (wq7 hP hL) .nil) [0,1,7,8] [] [4] (wmi (entB P) g n) (λk=>k<=n/\fstB (λi=>qC (entB P) (g i)) k=k) (λk=>n - k) 0 ⟨zL7 _,rfl⟩ h0 (λk hk=>?_) (λi=>⟨λ_ _=>rfl,trivial⟩);obtain⟨hkn,hok⟩:=hk;rw[wzu,tN7,wcq]
 repeat rw[wg0]
 refine wak (λh1=>?_) (λh1=>?_)
 ·refine⟨⟨by omega,by omega⟩,⟨by omega,rfl⟩,⟨⟨wdc _,hrg k (by omega)⟩,rfl,⟨P,rfl,hnd⟩⟩,waz (λh2=>?_) (λh2=>⟨by simp only[inR];omega,k+1,⟨rfl,wal _⟩,⟨by omega,wgt hok h2⟩,by omega⟩)⟩;have e:=wgv hok h2 n (by omega);have:=hR.1 (by rw[e,decide_eq_true];omega);rw[e] at this;exact⟨λ_ _=>rfl,_,wal _,this⟩
 ·have:k=n:=by omega
  subst this;exact⟨λ_ _=>rfl,_,wal _,hR.2 (by rw[hok,decide_eq_false];omega)⟩
theorem ixC_ok(hP:C.P=Tryz.prog)(hL:∀w,C.laid w->LaidW w):waf C 144 wmj:=by
 rintro args objs U Os vc h hvc;unfold wmj at h;split at h<;>cases h;rename_i n t m f fr es t2;obtain⟨rfl,rfl,rfl,rfl,hn,hf,hrg,hE⟩:=hvc;generalize flOf f=g at *;subst hf;obtain⟨P,rfl,hnd⟩:=hE;refine waf.wpL (prg hP) [(104,.det wfi)] [(2,wof (entB P) g n)] 0 (.cons (wq7 hP hL) .nil) (hP ▸ Tryz.func144) rfl rfl rfl [(wam Tryz.f144 2,wof (entB P) g n)] (by kernel_rfl) ⟨w1r hP hL _ g n,trivial⟩ ?_;rw[nf_ixC]
 repeat rw[wg0]
 unfold ixB;refine⟨⟨rfl,wal _⟩,hn,hrg,⟨P,rfl,hnd⟩,wak (λh=>?_) (λh=>?_)⟩
 ·rw[decide_eq_true h];exact⟨λ_ _=>rfl,_,wal _,rfl,rfl⟩
 ·rw[decide_eq_false h];exact⟨λ_ _=>rfl,_,wal _,rfl,rfl⟩
theorem w22(hP:C.P=Tryz.prog)(hL:∀w,C.laid w->LaidW w)(es:List (AV×AV))(g:Nat->FL)(n i0:Nat):waj C 3 42 (wam Tryz.f100 5) (woq es g n i0):=by
 rintro st Q ⟨h0,⟨hi0,hn⟩,hrg,hE,hall,hdel,hQ⟩;obtain⟨P,rfl,hnd⟩:=hE
 refine waj.mk (prg hP) [(104,.det wfi)] 0 (.cons (wq7 hP hL) .nil) [0,1,5,6] [0,5] [] (wm1 (entB P) n) (λi=>i.k<=n/\i.w<i.k/\lst i.h i.w=kfL (qC (entB P)) g i.k/\∀j,i.w<=j->i.h j=g j) (λi=>n - i.k) ⟨i0+1,i0,g⟩
  ⟨hi0,Nat.lt_succ_self _,?_,λ_ _=>rfl⟩ h0 (λi hi=>?_) (λi=>⟨λ_ _=>rfl,trivial⟩)
 ·show lst g i0=kfL (qC (entB P)) g (i0+1);rw[wd2,hdel,wfy hall];simp
 obtain⟨k,w,h⟩:=i;obtain⟨i1,i2,i3,i4⟩:=hi;dsimp only at i1 i2 i3 i4;rw[w0b];dsimp only
 rw[tN7,tN7,wcq]
 repeat rw[wg0]
 refine wak (λh1=>?_) (λh1=>?_)
 ·have hk:k<n:=by omega
  have r1:h k=g k:=i4 _ (by omega);refine⟨⟨by omega,by omega⟩,⟨by omega,rfl⟩,⟨⟨wdc _,by rw[r1];exact hrg k hk⟩,rfl,⟨P,rfl,hnd⟩⟩,wcw (λq=>?_) (λq=>?_)⟩
  ·have q:qC (entB P) (h k)=false:=q;rw[r1] at q;refine⟨⟨by omega,by omega⟩,⟨rfl,by omega,rfl⟩,by simp only[inR];omega,by simp only[inR];omega,⟨k+1,w+1,λj=>if j=w then h k else h j⟩,⟨rfl,⟨rfl,rfl,rfl,rfl,rfl,λj hj=>?_⟩,rfl,rfl,trivial⟩,⟨hk,?_,?_,λj hj=>?_⟩,?_⟩
   ·unfold wac
    by_cases e:j=w
    ·simp only[e,if_true]
    ·simp only[e,if_false]
   ·show w+1<k+1;omega
   ·show lst (λj=>if j=w then h k else h j) (w+1)=kfL (qC (entB P)) g (k+1)
    have e:lst (λj=>if j=w then h k else h j) w=lst h w:=List.map_congr_left λj hj=>by
     have:=List.mem_range.1 hj;rw[if_neg (by omega)]
    rw[wgp,wd2,q,e,i3,if_pos rfl,r1];rfl
   ·have hj:w+1<=j:=hj;show (if j=w then h k else h j)=g j
    rw[if_neg (by omega)];exact i4 j (by omega)
   ·show n - (k+1)<n - k;omega
  ·have q:qC (entB P) (h k)=true:=q;rw[r1] at q;refine⟨by simp only[inR];omega,⟨k+1,w,h⟩,⟨rfl,wal _⟩,⟨hk,?_,?_,i4⟩,?_⟩
   ·show w<k+1;omega
   ·show lst h w=kfL (qC (entB P)) g (k+1);rw[wd2,q,i3];simp
   ·show n - (k+1)<n - k;omega
 ·have:k=n:=by omega
  subst this;exact⟨λ_ _=>rfl,_,wal _,hQ w h (by omega) i3⟩
theorem delC_ok(hP:C.P=Tryz.prog)(hL:∀w,C.laid w->LaidW w):wa4 C 100 wnu:=by
 rintro args objs R h;unfold wnu at h;split at h
 ·rename_i n t m f fr es t2;obtain⟨rfl,rfl,rfl,rfl,hn,hf,hrg,hE,hR⟩:=h;generalize flOf f=g at *;subst hf;obtain⟨P,rfl,hnd⟩:=hE;refine wa4.wpL (prg hP) [(144,.det wmj)] [(5,woq (entB P) g n (fstB (λi=>qC (entB P) (g i)) n))] 0 (.cons (ixC_ok hP hL) .nil) (hP ▸ Tryz.func100) rfl rfl rfl [(wam Tryz.f100 5,woq (entB P) g n (fstB (λi=>qC (entB P) (g i)) n))] (by kernel_rfl) ⟨w22 hP hL _ g n _,trivial⟩ ?_;rw[nf_dfC]
  repeat rw[wg0]
  rw[wcr];obtain⟨f1,f2⟩:=wih (λi=>qC (entB P) (g i)) n;have fle:=wgu (λi=>qC (entB P) (g i)) n
  by_cases hlt:fstB (λi=>qC (entB P) (g i)) n<n
  ·have hix:ixB (λi=>qC (entB P) (g i)) n=(fstB (λi=>qC (entB P) (g i)) n:Int):=by unfold ixB;rw[decide_eq_true hlt];rfl
   rw[hix];have f2:=f2 hlt;generalize fstB (λi=>qC (entB P) (g i)) n=i0 at *;refine⟨λ_ _=>rfl,⟨rfl,rfl,rfl,rfl,hn,rfl,hrg,⟨P,rfl,hnd⟩⟩,λ_ _=>rfl,wak (λq=>absurd q (by omega)) (λ_=>⟨by simp only[inR];omega,⟨rfl,wal _⟩,⟨hlt,hn⟩,hrg,⟨P,rfl,hnd⟩,f1,f2,λw h hw hl=>?_⟩)⟩;rw[tN7];exact⟨⟨by omega,by omega⟩,hw,⟨by omega,by omega⟩,λ_ _=>rfl,_,wal _,hR w h hw hl⟩
  ·have hix:ixB (λi=>qC (entB P) (g i)) n= -1:=by unfold ixB;rw[decide_eq_false hlt];rfl
   rw[hix];have e0:fstB (λi=>qC (entB P) (g i)) n=n:=by omega
   rw[e0] at f1;exact⟨λ_ _=>rfl,⟨rfl,rfl,rfl,rfl,hn,rfl,hrg,⟨P,rfl,hnd⟩⟩,λ_ _=>rfl,wak (λ_=>⟨λ_ _=>rfl,_,wal _,hR n g (lR7 _) (wfy f1).symm⟩) (λq=>absurd rfl q)⟩
 ·exact h.elim
end Go.Eng
