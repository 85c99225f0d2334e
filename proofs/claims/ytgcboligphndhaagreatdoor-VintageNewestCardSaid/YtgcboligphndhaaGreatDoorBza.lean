/- DeleteFunc and IndexFunc at files. -/
import Derived.Test.YtgcboligphndhaaGreatDoorBt
import Derived.Test.YtgcboligphndhaaGreatDoorBx
import Derived.Test.YtgcboligphndhaaGreatDoorBv
import Derived.Test.YtgcboligphndhaaGreatDoorBy
namespace Go.Eng
open Go.Proofs Go.RowKit
variable {C:Ctx} [C.Loose]
set_option maxRecDepth 20000
theorem nf_clD (F:FL) (d:Int) (R:AV→List (Nat×AObj)→Prop):wpFn te [] [] 0 Tryz.f143 [.agg [.str F.id,.int .i64 F.ver,.int .i64 F.day,.int .i64 F.kind,.view 15 F.ms.length (wah (atM F.ms)),.view 5 F.rs.length (wak (atR F.rs)),.view 5 F.ts.length (wai (atT F.ts))],.ptr 0 0] [.cells [.int .i64 d] 3] R=(R (.bool (decide (d<FL.day F))) [(0,.cells [.int .i64 d] 3)]):=by kernel_rfl
theorem nf_ixD (d:Int) (g:Nat→FL) (n:Nat) (R:AV→List (Nat×AObj)→Prop):wpFn te [(143,.det we0)] [(2,wms d g n)] 0 Tryz.f144 [.own 0 n,.func 143 [.ptr 1 0]] [.row 49 7 n (wab g) false,.cells [.int .i64 d] 3] R=(letI z0:=([(0,.row 49 7 n (wab g) false),(1,.cells [.int .i64 d] 3)]:List (Nat×AObj));(TEq [(0,.own 0 n),(1,.func 143 [.ptr 1 0]),(7,.int .i64 (↑n:Int)),(8,.int .i64 0)] [(0,.own 0 n),(1,.func 143 [.ptr 1 0]),(7,.int .i64 (↑n:Int)),(8,.int .i64 (↑0:Int))]∧wac z0 z0)∧n≤1000∧(∀ (i:Nat),i<n→FL.Rg (g i))∧True∧waa (decide (fstB (fun (i:Nat)=>qD d (g i)) n<n)) ((∀ (i:Nat),i<n→true=true)∧∃ (O':List (Nat×AObj)),wac z0 O'∧R (.int .i64 (↑(fstB (fun (i:Nat)=>qD d (g i)) n):Int)) O') ((∀ (i:Nat),i<n→true=true)∧∃ (O':List (Nat×AObj)),wac z0 O'∧R (.int .i64 (-1:Int)) O')):=by kernel_rfl
theorem ww4 (d:Int) (g:Nat→FL) (n k:Nat) (P:Nat→Prop) (R:Exit→St→Prop):wa2 ⟨te,[(143,.det we0)],[],2,19,0⟩ (wa4 Tryz.f144 2) [0,1,7,8] [] [4] (wlc d g n) P R (wlc d g n k)=(letI z2:=([(0,.row 49 7 n (wab g) false),(1,.cells [.int .i64 d] 3)]:List (Nat×AObj));letI z0:=(g (Int.toNat (↑k:Int)));letI z1:=flV (FL.id z0) (FL.ver z0) (FL.day z0) (FL.kind z0) (List.length (FL.ms z0)) (wah (atM (FL.ms z0))) (List.length (FL.rs z0)) (wak (atR (FL.rs z0))) (List.length (FL.ts z0)) (wai (atT (FL.ts z0)));waa (decide ((↑k:Int)<(↑n:Int))) (((0:Int)≤(↑k:Int)∧(↑k:Int)<(↑n:Int))∧(Int.toNat (↑k:Int)<n∧7=7)∧((FlC (List.length (FL.ms z0)) (wah (atM (FL.ms z0))) (List.length (FL.rs z0)) (wak (atR (FL.rs z0))) (List.length (FL.ts z0)) (wai (atT (FL.ts z0)))∧FL.Rg z1)∧3=3∧True)∧waa (qD d z1) ((∀ (i:Nat),i<n→true=true)∧∃ (O':List (Nat×AObj)),wac z2 O'∧R .ret (St.mk [(4,.int .i64 (↑k:Int))] O' 2 [])) (inR .i64 ((↑k:Int)+(1:Int))∧∃ (i':Nat),(TEq [(0,.own 0 n),(1,.func 143 [.ptr 1 0]),(7,.int .i64 (↑n:Int)),(8,.int .i64 ((↑k:Int)+(1:Int)))] [(0,.own 0 n),(1,.func 143 [.ptr 1 0]),(7,.int .i64 (↑n:Int)),(8,.int .i64 (↑i':Int))]∧wac z2 z2)∧P i')) ((∀ (i:Nat),i<n→true=true)∧∃ (O':List (Nat×AObj)),wac z2 O'∧R (.exit 0) (St.mk [] O' 2 []))):=by kernel_rfl
theorem nf_dfD (d:Int) (g:Nat→FL) (n:Nat) (R:AV→List (Nat×AObj)→Prop):wpFn te [(144,.det wld)] [(5,wm0 d g n (fstB (fun i=>qD d (g i)) n))] 0 Tryz.f100 [.own 0 n,.func 143 [.ptr 1 0]] [.row 49 7 n (wab g) false,.cells [.int .i64 d] 3] R=(letI z3:=(ixB (fun (i:Nat)=>qD d (flOf (wab g) i)) n+(1:Int));letI z2:=([(0,.row 49 7 n (wab g) false),(1,.cells [.int .i64 d] 3)]:List (Nat×AObj));letI z1:=(∀ (i:Nat),i<n→true=true:Prop);letI z0:=(FI.mk (fstB (fun (i:Nat)=>qD d (g i)) n+1) (fstB (fun (i:Nat)=>qD d (g i)) n) g);z1∧(49=49∧3=3∧false=false∧n=n∧n≤1000∧wab g=wab (flOf (wab g))∧(∀ (i:Nat),i<n→FL.Rg (flOf (wab g) i))∧True)∧z1∧waa (decide (ixB (fun (i:Nat)=>qD d (flOf (wab g) i)) n=(-1:Int))) (z1∧∃ (O':List (Nat×AObj)),wac z2 O'∧R (.own 0 n) O') (inR .i64 z3∧(TEq [(0,.own 0 n),(1,.func 143 [.ptr 1 0]),(5,.int .i64 (ixB (fun (i:Nat)=>qD d (flOf (wab g) i)) n)),(6,.int .i64 z3)] [(0,.own 0 n),(1,.func 143 [.ptr 1 0]),(5,.int .i64 (↑(FI.w z0):Int)),(6,.int .i64 (↑(FI.k z0):Int))]∧wac z2 [(0,.row 49 7 n (wab (FI.h z0)) false),(1,.cells [.int .i64 d] 3)])∧(fstB (fun (i:Nat)=>qD d (g i)) n<n∧n≤1000)∧(∀ (i:Nat),i<n→FL.Rg (g i))∧True∧(∀ (j:Nat),j<fstB (fun (i:Nat)=>qD d (g i)) n→qD d (g j)=false)∧qD d (g (fstB (fun (i:Nat)=>qD d (g i)) n))=true∧∀ (w:Nat) (h:Nat→FL),letI z4:=((0:Int)≤(↑w:Int)∧(↑w:Int)≤(↑n:Int):Prop);w≤n→lst h w=kfL (qD d) g n→z4∧Int.toNat (↑w:Int)≤n∧z4∧(∀ (i:Nat),i<Int.toNat (↑w:Int)→true=true)∧∃ (O':List (Nat×AObj)),wac [(0,.row 49 7 (Int.toNat (↑w:Int)) (wab h) false),(1,.cells [.int .i64 d] 3)] O'∧R (.own 0 (Int.toNat (↑w:Int))) O')):=by kernel_rfl
theorem wxh (d:Int) (n:Nat) (i:FI) (P:FI→Prop) (R:Exit→St→Prop):wa2 ⟨te,[(143,.det we0)],[],2,42,0⟩ (wa4 Tryz.f100 5) [0,1,5,6] [0,5] [] (wlt d n) P R (wlt d n i)=(letI z2:=([(0,.row 49 7 n (wab (FI.h i)) false),(1,.cells [.int .i64 d] 3)]:List (Nat×AObj));letI z0:=(FI.h i (Int.toNat (↑(FI.k i):Int)));letI z8:=wai (atT (FL.ts z0));letI z7:=List.length (FL.ts z0);letI z6:=wak (atR (FL.rs z0));letI z5:=List.length (FL.rs z0);letI z4:=wah (atM (FL.ms z0));letI z3:=List.length (FL.ms z0);letI z1:=flV (FL.id z0) (FL.ver z0) (FL.day z0) (FL.kind z0) z3 z4 z5 z6 z7 z8;waa (decide ((↑(FI.k i):Int)<(↑n:Int))) (((0:Int)≤(↑(FI.k i):Int)∧(↑(FI.k i):Int)<(↑n:Int))∧(Int.toNat (↑(FI.k i):Int)<n∧7=7)∧((FlC z3 z4 z5 z6 z7 z8∧FL.Rg z1)∧3=3∧True)∧waa (!qD d z1) (((0:Int)≤(↑(FI.w i):Int)∧(↑(FI.w i):Int)<(↑n:Int))∧(List.length [AV.str (FL.id z0),.int .i64 (FL.ver z0),.int .i64 (FL.day z0),.int .i64 (FL.kind z0),.view 15 z3 z4,.view 5 z5 z6,.view 5 z7 z8]=7∧Int.toNat (↑(FI.w i):Int)<n∧7=7)∧inR .i64 ((↑(FI.w i):Int)+(1:Int))∧inR .i64 ((↑(FI.k i):Int)+(1:Int))∧∃ (i':FI),(TEq [(0,.own 0 n),(1,.func 143 [.ptr 1 0]),(5,.int .i64 ((↑(FI.w i):Int)+(1:Int))),(6,.int .i64 ((↑(FI.k i):Int)+(1:Int)))] [(0,.own 0 n),(1,.func 143 [.ptr 1 0]),(5,.int .i64 (↑(FI.w i'):Int)),(6,.int .i64 (↑(FI.k i'):Int))]∧wac [(0,.row 49 7 n (fun (k:Nat)=>if k=Int.toNat (↑(FI.w i):Int) then [.str (FL.id z0),.int .i64 (FL.ver z0),.int .i64 (FL.day z0),.int .i64 (FL.kind z0),.view 15 z3 z4,.view 5 z5 z6,.view 5 z7 z8] else wab (FI.h i) k) false),(1,.cells [.int .i64 d] 3)] [(0,.row 49 7 n (wab (FI.h i')) false),(1,.cells [.int .i64 d] 3)])∧P i') (inR .i64 ((↑(FI.k i):Int)+(1:Int))∧∃ (i':FI),(TEq [(0,.own 0 n),(1,.func 143 [.ptr 1 0]),(5,.int .i64 (↑(FI.w i):Int)),(6,.int .i64 ((↑(FI.k i):Int)+(1:Int)))] [(0,.own 0 n),(1,.func 143 [.ptr 1 0]),(5,.int .i64 (↑(FI.w i'):Int)),(6,.int .i64 (↑(FI.k i'):Int))]∧wac z2 [(0,.row 49 7 n (wab (FI.h i')) false),(1,.cells [.int .i64 d] 3)])∧P i')) ((∀ (i:Nat),i<n→true=true)∧∃ (O':List (Nat×AObj)),wac z2 O'∧R (.exit 0) (St.mk [(0,.own 0 n),(5,.int .i64 (↑(FI.w i):Int))] O' 2 []))):=by kernel_rfl
theorem nf_clV (F:FL) (es:List (AV×AV)) (R:AV→List (Nat×AObj)→Prop):wpFn te [] [] 0 Tryz.f101 [.agg [.str F.id,.int .i64 F.ver,.int .i64 F.day,.int .i64 F.kind,.view 15 F.ms.length (wah (atM F.ms)),.view 5 F.rs.length (wak (atR F.rs)),.view 5 F.ts.length (wai (atT F.ts))],.ptr 0 0] [.cells [.map 1] 132,.amap es] R=(letI z2:=Option.getD (mget es (.str (FL.id F))) (zvA (.int .i64 0));letI z1:=(ren (List.length [AObj.cells [.map 1] (132:TypeId),.amap es]) []);letI z0:=([(0,.cells [.map 1] 132),(1,.amap (List.map (fun (p:AV×AV)=>(AV.rn z1 (Prod.fst p),AV.rn z1 (Prod.snd p))) es))]:List (Nat×AObj));waa (!decide (FL.kind F=(1:Int))) ((wbl (TI.desc (TI.mk TypeDesc.string 1 16 (Value.string (ByteArray.mk #[])) false)) es∧.int .i64 (was z2)=Option.getD (mget es (.str (FL.id F))) (zvA (.int .i64 0)))∧R (.bool (decide (FL.ver F<was z2))) z0) (R (.bool false) z0)):=by kernel_rfl
theorem nf_ixV (es:List (AV×AV)) (g:Nat→FL) (n:Nat) (R:AV→List (Nat×AObj)→Prop):wpFn te [(101,.det wez)] [(2,wmr es g n)] 0 Tryz.f144 [.own 0 n,.func 101 [.ptr 1 0]] [.row 49 7 n (wab g) false,.cells [.map 2] 132,.amap es] R=(letI z1:=(ren (List.length [AObj.row (49:TypeId) 7 n (wab g) false,.cells [.map 2] (132:TypeId),.amap es]) []);letI z0:=([(0,.row 49 7 n (wab g) false),(1,.cells [.map 2] 132),(List.length [AObj.cells [.map 2] (132:TypeId),.amap es],.amap (List.map (fun (p:AV×AV)=>(AV.rn z1 (Prod.fst p),AV.rn z1 (Prod.snd p))) es))]:List (Nat×AObj));(TEq [(0,.own 0 n),(1,.func 101 [.ptr 1 0]),(7,.int .i64 (↑n:Int)),(8,.int .i64 0)] [(0,.own 0 n),(1,.func 101 [.ptr 1 0]),(7,.int .i64 (↑n:Int)),(8,.int .i64 (↑0:Int))]∧wac [(0,.row 49 7 n (wab g) false),(1,.cells [.map 2] 132),(2,.amap (List.map (fun (p:AV×AV)=>(AV.rn (ren 3 []) (Prod.fst p),AV.rn (ren 3 []) (Prod.snd p))) es))] [(0,.row 49 7 n (wab g) false),(1,.cells [.map 2] 132),(2,.amap es)])∧n≤1000∧(∀ (i:Nat),i<n→FL.Rg (g i))∧EsV es∧waa (decide (fstB (fun (i:Nat)=>qV es (g i)) n<n)) ((∀ (i:Nat),i<n→true=true)∧∃ (O':List (Nat×AObj)),wac z0 O'∧R (.int .i64 (↑(fstB (fun (i:Nat)=>qV es (g i)) n):Int)) O') ((∀ (i:Nat),i<n→true=true)∧∃ (O':List (Nat×AObj)),wac z0 O'∧R (.int .i64 (-1:Int)) O')):=by kernel_rfl
theorem ww3 (es:List (AV×AV)) (g:Nat→FL) (n k:Nat) (P:Nat→Prop) (R:Exit→St→Prop):wa2 ⟨te,[(101,.det wez)],[],3,19,0⟩ (wa4 Tryz.f144 2) [0,1,7,8] [] [4] (wla es g n) P R (wla es g n k)=(letI z2:=(List.map (fun (p:AV×AV)=>(AV.rn (idxN [1,2]) (Prod.fst p),AV.rn (idxN [1,2]) (Prod.snd p))) es);letI z1:=([(0,.row 49 7 n (wab g) false),(1,.cells [.map 2] 132),(2,.amap (List.map (fun (p:AV×AV)=>(AV.rn (ren 3 []) (Prod.fst p),AV.rn (ren 3 []) (Prod.snd p))) (List.map (fun (p:AV×AV)=>(AV.rn (sig [1,2] 3) (Prod.fst p),AV.rn (sig [1,2] 3) (Prod.snd p))) z2)))]:List (Nat×AObj));letI z0:=(g (Int.toNat (↑k:Int)));letI z3:=flV (FL.id z0) (FL.ver z0) (FL.day z0) (FL.kind z0) (List.length (FL.ms z0)) (wah (atM (FL.ms z0))) (List.length (FL.rs z0)) (wak (atR (FL.rs z0))) (List.length (FL.ts z0)) (wai (atT (FL.ts z0)));waa (decide ((↑k:Int)<(↑n:Int))) (((0:Int)≤(↑k:Int)∧(↑k:Int)<(↑n:Int))∧(Int.toNat (↑k:Int)<n∧7=7)∧((FlC (List.length (FL.ms z0)) (wah (atM (FL.ms z0))) (List.length (FL.rs z0)) (wak (atR (FL.rs z0))) (List.length (FL.ts z0)) (wai (atT (FL.ts z0)))∧FL.Rg z3)∧132=132∧EsV z2)∧waa (qV z2 z3) ((∀ (i:Nat),i<n→true=true)∧∃ (O':List (Nat×AObj)),wac z1 O'∧R .ret (St.mk [(4,.int .i64 (↑k:Int))] O' 3 [])) (inR .i64 ((↑k:Int)+(1:Int))∧∃ (i':Nat),(TEq [(0,.own 0 n),(1,.func 101 [.ptr 1 0]),(7,.int .i64 (↑n:Int)),(8,.int .i64 ((↑k:Int)+(1:Int)))] [(0,.own 0 n),(1,.func 101 [.ptr 1 0]),(7,.int .i64 (↑n:Int)),(8,.int .i64 (↑i':Int))]∧wac z1 [(0,.row 49 7 n (wab g) false),(1,.cells [.map 2] 132),(2,.amap es)])∧P i')) ((∀ (i:Nat),i<n→true=true)∧∃ (O':List (Nat×AObj)),wac [(0,.row 49 7 n (wab g) false),(1,.cells [.map 2] 132),(2,.amap (List.map (fun (p:AV×AV)=>(AV.rn (ren 3 []) (Prod.fst p),AV.rn (ren 3 []) (Prod.snd p))) es))] O'∧R (.exit 0) (St.mk [] O' 3 []))):=by kernel_rfl
theorem nf_dfV (es:List (AV×AV)) (g:Nat→FL) (n:Nat) (R:AV→List (Nat×AObj)→Prop):wpFn te [(144,.det wlb)] [(5,wmz es g n (fstB (fun i=>qV es (g i)) n))] 0 Tryz.f100 [.own 0 n,.func 101 [.ptr 1 0]] [.row 49 7 n (wab g) false,.cells [.map 2] 132,.amap es] R=(letI z4:=(∀ (i:Nat),i<n→true=true:Prop);letI z2:=(FI.mk (fstB (fun (i:Nat)=>qV es (g i)) n+1) (fstB (fun (i:Nat)=>qV es (g i)) n) g);letI z1:=(ren (List.length [AObj.row (49:TypeId) 7 n (wab g) false,.cells [.map 2] (132:TypeId),.amap es]) []);letI z0:=(List.map (fun (p:AV×AV)=>(AV.rn (idxN [0,1,2]) (Prod.fst p),AV.rn (idxN [0,1,2]) (Prod.snd p))) es);letI z5:=(ixB (fun (i:Nat)=>qV z0 (flOf (wab g) i)) n+(1:Int));letI z3:=(List.map (fun (p:AV×AV)=>(AV.rn (sig [0,1,2] 3) (Prod.fst p),AV.rn (sig [0,1,2] 3) (Prod.snd p))) z0);z4∧(49=49∧132=132∧false=false∧n=n∧n≤1000∧wab g=wab (flOf (wab g))∧(∀ (i:Nat),i<n→FL.Rg (flOf (wab g) i))∧EsV z0)∧z4∧waa (decide (ixB (fun (i:Nat)=>qV z0 (flOf (wab g) i)) n=(-1:Int))) (z4∧∃ (O':List (Nat×AObj)),wac [(0,.row 49 7 n (wab g) false),(1,.cells [.map 2] 132),(List.length [AObj.cells [.map 2] (132:TypeId),.amap es],.amap (List.map (fun (p:AV×AV)=>(AV.rn z1 (Prod.fst p),AV.rn z1 (Prod.snd p))) z3))] O'∧R (.own 0 n) O') (inR .i64 z5∧(TEq [(0,.own 0 n),(1,.func 101 [.ptr 1 0]),(5,.int .i64 (ixB (fun (i:Nat)=>qV z0 (flOf (wab g) i)) n)),(6,.int .i64 z5)] [(0,.own 0 n),(1,.func 101 [.ptr 1 0]),(5,.int .i64 (↑(FI.w z2):Int)),(6,.int .i64 (↑(FI.k z2):Int))]∧wac [(0,.row 49 7 n (wab g) false),(1,.cells [.map 2] 132),(2,.amap (List.map (fun (p:AV×AV)=>(AV.rn (ren 3 []) (Prod.fst p),AV.rn (ren 3 []) (Prod.snd p))) z3))] [(0,.row 49 7 n (wab (FI.h z2)) false),(1,.cells [.map 2] 132),(2,.amap es)])∧(fstB (fun (i:Nat)=>qV es (g i)) n<n∧n≤1000)∧(∀ (i:Nat),i<n→FL.Rg (g i))∧EsV es∧(∀ (j:Nat),j<fstB (fun (i:Nat)=>qV es (g i)) n→qV es (g j)=false)∧qV es (g (fstB (fun (i:Nat)=>qV es (g i)) n))=true∧∀ (w:Nat) (h:Nat→FL),letI z6:=((0:Int)≤(↑w:Int)∧(↑w:Int)≤(↑n:Int):Prop);w≤n→lst h w=kfL (qV es) g n→z6∧Int.toNat (↑w:Int)≤n∧z6∧(∀ (i:Nat),i<Int.toNat (↑w:Int)→true=true)∧∃ (O':List (Nat×AObj)),wac [(0,.row 49 7 (Int.toNat (↑w:Int)) (wab h) false),(1,.cells [.map 2] 132),(List.length [AObj.cells [.map 2] (132:TypeId),.amap es],.amap (List.map (fun (p:AV×AV)=>(AV.rn z1 (Prod.fst p),AV.rn z1 (Prod.snd p))) es))] O'∧R (.own 0 (Int.toNat (↑w:Int))) O')):=by kernel_rfl
theorem wxg (es:List (AV×AV)) (n:Nat) (i:FI) (P:FI→Prop) (R:Exit→St→Prop):wa2 ⟨te,[(101,.det wez)],[],3,42,0⟩ (wa4 Tryz.f100 5) [0,1,5,6] [0,5] [] (wls es n) P R (wls es n i)=(letI z1:=(List.map (fun (p:AV×AV)=>(AV.rn (idxN [1,2]) (Prod.fst p),AV.rn (idxN [1,2]) (Prod.snd p))) es);letI z2:=(List.map (fun (p:AV×AV)=>(AV.rn (ren 3 []) (Prod.fst p),AV.rn (ren 3 []) (Prod.snd p))) (List.map (fun (p:AV×AV)=>(AV.rn (sig [1,2] 5) (Prod.fst p),AV.rn (sig [1,2] 5) (Prod.snd p))) z1));letI z0:=(FI.h i (Int.toNat (↑(FI.k i):Int)));letI z9:=wai (atT (FL.ts z0));letI z8:=List.length (FL.ts z0);letI z7:=wak (atR (FL.rs z0));letI z6:=List.length (FL.rs z0);letI z5:=wah (atM (FL.ms z0));letI z4:=List.length (FL.ms z0);letI z3:=flV (FL.id z0) (FL.ver z0) (FL.day z0) (FL.kind z0) z4 z5 z6 z7 z8 z9;waa (decide ((↑(FI.k i):Int)<(↑n:Int))) (((0:Int)≤(↑(FI.k i):Int)∧(↑(FI.k i):Int)<(↑n:Int))∧(Int.toNat (↑(FI.k i):Int)<n∧7=7)∧((FlC z4 z5 z6 z7 z8 z9∧FL.Rg z3)∧132=132∧EsV z1)∧waa (!qV z1 z3) (((0:Int)≤(↑(FI.w i):Int)∧(↑(FI.w i):Int)<(↑n:Int))∧(List.length [AV.str (FL.id z0),.int .i64 (FL.ver z0),.int .i64 (FL.day z0),.int .i64 (FL.kind z0),.view 15 z4 z5,.view 5 z6 z7,.view 5 z8 z9]=7∧Int.toNat (↑(FI.w i):Int)<n∧7=7)∧inR .i64 ((↑(FI.w i):Int)+(1:Int))∧inR .i64 ((↑(FI.k i):Int)+(1:Int))∧∃ (i':FI),(TEq [(0,.own 0 n),(1,.func 101 [.ptr 1 0]),(5,.int .i64 ((↑(FI.w i):Int)+(1:Int))),(6,.int .i64 ((↑(FI.k i):Int)+(1:Int)))] [(0,.own 0 n),(1,.func 101 [.ptr 1 0]),(5,.int .i64 (↑(FI.w i'):Int)),(6,.int .i64 (↑(FI.k i'):Int))]∧wac [(0,.row 49 7 n (fun (k:Nat)=>if k=Int.toNat (↑(FI.w i):Int) then [.str (FL.id z0),.int .i64 (FL.ver z0),.int .i64 (FL.day z0),.int .i64 (FL.kind z0),.view 15 z4 z5,.view 5 z6 z7,.view 5 z8 z9] else wab (FI.h i) k) false),(1,.cells [.map 2] 132),(2,.amap z2)] [(0,.row 49 7 n (wab (FI.h i')) false),(1,.cells [.map 2] 132),(2,.amap es)])∧P i') (inR .i64 ((↑(FI.k i):Int)+(1:Int))∧∃ (i':FI),(TEq [(0,.own 0 n),(1,.func 101 [.ptr 1 0]),(5,.int .i64 (↑(FI.w i):Int)),(6,.int .i64 ((↑(FI.k i):Int)+(1:Int)))] [(0,.own 0 n),(1,.func 101 [.ptr 1 0]),(5,.int .i64 (↑(FI.w i'):Int)),(6,.int .i64 (↑(FI.k i'):Int))]∧wac [(0,.row 49 7 n (wab (FI.h i)) false),(1,.cells [.map 2] 132),(2,.amap z2)] [(0,.row 49 7 n (wab (FI.h i')) false),(1,.cells [.map 2] 132),(2,.amap es)])∧P i')) ((∀ (i:Nat),i<n→true=true)∧∃ (O':List (Nat×AObj)),wac [(0,.row 49 7 n (wab (FI.h i)) false),(1,.cells [.map 2] 132),(2,.amap (List.map (fun (p:AV×AV)=>(AV.rn (ren 3 []) (Prod.fst p),AV.rn (ren 3 []) (Prod.snd p))) es))] O'∧R (.exit 0) (St.mk [(0,.own 0 n),(5,.int .i64 (↑(FI.w i):Int))] O' 3 []))):=by kernel_rfl
theorem wf8 (σ:Nat→Option Nat) (K:List (List UInt8)) (v:List UInt8→Int):(entI K v).map (fun p=>(AV.rn σ p.1,AV.rn σ p.2))=entI K v:=by
 unfold entI
 rw [List.map_map]
 rfl
theorem wtf {K:List (List UInt8)} {v:List UInt8→Int} (h:K.Nodup):wbl .string (entI K v):=by
 refine ⟨List.all_eq_true.2 fun p hp=>?_,?_⟩
 ·obtain ⟨r,_,rfl⟩:=List.mem_map.1 hp
  rfl
 ·unfold entI
  rw [List.map_map]
  refine List.pairwise_map.2 (h.imp fun {a b} hab he=>hab ?_)
  have he:AV.str a=AV.str b:=he
  injection he
theorem wn6 (v:List UInt8→Int) (x:List UInt8):∀ K,Option.getD (mget (entI K v) (.str x)) (.int .i64 0)= .int .i64 (if x∈K then v x else 0)
 |[]=>rfl
 |t::K=>by
  show Option.getD (match keq (.str t) (.str x) with | true=>some (AV.int .i64 (v t)) | false=>mget (entI K v) (.str x)) (.int .i64 0)=_
  have ih:=wn6 v x K
  rw [wf4]
  by_cases h:t=x
  ·subst h;simp
  ·have h':¬ x=t:=fun e=>h e.symm
   rw [decide_eq_false h]
   simp only [List.mem_cons,h',false_or]
   exact ih
theorem wff (q:FL→Bool) (g:Nat→FL) (k:Nat):kfL q g (k+1)=kfL q g k++bif q (g k) then [] else [g k]:=by
 unfold kfL
 rw [whh,List.filter_append]
 cases h:q (g k)<;>simp [h]
theorem whn {q:FL→Bool} {g:Nat→FL}:∀ {k:Nat},(∀ j,j<k→q (g j)=false)→kfL q g k=lst g k
 |0,_=>rfl
 |k+1,h=>by
  rw [wff,whn fun j hj=>h j (by omega),h k (by omega),whh];rfl
theorem wo9 (hP:C.P=Tryz.prog):wad C 143 we0:=by
 have _:C.Loose:=inferInstance
 rintro args objs U Os vc h hvc
 unfold we0 at h
 split at h<;>simp only [Option.some.injEq,Prod.mk.injEq,reduceCtorEq] at h
 rename_i id ver day kind nm fm nr fr nt ft d t2
 obtain ⟨rfl,rfl,rfl⟩:=h
 obtain ⟨⟨hc,hs⟩,rfl,hE⟩:=hvc
 have l1:(lst (mgOf fm) nm).length=nm:=by simp [lst]
 have l2:(lst (rwOf fr) nr).length=nr:=by simp [lst]
 have l3:(lst (rtOf ft) nt).length=nt:=by simp [lst]
 obtain ⟨c1,c2,c3⟩:=hc
 unfold flV at hs ⊢
 generalize lst (mgOf fm) nm=ms at *
 generalize lst (rwOf fr) nr=rs at *
 generalize lst (rtOf ft) nt=ts at *
 subst l1;subst l2;subst l3;subst c1;subst c2;subst c3
 refine wad.wp0 (prg hP) [] 0 .nil (hP ▸ Tryz.func143) rfl rfl rfl ?_
 refine (nf_clD ⟨id,ver,day,kind,ms,rs,ts⟩ d _).mpr ?_
 exact ⟨rfl,rfl⟩
theorem wyn (hP:C.P=Tryz.prog) (d:Int) (g:Nat→FL) (n:Nat):wae C 2 19 (wan Tryz.f144 2) (wms d g n):=by
 rintro st Q ⟨h0,hn,hrg,hE,hQ⟩
 have hR:=wb4 hQ
 refine wae.mk (prg hP) [(143,.det we0)] 0 (.cons (wo9 hP) .nil) [0,1,7,8] [] [4] (wlc d g n) (fun k=>k≤n∧fstB (fun i=>qD d (g i)) k=k) (fun k=>n - k) 0 ⟨Nat.zero_le _,rfl⟩ h0 (fun k hk=>?_) (fun i=>⟨fun _ _=>rfl,trivial⟩)
 obtain ⟨hkn,hok⟩:=hk
 rw [ww4,Int.toNat_natCast,wd7]
 refine war (fun h1=>?_) (fun h1=>?_)
 ·refine ⟨⟨by omega,by omega⟩,⟨by omega,rfl⟩,⟨⟨wep _,hrg k (by omega)⟩,rfl,trivial⟩,wat (fun h2=>?_) (fun h2=>⟨by simp only [inR];omega,k+1,⟨rfl,wam _⟩,⟨by omega,whv hok h2⟩,by omega⟩)⟩
  have e:=whx hok h2 n (by omega)
  have:=hR.1 (by rw [e,decide_eq_true];omega)
  rw [e] at this
  exact ⟨fun _ _=>rfl,_,wam _,this⟩
 ·have:k=n:=by omega
  subst this
  exact ⟨fun _ _=>rfl,_,wam _,hR.2 (by rw [hok,decide_eq_false];omega)⟩
theorem ixD_ok (hP:C.P=Tryz.prog):wad C 144 wld:=by
 rintro args objs U Os vc h hvc
 unfold wld at h
 split at h<;>simp only [Option.some.injEq,Prod.mk.injEq,reduceCtorEq] at h
 rename_i n t m f fr d t2
 obtain ⟨rfl,rfl,rfl⟩:=h
 obtain ⟨rfl,rfl,rfl,rfl,hn,hf,hrg,hE⟩:=hvc
 generalize flOf f=g at *
 subst hf
 refine wad.wpL (prg hP) [(143,.det we0)] [(2,wms d g n)] 0 (.cons (wo9 hP) .nil) (hP ▸ Tryz.func144) rfl rfl rfl [(wan Tryz.f144 2,wms d g n)] (by kernel_rfl) ⟨wyn hP _ g n,trivial⟩ ?_
 rw [nf_ixD]
 unfold ixB
 refine ⟨⟨rfl,wam _⟩,hn,hrg,trivial,war (fun h=>?_) (fun h=>?_)⟩
 ·rw [decide_eq_true h];exact ⟨fun _ _=>rfl,_,wam _,rfl,rfl⟩
 ·rw [decide_eq_false h];exact ⟨fun _ _=>rfl,_,wam _,rfl,rfl⟩
theorem wzr (hP:C.P=Tryz.prog) (d:Int) (g:Nat→FL) (n i0:Nat):wae C 2 42 (wan Tryz.f100 5) (wm0 d g n i0):=by
 rintro st Q ⟨h0,⟨hi0,hn⟩,hrg,hE,hall,hdel,hQ⟩
 refine wae.mk (prg hP) [(143,.det we0)] 0 (.cons (wo9 hP) .nil) [0,1,5,6] [0,5] [] (wlt d n) (fun i=>i.k≤n∧i.w<i.k∧lst i.h i.w=kfL (qD d) g i.k∧∀ j,i.w≤j→i.h j=g j) (fun i=>n - i.k) ⟨i0+1,i0,g⟩
  ⟨hi0,Nat.lt_succ_self _,?_,fun _ _=>rfl⟩ h0 (fun i hi=>?_) (fun i=>⟨fun _ _=>rfl,trivial⟩)
 ·show lst g i0=kfL (qD d) g (i0+1)
  rw [wff,hdel,whn hall];simp
 obtain ⟨k,w,h⟩:=i
 obtain ⟨i1,i2,i3,i4⟩:=hi
 dsimp only at i1 i2 i3 i4
 rw [wxh]
 dsimp only
 rw [Int.toNat_natCast,Int.toNat_natCast,wd7]
 refine war (fun h1=>?_) (fun h1=>?_)
 ·have hk:k<n:=by omega
  have r1:h k=g k:=i4 _ (by omega)
  refine ⟨⟨by omega,by omega⟩,⟨by omega,rfl⟩,⟨⟨wep _,by rw [r1];exact hrg k hk⟩,rfl,trivial⟩,wcq (fun q=>?_) (fun q=>?_)⟩
  ·have q:qD d (h k)=false:=q
   rw [r1] at q
   refine ⟨⟨by omega,by omega⟩,⟨rfl,by omega,rfl⟩,by simp only [inR];omega,by simp only [inR];omega,⟨k+1,w+1,fun j=>if j=w then h k else h j⟩,⟨rfl,⟨rfl,rfl,rfl,rfl,rfl,fun j hj=>?_⟩,rfl,trivial⟩,⟨hk,?_,?_,fun j hj=>?_⟩,?_⟩
   ·unfold wab
    by_cases e:j=w
    ·simp only [e,if_true]
    ·simp only [e,if_false]
   ·show w+1<k+1
    omega
   ·show lst (fun j=>if j=w then h k else h j) (w+1)=kfL (qD d) g (k+1)
    have e:lst (fun j=>if j=w then h k else h j) w=lst h w:=List.map_congr_left fun j hj=>by
     have:=List.mem_range.1 hj
     rw [if_neg (by omega)]
    rw [whh,wff,q,e,i3,if_pos rfl,r1];rfl
   ·have hj:w+1≤j:=hj
    show (if j=w then h k else h j)=g j
    rw [if_neg (by omega)]
    exact i4 j (by omega)
   ·show n - (k+1)<n - k
    omega
  ·have q:qD d (h k)=true:=q
   rw [r1] at q
   refine ⟨by simp only [inR];omega,⟨k+1,w,h⟩,⟨rfl,wam _⟩,⟨hk,?_,?_,i4⟩,?_⟩
   ·show w<k+1
    omega
   ·show lst h w=kfL (qD d) g (k+1)
    rw [wff,q,i3];simp
   ·show n - (k+1)<n - k
    omega
 ·have:k=n:=by omega
  subst this
  exact ⟨fun _ _=>rfl,_,wam _,hQ w h (by omega) i3⟩
theorem delD_ok (hP:C.P=Tryz.prog):wbs C 100 wma:=by
 rintro args objs R h
 unfold wma at h
 split at h
 ·rename_i n t m f fr d t2
  obtain ⟨rfl,rfl,rfl,rfl,hn,hf,hrg,hE,hR⟩:=h
  generalize flOf f=g at *
  subst hf
  refine wbs.wpL (prg hP) [(144,.det wld)] [(5,wm0 d g n (fstB (fun i=>qD d (g i)) n))] 0 (.cons (ixD_ok hP) .nil) (hP ▸ Tryz.func100) rfl rfl rfl [(wan Tryz.f100 5,wm0 d g n (fstB (fun i=>qD d (g i)) n))] (by kernel_rfl) ⟨wzr hP _ g n _,trivial⟩ ?_
  rw [nf_dfD]
  rw [wcx]
  obtain ⟨f1,f2⟩:=wjn (fun i=>qD d (g i)) n
  have fle:=whw (fun i=>qD d (g i)) n
  by_cases hlt:fstB (fun i=>qD d (g i)) n<n
  ·have hix:ixB (fun i=>qD d (g i)) n=(fstB (fun i=>qD d (g i)) n:Int):=by unfold ixB;rw [decide_eq_true hlt];rfl
   rw [hix]
   have f2:=f2 hlt
   generalize fstB (fun i=>qD d (g i)) n=i0 at *
   refine ⟨fun _ _=>rfl,⟨rfl,rfl,rfl,rfl,hn,rfl,hrg,trivial⟩,fun _ _=>rfl,war (fun q=>absurd q (by omega)) (fun _=>⟨by simp only [inR];omega,⟨rfl,wam _⟩,⟨hlt,hn⟩,hrg,trivial,f1,f2,fun w h hw hl=>?_⟩)⟩
   rw [Int.toNat_natCast]
   exact ⟨⟨by omega,by omega⟩,hw,⟨by omega,by omega⟩,fun _ _=>rfl,_,wam _,hR w h hw hl⟩
  ·have hix:ixB (fun i=>qD d (g i)) n= -1:=by unfold ixB;rw [decide_eq_false hlt];rfl
   rw [hix]
   have e0:fstB (fun i=>qD d (g i)) n=n:=by omega
   rw [e0] at f1
   exact ⟨fun _ _=>rfl,⟨rfl,rfl,rfl,rfl,hn,rfl,hrg,trivial⟩,fun _ _=>rfl,war (fun _=>⟨fun _ _=>rfl,_,wam _,hR n g (Nat.le_refl _) (whn f1).symm⟩) (fun q=>absurd rfl q)⟩
 ·exact h.elim
theorem wo8 (hP:C.P=Tryz.prog):wad C 101 wez:=by
 have _:C.Loose:=inferInstance
 rintro args objs U Os vc h hvc
 unfold wez at h
 split at h<;>simp only [Option.some.injEq,Prod.mk.injEq,reduceCtorEq] at h
 rename_i id ver day kind nm fm nr fr nt ft es t2
 obtain ⟨rfl,rfl,rfl⟩:=h
 obtain ⟨⟨hc,hs⟩,rfl,hE⟩:=hvc
 have l1:(lst (mgOf fm) nm).length=nm:=by simp [lst]
 have l2:(lst (rwOf fr) nr).length=nr:=by simp [lst]
 have l3:(lst (rtOf ft) nt).length=nt:=by simp [lst]
 obtain ⟨c1,c2,c3⟩:=hc
 unfold flV at hs ⊢
 generalize lst (mgOf fm) nm=ms at *
 generalize lst (rwOf fr) nr=rs at *
 generalize lst (rtOf ft) nt=ts at *
 subst l1;subst l2;subst l3;subst c1;subst c2;subst c3
 obtain ⟨P,v,rfl,hnd⟩:=hE
 refine wad.wp0 (prg hP) [] 0 .nil (hP ▸ Tryz.func101) rfl rfl rfl ?_
 refine (nf_clV ⟨id,ver,day,kind,ms,rs,ts⟩ (entI P v) _).mpr ?_
 repeat rw [wf8]
 have hk:wbl .string (entI P v):=wtf hnd
 have hm:=wn6 v id P
 have hq:qV (entI P v) ⟨id,ver,day,kind,ms,rs,ts⟩=(!decide (kind=1) && decide (ver<was ((mget (entI P v) (.str id)).getD (.int .i64 0)))):=rfl
 rw [hq]
 refine wc0 (fun h1=>⟨⟨hk,?_⟩,?_,rfl⟩) (fun h1=>⟨?_,rfl⟩)
 ·show AV.int .i64 (was (Option.getD (mget (entI P v) (.str id)) (.int .i64 0)))=Option.getD (mget (entI P v) (.str id)) (.int .i64 0)
  rw [hm]
  first | done | rfl
 ·have h1:¬ kind=1:=h1
  rw [decide_eq_false h1];rfl
 ·have h1:kind=1:=h1
  rw [decide_eq_true h1];rfl
theorem wym (hP:C.P=Tryz.prog) (es:List (AV×AV)) (g:Nat→FL) (n:Nat):wae C 3 19 (wan Tryz.f144 2) (wmr es g n):=by
 rintro st Q ⟨h0,hn,hrg,hE,hQ⟩
 obtain ⟨P,v,rfl,hnd⟩:=hE
 have hR:=wb4 hQ
 refine wae.mk (prg hP) [(101,.det wez)] 0 (.cons (wo8 hP) .nil) [0,1,7,8] [] [4] (wla (entI P v) g n) (fun k=>k≤n∧fstB (fun i=>qV (entI P v) (g i)) k=k) (fun k=>n - k) 0 ⟨Nat.zero_le _,rfl⟩ h0 (fun k hk=>?_) (fun i=>⟨fun _ _=>rfl,trivial⟩)
 obtain ⟨hkn,hok⟩:=hk
 rw [ww3,Int.toNat_natCast,wd7]
 repeat rw [wf8]
 refine war (fun h1=>?_) (fun h1=>?_)
 ·refine ⟨⟨by omega,by omega⟩,⟨by omega,rfl⟩,⟨⟨wep _,hrg k (by omega)⟩,rfl,⟨P,v,rfl,hnd⟩⟩,wat (fun h2=>?_) (fun h2=>⟨by simp only [inR];omega,k+1,⟨rfl,wam _⟩,⟨by omega,whv hok h2⟩,by omega⟩)⟩
  have e:=whx hok h2 n (by omega)
  have:=hR.1 (by rw [e,decide_eq_true];omega)
  rw [e] at this
  exact ⟨fun _ _=>rfl,_,wam _,this⟩
 ·have:k=n:=by omega
  subst this
  exact ⟨fun _ _=>rfl,_,wam _,hR.2 (by rw [hok,decide_eq_false];omega)⟩
theorem ixV_ok (hP:C.P=Tryz.prog):wad C 144 wlb:=by
 rintro args objs U Os vc h hvc
 unfold wlb at h
 split at h<;>simp only [Option.some.injEq,Prod.mk.injEq,reduceCtorEq] at h
 rename_i n t m f fr es t2
 obtain ⟨rfl,rfl,rfl⟩:=h
 obtain ⟨rfl,rfl,rfl,rfl,hn,hf,hrg,hE⟩:=hvc
 generalize flOf f=g at *
 subst hf
 obtain ⟨P,v,rfl,hnd⟩:=hE
 refine wad.wpL (prg hP) [(101,.det wez)] [(2,wmr (entI P v) g n)] 0 (.cons (wo8 hP) .nil) (hP ▸ Tryz.func144) rfl rfl rfl [(wan Tryz.f144 2,wmr (entI P v) g n)] (by kernel_rfl) ⟨wym hP _ g n,trivial⟩ ?_
 rw [nf_ixV]
 repeat rw [wf8]
 unfold ixB
 refine ⟨⟨rfl,wam _⟩,hn,hrg,⟨P,v,rfl,hnd⟩,war (fun h=>?_) (fun h=>?_)⟩
 ·rw [decide_eq_true h];exact ⟨fun _ _=>rfl,_,wam _,rfl,rfl⟩
 ·rw [decide_eq_false h];exact ⟨fun _ _=>rfl,_,wam _,rfl,rfl⟩
theorem wzq (hP:C.P=Tryz.prog) (es:List (AV×AV)) (g:Nat→FL) (n i0:Nat):wae C 3 42 (wan Tryz.f100 5) (wmz es g n i0):=by
 rintro st Q ⟨h0,⟨hi0,hn⟩,hrg,hE,hall,hdel,hQ⟩
 obtain ⟨P,v,rfl,hnd⟩:=hE
 refine wae.mk (prg hP) [(101,.det wez)] 0 (.cons (wo8 hP) .nil) [0,1,5,6] [0,5] [] (wls (entI P v) n) (fun i=>i.k≤n∧i.w<i.k∧lst i.h i.w=kfL (qV (entI P v)) g i.k∧∀ j,i.w≤j→i.h j=g j) (fun i=>n - i.k) ⟨i0+1,i0,g⟩
  ⟨hi0,Nat.lt_succ_self _,?_,fun _ _=>rfl⟩ h0 (fun i hi=>?_) (fun i=>⟨fun _ _=>rfl,trivial⟩)
 ·show lst g i0=kfL (qV (entI P v)) g (i0+1)
  rw [wff,hdel,whn hall];simp
 obtain ⟨k,w,h⟩:=i
 obtain ⟨i1,i2,i3,i4⟩:=hi
 dsimp only at i1 i2 i3 i4
 rw [wxg]
 dsimp only
 rw [Int.toNat_natCast,Int.toNat_natCast,wd7]
 repeat rw [wf8]
 refine war (fun h1=>?_) (fun h1=>?_)
 ·have hk:k<n:=by omega
  have r1:h k=g k:=i4 _ (by omega)
  refine ⟨⟨by omega,by omega⟩,⟨by omega,rfl⟩,⟨⟨wep _,by rw [r1];exact hrg k hk⟩,rfl,⟨P,v,rfl,hnd⟩⟩,wcq (fun q=>?_) (fun q=>?_)⟩
  ·have q:qV (entI P v) (h k)=false:=q
   rw [r1] at q
   refine ⟨⟨by omega,by omega⟩,⟨rfl,by omega,rfl⟩,by simp only [inR];omega,by simp only [inR];omega,⟨k+1,w+1,fun j=>if j=w then h k else h j⟩,⟨rfl,⟨rfl,rfl,rfl,rfl,rfl,fun j hj=>?_⟩,rfl,rfl,trivial⟩,⟨hk,?_,?_,fun j hj=>?_⟩,?_⟩
   ·unfold wab
    by_cases e:j=w
    ·simp only [e,if_true]
    ·simp only [e,if_false]
   ·show w+1<k+1
    omega
   ·show lst (fun j=>if j=w then h k else h j) (w+1)=kfL (qV (entI P v)) g (k+1)
    have e:lst (fun j=>if j=w then h k else h j) w=lst h w:=List.map_congr_left fun j hj=>by
     have:=List.mem_range.1 hj
     rw [if_neg (by omega)]
    rw [whh,wff,q,e,i3,if_pos rfl,r1];rfl
   ·have hj:w+1≤j:=hj
    show (if j=w then h k else h j)=g j
    rw [if_neg (by omega)]
    exact i4 j (by omega)
   ·show n - (k+1)<n - k
    omega
  ·have q:qV (entI P v) (h k)=true:=q
   rw [r1] at q
   refine ⟨by simp only [inR];omega,⟨k+1,w,h⟩,⟨rfl,wam _⟩,⟨hk,?_,?_,i4⟩,?_⟩
   ·show w<k+1
    omega
   ·show lst h w=kfL (qV (entI P v)) g (k+1)
    rw [wff,q,i3];simp
   ·show n - (k+1)<n - k
    omega
 ·have:k=n:=by omega
  subst this
  exact ⟨fun _ _=>rfl,_,wam _,hQ w h (by omega) i3⟩
theorem delV_ok (hP:C.P=Tryz.prog):wbs C 100 wl9:=by
 rintro args objs R h
 unfold wl9 at h
 split at h
 ·rename_i n t m f fr es t2
  obtain ⟨rfl,rfl,rfl,rfl,hn,hf,hrg,hE,hR⟩:=h
  generalize flOf f=g at *
  subst hf
  obtain ⟨P,v,rfl,hnd⟩:=hE
  refine wbs.wpL (prg hP) [(144,.det wlb)] [(5,wmz (entI P v) g n (fstB (fun i=>qV (entI P v) (g i)) n))] 0 (.cons (ixV_ok hP) .nil) (hP ▸ Tryz.func100) rfl rfl rfl [(wan Tryz.f100 5,wmz (entI P v) g n (fstB (fun i=>qV (entI P v) (g i)) n))] (by kernel_rfl) ⟨wzq hP _ g n _,trivial⟩ ?_
  rw [nf_dfV]
  repeat rw [wf8]
  rw [wcx]
  obtain ⟨f1,f2⟩:=wjn (fun i=>qV (entI P v) (g i)) n
  have fle:=whw (fun i=>qV (entI P v) (g i)) n
  by_cases hlt:fstB (fun i=>qV (entI P v) (g i)) n<n
  ·have hix:ixB (fun i=>qV (entI P v) (g i)) n=(fstB (fun i=>qV (entI P v) (g i)) n:Int):=by unfold ixB;rw [decide_eq_true hlt];rfl
   rw [hix]
   have f2:=f2 hlt
   generalize fstB (fun i=>qV (entI P v) (g i)) n=i0 at *
   refine ⟨fun _ _=>rfl,⟨rfl,rfl,rfl,rfl,hn,rfl,hrg,⟨P,v,rfl,hnd⟩⟩,fun _ _=>rfl,war (fun q=>absurd q (by omega)) (fun _=>⟨by simp only [inR];omega,⟨rfl,wam _⟩,⟨hlt,hn⟩,hrg,⟨P,v,rfl,hnd⟩,f1,f2,fun w h hw hl=>?_⟩)⟩
   rw [Int.toNat_natCast]
   exact ⟨⟨by omega,by omega⟩,hw,⟨by omega,by omega⟩,fun _ _=>rfl,_,wam _,hR w h hw hl⟩
  ·have hix:ixB (fun i=>qV (entI P v) (g i)) n= -1:=by unfold ixB;rw [decide_eq_false hlt];rfl
   rw [hix]
   have e0:fstB (fun i=>qV (entI P v) (g i)) n=n:=by omega
   rw [e0] at f1
   exact ⟨fun _ _=>rfl,⟨rfl,rfl,rfl,rfl,hn,rfl,hrg,⟨P,v,rfl,hnd⟩⟩,fun _ _=>rfl,war (fun _=>⟨fun _ _=>rfl,_,wam _,hR n g (Nat.le_refl _) (whn f1).symm⟩) (fun q=>absurd rfl q)⟩
 ·exact h.elim
end Go.Eng
