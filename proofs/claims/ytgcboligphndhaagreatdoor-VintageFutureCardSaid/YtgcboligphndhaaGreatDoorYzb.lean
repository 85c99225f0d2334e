/- Resolve: what it answers. -/
import Derived.Test.YtgcboligphndhaaGreatDoorYza
import Derived.Test.YtgcboligphndhaaGreatDoorYz
import Derived.Test.YtgcboligphndhaaGreatDoorYv
import Derived.Test.YtgcboligphndhaaGreatDoorYu
import Derived.Test.YtgcboligphndhaaGreatDoorYw
import Derived.Test.YtgcboligphndhaaGreatDoorYt
import Derived.Test.YtgcboligphndhaaGreatDoorYr
namespace Go.Eng
open Go.Proofs Go.RowKit Go.Sort
variable {C:Ctx} [C.Loose]
set_option maxRecDepth 20000
theorem nf_nrm (g:Nat→FL) (n:Nat) (R:AV→List (Nat×AObj)→Prop):wpFn te [(91,.rel wng)] [(3,L_n3 g n),(13,wnz g n),(19,wny g n)] 0 Tryz.f39 [.view 7 n (wac g)] [] R=(letI z9:=ren 0 [(0,0),(19,1),(1,2),(2,3)];letI z8:=([(3,.ptr 0 0),(9,.own 1 0),(46,.ptr 2 0)]:List (Nat×AV));letI z5:=List.length (entN g n);letI z3:=(∀ (i:Nat),i<List.length (waw okV g n)→true=true:Prop);letI z2:=(IN.mk 0 (fun (_x:Nat)=>[]) z5 (List.range z5));letI z1:=List.length (waw okV g n);letI z0:=(List.map (fun (p:AV×AV)=>(AV.rn (idxN [1,0,2]) (Prod.fst p),AV.rn (idxN [1,0,2]) (Prod.snd p))) (entN g n));some (St.mk [(3,.ptr 0 0),(15,.view 7 n (wac g)),(16,.int .i64 (↑n:Int)),(17,.int .i64 0)] [(0,.cells [.map 1] 121),(1,.amap (List.map (fun (p:AV×AV)=>(AV.rn (ren 0 [(1,0),(0,1)]) (Prod.fst p),AV.rn (ren 0 [(1,0),(0,1)]) (Prod.snd p))) []))] 2 [])=some (St.mk [(3,.ptr 0 0),(15,.view 7 n (wac g)),(16,.int .i64 (↑n:Int)),(17,.int .i64 (↑0:Int))] [(0,.cells [.map 1] 121),(1,.amap (entN g 0))] 2 [])∧n≤1000∧(∀ (i:Nat),i<n→FL.Gd (g i))∧(TEq z8 z8∧wae [(0,.cells [.map 3] 121),(1,.row 9 1 0 (fun (_x:Nat)=>[]) false),(2,.miter 3 z5 (121::List.length (entN g n)::List.range z5)),(3,.amap (List.map (fun (p:AV×AV)=>(AV.rn (ren 0 [(0,0),(3,1),(2,2),(1,3)]) (Prod.fst p),AV.rn (ren 0 [(0,0),(3,1),(2,2),(1,3)]) (Prod.snd p))) (entN g n)))] [(0,.cells [.map 3] 121),(1,.row 9 1 0 (wax (IN.h z2)) false),(2,.miter 3 z5 (121::IN.c0 z2::IN.left z2)),(3,.amap (entN g n))])∧n≤1000∧∀ (h:Nat→List UInt8),List.Perm (lst h z1) (waw okV g n)→z3∧9=9∧false=false∧List.length (waw okV g n)=List.length (waw okV g n)∧List.length (waw okV g n)≤1000000∧wax h=wax (stOf (wax h))∧wbq TypeDesc.string z0∧(∀ (x:List UInt8),letI z7:=way (gotN z0 x) (0+1+1+1+1);letI z6:=way (gotN z0 x) (0+1+1+1+1+1);letI z4:=way (gotN z0 x) (0+1+1+1+1+1+1); .agg [.str (wby (way (gotN z0 x) 0)),.int .i64 (wap (way (gotN z0 x) (0+1))),.int .i64 (wap (way (gotN z0 x) (0+1+1))),.int .i64 (wap (way (gotN z0 x) (0+1+1+1))),.view (vwS z7) (vwN z7) (vwF z7),.view (vwS z6) (vwN z6) (vwF z6),.view (vwS z4) (vwN z4) (vwF z4)]=gotN z0 x)∧(∀ (p:AV×AV),p∈List.map (fun (p:AV×AV)=>(AV.rn (idxN [1,0,2]) (Prod.fst p),AV.rn (idxN [1,0,2]) (Prod.snd p))) (entN g n)→nref (Prod.fst p)=true∧nref (Prod.snd p)=true)∧∀ (h_1:Nat→List UInt8),List.Perm (lst h_1 z1) (lst (stOf (wax h)) z1)→(∀ (i j:Nat),i<j→j<List.length (waw okV g n)→¬cmpN z0 (h_1 j) (h_1 i)<(0:Int))→z3∧∃ (h:Nat→List UInt8),∃ (o:Nat→FL),(TEq [(3,.ptr 0 0),(11,.own 1 0),(58,.own 2 z1),(59,.int .i64 (↑z1:Int)),(60,.int .i64 0)] [(3,.ptr 0 0),(11,.own 1 0),(58,.own 2 z1),(59,.int .i64 (↑z1:Int)),(60,.int .i64 (↑0:Int))]∧wae [(0,.cells [.map 3] 121),(1,.row 49 7 0 (fun (_x:Nat)=>[]) false),(2,.row 9 1 z1 (wax h_1) false),(3,.amap (List.map (fun (p:AV×AV)=>(AV.rn z9 (Prod.fst p),AV.rn z9 (Prod.snd p))) (List.map (fun (p:AV×AV)=>(AV.rn (sig [1,0,2] 3) (Prod.fst p),AV.rn (sig [1,0,2] 3) (Prod.snd p))) z0)))] [(0,.cells [.map 3] 121),(1,.row 49 7 0 (wac o) false),(2,.row 9 1 z1 (wax h) false),(3,.amap (entN g n))])∧n≤1000∧(∀ (i:Nat),i<List.length (waw okV g n)→isFl (gotN (entN g n) (h i)) (o i)∧FL.Gd (o i))∧z3∧∃ (O':List (Nat×AObj)),wae [(0,.row 49 7 z1 (wac o) false)] O'∧R (.own 0 z1) O'):=by kernel_rfl
theorem wzb (g:Nat→FL) (n k:Nat) (P:Nat→Prop) (R:Exit→St→Prop):wa2 ⟨te,[(29,.det wlf),(33,.det wee)],[],0,73,0⟩ (wa3 Tryz.f39 3) [3,15,16,17] [3] [] (S_n3 g n) P R (S_n3 g n k)=(letI z10:=ren 0 [(0,0),(1,1)];letI z8:=TI.desc (TI.mk TypeDesc.string 1 16 (Value.string (ByteArray.mk #[])) false);letI z7:=zvA (.agg [.str ([]),.int .i64 0,.int .i64 0,.int .i64 0,.nil,.nil,.nil]);letI z6:=([(3,.ptr 0 0),(15,.view 7 n (wac g)),(16,.int .i64 (↑n:Int)),(17,.int .i64 ((↑k:Int)+(1:Int)))]:List (Nat×AV));letI z5:=([(0,.cells [.map 1] 121),(1,.amap (List.map (fun (p:AV×AV)=>(AV.rn z10 (Prod.fst p),AV.rn z10 (Prod.snd p))) (entN g k)))]:List (Nat×AObj));letI z4:=(inR .i64 ((↑k:Int)+(1:Int))∧∃ (i':Nat),some (St.mk z6 z5 2 [])=some (St.mk [(3,.ptr 0 0),(15,.view 7 n (wac g)),(16,.int .i64 (↑n:Int)),(17,.int .i64 (↑i':Int))] [(0,.cells [.map 1] 121),(1,.amap (entN g i'))] 2 [])∧P i');letI z3:=(g (Int.toNat (↑k:Int)));letI z16:=wah (atT (FL.ts z3));letI z15:=List.length (FL.ts z3);letI z14:=wai (atR (FL.rs z3));letI z13:=List.length (FL.rs z3);letI z12:=wag (atM (FL.ms z3));letI z11:=List.length (FL.ms z3);letI z0:=(flV (FL.id z3) (FL.ver z3) (FL.day z3) (FL.kind z3) z11 z12 z13 z14 z15 z16);letI z17:=mget (entN g k) (.str (encF z0));letI z2:=(wbq z8 (entN g k)∧inR .i64 ((↑k:Int)+(1:Int))∧∃ (i':Nat),some (St.mk z6 [(0,.cells [.map 1] 121),(1,.amap (List.map (fun (p:AV×AV)=>(AV.rn z10 (Prod.fst p),AV.rn z10 (Prod.snd p))) (mset (entN g k) (.str (encF z0)) (.agg [.str (FL.id z3),.int .i64 (FL.ver z3),.int .i64 (FL.day z3),.int .i64 (FL.kind z3),.view 15 z11 z12,.view 5 z13 z14,.view 5 z15 z16]))))] 2 [])=some (St.mk [(3,.ptr 0 0),(15,.view 7 n (wac g)),(16,.int .i64 (↑n:Int)),(17,.int .i64 (↑i':Int))] [(0,.cells [.map 1] 121),(1,.amap (entN g i'))] 2 [])∧P i');letI z1:=Option.getD z17 z7;letI z19:=way z1 (0+1+1+1+1);letI z18:=way z1 (0+1+1+1+1+1);letI z9:=way z1 (0+1+1+1+1+1+1);wad (decide ((↑k:Int)<(↑n:Int))) (((0:Int)≤(↑k:Int)∧(↑k:Int)<(↑n:Int)∧7=7)∧(FlC z11 z12 z13 z14 z15 z16∧FL.Sm z0)∧wad (!decide (vinF z0=(0:Int))) z4 ((FlC z11 z12 z13 z14 z15 z16∧FL.Rg z0)∧(wbq z8 (entN g k)∧.agg [.str (wby (way z1 0)),.int .i64 (wap (way z1 (0+1))),.int .i64 (wap (way z1 (0+1+1))),.int .i64 (wap (way z1 (0+1+1+1))),.view (vwS z19) (vwN z19) (vwF z19),.view (vwS z18) (vwN z18) (vwF z18),.view (vwS z9) (vwN z9) (vwF z9)]=Option.getD z17 z7)∧wad (!Option.isSome z17) z2 (wad (decide (FL.day z3<wap (way z1 (0+1+1)))) z2 z4))) (R (.exit 0) (St.mk [(3,.ptr 0 0)] z5 2 []))):=by kernel_rfl
theorem wzd (es:List (AV×AV)) (i:IN) (P:IN→Prop) (R:Exit→St→Prop):wa2 ⟨te,[],[],0,73,0⟩ (wa3 Tryz.f39 13) [3,9,46] [3,9] [] (wl7 es) P R (wl7 es i)=(letI z6:=ren 0 [(0,0),(21,1),(2,2),(3,3)];letI z3:=TI.mk TypeDesc.string 1 16 (Value.string (ByteArray.mk #[])) false;List.length es=List.length es∧(IN.left i=[]→(∀ (i_1:Nat),i_1<IN.c i→true=true)∧∃ (O':List (Nat×AObj)),wae [(0,.cells [.map 2] 121),(1,.row 9 1 (IN.c i) (wax (IN.h i)) false),(2,.amap (List.map (fun (p:AV×AV)=>(AV.rn (ren 0 [(0,0),(1,1),(3,2)]) (Prod.fst p),AV.rn (ren 0 [(0,0),(1,1),(3,2)]) (Prod.snd p))) es))] O'∧R (.exit 2) (St.mk [(3,.ptr 0 0),(9,.own 1 (IN.c i))] O' 3 []))∧∀ (i_1:Nat),letI z1:=List.getD es i_1 (.any,.any);letI z0:=Prod.snd z1;letI z5:=way z0 (0+1+1+1+1);letI z4:=way z0 (0+1+1+1+1+1);letI z2:=way z0 (0+1+1+1+1+1+1);i_1∈IN.left i→(List.length es=List.length es∧i_1<List.length es∧.str (wby (Prod.fst z1))=Prod.fst z1∧.agg [.str (wby (way z0 0)),.int .i64 (wap (way z0 (0+1))),.int .i64 (wap (way z0 (0+1+1))),.int .i64 (wap (way z0 (0+1+1+1))),.view (vwS z5) (vwN z5) (vwF z5),.view (vwS z4) (vwN z4) (vwF z4),.view (vwS z2) (vwN z2) (vwF z2)]=Prod.snd z1)∧(1≤16777216∧1=1∧1≤9223372036854775807)∧((1≤1∧1=1)∧IN.c i≤IN.c i∧1=1∧9=9∧1=1∧IN.c i+1≤9223372036854775807∧(IN.c i+1) * TI.bytes z3≤140737488355328)∧∃ (i':IN),(TEq [(3,.ptr 0 0),(9,.own 1 (IN.c i+1)),(46,.ptr 2 0)] [(3,.ptr 0 0),(9,.own 1 (IN.c i')),(46,.ptr 2 0)]∧wae [(0,.cells [.map 3] 121),(1,.row 9 1 (IN.c i+1) (apF (IN.c i) (wax (IN.h i)) (waq (TI.sz z3) (.str (wby (Prod.fst z1))::List.append [] wck))) false),(2,.miter 3 (List.length es) (121::i_1::List.erase (IN.left i) i_1)),(3,.amap (List.map (fun (p:AV×AV)=>(AV.rn z6 (Prod.fst p),AV.rn z6 (Prod.snd p))) es))] [(0,.cells [.map 3] 121),(1,.row 9 1 (IN.c i') (wax (IN.h i')) false),(2,.miter 3 (List.length es) (121::IN.c0 i'::IN.left i')),(3,.amap es)])∧P i'):=by kernel_rfl
theorem wzc (es:List (AV×AV)) (m:Nat) (h:Nat→List UInt8) (o:Nat→FL) (k:Nat) (P:Nat→Prop) (R:Exit→St→Prop):wa2 ⟨te,[(96,.det wm0)],[],0,73,0⟩ (wa3 Tryz.f39 19) [3,11,58,59,60] [11] [] (wl6 es m h o) P R (wl6 es m h o k)=(letI z7:=ren 0 [(0,0),(37,1),(2,2),(3,3)];letI z6:=(mget es (.str (h (Int.toNat (↑k:Int)))));letI z5:=([.str ([]),.int .i64 0,.int .i64 0,.int .i64 0,.nil,.nil,.nil]:List AV);letI z0:=(Option.getD z6 (zvA (.agg z5)));letI z4:=way z0 (0+1+1+1+1);letI z3:=way z0 (0+1+1+1+1+1);letI z2:=way z0 (0+1+1+1+1+1+1);letI z1:=([.str (wby (way z0 0)),.int .i64 (wap (way z0 (0+1))),.int .i64 (wap (way z0 (0+1+1))),.int .i64 (wap (way z0 (0+1+1+1))),.view (vwS z4) (vwN z4) (vwF z4),.view (vwS z3) (vwN z3) (vwF z3),.view (vwS z2) (vwN z2) (vwF z2)]:List AV);wad (decide ((↑k:Int)<(↑m:Int))) (((0:Int)≤(↑k:Int)∧(↑k:Int)<(↑m:Int))∧(Int.toNat (↑k:Int)<m∧1=1)∧(wbq (TI.desc (TI.mk TypeDesc.string 1 16 (Value.string (ByteArray.mk #[])) false)) es∧.agg z1=Option.getD z6 (zvA (.agg z5)))∧(∃ (F:FL),isFl (.agg z1) F∧List.length (FL.ms F)≤1000∧List.length (FL.rs F)≤1000∧List.length (FL.ts F)≤1000∧∀ (t:RT),t∈FL.ts F→List.length (RT.bs t)≤1000)∧(7≤16777216∧7=7∧1≤9223372036854775807)∧((1≤1∧7=7)∧k≤k∧7=7∧49=49∧7=7∧k+1≤9223372036854775807∧(k+1) * TI.bytes wb5≤140737488355328)∧inR .i64 ((↑k:Int)+(1:Int))∧∃ (i':Nat),(TEq [(3,.ptr 0 0),(11,.own 1 (k+1)),(58,.own 2 m),(59,.int .i64 (↑m:Int)),(60,.int .i64 ((↑k:Int)+(1:Int)))] [(3,.ptr 0 0),(11,.own 1 i'),(58,.own 2 m),(59,.int .i64 (↑m:Int)),(60,.int .i64 (↑i':Int))]∧wae [(0,.cells [.map 3] 121),(1,.row 49 7 (k+1) (apF k (wac o) (waq (TI.sz wb5) (.str (wby (way z0 0)):: .int .i64 (wap (way z0 (0+1))):: .int .i64 (wap (way z0 (0+1+1))):: .int .i64 (wap (way z0 (0+1+1+1))):: .view (vwS z4) (vwN z4) (vwF z4):: .view (vwS z3) (vwN z3) (vwF z3):: .view (vwS z2) (vwN z2) (vwF z2)::List.append [] (List.flatten (List.replicate (nat_lit 0) z5))))) false),(2,.row 9 1 m (wax h) false),(3,.amap (List.map (fun (p:AV×AV)=>(AV.rn z7 (Prod.fst p),AV.rn z7 (Prod.snd p))) es))] [(0,.cells [.map 3] 121),(1,.row 49 7 i' (wac o) false),(2,.row 9 1 m (wax h) false),(3,.amap es)])∧P i') ((∀ (i:Nat),i<k→true=true)∧∃ (O':List (Nat×AObj)),wae [(0,.row 49 7 k (wac o) false)] O'∧R (.exit 4) (St.mk [(11,.own 0 k)] O' 1 []))):=by kernel_rfl
theorem cpdO_ok (hP:C.P=Tryz.prog):waf C 96 wm0:=by
 rintro args objs U Os vc h hvc
 unfold wm0 at h
 split at h<;>simp only [Option.some.injEq,Prod.mk.injEq,reduceCtorEq] at h
 obtain ⟨rfl,rfl,rfl⟩:=h
 obtain ⟨F,rfl,hm,hr,ht,hb⟩:=hvc
 exact cpd_at hP F hm hr ht hb
theorem n3_loop (hP:C.P=Tryz.prog) (hL:∀ w,C.laid w→LaidW w) (g:Nat→FL) (n:Nat):waj C 0 73 (wam Tryz.f39 3) (L_n3 g n):=by
 rintro st Q ⟨h0,hn,hg,hQ⟩
 refine waj.mk (prg hP) [(29,.det wlf),(33,.det wee)] 0 (.cons (vin_ok hP hL) (.cons (enc_ok hP hL) .nil)) [3,15,16,17] [3] [] (S_n3 g n) (fun k=>k≤n) (fun k=>n - k) 0 (Nat.zero_le _) h0 (fun k hk=>?_)
 have er:∀ (σ:Nat→Option Nat) (k:Nat),(entN g k).map (fun p=>(AV.rn σ p.1,AV.rn σ p.2))=entN g k:=fun σ k=>wit σ _ _
 rw [wzb,Int.toNat_natCast,er,wdn (g k)]
 have hkeys:wbq .string (entN g k):=wqq (wfz k)
 have hgot:=gotT (wbf okV g k) (waw okV g k) (encF (g k))
 have hshape:=wug (wbf okV g k) (waw okV g k) (encF (g k))
 have hmg:=wpq (wbf okV g k) (encF (g k)) (waw okV g k)
 rw [← wc0] at hgot hshape hmg
 refine wak (fun h1=>?_) (fun h1=>?_)
 ·have hk':k<n:=by omega
  have hG:=hg k hk'
  have same:∀ {σ:Nat→Option Nat},entN g (k+1)=entN g k→inR .i64 ((k:Int)+1)∧∃ (i':Nat),some (St.mk [(3,.ptr 0 0),(15,.view 7 n (wac g)),(16,.int .i64 (n:Int)),(17,.int .i64 ((k:Int)+1))] [(0,.cells [.map 1] 121),(1,.amap (entN g k))] 2 [])=
    some (St.mk [(3,.ptr 0 0),(15,.view 7 n (wac g)),(16,.int .i64 (n:Int)),(17,.int .i64 (i':Int))] [(0,.cells [.map 1] 121),(1,.amap (entN g i'))] 2 [])∧i'≤n∧n - i'<n - k:=fun {_} e=>
   ⟨by simp only [inR];omega,k+1,by rw [e];rfl,by omega,by omega⟩
  have upd:∀ (M:List (AV×AV)),mset (entN g k) (.str (encF (g k))) (.agg (wbd (g k)))=M→M=entN g (k+1)→wbq .string (entN g k)∧inR .i64 ((k:Int)+1)∧∃ (i':Nat),some (St.mk [(3,.ptr 0 0),(15,.view 7 n (wac g)),(16,.int .i64 (n:Int)),(17,.int .i64 ((k:Int)+1))] [(0,.cells [.map 1] 121),(1,.amap (M.map fun p=>(AV.rn (ren 0 [(0,0),(1,1)]) p.1,AV.rn (ren 0 [(0,0),(1,1)]) p.2)))] 2 [])=
    some (St.mk [(3,.ptr 0 0),(15,.view 7 n (wac g)),(16,.int .i64 (n:Int)),(17,.int .i64 (i':Int))] [(0,.cells [.map 1] 121),(1,.amap (entN g i'))] 2 [])∧i'≤n∧n - i'<n - k:=fun M hM e=>
   ⟨hkeys,by simp only [inR];omega,k+1,by rw [e,er];rfl,by omega,by omega⟩
  refine ⟨⟨by omega,by omega,rfl⟩,⟨wer _,hG.sm⟩,wca (fun hv=>same (σ:=fun _=>none) (w2g (decide_eq_false hv))) (fun hv=>?_)⟩
  have hok:okV (g k)=true:=decide_eq_true hv
  refine ⟨⟨wer _,hG.rg⟩,⟨hkeys,hshape⟩,?_⟩
  by_cases hx:encF (g k)∈waw okV g k
  ·rw [if_pos hx] at hmg
   rw [hmg]
   refine wak (fun hd=>upd _ rfl (w2d hok hx hd)) (fun hd=>same (σ:=fun _=>none) (w2f hok hx hd))
  ·rw [if_neg hx] at hmg
   rw [hmg]
   exact upd _ rfl (w2e hok hx)
 ·have:k=n:=by omega
  subst this
  exact hQ
theorem Tryz.sortStr:SlLaysF.n6 Tryz.prog Tryz.sort91_ren:={ Tryz.sort91 with a24:=Tryz.isAgg9,z24:=Tryz.sizeOf9 }
theorem wxa (hP:C.P=Tryz.prog):wa7 C 91 wng:=by
 have _:C.Loose:=inferInstance
 rintro args objs R h
 unfold wng at h
 split at h
 ·rename_i n t m f fr ct es
  obtain ⟨rfl,rfl,rfl,hn,hf,hk,hs,hr,hR⟩:=h
  generalize stOf f=h0 at *
  subst hf
  have hS:=wal.sortM (C:=C) (cmpN es) (t:=9) (ct:=ct) (fS:=91) (g:=92)
   ⟨_,hP ▸ Tryz.func91,rfl,by decide⟩
   (fun cb blk cap d w h1 h2 h3 h4=>by
    rw [hP] at h1 ⊢
    exact Any.slices_SortFunc Tryz.sortStr strV (fun _=>rfl) (cmpN es) (swo_of (w20 es)) 92 cb blk 0 cap d w (enters_of Tryz.func92 (by kernel_rfl) rfl) h1 h2 h3 h4)
   (fun p cap fv w=>by
    rw [hP]
    exact AnyF.slices_SortFunc_none Tryz.sort91 p cap fv w)
   es hr (fun x y=>ncmp_ok (C:=Ctx.bare C.P C.mixed) hP es hk hs x y) (n:=n) h0 (by omega)
  refine hS.mono ?_
  rintro u O ⟨rfl,f',hp,hs,rfl⟩
  exact hR f' hp hs
 ·exact h.elim
theorem w00 {α:Type} (L:List α) (d:α):(List.range L.length).map (fun i=>L.getD i d)=L:=wep L d
theorem w0p (hP:C.P=Tryz.prog) (g:Nat→FL) (n:Nat):waj C 0 73 (wam Tryz.f39 13) (wnz g n):=by
 have _:C.Loose:=inferInstance
 rintro st Q ⟨h0,hn,hQ⟩
 have hlen:=wj7 g n
 have hE:=wc0 g n
 generalize hK:waw okV g n=K at *
 generalize wbf okV g n=F at *
 rw [hE] at h0 hQ
 refine AWP.ownNil 9 9 1 ?_
 refine waj.mk (prg hP) [] 0 .nil [3,9,46] [3,9] [] (wl7 (entT K F)) (fun i=>(lst i.h i.c++i.left.map (fun j=>K.getD j [])).Perm K∧∀ x∈i.left,x<K.length) (fun i=>i.left.length) ⟨0,fun _=>[],(entT K F).length,List.range (entT K F).length⟩ ⟨?_,?_⟩ h0 (fun i hi=>?_) (fun i=>⟨fun _ _=>rfl,trivial⟩)
 ·rw [wqp]
  show ((List.range K.length).map fun j=>K.getD j []).Perm K
  rw [w00]
 ·intro x hx
  have hx:x∈List.range (entT K F).length:=hx
  rw [wqp] at hx
  exact List.mem_range.1 hx
 obtain ⟨hp,hlt⟩:=hi
 have hl:i.c+i.left.length=K.length:=by
  have:=hp.length_eq
  simpa [lst] using this
 rw [wzd,wit,wit]
 refine ⟨rfl,fun hnil=>⟨fun _ _=>rfl,_,wan _,?_⟩,fun j hj=>?_⟩
 ·rw [hnil] at hp hl
  have hc:i.c=K.length:=by simpa using hl
  rw [hc] at hp ⊢
  exact hQ i.h (by simpa using hp)
 ·have hjl:=hlt j hj
  rw [entT_at hjl,wqp]
  have herase:(i.left.erase j).length+1=i.left.length:=by
   rw [List.length_erase_of_mem hj]
   have:=List.length_pos_of_mem hj
   omega
  refine ⟨⟨rfl,hjl,rfl,rfl⟩,⟨by omega,rfl,by omega⟩,⟨⟨Nat.le_refl _,rfl⟩,Nat.le_refl _,rfl,rfl,rfl,by omega,?_⟩,⟨i.c+1,fun k=>if k<i.c then i.h k else K.getD j [],j,i.left.erase j⟩,⟨rfl,rfl,⟨rfl,rfl,rfl,rfl,rfl,fun k hk=>?_⟩,rfl,rfl,trivial⟩,⟨?_,fun x hx=>hlt x (List.mem_of_mem_erase hx)⟩,?_⟩
  ·show (i.c+1) * 16≤_
   omega
  ·have hk:k<i.c+1:=hk
   unfold apF wax
   by_cases h:k<i.c
   ·simp only [h,if_true]
   ·have:k=i.c:=by omega
    subst this
    simp only [Nat.lt_irrefl,if_false,Nat.sub_self]
    rfl
  ·show (lst (fun k=>if k<i.c then i.h k else K.getD j []) (i.c+1)++(i.left.erase j).map (fun j=>K.getD j [])).Perm K
   rw [wh6]
   have e1:lst (fun k=>if k<i.c then i.h k else K.getD j []) i.c=lst i.h i.c:=List.map_congr_left fun k hk=>by
    rw [if_pos (List.mem_range.1 hk)]
   rw [e1,if_neg (Nat.lt_irrefl _),List.append_assoc,List.singleton_append, ← List.map_cons (f:=fun j=>K.getD j [])]
   exact ((List.perm_cons_erase hj).map (fun j=>K.getD j [])).symm.append_left _ |>.trans hp
  ·show (i.left.erase j).length<i.left.length
   omega
theorem w0o (hP:C.P=Tryz.prog) (g:Nat→FL) (n:Nat):waj C 0 73 (wam Tryz.f39 19) (wny g n):=by
 rintro st Q ⟨h,o,h0,hn,hg,hQ⟩
 have hlen:=wj7 g n
 have hE:=wc0 g n
 have hkeys:wbq .string (entN g n):=wqq (wfz n)
 have er:∀ (σ:Nat→Option Nat),(entN g n).map (fun p=>(AV.rn σ p.1,AV.rn σ p.2))=entN g n:=fun σ=>wit σ _ _
 generalize waw okV g n=K at *
 generalize entN g n=es at *
 refine AWP.ownNil 11 49 7 ?_
 refine waj.mk (prg hP) [(96,.det wm0)] 0 (.cons (cpdO_ok hP) .nil) [3,11,58,59,60] [11] [] (wl6 es K.length h o) (fun k=>k≤K.length) (fun k=>K.length - k) 0 (Nat.zero_le _) h0 (fun k hk=>?_) (fun _=>⟨fun _ _=>rfl,fun _ _=>rfl,trivial⟩)
 rw [wzc,Int.toNat_natCast,er]
 refine wak (fun h1=>?_) (fun h1=>?_)
 ·have hk':k<K.length:=by omega
  obtain ⟨hm,hG⟩:=hg k hk'
  have hm:(mget es (.str (h k))).getD (zvA (.agg [.str [],.int .i64 0,.int .i64 0,.int .i64 0,.nil,.nil,.nil]))= .agg (wbd (o k)):=hm
  rw [hm]
  refine ⟨⟨by omega,by omega⟩,⟨hk',rfl⟩,⟨hkeys,rfl⟩,⟨o k,rfl,hG.rg.nm,hG.rg.nr,hG.rg.nt,fun t ht=>(hG.rg.t t ht).n⟩,⟨by omega,rfl,by omega⟩,⟨⟨Nat.le_refl _,rfl⟩,Nat.le_refl _,rfl,rfl,rfl,by omega,?_⟩,by simp only [inR];omega,k+1,⟨rfl,rfl,⟨rfl,rfl,rfl,rfl,rfl,fun i hi=>?_⟩,⟨rfl,rfl,rfl,rfl,rfl,fun _ _=>rfl⟩,rfl,trivial⟩,by omega,by omega⟩
  ·show (k+1) * 112≤_
   omega
  ·unfold apF
   by_cases hi':i<k
   ·rw [if_pos hi']
   ·have:i=k:=by omega
    subst this
    rw [if_neg hi',Nat.sub_self];rfl
 ·have:k=K.length:=by omega
  subst this
  exact ⟨fun _ _=>rfl,_,wan _,hQ⟩
theorem w3n {g:Nat→FL} {n:Nat} {t:List UInt8} (hg:∀ i,i<n→(g i).Gd) (h:t∈waw okV g n):(wbf okV g n t).Gd:=by
 obtain ⟨j,b,e⟩:=wg4 h
 rw [e];exact hg j b.lt
theorem nrm_at (hP:C.P=Tryz.prog) (hL:∀ w,C.laid w→LaidW w) (g:Nat→FL) (n:Nat) (hn:n≤1000) (hg:∀ i,i<n→(g i).Gd):ADet C 39 [.view 7 n (wac g)] [] (.own 0 (nrmL okV g n).length) [(0,.row 49 7 (nrmL okV g n).length (wac (atF (nrmL okV g n))) false)]:=by
 refine wa7.wpL (prg hP) [(91,.rel wng)] [(3,L_n3 g n),(13,wnz g n),(19,wny g n)] 0 (.cons (wxa hP) .nil) (hP ▸ Tryz.func39) rfl rfl rfl
  [(wam Tryz.f39 3,L_n3 g n),(wam Tryz.f39 13,wnz g n),(wam Tryz.f39 19,wny g n)] (by kernel_rfl) ⟨n3_loop hP hL g n,w0p hP g n,w0o hP g n,trivial⟩ ?_
 have er:∀ (σ:Nat→Option Nat),(entN g n).map (fun p=>(AV.rn σ p.1,AV.rn σ p.2))=entN g n:=fun σ=>wit σ _ _
 rw [nf_nrm]
 simp only [er]
 have hkeys:wbq .string (entN g n):=wqq (wfz n)
 have hlen:=wj7 g n
 have hshape:∀ x,wcl wi6 (gotN (entN g n) x)=gotN (entN g n) x:=fun x=>wug _ _ x
 have hnref:∀ p∈entN g n,nref p.1=true∧nref p.2=true:=fun p hp=>by
  obtain ⟨t,_,rfl⟩:=List.mem_map.1 hp
  exact ⟨rfl,rfl⟩
 have hgot:∀ t,t∈waw okV g n→gotN (entN g n) t= .agg (wbd (wbf okV g n t)):=fun t ht=>by
  rw [wc0,gotT,if_pos ht]
 refine ⟨rfl,hn,hg,⟨rfl,rfl,⟨rfl,rfl,rfl,rfl,rfl,fun i hi=>absurd hi (Nat.not_lt_zero i)⟩,rfl,rfl,trivial⟩,hn,fun h hp=>⟨fun _ _=>trivial,trivial,trivial,trivial,by omega,rfl,hkeys,hshape,hnref,fun h1 hp1 hs1=>?_⟩⟩
 have hpK:(lst h1 (waw okV g n).length).Perm (waw okV g n):=hp1.trans hp
 have mem:∀ i,i<(waw okV g n).length→h1 i∈waw okV g n:=fun i hi=>hpK.mem_iff.1 (List.mem_map.2 ⟨i,List.mem_range.2 hi,rfl⟩)
 refine ⟨fun _ _=>trivial,h1,fun i=>wbf okV g n (h1 i),⟨rfl,rfl,⟨rfl,rfl,rfl,rfl,rfl,fun i hi=>absurd hi (Nat.not_lt_zero i)⟩,⟨rfl,rfl,rfl,rfl,rfl,fun _ _=>rfl⟩,rfl,trivial⟩,hn,fun i hi=>⟨hgot _ (mem i hi),w3n hg (mem i hi)⟩,?_⟩
 have hs:(lst h1 (waw okV g n).length).map (wbf okV g n)=nrmL okV g n:=by
  refine wx5 hpK ?_
  refine wxy fun i j hij hj=>?_
  rw [← w21 (mem j hj) (mem i (by omega))]
  exact hs1 i j hij hj
 have hl:(nrmL okV g n).length=(waw okV g n).length:=by
  rw [← hs,List.length_map];simp [lst]
 have at_:∀ i,i<(waw okV g n).length→wac (fun i=>wbf okV g n (h1 i)) i=wac (atF (nrmL okV g n)) i:=fun i hi=>by
  have:wbf okV g n (h1 i)=atF (nrmL okV g n) i:=by
   rw [← hs]
   simp [atF,lst,hi]
  show wac (fun _=>wbf okV g n (h1 i)) 0=wac (fun _=>atF (nrmL okV g n) i) 0
  rw [this]
 exact ⟨fun _ _=>trivial,[(0,.row 49 7 (waw okV g n).length (wac (atF (nrmL okV g n))) false)],⟨⟨rfl,rfl,rfl,rfl,rfl,at_⟩,trivial⟩,by rw [hl],by rw [hl]⟩
theorem nrmz_ok (hP:C.P=Tryz.prog) (hL:∀ w,C.laid w→LaidW w):waf C 39 wl2:=by
 rintro args objs U Os vc h hvc
 unfold wl2 at h
 split at h<;>simp only [Option.some.injEq,Prod.mk.injEq,reduceCtorEq] at h
 rename_i n f
 obtain ⟨rfl,rfl,rfl⟩:=h
 obtain ⟨hn,hf,hg⟩:=hvc
 generalize flOf f=g at *
 subst hf
 exact nrm_at hP hL g n hn hg
end Go.Eng
namespace Go.Eng
open Go.Proofs Go.RowKit
variable {C:Ctx} [C.Loose]
set_option maxRecDepth 20000
theorem nf_rws (n:Nat) (v:Nat→Int) (a most:Int) (R:AV→List (Nat×AObj)→Prop):wpFn te [(37,.det wfe),(42,.det wba)] [(3,wnv n v (a+1) (wab n v a (most+1)))] 0 Tryz.f79 [.ptr 0 0,.int .i64 most] [.cells [.view 1 n (waa v),.int .i64 a] 27] R=(letI z1:=(most+(1:Int));letI z0:=(RwS.mk 0 (fun (_x:Nat)=>default) (a+(1:Int)));inR .i64 z1∧(27=27∧1=1∧waa v=waa (vInt (waa v))∧((1:Int)≤most+(1:Int)∧most+(1:Int)≤(1000000:Int))∧(0:Int)≤a∧a≤(4611686018427387904:Int))∧(TEq [(0,.ptr 0 0),(5,.own 1 0),(9,.int .i64 (wab n (vInt (waa v)) a z1)),(10,.int .i64 0)] [(0,.ptr 0 0),(5,.own 1 0),(9,.int .i64 (wab n v a z1)),(10,.int .i64 (↑(RwS.c z0):Int))]∧wae [(0,.cells [.view 1 n (waa v),.int .i64 (a+(1:Int))] 27),(1,.row 61 5 0 (fun (_x:Nat)=>[]) false)] [(0,.cells [.view 1 n (waa v),.int .i64 (RwS.a z0)] 27),(1,.row 61 5 0 (wai (RwS.g z0)) false)])∧((0:Int)≤wab n v a z1∧wab n v a z1≤(100:Int))∧((0:Int)≤a+(1:Int)∧a+(1:Int)≤(4611686018427375000:Int))∧∀ (i:RwS),RwS.c i=Int.toNat (wab n v a z1)→RwS.a i=a+(1:Int)+(6:Int) * (↑(RwS.c i):Int)→(∀ (j:Nat),j<RwS.c i→RW.Made (RwS.g i j))→(∀ (i_1:Nat),i_1<RwS.c i→true=true)∧∃ (O':List (Nat×AObj)),wae [(0,.cells [.view 1 n (waa v),.int .i64 (RwS.a i)] 27),(1,.row 61 5 (RwS.c i) (wai (RwS.g i)) false)] O'∧R (.own 1 (RwS.c i)) O'):=by kernel_rfl
theorem wyu (n:Nat) (v:Nat→Int) (N:Int) (i:RwS) (P:RwS→Prop) (R:Exit→St→Prop):wa2 ⟨te,[(37,.det wfe)],[],1,19,0⟩ (wa3 Tryz.f79 3) [0,5,9,10] [5] [] (wlw n v N) P R (wlw n v N i)=(letI z0:=rowV n (vInt (waa v)) (RwS.a i);wad (decide ((↑(RwS.c i):Int)<N)) ((27=27∧1=1∧waa v=waa (vInt (waa v))∧(0:Int)≤RwS.a i∧RwS.a i≤(4611686018427380000:Int))∧(5≤16777216∧5=5∧1≤9223372036854775807)∧((1≤1∧5=5)∧RwS.c i≤RwS.c i∧5=5∧61=61∧5=5∧RwS.c i+1≤9223372036854775807∧(RwS.c i+1) * TI.bytes wdi≤140737488355328)∧inR .i64 ((↑(RwS.c i):Int)+(1:Int))∧∃ (i':RwS),(TEq [(0,.ptr 0 0),(5,.own 1 (RwS.c i+1)),(9,.int .i64 N),(10,.int .i64 ((↑(RwS.c i):Int)+(1:Int)))] [(0,.ptr 0 0),(5,.own 1 (RwS.c i')),(9,.int .i64 N),(10,.int .i64 (↑(RwS.c i'):Int))]∧wae [(0,.cells [.view 1 n (waa v),.int .i64 (RwS.a i+(1:Int)+(1:Int)+(1:Int)+(1:Int)+(1:Int)+(1:Int))] 27),(1,.row 61 5 (RwS.c i+1) (apF (RwS.c i) (wai (RwS.g i)) (waq (TI.sz wdi) (.str (RW.o z0):: .str (RW.p z0):: .int .i64 (RW.per z0):: .int .i64 (RW.u z0):: .int .i64 (RW.tv z0)::List.append [] wfr))) false)] [(0,.cells [.view 1 n (waa v),.int .i64 (RwS.a i')] 27),(1,.row 61 5 (RwS.c i') (wai (RwS.g i')) false)])∧P i') ((∀ (i_1:Nat),i_1<RwS.c i→true=true)∧∃ (O':List (Nat×AObj)),wae [(0,.cells [.view 1 n (waa v),.int .i64 (RwS.a i)] 27),(1,.row 61 5 (RwS.c i) (wai (RwS.g i)) false)] O'∧R (.exit 0) (St.mk [(5,.own 1 (RwS.c i))] O' 2 []))):=by kernel_rfl
theorem put_ap (g:Nat→RW) (k:Nat) (r:RW) (ch:Nat→List AV) (hch:ch 0=[.str r.o,.str r.p,.int .i64 r.per,.int .i64 r.u,.int .i64 r.tv]) (j:Nat) (hj:j<k+1):apF k (wai g) ch j=wai (RW.put g k r) j:=by
 unfold apF wai RW.put
 by_cases h:j<k
 ·rw [if_pos h,if_pos h]
 ·have:j=k:=by omega
  rw [if_neg h,if_neg h,this,Nat.sub_self,hch]
theorem w0z (n:Nat) (v:Nat→Int) (a:Int):(rowV n v a).Made:=by
 obtain ⟨b1,b2,b3,b4⟩:=wsq n v a
 obtain ⟨c1,c2⟩:=wpb n v a
 exact ⟨c1,c2,⟨b1,b2⟩,by omega,by omega⟩
theorem wxi (hP:C.P=Tryz.prog) (n:Nat) (v:Nat→Int) (a N:Int):waj C 1 19 (wam Tryz.f79 3) (wnv n v a N):=by
 rintro st Q ⟨h0,hN,ha,hQ⟩
 refine AWP.ownNil 5 61 5 ?_
 refine waj.mk (prg hP) [(37,.det wfe)] 0 (.cons (wox hP) .nil) [0,5,9,10] [5] [] (wlw n v N) (fun i=>(i.c:Int)≤N∧i.a=a+6 * i.c∧∀ j,j<i.c→(i.g j).Made) (fun i=>N.toNat - i.c) ⟨0,fun _=>default,a⟩
  ⟨hN.1,by show a=a+6 * ((0:Nat):Int);omega,fun j hj=>absurd hj (Nat.not_lt_zero j)⟩ h0 (fun i hi=>?_) (fun i=>⟨fun _ _=>rfl,trivial⟩)
 obtain ⟨h1,h2,h3⟩:=hi
 have hw:vInt (waa v)=v:=rfl
 rw [wyu,hw]
 refine wak (fun q=>?_) (fun q=>⟨fun _ _=>rfl,_,wan _,hQ i (by omega) h2 h3⟩)
 refine ⟨⟨rfl,rfl,rfl,by omega,by omega⟩,⟨by omega,rfl,by omega⟩,⟨⟨Nat.le_refl _,rfl⟩,Nat.le_refl _,rfl,rfl,rfl,by omega,?_⟩,by simp only [inR];omega,⟨i.c+1,RW.put i.g i.c (rowV n v i.a),i.a+1+1+1+1+1+1⟩,⟨rfl,rfl,⟨rfl,rfl,rfl,rfl,rfl,fun j hj=>?_⟩,trivial⟩,⟨?_,?_,fun j hj=>?_⟩,?_⟩
 ·show (i.c+1) * 56≤_
  omega
 ·exact put_ap i.g i.c _ _ rfl j hj
 ·show ((i.c+1:Nat):Int)≤N
  omega
 ·show i.a+1+1+1+1+1+1=a+6 * ((i.c+1:Nat):Int)
  omega
 ·show (RW.put i.g i.c (rowV n v i.a) j).Made
  unfold RW.put
  by_cases h:j<i.c
  ·rw [if_pos h];exact h3 j h
  ·rw [if_neg h];exact w0z n v i.a
 ·show N.toNat - (i.c+1)<N.toNat - i.c
  omega
theorem rows_ok (hP:C.P=Tryz.prog):wa7 C 79 wnh:=by
 rintro args objs R h
 unfold wnh at h
 split at h
 ·rename_i most sz n f a t
  obtain ⟨rfl,rfl,hf,ha,hm,hR⟩:=h
  rw [hf] at hR ⊢
  generalize vInt f=v at *
  have hw:vInt (waa v)=v:=rfl
  refine wa7.wpL (prg hP) [(37,.det wfe),(42,.det wba)] [(3,wnv n v (a+1) (wab n v a (most+1)))] 0 (.cons (wox hP) (.cons (wb7 hP) .nil)) (hP ▸ Tryz.func79) rfl rfl rfl [(wam Tryz.f79 3,wnv n v (a+1) (wab n v a (most+1)))] (by kernel_rfl) ⟨wxi hP _ _ _ _,trivial⟩ ?_
  rw [nf_rws,hw]
  have r:=wav (show (1:Int)≤most+1 by omega) n v a
  exact ⟨by simp only [inR];omega,⟨rfl,rfl,rfl,⟨by omega,by omega⟩,by omega,by omega⟩,⟨rfl,rfl,⟨rfl,rfl,rfl,rfl,rfl,fun i hi=>absurd hi (Nat.not_lt_zero i)⟩,trivial⟩,⟨by omega,by omega⟩,⟨by omega,by omega⟩,fun i h1 h2 h3=>⟨fun _ _=>rfl,_,wan _,hR i.c i.g i.a (by omega) ⟨by omega,by omega⟩ h3⟩⟩
 ·exact h.elim
theorem wz4 (n:Nat) (v:Nat→Int) (a:Int) (R:AV→List (Nat×AObj)→Prop):wpFn te [(42,.det wba)] [] 0 Tryz.f88 [.ptr 0 0] [.cells [.view 1 n (waa v),.int .i64 a] 27] R=((3≤16777216∧1=1∧3≤9223372036854775807)∧(27=27∧1=1∧waa v=waa (vInt (waa v))∧((1:Int)≤(3:Int)∧(3:Int)≤(1000000:Int))∧(0:Int)≤a∧a≤(4611686018427387904:Int))∧((0:Int)≤wab n (vInt (waa v)) a (3:Int)∧wab n (vInt (waa v)) a (3:Int)<(↑3:Int))∧(Int.toNat (wab n (vInt (waa v)) a (3:Int))<3∧1=1)∧R (.str (List.getD [[(97:UInt8)],[(98:UInt8)],[(99:UInt8)]] (Int.toNat (wab n (vInt (waa v)) a (3:Int))) [])) [(0,.cells [.view 1 n (waa v),.int .i64 (a+(1:Int))] 27)]):=by kernel_rfl
theorem wtb (n:Nat) (v:Nat→Int) (a:Int) (R:AV→List (Nat×AObj)→Prop):wpFn te [(42,.det wba),(80,.det wc3),(81,.det wc2),(43,.det S_id)] [] 3 Tryz.f89 [.ptr 0 0] [.cells [.view 1 n (waa v),.int .i64 a] 27] R=(letI z18:=((1:Int)≤(4:Int)∧(4:Int)≤(1000000:Int):Prop);letI z17:=(4611686018427387904:Int);letI z16:=(4611686018427387000:Int);letI z14:=(Int.toNat ((48:Int)+Prod.fst (cdF (id7 (4:Int)))));letI z12:=([(0,.cells [.view 1 n (waa v),.int .i64 (a+(1:Int)+(1:Int)+(1:Int)+(1:Int)+(1:Int)+(1:Int)+(1:Int))] 27)]:List (Nat×AObj));letI z11:=(a+(1:Int)+(1:Int));letI z10:=(a+(1:Int)+(1:Int)+(1:Int)+(1:Int));letI z19:=(wab n (vInt (waa v)) z10 (7:Int));letI z9:=(outF (wab n (vInt (waa v)) a (3:Int)));letI z8:=(a+(1:Int)+(1:Int)+(1:Int));letI z7:=(a+(1:Int)+(1:Int)+(1:Int)+(1:Int)+(1:Int)+(1:Int));letI z15:=([(0,.cells [.view 1 n (waa v),.int .i64 z7] 27)]:List (Nat×AObj));letI z6:=(wab n (vInt (waa v)) (a+(1:Int)) (4:Int));letI z5:=(a+(1:Int)+(1:Int)+(1:Int)+(1:Int)+(1:Int));letI z4:=(Int.toNat z19);letI z13:=(decide ((1:Int)+List.getD [(0:Int),(0:Int),(0:Int),(1:Int),(2:Int),(3:Int),(4:Int)] z4 (0:Int)=(5:Int)));letI z3:=((True∧True)∧R (.agg [.str z9,.str (idF z6),.int .i64 ((1440:Int)+wab n (vInt (waa v)) z11 (4:Int)),.int .i64 ((43830:Int)+wab n (vInt (waa v)) z8 (100:Int)),.int .i64 ((1:Int)+List.getD [(0:Int),(0:Int),(0:Int),(1:Int),(2:Int),(3:Int),(4:Int)] z4 (0:Int)),.int .i64 0,.str [(fun (i:Nat)=>UInt8.ofNat (Int.toNat (wap (List.headD (wa9 (idV (4:Int)) i) .any)))) (nat_lit 0),(fun (i:Nat)=>UInt8.ofNat (Int.toNat (wap (List.headD (wa9 (idV (4:Int)) i) .any)))) (nat_lit 1),(fun (i:Nat)=>UInt8.ofNat (Int.toNat (wap (List.headD (wa9 (idV (4:Int)) i) .any)))) (nat_lit 2),(fun (i:Nat)=>UInt8.ofNat (Int.toNat (wap (List.headD (wa9 (idV (4:Int)) i) .any)))) (nat_lit 3),(fun (i:Nat)=>UInt8.ofNat (Int.toNat (wap (List.headD (wa9 (idV (4:Int)) i) .any)))) (nat_lit 4),(fun (i:Nat)=>UInt8.ofNat (Int.toNat (wap (List.headD (wa9 (idV (4:Int)) i) .any)))) (nat_lit 5),(fun (i:Nat)=>UInt8.ofNat (Int.toNat (wap (List.headD (wa9 (idV (4:Int)) i) .any)))) (nat_lit 6),UInt8.ofNat z14]]) z15:Prop);letI z2:=((True∧True)∧R (.agg [.str z9,.str (idF z6),.int .i64 ((1440:Int)+wab n (vInt (waa v)) z11 (4:Int)),.int .i64 ((43830:Int)+wab n (vInt (waa v)) z8 (100:Int)),.int .i64 ((1:Int)+List.getD [(0:Int),(0:Int),(0:Int),(1:Int),(2:Int),(3:Int),(4:Int)] z4 (0:Int)),.int .i64 ((100:Int)+wab n (vInt (waa v)) z5 (4:Int) * (5:Int)),.str [(fun (i:Nat)=>UInt8.ofNat (Int.toNat (wap (List.headD (wa9 (idV (4:Int)) i) .any)))) (nat_lit 0),(fun (i:Nat)=>UInt8.ofNat (Int.toNat (wap (List.headD (wa9 (idV (4:Int)) i) .any)))) (nat_lit 1),(fun (i:Nat)=>UInt8.ofNat (Int.toNat (wap (List.headD (wa9 (idV (4:Int)) i) .any)))) (nat_lit 2),(fun (i:Nat)=>UInt8.ofNat (Int.toNat (wap (List.headD (wa9 (idV (4:Int)) i) .any)))) (nat_lit 3),(fun (i:Nat)=>UInt8.ofNat (Int.toNat (wap (List.headD (wa9 (idV (4:Int)) i) .any)))) (nat_lit 4),(fun (i:Nat)=>UInt8.ofNat (Int.toNat (wap (List.headD (wa9 (idV (4:Int)) i) .any)))) (nat_lit 5),(fun (i:Nat)=>UInt8.ofNat (Int.toNat (wap (List.headD (wa9 (idV (4:Int)) i) .any)))) (nat_lit 6),UInt8.ofNat z14]]) z12:Prop);letI z1:=(decide ([(fun (i:Nat)=>UInt8.ofNat (Int.toNat (wap (List.headD (wa9 (idV (4:Int)) i) .any)))) (nat_lit 0),(fun (i:Nat)=>UInt8.ofNat (Int.toNat (wap (List.headD (wa9 (idV (4:Int)) i) .any)))) (nat_lit 1),(fun (i:Nat)=>UInt8.ofNat (Int.toNat (wap (List.headD (wa9 (idV (4:Int)) i) .any)))) (nat_lit 2),(fun (i:Nat)=>UInt8.ofNat (Int.toNat (wap (List.headD (wa9 (idV (4:Int)) i) .any)))) (nat_lit 3),(fun (i:Nat)=>UInt8.ofNat (Int.toNat (wap (List.headD (wa9 (idV (4:Int)) i) .any)))) (nat_lit 4),(fun (i:Nat)=>UInt8.ofNat (Int.toNat (wap (List.headD (wa9 (idV (4:Int)) i) .any)))) (nat_lit 5),(fun (i:Nat)=>UInt8.ofNat (Int.toNat (wap (List.headD (wa9 (idV (4:Int)) i) .any)))) (nat_lit 6),UInt8.ofNat z14]=idF z6));letI z0:=(wad z13 ((27=27∧1=1∧waa v=waa (vInt (waa v))∧(0:Int)≤a+(1:Int)+(1:Int)+(1:Int)+(1:Int)+(1:Int)∧a+(1:Int)+(1:Int)+(1:Int)+(1:Int)+(1:Int)≤z16)∧wad (decide (idF (wab n (vInt (waa v)) z5 (4:Int))=idF z6)) (True∧wad z1 (True∧wad z1 (True∧False) z3) z3) ((True∧True)∧R (.agg [.str z9,.str (idF z6),.int .i64 ((1440:Int)+wab n (vInt (waa v)) z11 (4:Int)),.int .i64 ((43830:Int)+wab n (vInt (waa v)) z8 (100:Int)),.int .i64 ((1:Int)+List.getD [(0:Int),(0:Int),(0:Int),(1:Int),(2:Int),(3:Int),(4:Int)] z4 (0:Int)),.int .i64 0,.str (idF (wab n (vInt (waa v)) z5 (4:Int)))]) z15)) ((True∧True)∧R (.agg [.str z9,.str (idF z6),.int .i64 ((1440:Int)+wab n (vInt (waa v)) z11 (4:Int)),.int .i64 ((43830:Int)+wab n (vInt (waa v)) z8 (100:Int)),.int .i64 ((1:Int)+List.getD [(0:Int),(0:Int),(0:Int),(1:Int),(2:Int),(3:Int),(4:Int)] z4 (0:Int)),.int .i64 0,.str []]) [(0,.cells [.view 1 n (waa v),.int .i64 z5] 27)]));(27=27∧1=1∧waa v=waa (vInt (waa v))∧(0:Int)≤a∧a≤z16)∧(27=27∧1=1∧waa v=waa (vInt (waa v))∧(0:Int)≤a+(1:Int)∧a+(1:Int)≤z16)∧(27=27∧1=1∧waa v=waa (vInt (waa v))∧z18∧(0:Int)≤a+(1:Int)+(1:Int)∧a+(1:Int)+(1:Int)≤z17)∧inR .i64 ((1440:Int)+wab n (vInt (waa v)) z11 (4:Int))∧(27=27∧1=1∧waa v=waa (vInt (waa v))∧((1:Int)≤(100:Int)∧(100:Int)≤(1000000:Int))∧(0:Int)≤a+(1:Int)+(1:Int)+(1:Int)∧a+(1:Int)+(1:Int)+(1:Int)≤z17)∧inR .i64 ((43830:Int)+wab n (vInt (waa v)) z8 (100:Int))∧(7≤16777216∧1=1∧7≤9223372036854775807)∧(27=27∧1=1∧waa v=waa (vInt (waa v))∧((1:Int)≤(7:Int)∧(7:Int)≤(1000000:Int))∧(0:Int)≤a+(1:Int)+(1:Int)+(1:Int)+(1:Int)∧a+(1:Int)+(1:Int)+(1:Int)+(1:Int)≤z17)∧((0:Int)≤wab n (vInt (waa v)) z10 (7:Int)∧wab n (vInt (waa v)) z10 (7:Int)<(↑7:Int))∧(Int.toNat z19<7∧1=1)∧inR .i64 ((1:Int)+List.getD [(0:Int),(0:Int),(0:Int),(1:Int),(2:Int),(3:Int),(4:Int)] z4 (0:Int))∧wad (!decide ((1:Int)+List.getD [(0:Int),(0:Int),(0:Int),(1:Int),(2:Int),(3:Int),(4:Int)] z4 (0:Int)=(3:Int))) (wad (!decide ((1:Int)+List.getD [(0:Int),(0:Int),(0:Int),(1:Int),(2:Int),(3:Int),(4:Int)] z4 (0:Int)=(4:Int))) ((27=27∧1=1∧waa v=waa (vInt (waa v))∧z18∧(0:Int)≤a+(1:Int)+(1:Int)+(1:Int)+(1:Int)+(1:Int)∧a+(1:Int)+(1:Int)+(1:Int)+(1:Int)+(1:Int)≤z17)∧inR .i64 (wab n (vInt (waa v)) z5 (4:Int) * (5:Int))∧inR .i64 ((100:Int)+wab n (vInt (waa v)) z5 (4:Int) * (5:Int))∧wad z13 ((27=27∧1=1∧waa v=waa (vInt (waa v))∧(0:Int)≤a+(1:Int)+(1:Int)+(1:Int)+(1:Int)+(1:Int)+(1:Int)∧a+(1:Int)+(1:Int)+(1:Int)+(1:Int)+(1:Int)+(1:Int)≤z16)∧wad (decide (idF (wab n (vInt (waa v)) z7 (4:Int))=idF z6)) (True∧wad z1 (True∧wad z1 (True∧False) z2) z2) ((True∧True)∧R (.agg [.str z9,.str (idF z6),.int .i64 ((1440:Int)+wab n (vInt (waa v)) z11 (4:Int)),.int .i64 ((43830:Int)+wab n (vInt (waa v)) z8 (100:Int)),.int .i64 ((1:Int)+List.getD [(0:Int),(0:Int),(0:Int),(1:Int),(2:Int),(3:Int),(4:Int)] z4 (0:Int)),.int .i64 ((100:Int)+wab n (vInt (waa v)) z5 (4:Int) * (5:Int)),.str (idF (wab n (vInt (waa v)) z7 (4:Int)))]) z12)) ((True∧True)∧R (.agg [.str z9,.str (idF z6),.int .i64 ((1440:Int)+wab n (vInt (waa v)) z11 (4:Int)),.int .i64 ((43830:Int)+wab n (vInt (waa v)) z8 (100:Int)),.int .i64 ((1:Int)+List.getD [(0:Int),(0:Int),(0:Int),(1:Int),(2:Int),(3:Int),(4:Int)] z4 (0:Int)),.int .i64 ((100:Int)+wab n (vInt (waa v)) z5 (4:Int) * (5:Int)),.str []]) z15)) z0) z0):=by kernel_rfl
theorem nf_mmsg (n:Nat) (v:Nat→Int) (a:Int) (R:AV→List (Nat×AObj)→Prop):wpFn te [(42,.det wba),(80,.det wc3),(81,.det wc2),(88,.det whe),(89,.rel wne)] [] 0 Tryz.f36 [.ptr 0 0] [.cells [.view 1 n (waa v),.int .i64 a] 27] R=(letI z5:=(devF (wab n (vInt (waa v)) a (3:Int)));letI z4:=((1:Int)≤(9:Int)∧(9:Int)≤(1000000:Int):Prop);letI z3:=(a+(1:Int)+(1:Int)+(1:Int)+(1:Int)+(1:Int));letI z2:=(4611686018427387904:Int);letI z1:=(4611686018427387000:Int);letI z0:=(a+(1:Int)+(1:Int)+(1:Int)+(1:Int)+(1:Int)+(1:Int)+(1:Int));(27=27∧1=1∧waa v=waa (vInt (waa v))∧(0:Int)≤a∧a≤z1)∧(27=27∧1=1∧waa v=waa (vInt (waa v))∧z4∧(0:Int)≤a+(1:Int)∧a+(1:Int)≤z2)∧inR .i64 ((1:Int)+wab n (vInt (waa v)) (a+(1:Int)) (9:Int))∧(27=27∧1=1∧waa v=waa (vInt (waa v))∧((1:Int)≤(5:Int)∧(5:Int)≤(1000000:Int))∧(0:Int)≤a+(1:Int)+(1:Int)∧a+(1:Int)+(1:Int)≤z2)∧wad (decide (wab n (vInt (waa v)) (a+(1:Int)+(1:Int)) (5:Int)=(0:Int))) ((27=27∧1=1∧waa v=waa (vInt (waa v))∧(0:Int)≤a+(1:Int)+(1:Int)+(1:Int)∧a+(1:Int)+(1:Int)+(1:Int)≤z1)∧(27=27∧1=1∧waa v=waa (vInt (waa v))∧(0:Int)≤a+(1:Int)+(1:Int)+(1:Int)+(1:Int)∧a+(1:Int)+(1:Int)+(1:Int)+(1:Int)≤z1)∧(27=27∧1=1∧waa v=waa (vInt (waa v))∧((1:Int)≤(4:Int)∧(4:Int)≤(1000000:Int))∧(0:Int)≤a+(1:Int)+(1:Int)+(1:Int)+(1:Int)+(1:Int)∧a+(1:Int)+(1:Int)+(1:Int)+(1:Int)+(1:Int)≤z2)∧inR .i64 ((1440:Int)+wab n (vInt (waa v)) z3 (4:Int))∧(27=27∧1=1∧waa v=waa (vInt (waa v))∧(0:Int)≤a+(1:Int)+(1:Int)+(1:Int)+(1:Int)+(1:Int)+(1:Int)∧a+(1:Int)+(1:Int)+(1:Int)+(1:Int)+(1:Int)+(1:Int)≤z1)∧(27=27∧1=1∧waa v=waa (vInt (waa v))∧z4∧(0:Int)≤a+(1:Int)+(1:Int)+(1:Int)+(1:Int)+(1:Int)+(1:Int)+(1:Int)∧a+(1:Int)+(1:Int)+(1:Int)+(1:Int)+(1:Int)+(1:Int)+(1:Int)≤z2)∧inR .i64 ((1:Int)+wab n (vInt (waa v)) z0 (9:Int))∧(True∧True)∧R (.agg [.str z5,.int .i64 ((1:Int)+wab n (vInt (waa v)) (a+(1:Int)) (9:Int)),.int .i64 2,.str [],.str [],.int .i64 0,.int .i64 0,.int .i64 0,.int .i64 0,.str [],.str (outF (wab n (vInt (waa v)) (a+(1:Int)+(1:Int)+(1:Int)) (3:Int))),.str (idF (wab n (vInt (waa v)) (a+(1:Int)+(1:Int)+(1:Int)+(1:Int)) (4:Int))),.int .i64 ((1440:Int)+wab n (vInt (waa v)) z3 (4:Int)),.str (devF (wab n (vInt (waa v)) (a+(1:Int)+(1:Int)+(1:Int)+(1:Int)+(1:Int)+(1:Int)) (3:Int))),.int .i64 ((1:Int)+wab n (vInt (waa v)) z0 (9:Int))]) [(0,.cells [.view 1 n (waa v),.int .i64 (a+(1:Int)+(1:Int)+(1:Int)+(1:Int)+(1:Int)+(1:Int)+(1:Int)+(1:Int))] 27)]) (27=27∧1=1∧waa v=waa (vInt (waa v))∧((0:Int)≤a+(1:Int)+(1:Int)+(1:Int)∧a+(1:Int)+(1:Int)+(1:Int)≤(4611686018427386000:Int))∧∀ (x:VT) (a':Int),VT.Made x→a+(1:Int)+(1:Int)+(1:Int)≤a'∧a'≤a+(1:Int)+(1:Int)+(1:Int)+(7:Int)→(True∧True)∧R (.agg [.str z5,.int .i64 ((1:Int)+wab n (vInt (waa v)) (a+(1:Int)) (9:Int)),.int .i64 1,.str (VT.o x),.str (VT.p x),.int .i64 (VT.per x),.int .i64 (VT.day x),.int .i64 (VT.st x),.int .i64 (VT.pr x),.str (VT.rep x),.str [],.str [],.int .i64 0,.str [],.int .i64 0]) [(0,.cells [.view 1 n (waa v),.int .i64 a'] 27)])):=by kernel_rfl
theorem wvl (hP:C.P=Tryz.prog):waf C 88 whe:=by
 rintro args objs U Os vc h hvc
 unfold whe at h
 split at h<;>simp only [Option.some.injEq,Prod.mk.injEq,reduceCtorEq] at h
 rename_i sz n f a t
 obtain ⟨rfl,rfl,rfl⟩:=h
 obtain ⟨rfl,rfl,hf,h1,h2⟩:=hvc
 rw [hf]
 generalize vInt f=v
 have hw:vInt (waa v)=v:=rfl
 refine waf.wp0 (prg hP) [(42,.det wba)] 0 (.cons (wb7 hP) .nil) (hP ▸ Tryz.func88) rfl rfl rfl ?_
 rw [wz4]
 have r:=wav (show (1:Int)≤3 by omega) n v a
 exact ⟨⟨by omega,rfl,by omega⟩,⟨rfl,rfl,rfl,⟨by omega,by omega⟩,by omega,by omega⟩,⟨r.1,r.2⟩,⟨by rw [hw];omega,rfl⟩,rfl,rfl⟩
theorem stF:∀ i:Nat,i<7→1≤1+List.getD [(0:Int),0,0,1,2,3,4] i 0∧1+List.getD [(0:Int),0,0,1,2,3,4] i 0≤5:=by decide
theorem wkf {x:Int} (h:0≤x∧x<4):¬ idF 4=idF x:=by
 have:=idF4 x.toNat (by omega)
 rwa [show ((x.toNat:Nat):Int)=x by omega] at this
theorem wro {o p:List UInt8} {per day st pr:Int} {rep:List UInt8} (ho:wa8 o=true) (hp:wbg p=true) (hper:0≤per∧per≤5999) (hday:0≤day∧day≤182620)
  (h:((st=1∨st=2)∧(1≤pr∧pr≤1099511627776)∧rep=[])∨((st=3∨st=4)∧pr=0∧rep=[])∨(st=5∧(1≤pr∧pr≤1099511627776)∧wbg rep=true∧¬ rep=p)):visF ⟨o,p,per,day,st,pr,rep⟩=true:=by
 unfold visF wbz
 dsimp only
 rw [ho,hp,decide_eq_true hper.1,decide_eq_true hper.2,decide_eq_true hday.1,decide_eq_true hday.2]
 rcases h with ⟨q | q,⟨h1,h2⟩,h3⟩ | ⟨q | q,h1,h2⟩ | ⟨q,⟨h1,h2⟩,h3,h4⟩
 ·subst q;subst h3;rw [decide_eq_true h1,decide_eq_true h2];rfl
 ·subst q;subst h3;rw [decide_eq_true h1,decide_eq_true h2];rfl
 ·subst q;subst h1;subst h2;rfl
 ·subst q;subst h1;subst h2;rfl
 ·subst q;rw [decide_eq_true h1,decide_eq_true h2,h3,decide_eq_false h4];rfl
theorem wth {dev:List UInt8} {seq:Int} {x:VT} (hd:wa8 dev=true) (hs:1≤seq∧seq≤1048576) (hx:visF x=true):msgF ⟨dev,seq,1,x,⟨[],[],0,[],0⟩⟩=0:=by
 unfold msgF numF
 dsimp only
 rw [hd,hx,decide_eq_true hs.1,decide_eq_true hs.2];rfl
theorem wti {dev:List UInt8} {seq:Int} {o p:List UInt8} {per:Int} {dd:List UInt8} {num:Int} (hd:wa8 dev=true) (hs:1≤seq∧seq≤1048576) (h:wbz o p per=true) (h':wa8 dd=true) (hn:1≤num∧num≤1048576):
  msgF ⟨dev,seq,2,⟨[],[],0,0,0,0,[]⟩,⟨o,p,per,dd,num⟩⟩=0:=by
 unfold msgF numF
 dsimp only
 rw [hd,h,h',decide_eq_true hs.1,decide_eq_true hs.2,decide_eq_true hn.1,decide_eq_true hn.2];rfl
theorem wr9 {o p:List UInt8} {per:Int} (ho:wa8 o=true) (hp:wbg p=true) (hper:0≤per∧per≤5999):wbz o p per=true:=by
 unfold wbz
 rw [ho,hp,decide_eq_true hper.1,decide_eq_true hper.2];rfl
theorem w0q (hP:C.P=Tryz.prog):wa7 C 89 wne:=by
 rintro args objs R h
 unfold wne at h
 split at h
 ·rename_i sz n f a t
  obtain ⟨rfl,rfl,hf,ha,hR⟩:=h
  rw [hf] at hR ⊢
  generalize vInt f=v at *
  have hw:vInt (waa v)=v:=rfl
  refine wa7.wpL (prg hP) [(42,.det wba),(80,.det wc3),(81,.det wc2),(43,.det S_id)] [] 3 (.cons (wb7 hP) (.cons (wgl hP) (.cons (wgc hP) (.cons (wke hP) .nil)))) (hP ▸ Tryz.func89) rfl rfl rfl [] (by kernel_rfl) trivial ?_
  rw [wtb,hw]
  have r1:=wav (show (1:Int)≤3 by omega) n v a
  have r2:=wav (show (1:Int)≤4 by omega) n v (a+1)
  have r3:=wav (show (1:Int)≤4 by omega) n v (a+1+1)
  have r4:=wav (show (1:Int)≤100 by omega) n v (a+1+1+1)
  have r5:=wav (show (1:Int)≤7 by omega) n v (a+1+1+1+1)
  have r6:=wav (show (1:Int)≤4 by omega) n v (a+1+1+1+1+1)
  have hst:=stF (wab n v (a+1+1+1+1) 7).toNat (by omega)
  have ho:=wh4 (wab n v a 3).toNat (by omega)
  have key:∀ (st pr:Int) (rep:List UInt8) (a':Int),(((st=1∨st=2)∧(1≤pr∧pr≤1099511627776)∧rep=[])∨((st=3∨st=4)∧pr=0∧rep=[])∨(st=5∧(1≤pr∧pr≤1099511627776)∧wbg rep=true∧¬ rep=idF (wab n v (a+1) 4)))→(a≤a'∧a'≤a+7)→
    R (.agg [.str (outF (wab n v a 3)),.str (idF (wab n v (a+1) 4)),.int .i64 (1440+wab n v (a+1+1) 4),.int .i64 (43830+wab n v (a+1+1+1) 100),.int .i64 st,.int .i64 pr,.str rep]) [(0,.cells [.view 1 n (waa v),.int .i64 a'] 27)]:=fun st pr rep a' h1 h2=>
   hR ⟨outF (wab n v a 3),idF (wab n v (a+1) 4),1440+wab n v (a+1+1) 4,43830+wab n v (a+1+1+1) 100,st,pr,rep⟩ a' ⟨wro ho.1 (wd1 _) (by omega) (by omega) h1,ho.2⟩ h2
  refine ⟨⟨rfl,rfl,rfl,by omega,by omega⟩,⟨rfl,rfl,rfl,by omega,by omega⟩,⟨rfl,rfl,rfl,⟨by omega,by omega⟩,by omega,by omega⟩,by simp only [inR];omega,⟨rfl,rfl,rfl,⟨by omega,by omega⟩,by omega,by omega⟩,by simp only [inR];omega,⟨by omega,rfl,by omega⟩,⟨rfl,rfl,rfl,⟨by omega,by omega⟩,by omega,by omega⟩,⟨by omega,by omega⟩,⟨by omega,rfl⟩,?_⟩
  generalize 1+List.getD [(0:Int),0,0,1,2,3,4] (wab n v (a+1+1+1+1) 7).toNat 0=st at *
  refine ⟨by simp only [inR];omega,wca (fun s3=>wca (fun s4=>⟨⟨rfl,rfl,rfl,⟨by omega,by omega⟩,by omega,by omega⟩,by simp only [inR];omega,by simp only [inR];omega,wak (fun s5=>⟨⟨rfl,rfl,rfl,by omega,by omega⟩,wak (fun q=>⟨trivial,wak (fun q'=>absurd q' (wkf r2)) (fun q'=>⟨⟨trivial,trivial⟩,?_⟩)⟩) (fun q=>⟨⟨trivial,trivial⟩,?_⟩)⟩) (fun s5=>⟨⟨trivial,trivial⟩,?_⟩)⟩)
   (fun s4=>wak (fun s5=>absurd s5 (by omega)) (fun s5=>⟨⟨trivial,trivial⟩,?_⟩))) (fun s3=>wak (fun s5=>absurd s5 (by omega)) (fun s5=>⟨⟨trivial,trivial⟩,?_⟩))⟩
  ·exact key st _ (idF 4) _ (.inr (.inr ⟨s5,by omega,wd1 _,wkf r2⟩)) (by omega)
  ·exact key st _ _ _ (.inr (.inr ⟨s5,by omega,wd1 _,q⟩)) (by omega)
  ·exact key st _ _ _ (.inl ⟨by omega,by omega,rfl⟩) (by omega)
  ·exact key st _ _ _ (.inr (.inl ⟨by omega,rfl,rfl⟩)) (by omega)
  ·exact key st _ _ _ (.inr (.inl ⟨by omega,rfl,rfl⟩)) (by omega)
 ·exact h.elim
theorem wto (hP : C.P = Tryz.prog) : wa7 C 36 whj := by
  rintro args objs R h
  unfold whj at h
  split at h
  · rename_i sz n f a t
    obtain ⟨rfl, rfl, hf, ha, hR⟩ := h
    rw [hf] at hR ⊢
    generalize vInt f = v at *
    have hw : vInt (waa v) = v := rfl
    refine wa7.wpL (prg hP) [(42, .det wba), (80, .det wc3), (81, .det wc2), (88, .det whe), (89, .rel wne)] [] 0 (.cons (wb7 hP) (.cons (wgl hP) (.cons (wgc hP) (.cons (wvl hP) (.cons (w0q hP) .nil))))) (hP ▸ Tryz.func36) rfl rfl rfl [] (by kernel_rfl) trivial ?_
    rw [nf_mmsg, hw]
    have r1 := wav (show (1 : Int) ≤ 3 by omega) n v a
    have r2 := wav (show (1 : Int) ≤ 9 by omega) n v (a + 1)
    have r4 := wav (show (1 : Int) ≤ 3 by omega) n v (a + 1 + 1 + 1)
    have r6 := wav (show (1 : Int) ≤ 4 by omega) n v (a + 1 + 1 + 1 + 1 + 1)
    have r7 := wav (show (1 : Int) ≤ 3 by omega) n v (a + 1 + 1 + 1 + 1 + 1 + 1)
    have r8 := wav (show (1 : Int) ≤ 9 by omega) n v (a + 1 + 1 + 1 + 1 + 1 + 1 + 1)
    have hd := wkx (wab n v a 3).toNat (by omega)
    have ho := wh4 (wab n v (a + 1 + 1 + 1) 3).toNat (by omega)
    have hd' := wkx (wab n v (a + 1 + 1 + 1 + 1 + 1 + 1) 3).toNat (by omega)
    refine ⟨⟨rfl, rfl, rfl, by omega, by omega⟩, ⟨rfl, rfl, rfl, ⟨by omega, by omega⟩, by omega, by omega⟩, by simp only [inR]; omega, ⟨rfl, rfl, rfl, ⟨by omega, by omega⟩, by omega, by omega⟩, wak (fun q => ⟨⟨rfl, rfl, rfl, by omega, by omega⟩, ⟨rfl, rfl, rfl, by omega, by omega⟩, ⟨rfl, rfl, rfl, ⟨by omega, by omega⟩, by omega, by omega⟩, by simp only [inR]; omega, ⟨rfl, rfl, rfl, by omega, by omega⟩, ⟨rfl, rfl, rfl, ⟨by omega, by omega⟩, by omega, by omega⟩, by simp only [inR]; omega, ⟨trivial, trivial⟩, ?_⟩)
      (fun q => ⟨rfl, rfl, rfl, ⟨by omega, by omega⟩, fun x a' hx ha' => ⟨⟨trivial, trivial⟩, ?_⟩⟩)⟩
    · exact hR ⟨devF (wab n v a 3), 1 + wab n v (a + 1) 9, 2, ⟨[], [], 0, 0, 0, 0, []⟩, ⟨outF (wab n v (a + 1 + 1 + 1) 3), idF (wab n v (a + 1 + 1 + 1 + 1) 4), 1440 + wab n v (a + 1 + 1 + 1 + 1 + 1) 4, devF (wab n v (a + 1 + 1 + 1 + 1 + 1 + 1) 3), 1 + wab n v (a + 1 + 1 + 1 + 1 + 1 + 1 + 1) 9⟩⟩ _
        ⟨wti hd.1 (by omega) (wr9 ho.1 (wd1 _) (by omega)) hd'.1 (by omega), hd.2, Nat.zero_le _, ho.2, hd'.2⟩ (by omega)
    · exact hR ⟨devF (wab n v a 3), 1 + wab n v (a + 1) 9, 1, x, ⟨[], [], 0, [], 0⟩⟩ a' ⟨wth hd.1 (by omega) hx.ok, hd.2, hx.o, Nat.zero_le _, Nat.zero_le _⟩ (by omega)
  · exact h.elim
end Go.Eng
