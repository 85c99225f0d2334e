/- split. -/
import Derived.Test.YtgcboligphndhaaGreatDoorJzf
import Derived.Test.YtgcboligphndhaaGreatDoorJzd
import Derived.Test.YtgcboligphndhaaGreatDoorJv
import Derived.Test.YtgcboligphndhaaGreatDoorJze
import Derived.Test.YtgcboligphndhaaGreatDoorJx
namespace Go.Eng
open Go.Proofs Go.RowKit Go.Sort
variable {C:Ctx} [C.Loose]
set_option maxRecDepth 20000
theorem nf_nrm (g:Nat→FL) (n:Nat) (R:AV→List (Nat×AObj)→Prop):wpFn te [(91,.rel wnh)] [(3,L_n3 g n),(13,wn4 g n),(19,wn3 g n)] 0 Tryz.f39 [.view 7 n (wad g)] [] R=(letI z9:=ren 0 [(0,0),(19,1),(1,2),(2,3)];letI z8:=([(3,.ptr 0 0),(9,.own 1 0),(46,.ptr 2 0)]:List (Nat×AV));letI z5:=List.length (entN g n);letI z3:=(∀ (i:Nat),i<List.length (wav okV g n)→true=true:Prop);letI z2:=(IN.mk 0 (fun (_x:Nat)=>[]) z5 (List.range z5));letI z1:=List.length (wav okV g n);letI z0:=(List.map (fun (p:AV×AV)=>(AV.rn (idxN [1,0,2]) (Prod.fst p),AV.rn (idxN [1,0,2]) (Prod.snd p))) (entN g n));some (St.mk [(3,.ptr 0 0),(15,.view 7 n (wad g)),(16,.int .i64 (↑n:Int)),(17,.int .i64 0)] [(0,.cells [.map 1] 121),(1,.amap (List.map (fun (p:AV×AV)=>(AV.rn (ren 0 [(1,0),(0,1)]) (Prod.fst p),AV.rn (ren 0 [(1,0),(0,1)]) (Prod.snd p))) []))] 2 [])=some (St.mk [(3,.ptr 0 0),(15,.view 7 n (wad g)),(16,.int .i64 (↑n:Int)),(17,.int .i64 (↑0:Int))] [(0,.cells [.map 1] 121),(1,.amap (entN g 0))] 2 [])∧n≤1000∧(∀ (i:Nat),i<n→FL.Gd (g i))∧(TEq z8 z8∧waf [(0,.cells [.map 3] 121),(1,.row 9 1 0 (fun (_x:Nat)=>[]) false),(2,.miter 3 z5 (121::List.length (entN g n)::List.range z5)),(3,.amap (List.map (fun (p:AV×AV)=>(AV.rn (ren 0 [(0,0),(3,1),(2,2),(1,3)]) (Prod.fst p),AV.rn (ren 0 [(0,0),(3,1),(2,2),(1,3)]) (Prod.snd p))) (entN g n)))] [(0,.cells [.map 3] 121),(1,.row 9 1 0 (wa2 (IN.h z2)) false),(2,.miter 3 z5 (121::IN.c0 z2::IN.left z2)),(3,.amap (entN g n))])∧n≤1000∧∀ (h:Nat→List UInt8),List.Perm (lst h z1) (wav okV g n)→z3∧9=9∧false=false∧List.length (wav okV g n)=List.length (wav okV g n)∧List.length (wav okV g n)≤1000000∧wa2 h=wa2 (stOf (wa2 h))∧wbt TypeDesc.string z0∧(∀ (x:List UInt8),letI z7:=waz (gotN z0 x) (0+1+1+1+1);letI z6:=waz (gotN z0 x) (0+1+1+1+1+1);letI z4:=waz (gotN z0 x) (0+1+1+1+1+1+1); .agg [.str (wb0 (waz (gotN z0 x) 0)),.int .i64 (wao (waz (gotN z0 x) (0+1))),.int .i64 (wao (waz (gotN z0 x) (0+1+1))),.int .i64 (wao (waz (gotN z0 x) (0+1+1+1))),.view (vwS z7) (vwN z7) (vwF z7),.view (vwS z6) (vwN z6) (vwF z6),.view (vwS z4) (vwN z4) (vwF z4)]=gotN z0 x)∧(∀ (p:AV×AV),p∈List.map (fun (p:AV×AV)=>(AV.rn (idxN [1,0,2]) (Prod.fst p),AV.rn (idxN [1,0,2]) (Prod.snd p))) (entN g n)→nref (Prod.fst p)=true∧nref (Prod.snd p)=true)∧∀ (h_1:Nat→List UInt8),List.Perm (lst h_1 z1) (lst (stOf (wa2 h)) z1)→(∀ (i j:Nat),i<j→j<List.length (wav okV g n)→¬cmpN z0 (h_1 j) (h_1 i)<(0:Int))→z3∧∃ (h:Nat→List UInt8),∃ (o:Nat→FL),(TEq [(3,.ptr 0 0),(11,.own 1 0),(58,.own 2 z1),(59,.int .i64 (↑z1:Int)),(60,.int .i64 0)] [(3,.ptr 0 0),(11,.own 1 0),(58,.own 2 z1),(59,.int .i64 (↑z1:Int)),(60,.int .i64 (↑0:Int))]∧waf [(0,.cells [.map 3] 121),(1,.row 49 7 0 (fun (_x:Nat)=>[]) false),(2,.row 9 1 z1 (wa2 h_1) false),(3,.amap (List.map (fun (p:AV×AV)=>(AV.rn z9 (Prod.fst p),AV.rn z9 (Prod.snd p))) (List.map (fun (p:AV×AV)=>(AV.rn (sig [1,0,2] 3) (Prod.fst p),AV.rn (sig [1,0,2] 3) (Prod.snd p))) z0)))] [(0,.cells [.map 3] 121),(1,.row 49 7 0 (wad o) false),(2,.row 9 1 z1 (wa2 h) false),(3,.amap (entN g n))])∧n≤1000∧(∀ (i:Nat),i<List.length (wav okV g n)→isFl (gotN (entN g n) (h i)) (o i)∧FL.Gd (o i))∧z3∧∃ (O':List (Nat×AObj)),waf [(0,.row 49 7 z1 (wad o) false)] O'∧R (.own 0 z1) O'):=by kernel_rfl
theorem wzr (g:Nat→FL) (n k:Nat) (P:Nat→Prop) (R:Exit→St→Prop):wa3 ⟨te,[(29,.det wd8),(33,.det whh)],[],0,73,0⟩ (wa4 Tryz.f39 3) [3,15,16,17] [3] [] (S_n3 g n) P R (S_n3 g n k)=(letI z10:=ren 0 [(0,0),(1,1)];letI z8:=TI.desc (TI.mk TypeDesc.string 1 16 (Value.string (ByteArray.mk #[])) false);letI z7:=zvA (.agg [.str ([]),.int .i64 0,.int .i64 0,.int .i64 0,.nil,.nil,.nil]);letI z6:=([(3,.ptr 0 0),(15,.view 7 n (wad g)),(16,.int .i64 (↑n:Int)),(17,.int .i64 ((↑k:Int)+(1:Int)))]:List (Nat×AV));letI z5:=([(0,.cells [.map 1] 121),(1,.amap (List.map (fun (p:AV×AV)=>(AV.rn z10 (Prod.fst p),AV.rn z10 (Prod.snd p))) (entN g k)))]:List (Nat×AObj));letI z4:=(inR .i64 ((↑k:Int)+(1:Int))∧∃ (i':Nat),some (St.mk z6 z5 2 [])=some (St.mk [(3,.ptr 0 0),(15,.view 7 n (wad g)),(16,.int .i64 (↑n:Int)),(17,.int .i64 (↑i':Int))] [(0,.cells [.map 1] 121),(1,.amap (entN g i'))] 2 [])∧P i');letI z3:=(g (Int.toNat (↑k:Int)));letI z16:=wah (atT (FL.ts z3));letI z15:=List.length (FL.ts z3);letI z14:=wai (atR (FL.rs z3));letI z13:=List.length (FL.rs z3);letI z12:=wae (atM (FL.ms z3));letI z11:=List.length (FL.ms z3);letI z0:=(flV (FL.id z3) (FL.ver z3) (FL.day z3) (FL.kind z3) z11 z12 z13 z14 z15 z16);letI z17:=mget (entN g k) (.str (encF z0));letI z2:=(wbt z8 (entN g k)∧inR .i64 ((↑k:Int)+(1:Int))∧∃ (i':Nat),some (St.mk z6 [(0,.cells [.map 1] 121),(1,.amap (List.map (fun (p:AV×AV)=>(AV.rn z10 (Prod.fst p),AV.rn z10 (Prod.snd p))) (mset (entN g k) (.str (encF z0)) (.agg [.str (FL.id z3),.int .i64 (FL.ver z3),.int .i64 (FL.day z3),.int .i64 (FL.kind z3),.view 15 z11 z12,.view 5 z13 z14,.view 5 z15 z16]))))] 2 [])=some (St.mk [(3,.ptr 0 0),(15,.view 7 n (wad g)),(16,.int .i64 (↑n:Int)),(17,.int .i64 (↑i':Int))] [(0,.cells [.map 1] 121),(1,.amap (entN g i'))] 2 [])∧P i');letI z1:=Option.getD z17 z7;letI z19:=waz z1 (0+1+1+1+1);letI z18:=waz z1 (0+1+1+1+1+1);letI z9:=waz z1 (0+1+1+1+1+1+1);wab (decide ((↑k:Int)<(↑n:Int))) (((0:Int)≤(↑k:Int)∧(↑k:Int)<(↑n:Int)∧7=7)∧(FlC z11 z12 z13 z14 z15 z16∧FL.Sm z0)∧wab (!decide (vinF z0=(0:Int))) z4 ((FlC z11 z12 z13 z14 z15 z16∧FL.Rg z0)∧(wbt z8 (entN g k)∧.agg [.str (wb0 (waz z1 0)),.int .i64 (wao (waz z1 (0+1))),.int .i64 (wao (waz z1 (0+1+1))),.int .i64 (wao (waz z1 (0+1+1+1))),.view (vwS z19) (vwN z19) (vwF z19),.view (vwS z18) (vwN z18) (vwF z18),.view (vwS z9) (vwN z9) (vwF z9)]=Option.getD z17 z7)∧wab (!Option.isSome z17) z2 (wab (decide (FL.day z3<wao (waz z1 (0+1+1)))) z2 z4))) (R (.exit 0) (St.mk [(3,.ptr 0 0)] z5 2 []))):=by kernel_rfl
theorem wzt (es:List (AV×AV)) (i:IN) (P:IN→Prop) (R:Exit→St→Prop):wa3 ⟨te,[],[],0,73,0⟩ (wa4 Tryz.f39 13) [3,9,46] [3,9] [] (wma es) P R (wma es i)=(letI z6:=ren 0 [(0,0),(21,1),(2,2),(3,3)];letI z3:=TI.mk TypeDesc.string 1 16 (Value.string (ByteArray.mk #[])) false;List.length es=List.length es∧(IN.left i=[]→(∀ (i_1:Nat),i_1<IN.c i→true=true)∧∃ (O':List (Nat×AObj)),waf [(0,.cells [.map 2] 121),(1,.row 9 1 (IN.c i) (wa2 (IN.h i)) false),(2,.amap (List.map (fun (p:AV×AV)=>(AV.rn (ren 0 [(0,0),(1,1),(3,2)]) (Prod.fst p),AV.rn (ren 0 [(0,0),(1,1),(3,2)]) (Prod.snd p))) es))] O'∧R (.exit 2) (St.mk [(3,.ptr 0 0),(9,.own 1 (IN.c i))] O' 3 []))∧∀ (i_1:Nat),letI z1:=List.getD es i_1 (.any,.any);letI z0:=Prod.snd z1;letI z5:=waz z0 (0+1+1+1+1);letI z4:=waz z0 (0+1+1+1+1+1);letI z2:=waz z0 (0+1+1+1+1+1+1);i_1∈IN.left i→(List.length es=List.length es∧i_1<List.length es∧.str (wb0 (Prod.fst z1))=Prod.fst z1∧.agg [.str (wb0 (waz z0 0)),.int .i64 (wao (waz z0 (0+1))),.int .i64 (wao (waz z0 (0+1+1))),.int .i64 (wao (waz z0 (0+1+1+1))),.view (vwS z5) (vwN z5) (vwF z5),.view (vwS z4) (vwN z4) (vwF z4),.view (vwS z2) (vwN z2) (vwF z2)]=Prod.snd z1)∧(1≤16777216∧1=1∧1≤9223372036854775807)∧((1≤1∧1=1)∧IN.c i≤IN.c i∧1=1∧9=9∧1=1∧IN.c i+1≤9223372036854775807∧(IN.c i+1) * TI.bytes z3≤140737488355328)∧∃ (i':IN),(TEq [(3,.ptr 0 0),(9,.own 1 (IN.c i+1)),(46,.ptr 2 0)] [(3,.ptr 0 0),(9,.own 1 (IN.c i')),(46,.ptr 2 0)]∧waf [(0,.cells [.map 3] 121),(1,.row 9 1 (IN.c i+1) (apF (IN.c i) (wa2 (IN.h i)) (way (TI.sz z3) (.str (wb0 (Prod.fst z1))::List.append [] (List.flatten (List.replicate (nat_lit 0) [.str ([])]))))) false),(2,.miter 3 (List.length es) (121::i_1::List.erase (IN.left i) i_1)),(3,.amap (List.map (fun (p:AV×AV)=>(AV.rn z6 (Prod.fst p),AV.rn z6 (Prod.snd p))) es))] [(0,.cells [.map 3] 121),(1,.row 9 1 (IN.c i') (wa2 (IN.h i')) false),(2,.miter 3 (List.length es) (121::IN.c0 i'::IN.left i')),(3,.amap es)])∧P i'):=by kernel_rfl
theorem wzs (es:List (AV×AV)) (m:Nat) (h:Nat→List UInt8) (o:Nat→FL) (k:Nat) (P:Nat→Prop) (R:Exit→St→Prop):wa3 ⟨te,[(96,.det wm2)],[],0,73,0⟩ (wa4 Tryz.f39 19) [3,11,58,59,60] [11] [] (wl9 es m h o) P R (wl9 es m h o k)=(letI z7:=ren 0 [(0,0),(37,1),(2,2),(3,3)];letI z6:=(mget es (.str (h (Int.toNat (↑k:Int)))));letI z5:=([.str ([]),.int .i64 0,.int .i64 0,.int .i64 0,.nil,.nil,.nil]:List AV);letI z0:=(Option.getD z6 (zvA (.agg z5)));letI z4:=waz z0 (0+1+1+1+1);letI z3:=waz z0 (0+1+1+1+1+1);letI z2:=waz z0 (0+1+1+1+1+1+1);letI z1:=([.str (wb0 (waz z0 0)),.int .i64 (wao (waz z0 (0+1))),.int .i64 (wao (waz z0 (0+1+1))),.int .i64 (wao (waz z0 (0+1+1+1))),.view (vwS z4) (vwN z4) (vwF z4),.view (vwS z3) (vwN z3) (vwF z3),.view (vwS z2) (vwN z2) (vwF z2)]:List AV);wab (decide ((↑k:Int)<(↑m:Int))) (((0:Int)≤(↑k:Int)∧(↑k:Int)<(↑m:Int))∧(Int.toNat (↑k:Int)<m∧1=1)∧(wbt (TI.desc (TI.mk TypeDesc.string 1 16 (Value.string (ByteArray.mk #[])) false)) es∧.agg z1=Option.getD z6 (zvA (.agg z5)))∧(∃ (F:FL),isFl (.agg z1) F∧List.length (FL.ms F)≤1000∧List.length (FL.rs F)≤1000∧List.length (FL.ts F)≤1000∧∀ (t:RT),t∈FL.ts F→List.length (RT.bs t)≤1000)∧(7≤16777216∧7=7∧1≤9223372036854775807)∧((1≤1∧7=7)∧k≤k∧7=7∧49=49∧7=7∧k+1≤9223372036854775807∧(k+1) * TI.bytes wdh≤140737488355328)∧inR .i64 ((↑k:Int)+(1:Int))∧∃ (i':Nat),(TEq [(3,.ptr 0 0),(11,.own 1 (k+1)),(58,.own 2 m),(59,.int .i64 (↑m:Int)),(60,.int .i64 ((↑k:Int)+(1:Int)))] [(3,.ptr 0 0),(11,.own 1 i'),(58,.own 2 m),(59,.int .i64 (↑m:Int)),(60,.int .i64 (↑i':Int))]∧waf [(0,.cells [.map 3] 121),(1,.row 49 7 (k+1) (apF k (wad o) (way (TI.sz wdh) (.str (wb0 (waz z0 0)):: .int .i64 (wao (waz z0 (0+1))):: .int .i64 (wao (waz z0 (0+1+1))):: .int .i64 (wao (waz z0 (0+1+1+1))):: .view (vwS z4) (vwN z4) (vwF z4):: .view (vwS z3) (vwN z3) (vwF z3):: .view (vwS z2) (vwN z2) (vwF z2)::List.append [] (List.flatten (List.replicate (nat_lit 0) z5))))) false),(2,.row 9 1 m (wa2 h) false),(3,.amap (List.map (fun (p:AV×AV)=>(AV.rn z7 (Prod.fst p),AV.rn z7 (Prod.snd p))) es))] [(0,.cells [.map 3] 121),(1,.row 49 7 i' (wad o) false),(2,.row 9 1 m (wa2 h) false),(3,.amap es)])∧P i') ((∀ (i:Nat),i<k→true=true)∧∃ (O':List (Nat×AObj)),waf [(0,.row 49 7 k (wad o) false)] O'∧R (.exit 4) (St.mk [(11,.own 0 k)] O' 1 []))):=by kernel_rfl
theorem cpdO_ok (hP:C.P=Tryz.prog):wag C 96 wm2:=by
 rintro args objs U Os vc h hvc
 unfold wm2 at h
 split at h<;>simp only [Option.some.injEq,Prod.mk.injEq,reduceCtorEq] at h
 obtain ⟨rfl,rfl,rfl⟩:=h
 obtain ⟨F,rfl,hm,hr,ht,hb⟩:=hvc
 exact cpd_at hP F hm hr ht hb
theorem n3_loop (hP:C.P=Tryz.prog) (hL:∀ w,C.laid w→LaidW w) (g:Nat→FL) (n:Nat):wak C 0 73 (wam Tryz.f39 3) (L_n3 g n):=by
 rintro st Q ⟨h0,hn,hg,hQ⟩
 refine wak.mk (prg hP) [(29,.det wd8),(33,.det whh)] 0 (.cons (vin_ok hP hL) (.cons (enc_ok hP hL) .nil)) [3,15,16,17] [3] [] (S_n3 g n) (fun k=>k≤n) (fun k=>n - k) 0 (Nat.zero_le _) h0 (fun k hk=>?_)
 have er:∀ (σ:Nat→Option Nat) (k:Nat),(entN g k).map (fun p=>(AV.rn σ p.1,AV.rn σ p.2))=entN g k:=fun σ k=>wiu σ _ _
 rw [wzr,Int.toNat_natCast,er,wd2 (g k)]
 have hkeys:wbt .string (entN g k):=wqu (wf7 k)
 have hgot:=gotT (wbf okV g k) (wav okV g k) (encF (g k))
 have hshape:=wuj (wbf okV g k) (wav okV g k) (encF (g k))
 have hmg:=wpw (wbf okV g k) (encF (g k)) (wav okV g k)
 rw [← wcz] at hgot hshape hmg
 refine waj (fun h1=>?_) (fun h1=>?_)
 ·have hk':k<n:=by omega
  have hG:=hg k hk'
  have same:∀ {σ:Nat→Option Nat},entN g (k+1)=entN g k→inR .i64 ((k:Int)+1)∧∃ (i':Nat),some (St.mk [(3,.ptr 0 0),(15,.view 7 n (wad g)),(16,.int .i64 (n:Int)),(17,.int .i64 ((k:Int)+1))] [(0,.cells [.map 1] 121),(1,.amap (entN g k))] 2 [])=
    some (St.mk [(3,.ptr 0 0),(15,.view 7 n (wad g)),(16,.int .i64 (n:Int)),(17,.int .i64 (i':Int))] [(0,.cells [.map 1] 121),(1,.amap (entN g i'))] 2 [])∧i'≤n∧n - i'<n - k:=fun {_} e=>
   ⟨by simp only [inR];omega,k+1,by rw [e];rfl,by omega,by omega⟩
  have upd:∀ (M:List (AV×AV)),mset (entN g k) (.str (encF (g k))) (.agg (wbb (g k)))=M→M=entN g (k+1)→wbt .string (entN g k)∧inR .i64 ((k:Int)+1)∧∃ (i':Nat),some (St.mk [(3,.ptr 0 0),(15,.view 7 n (wad g)),(16,.int .i64 (n:Int)),(17,.int .i64 ((k:Int)+1))] [(0,.cells [.map 1] 121),(1,.amap (M.map fun p=>(AV.rn (ren 0 [(0,0),(1,1)]) p.1,AV.rn (ren 0 [(0,0),(1,1)]) p.2)))] 2 [])=
    some (St.mk [(3,.ptr 0 0),(15,.view 7 n (wad g)),(16,.int .i64 (n:Int)),(17,.int .i64 (i':Int))] [(0,.cells [.map 1] 121),(1,.amap (entN g i'))] 2 [])∧i'≤n∧n - i'<n - k:=fun M hM e=>
   ⟨hkeys,by simp only [inR];omega,k+1,by rw [e,er];rfl,by omega,by omega⟩
  refine ⟨⟨by omega,by omega,rfl⟩,⟨wew _,hG.sm⟩,wb3 (fun hv=>same (σ:=fun _=>none) (w2p (decide_eq_false hv))) (fun hv=>?_)⟩
  have hok:okV (g k)=true:=decide_eq_true hv
  refine ⟨⟨wew _,hG.rg⟩,⟨hkeys,hshape⟩,?_⟩
  by_cases hx:encF (g k)∈wav okV g k
  ·rw [if_pos hx] at hmg
   rw [hmg]
   refine waj (fun hd=>upd _ rfl (w2m hok hx hd)) (fun hd=>same (σ:=fun _=>none) (w2o hok hx hd))
  ·rw [if_neg hx] at hmg
   rw [hmg]
   exact upd _ rfl (w2n hok hx)
 ·have:k=n:=by omega
  subst this
  exact hQ
theorem Tryz.sortStr:SlLaysF.n6 Tryz.prog Tryz.sort91_ren:={ Tryz.sort91 with a24:=Tryz.isAgg9,z24:=Tryz.sizeOf9 }
theorem wxb (hP:C.P=Tryz.prog):wbd C 91 wnh:=by
 have _:C.Loose:=inferInstance
 rintro args objs R h
 unfold wnh at h
 split at h
 ·rename_i n t m f fr ct es
  obtain ⟨rfl,rfl,rfl,hn,hf,hk,hs,hr,hR⟩:=h
  generalize stOf f=h0 at *
  subst hf
  have hS:=wal.sortM (C:=C) (cmpN es) (t:=9) (ct:=ct) (fS:=91) (g:=92)
   ⟨_,hP ▸ Tryz.func91,rfl,by decide⟩
   (fun cb blk cap d w h1 h2 h3 h4=>by
    rw [hP] at h1 ⊢
    exact Any.slices_SortFunc Tryz.sortStr strV (fun _=>rfl) (cmpN es) (swo_of (w28 es)) 92 cb blk 0 cap d w (enters_of Tryz.func92 (by kernel_rfl) rfl) h1 h2 h3 h4)
   (fun p cap fv w=>by
    rw [hP]
    exact AnyF.slices_SortFunc_none Tryz.sort91 p cap fv w)
   es hr (fun x y=>ncmp_ok (C:=Ctx.bare C.P C.mixed) hP es hk hs x y) (n:=n) h0 (by omega)
  refine hS.mono ?_
  rintro u O ⟨rfl,f',hp,hs,rfl⟩
  exact hR f' hp hs
 ·exact h.elim
theorem w1c {α:Type} (L:List α) (d:α):(List.range L.length).map (fun i=>L.getD i d)=L:=wdu L d
theorem w01 (hP:C.P=Tryz.prog) (g:Nat→FL) (n:Nat):wak C 0 73 (wam Tryz.f39 13) (wn4 g n):=by
 have _:C.Loose:=inferInstance
 rintro st Q ⟨h0,hn,hQ⟩
 have hlen:=wkd g n
 have hE:=wcz g n
 generalize hK:wav okV g n=K at *
 generalize wbf okV g n=F at *
 rw [hE] at h0 hQ
 refine AWP.ownNil 9 9 1 ?_
 refine wak.mk (prg hP) [] 0 .nil [3,9,46] [3,9] [] (wma (entT K F)) (fun i=>(lst i.h i.c++i.left.map (fun j=>K.getD j [])).Perm K∧∀ x∈i.left,x<K.length) (fun i=>i.left.length) ⟨0,fun _=>[],(entT K F).length,List.range (entT K F).length⟩ ⟨?_,?_⟩ h0 (fun i hi=>?_) (fun i=>⟨fun _ _=>rfl,trivial⟩)
 ·rw [wqt]
  show ((List.range K.length).map fun j=>K.getD j []).Perm K
  rw [w1c]
 ·intro x hx
  have hx:x∈List.range (entT K F).length:=hx
  rw [wqt] at hx
  exact List.mem_range.1 hx
 obtain ⟨hp,hlt⟩:=hi
 have hl:i.c+i.left.length=K.length:=by
  have:=hp.length_eq
  simpa [lst] using this
 rw [wzt,wiu,wiu]
 refine ⟨rfl,fun hnil=>⟨fun _ _=>rfl,_,wap _,?_⟩,fun j hj=>?_⟩
 ·rw [hnil] at hp hl
  have hc:i.c=K.length:=by simpa using hl
  rw [hc] at hp ⊢
  exact hQ i.h (by simpa using hp)
 ·have hjl:=hlt j hj
  rw [entT_at hjl,wqt]
  have herase:(i.left.erase j).length+1=i.left.length:=by
   rw [List.length_erase_of_mem hj]
   have:=List.length_pos_of_mem hj
   omega
  refine ⟨⟨rfl,hjl,rfl,rfl⟩,⟨by omega,rfl,by omega⟩,⟨⟨Nat.le_refl _,rfl⟩,Nat.le_refl _,rfl,rfl,rfl,by omega,?_⟩,⟨i.c+1,fun k=>if k<i.c then i.h k else K.getD j [],j,i.left.erase j⟩,⟨rfl,rfl,⟨rfl,rfl,rfl,rfl,rfl,fun k hk=>?_⟩,rfl,rfl,trivial⟩,⟨?_,fun x hx=>hlt x (List.mem_of_mem_erase hx)⟩,?_⟩
  ·show (i.c+1) * 16≤_
   omega
  ·have hk:k<i.c+1:=hk
   unfold apF wa2
   by_cases h:k<i.c
   ·simp only [h,if_true]
   ·have:k=i.c:=by omega
    subst this
    simp only [Nat.lt_irrefl,if_false,Nat.sub_self]
    rfl
  ·show (lst (fun k=>if k<i.c then i.h k else K.getD j []) (i.c+1)++(i.left.erase j).map (fun j=>K.getD j [])).Perm K
   rw [wh7]
   have e1:lst (fun k=>if k<i.c then i.h k else K.getD j []) i.c=lst i.h i.c:=List.map_congr_left fun k hk=>by
    rw [if_pos (List.mem_range.1 hk)]
   rw [e1,if_neg (Nat.lt_irrefl _),List.append_assoc,List.singleton_append, ← List.map_cons (f:=fun j=>K.getD j [])]
   exact ((List.perm_cons_erase hj).map (fun j=>K.getD j [])).symm.append_left _ |>.trans hp
  ·show (i.left.erase j).length<i.left.length
   omega
theorem w00 (hP:C.P=Tryz.prog) (g:Nat→FL) (n:Nat):wak C 0 73 (wam Tryz.f39 19) (wn3 g n):=by
 rintro st Q ⟨h,o,h0,hn,hg,hQ⟩
 have hlen:=wkd g n
 have hE:=wcz g n
 have hkeys:wbt .string (entN g n):=wqu (wf7 n)
 have er:∀ (σ:Nat→Option Nat),(entN g n).map (fun p=>(AV.rn σ p.1,AV.rn σ p.2))=entN g n:=fun σ=>wiu σ _ _
 generalize wav okV g n=K at *
 generalize entN g n=es at *
 refine AWP.ownNil 11 49 7 ?_
 refine wak.mk (prg hP) [(96,.det wm2)] 0 (.cons (cpdO_ok hP) .nil) [3,11,58,59,60] [11] [] (wl9 es K.length h o) (fun k=>k≤K.length) (fun k=>K.length - k) 0 (Nat.zero_le _) h0 (fun k hk=>?_) (fun _=>⟨fun _ _=>rfl,fun _ _=>rfl,trivial⟩)
 rw [wzs,Int.toNat_natCast,er]
 refine waj (fun h1=>?_) (fun h1=>?_)
 ·have hk':k<K.length:=by omega
  obtain ⟨hm,hG⟩:=hg k hk'
  have hm:(mget es (.str (h k))).getD (zvA (.agg [.str [],.int .i64 0,.int .i64 0,.int .i64 0,.nil,.nil,.nil]))= .agg (wbb (o k)):=hm
  rw [hm]
  refine ⟨⟨by omega,by omega⟩,⟨hk',rfl⟩,⟨hkeys,rfl⟩,⟨o k,rfl,hG.rg.nm,hG.rg.nr,hG.rg.nt,fun t ht=>(hG.rg.t t ht).n⟩,⟨by omega,rfl,by omega⟩,⟨⟨Nat.le_refl _,rfl⟩,Nat.le_refl _,rfl,rfl,rfl,by omega,?_⟩,by simp only [inR];omega,k+1,⟨rfl,rfl,⟨rfl,rfl,rfl,rfl,rfl,fun i hi=>?_⟩,⟨rfl,rfl,rfl,rfl,rfl,fun _ _=>rfl⟩,rfl,trivial⟩,by omega,by omega⟩
  ·show (k+1) * 112≤_
   omega
  ·unfold apF
   by_cases hi':i<k
   ·rw [if_pos hi']
   ·have:i=k:=by omega
    subst this
    rw [if_neg hi',Nat.sub_self];rfl
 ·have:k=K.length:=by omega
  subst this
  exact ⟨fun _ _=>rfl,_,wap _,hQ⟩
theorem w3w {g:Nat→FL} {n:Nat} {t:List UInt8} (hg:∀ i,i<n→(g i).Gd) (h:t∈wav okV g n):(wbf okV g n t).Gd:=by
 obtain ⟨j,b,e⟩:=wi2 h
 rw [e];exact hg j b.lt
theorem nrm_at (hP:C.P=Tryz.prog) (hL:∀ w,C.laid w→LaidW w) (g:Nat→FL) (n:Nat) (hn:n≤1000) (hg:∀ i,i<n→(g i).Gd):ADet C 39 [.view 7 n (wad g)] [] (.own 0 (nrmL okV g n).length) [(0,.row 49 7 (nrmL okV g n).length (wad (atF (nrmL okV g n))) false)]:=by
 refine wbd.wpL (prg hP) [(91,.rel wnh)] [(3,L_n3 g n),(13,wn4 g n),(19,wn3 g n)] 0 (.cons (wxb hP) .nil) (hP ▸ Tryz.func39) rfl rfl rfl
  [(wam Tryz.f39 3,L_n3 g n),(wam Tryz.f39 13,wn4 g n),(wam Tryz.f39 19,wn3 g n)] (by kernel_rfl) ⟨n3_loop hP hL g n,w01 hP g n,w00 hP g n,trivial⟩ ?_
 have er:∀ (σ:Nat→Option Nat),(entN g n).map (fun p=>(AV.rn σ p.1,AV.rn σ p.2))=entN g n:=fun σ=>wiu σ _ _
 rw [nf_nrm]
 simp only [er]
 have hkeys:wbt .string (entN g n):=wqu (wf7 n)
 have hlen:=wkd g n
 have hshape:∀ x,wci wi8 (gotN (entN g n) x)=gotN (entN g n) x:=fun x=>wuj _ _ x
 have hnref:∀ p∈entN g n,nref p.1=true∧nref p.2=true:=fun p hp=>by
  obtain ⟨t,_,rfl⟩:=List.mem_map.1 hp
  exact ⟨rfl,rfl⟩
 have hgot:∀ t,t∈wav okV g n→gotN (entN g n) t= .agg (wbb (wbf okV g n t)):=fun t ht=>by
  rw [wcz,gotT,if_pos ht]
 refine ⟨rfl,hn,hg,⟨rfl,rfl,⟨rfl,rfl,rfl,rfl,rfl,fun i hi=>absurd hi (Nat.not_lt_zero i)⟩,rfl,rfl,trivial⟩,hn,fun h hp=>⟨fun _ _=>trivial,trivial,trivial,trivial,by omega,rfl,hkeys,hshape,hnref,fun h1 hp1 hs1=>?_⟩⟩
 have hpK:(lst h1 (wav okV g n).length).Perm (wav okV g n):=hp1.trans hp
 have mem:∀ i,i<(wav okV g n).length→h1 i∈wav okV g n:=fun i hi=>hpK.mem_iff.1 (List.mem_map.2 ⟨i,List.mem_range.2 hi,rfl⟩)
 refine ⟨fun _ _=>trivial,h1,fun i=>wbf okV g n (h1 i),⟨rfl,rfl,⟨rfl,rfl,rfl,rfl,rfl,fun i hi=>absurd hi (Nat.not_lt_zero i)⟩,⟨rfl,rfl,rfl,rfl,rfl,fun _ _=>rfl⟩,rfl,trivial⟩,hn,fun i hi=>⟨hgot _ (mem i hi),w3w hg (mem i hi)⟩,?_⟩
 have hs:(lst h1 (wav okV g n).length).map (wbf okV g n)=nrmL okV g n:=by
  refine wyd hpK ?_
  refine wx6 fun i j hij hj=>?_
  rw [← w29 (mem j hj) (mem i (by omega))]
  exact hs1 i j hij hj
 have hl:(nrmL okV g n).length=(wav okV g n).length:=by
  rw [← hs,List.length_map];simp [lst]
 have at_:∀ i,i<(wav okV g n).length→wad (fun i=>wbf okV g n (h1 i)) i=wad (atF (nrmL okV g n)) i:=fun i hi=>by
  have:wbf okV g n (h1 i)=atF (nrmL okV g n) i:=by
   rw [← hs]
   simp [atF,lst,hi]
  show wad (fun _=>wbf okV g n (h1 i)) 0=wad (fun _=>atF (nrmL okV g n) i) 0
  rw [this]
 exact ⟨fun _ _=>trivial,[(0,.row 49 7 (wav okV g n).length (wad (atF (nrmL okV g n))) false)],⟨⟨rfl,rfl,rfl,rfl,rfl,at_⟩,trivial⟩,by rw [hl],by rw [hl]⟩
theorem nrmz_ok (hP:C.P=Tryz.prog) (hL:∀ w,C.laid w→LaidW w):wag C 39 wl5:=by
 rintro args objs U Os vc h hvc
 unfold wl5 at h
 split at h<;>simp only [Option.some.injEq,Prod.mk.injEq,reduceCtorEq] at h
 rename_i n f
 obtain ⟨rfl,rfl,rfl⟩:=h
 obtain ⟨hn,hf,hg⟩:=hvc
 generalize flOf f=g at *
 subst hf
 exact nrm_at hP hL g n hn hg
end Go.Eng
namespace Go.Eng
open Go.Proofs Go.RowKit
variable {C:Ctx} [C.Loose]
set_option maxRecDepth 20000
theorem nf_spl (g:Nat→FL) (n:Nat) (d:Int) (R:AV→List (Nat×AObj)→Prop):wpFn te [(39,.det wl5),(100,.rel wno)] [(4,L_s4 (knwL okV g n d)),(9,L_s9 (knwL okV g n d))] 0 Tryz.f99 [.view 7 n (wad g),.int .i64 d] [] R=(letI z6:=edG (knwL okV g n d);letI z4:=wad (atF (knwL okV g n d));letI z3:=badL (knwL okV g n d);letI z2:=wbs (knwL okV g n d);letI z1:=nrmL okV (flOf (wad g)) n;letI z5:=(∀ (i:Nat),i<List.length z1→true=true:Prop);letI z0:=List.length (knwL okV g n d);(n≤1000∧wad g=wad (flOf (wad g))∧∀ (i:Nat),i<n→FL.Gd (flOf (wad g) i))∧z5∧z5∧49=49∧3=3∧false=false∧List.length z1=List.length z1∧List.length z1≤1000∧wad (atF z1)=wad (flOf (wad (atF z1)))∧(∀ (i:Nat),i<List.length z1→FL.Rg (flOf (wad (atF z1)) i))∧True∧∀ (k:Nat) (h:Nat→FL),k≤List.length z1→lst h k=kfL (qD d) (flOf (wad (atF z1))) (List.length z1)→(∀ (i:Nat),i<k→true=true)∧(TEq [(4,.nil),(5,.nil),(6,.own 0 k),(7,.map 1),(17,.own 0 k),(18,.int .i64 (↑k:Int)),(19,.int .i64 0)] [(4,.nil),(5,.nil),(6,.own 0 z0),(7,.map 1),(17,.own 0 z0),(18,.int .i64 (↑z0:Int)),(19,.int .i64 (↑0:Int))]∧waf [(0,.row 49 7 k (wad h) false),(1,.amap (List.map (fun (p:AV×AV)=>(AV.rn (ren 0 [(1,0),(33,1)]) (Prod.fst p),AV.rn (ren 0 [(1,0),(33,1)]) (Prod.snd p))) []))] [(0,.row 49 7 z0 z4 false),(1,.amap (entM (cntL z6 0)))])∧List.length (knwL okV g n d)≤1000∧(TEq [(4,.own 0 0),(5,.own 1 0),(7,.map 2),(34,.own 3 z0),(35,.int .i64 (↑z0:Int)),(36,.int .i64 0)] [(4,.own 0 0),(5,.own 1 0),(7,.map 2),(34,.own 3 z0),(35,.int .i64 (↑z0:Int)),(36,.int .i64 (↑0:Int))]∧waf [(0,.row 49 7 0 (fun (_x:Nat)=>[]) false),(1,.row 49 7 0 (fun (_x:Nat)=>[]) false),(2,.amap (List.map (fun (p:AV×AV)=>(AV.rn (ren 0 [(3,0),(2,1),(1,2),(0,3)]) (Prod.fst p),AV.rn (ren 0 [(3,0),(2,1),(1,2),(0,3)]) (Prod.snd p))) (entM (cntL z6 z0)))),(3,.row 49 7 z0 z4 false)] [(0,.row 49 7 0 (wad (atF (selG (knwL okV g n d) 0))) false),(1,.row 49 7 0 (wad (atF (selB (knwL okV g n d) 0))) false),(2,.amap (entM (cntL z6 z0))),(3,.row 49 7 z0 z4 false)])∧List.length (knwL okV g n d)≤1000∧(∀ (i:Nat),i<List.length z2→true=true)∧(∀ (i:Nat),i<List.length z3→true=true)∧∃ (O':List (Nat×AObj)),waf [(0,.row 49 7 (List.length z2) (wad (atF z2)) false),(1,.row 49 7 (List.length z3) (wad (atF z3)) false)] O'∧R (.tuple [.own 0 (List.length z2),.own 1 (List.length z3)]) O'):=by kernel_rfl
theorem wy5 (L:List FL) (k:Nat) (P:Nat→Prop) (R:Exit→St→Prop):wa3 ⟨te,[],[(1006,L_s6 (cntL (edG L) k) (atF L k) L k)],0,59,0⟩ (wa4 Tryz.f99 4) [4,5,6,7,17,18,19] [4,5,6,7] [] (S_s4 L) P R (S_s4 L k)=(letI z4:=entM (cntL (edG L) k);letI z3:=ren 0 [(0,0),(1,1)];letI z2:=(↑(List.length L):Int);letI z1:=([(4,.nil),(5,.nil),(6,.own 0 (List.length L)),(7,.map 1),(9,.ptr 2 0),(17,.own 0 (List.length L)),(18,.int .i64 z2),(19,.int .i64 (↑k:Int))]:List (Nat×AV));letI z0:=(atF L (Int.toNat (↑k:Int)));wab (decide ((↑k:Int)<z2)) (((0:Int)≤(↑k:Int)∧(↑k:Int)<z2)∧(Int.toNat (↑k:Int)<List.length L∧7=7)∧(TEq z1 z1∧waf [(0,.row 49 7 (List.length L) (wad (atF L)) false),(1,.amap (List.map (fun (p:AV×AV)=>(AV.rn (ren 0 [(0,0),(1,1),(2,2)]) (Prod.fst p),AV.rn (ren 0 [(0,0),(1,1),(2,2)]) (Prod.snd p))) z4)),(2,.cells [.str (FL.id z0),.int .i64 (FL.ver z0),.int .i64 (FL.day z0),.int .i64 (FL.kind z0),.view 15 (List.length (FL.ms z0)) (wae (atM (FL.ms z0))),.view 5 (List.length (FL.rs z0)) (wai (atR (FL.rs z0))),.view 5 (List.length (FL.ts z0)) (wah (atT (FL.ts z0)))] 49)] [(0,.row 49 7 (List.length L) (wad (atF L)) false),(1,.amap z4),(2,.cells [.str (FL.id (atF L k)),.int .i64 (FL.ver (atF L k)),.int .i64 (FL.day (atF L k)),.int .i64 (FL.kind (atF L k)),.view 15 (List.length (FL.ms (atF L k))) (wae (atM (FL.ms (atF L k)))),.view 5 (List.length (FL.rs (atF L k))) (wai (atR (FL.rs (atF L k)))),.view 5 (List.length (FL.ts (atF L k))) (wah (atT (FL.ts (atF L k))))] 49)])∧List.Nodup (List.map Prod.fst (cntL (edG L) k))∧inR .i64 (getC (cntL (edG L) k) (mk2 (edM (atF L k)))+(1:Int))∧inR .i64 ((↑k:Int)+(1:Int))∧∃ (i':Nat),(TEq [(4,.nil),(5,.nil),(6,.own 0 (List.length L)),(7,.map 1),(17,.own 0 (List.length L)),(18,.int .i64 z2),(19,.int .i64 ((↑k:Int)+(1:Int)))] [(4,.nil),(5,.nil),(6,.own 0 (List.length L)),(7,.map 1),(17,.own 0 (List.length L)),(18,.int .i64 z2),(19,.int .i64 (↑i':Int))]∧waf [(0,.row 49 7 (List.length L) (wad (atF L)) false),(1,.amap (List.map (fun (p:AV×AV)=>(AV.rn z3 (Prod.fst p),AV.rn z3 (Prod.snd p))) (entM (addC (cntL (edG L) k) (mk2 (edM (atF L k)))))))] [(0,.row 49 7 (List.length L) (wad (atF L)) false),(1,.amap (entM (cntL (edG L) i')))])∧P i') ((∀ (i:Nat),i<List.length L→true=true)∧∃ (O':List (Nat×AObj)),waf [(0,.row 49 7 (List.length L) (wad (atF L)) false),(1,.amap (List.map (fun (p:AV×AV)=>(AV.rn z3 (Prod.fst p),AV.rn z3 (Prod.snd p))) z4))] O'∧R (.exit 0) (St.mk [(4,.nil),(5,.nil),(6,.own 0 (List.length L)),(7,.map 1)] O' 2 []))):=by kernel_rfl
theorem nf_s6a (u4 u5 u6 u17 u18 u19 c2 c3 c4 c5 c6:AV) (id:List UInt8) (ver:Int) (es:List (AV×AV)) (r:AObj):rgA ⟨te,[],[],0,59,0⟩ (regC Tryz.f99 6) [0,1,2,3,4,5] [4,5,6,7,9,17,18,19,23,28] ⟨[(4,u4),(5,u5),(6,u6),(7,.map 1),(9,.ptr 2 0),(17,u17),(18,u18),(19,u19),(23,.map 1),(28,.agg [.str id,.int .i64 ver])],[(0,r),(1,.amap es),(2,.cells [.str id,.int .i64 ver,c2,c3,c4,c5,c6] 49)],3,[]⟩ ⟨[(4,u4),(5,u5),(6,u6),(7,.map 1),(9,.ptr 2 0),(17,u17),(18,u18),(19,u19)],[(0,r),(1,.amap es),(2,.cells [.str id,.int .i64 ver,c2,c3,c4,c5,c6] 49)],3,[]⟩=(letI z2:=([(0,r),(1,.amap es),(2,.cells [.str id,.int .i64 ver,c2,c3,c4,c5,c6] 49)]:List (Nat×AObj));letI z3:=St.mk [(4,u4),(5,u5),(6,u6),(7,.map 1),(9,.ptr 2 0),(17,u17),(18,u18),(19,u19)] z2 3 [];letI z1:=([(4,u4),(5,u5),(6,u6),(7,.map 1),(9,.ptr 2 0),(17,u17),(18,u18),(19,u19),(23,.map 1),(28,.agg [.str id,.int .i64 ver])]:List (Nat×AV));letI z6:=St.mk z1 z2 3 [];letI z0:=(z1=z1∧z2=z2∧St.nx z3=St.nx z6:Prop);letI z5:=z0∧z1=z1∧z2=z2∧St.nx z3=St.nx z6;letI z4:=z0∧z0∧z1=z1∧z2=z2∧St.nx z3=St.nx z6;(z4∧z5∧z1=z1∧z2=z2∧St.nx z3=St.nx z6)∧(z4∧(z0∧z0∧z0∧z1=z1∧z2=z2∧St.nx z3=St.nx z6)∧z5∧z4∧z0∧z0∧z1=z1∧z2=z2∧St.nx z3=St.nx z6)∧(z5∧z1=z1∧z2=z2∧St.nx z3=St.nx z6)∧(z5∧z4∧z0∧z0∧z1=z1∧z2=z2∧St.nx z3=St.nx z6)∧z0∧z0∧z0∧z1=z1∧z2=z2∧St.nx z3=St.nx z6):=by kernel_rfl
theorem nf_s6 (E:List ((List UInt8×Int)×Int)) (F:FL) (L:List FL) (k:Nat) (Q:Exit→St→Prop):rgB ⟨te,[],[],0,59,0⟩ (regC Tryz.f99 6) [0,1,2,3,4,5] [4,5,6,7,9,17,18,19] Q (S_s6b E F L k)=(letI z16:=Env.te (Env.mk te [] [] 0 59 0);letI z15:=zvA (.int .i64 0);letI z14:=ren 0 [(0,0),(1,1),(2,2)];letI z9:=(∀ (i:Nat),i<List.length L→true=true:Prop);letI z7:=([.str (FL.id F),.int .i64 (FL.ver F),.int .i64 (FL.day F),.int .i64 (FL.kind F),.view 15 (List.length (FL.ms F)) (wae (atM (FL.ms F))),.view 5 (List.length (FL.rs F)) (wai (atR (FL.rs F))),.view 5 (List.length (FL.ts F)) (wah (atT (FL.ts F)))]:List AV);letI z3:=([(4,.nil),(5,.nil),(6,.own 0 (List.length L)),(7,.map 1),(9,.ptr 2 0),(17,.own 0 (List.length L)),(18,.int .i64 (↑(List.length L):Int)),(19,.int .i64 (↑k:Int))]:List (Nat×AV));letI z0:=([.str (FL.id F),.int .i64 (FL.ver F)]:List AV);letI z13:=mget (entM E) (.agg z0);letI z11:=(↑(midx (entM E) (.agg z0)):Int);letI z10:=(wao (Option.getD z13 z15)+(1:Int));letI z6:=wcu z16 173 (entM E)∧.int .i64 (wao (Option.getD z13 (.int .i64 0)))=Option.getD z13 (.int .i64 0);letI z5:=ment (.int .i64 0) (entM E) (.agg z0);letI z18:=List.getD z5 (Int.toNat z11) (.any,.any);letI z8:=Option.getD (mget z5 (.agg z0)) z15;letI z17:=(wao z8+(1:Int));letI z12:=wcu z16 173 z5∧.int .i64 (wao z8)=Option.getD (mget z5 (.agg z0)) z15;letI z4:=((0:Int)≤z11∧z11<(↑(List.length z5):Int):Prop);letI z2:=([(0,.row 49 7 (List.length L) (wad (atF L)) false),(1,.amap (List.map (fun (p:AV×AV)=>(AV.rn z14 (Prod.fst p),AV.rn z14 (Prod.snd p))) (List.set z5 (Int.toNat z11) (Prod.fst z18,.int .i64 z10)))),(2,.cells z7 49)]:List (Nat×AObj));letI z1:=([(0,.row 49 7 (List.length L) (wad (atF L)) false),(1,.amap (List.map (fun (p:AV×AV)=>(AV.rn z14 (Prod.fst p),AV.rn z14 (Prod.snd p))) (List.set z5 (Int.toNat z11) (Prod.fst z18,.int .i64 z17)))),(2,.cells z7 49)]:List (Nat×AObj));((wcu z16 173 (entM E)∧.int .i64 (wao (Option.getD z13 z15))=Option.getD z13 z15)∧(inR .i64 z10∧z6∧z4∧z9∧∃ (O':List (Nat×AObj)),waf z2 O'∧Q .normal (St.mk z3 O' 3 []))∧z6∧(inR .i64 z10∧z4∧z9∧∃ (O':List (Nat×AObj)),waf z2 O'∧Q .normal (St.mk z3 O' 3 []))∧inR .i64 z10∧z4∧z9∧∃ (O':List (Nat×AObj)),waf z2 O'∧Q .normal (St.mk z3 O' 3 []))∧z6∧(z12∧(inR .i64 z17∧z4∧z9∧∃ (O':List (Nat×AObj)),waf z1 O'∧Q .normal (St.mk z3 O' 3 []))∧inR .i64 z17∧z4∧z9∧∃ (O':List (Nat×AObj)),waf z1 O'∧Q .normal (St.mk z3 O' 3 []))∧z12∧inR .i64 z17∧z4∧z9∧∃ (O':List (Nat×AObj)),waf z1 O'∧Q .normal (St.mk z3 O' 3 [])):=by kernel_rfl
theorem wy4 (L:List FL) (k:Nat) (P:Nat→Prop) (R:Exit→St→Prop):wa3 ⟨te,[],[],0,59,0⟩ (wa4 Tryz.f99 9) [4,5,7,34,35,36] [4,5] [] (S_s9 L) P R (S_s9 L k)=(letI z13:=ren 0 [(23,0),(1,1),(2,2),(3,3)];letI z12:=ren 0 [(0,0),(23,1),(2,2),(3,3)];letI z11:=wad (atF (selB L k));letI z10:=wad (atF (selG L k));letI z9:=List.length (selG L k)+1;letI z8:=List.length (selB L k)+1;letI z7:=(7≤16777216∧7=7∧1≤9223372036854775807:Prop);letI z6:=List.length (selB L k);letI z5:=List.length (selG L k);letI z3:=(↑(List.length L):Int);letI z2:=entM (cntL (edG L) (List.length L));letI z1:=(atF L (Int.toNat (↑k:Int)));letI z4:=mget z2 (.agg [.str (FL.id z1),.int .i64 (FL.ver z1)]);letI z0:=(way (TI.sz wdh) (.str (FL.id z1):: .int .i64 (FL.ver z1):: .int .i64 (FL.day z1):: .int .i64 (FL.kind z1):: .view 15 (List.length (FL.ms z1)) (wae (atM (FL.ms z1))):: .view 5 (List.length (FL.rs z1)) (wai (atR (FL.rs z1))):: .view 5 (List.length (FL.ts z1)) (wah (atT (FL.ts z1)))::List.append [] (List.flatten (List.replicate (nat_lit 0) [.str ([]),.int .i64 0,.int .i64 0,.int .i64 0,.nil,.nil,.nil]))));wab (decide ((↑k:Int)<z3)) (((0:Int)≤(↑k:Int)∧(↑k:Int)<z3)∧(Int.toNat (↑k:Int)<List.length L∧7=7)∧(wcu (Env.te (Env.mk te [] [] 0 59 0)) 173 z2∧.int .i64 (wao (Option.getD z4 (zvA (.int .i64 0))))=Option.getD z4 (zvA (.int .i64 0)))∧wab (decide ((1:Int)<wao (Option.getD z4 (zvA (.int .i64 0))))) (z7∧((1≤1∧7=7)∧List.length (selB L k)≤List.length (selB L k)∧7=7∧49=49∧7=7∧List.length (selB L k)+1≤9223372036854775807∧z8 * TI.bytes wdh≤140737488355328)∧inR .i64 ((↑k:Int)+(1:Int))∧∃ (i':Nat),(TEq [(4,.own 0 z5),(5,.own 1 z8),(7,.map 2),(34,.own 3 (List.length L)),(35,.int .i64 z3),(36,.int .i64 ((↑k:Int)+(1:Int)))] [(4,.own 0 (List.length (selG L i'))),(5,.own 1 (List.length (selB L i'))),(7,.map 2),(34,.own 3 (List.length L)),(35,.int .i64 z3),(36,.int .i64 (↑i':Int))]∧waf [(0,.row 49 7 z5 z10 false),(1,.row 49 7 z8 (apF z6 z11 z0) false),(2,.amap (List.map (fun (p:AV×AV)=>(AV.rn z12 (Prod.fst p),AV.rn z12 (Prod.snd p))) z2)),(3,.row 49 7 (List.length L) (wad (atF L)) false)] [(0,.row 49 7 (List.length (selG L i')) (wad (atF (selG L i'))) false),(1,.row 49 7 (List.length (selB L i')) (wad (atF (selB L i'))) false),(2,.amap z2),(3,.row 49 7 (List.length L) (wad (atF L)) false)])∧P i') (z7∧((1≤1∧7=7)∧List.length (selG L k)≤List.length (selG L k)∧7=7∧49=49∧7=7∧List.length (selG L k)+1≤9223372036854775807∧z9 * TI.bytes wdh≤140737488355328)∧inR .i64 ((↑k:Int)+(1:Int))∧∃ (i':Nat),(TEq [(4,.own 0 z9),(5,.own 1 z6),(7,.map 2),(34,.own 3 (List.length L)),(35,.int .i64 z3),(36,.int .i64 ((↑k:Int)+(1:Int)))] [(4,.own 0 (List.length (selG L i'))),(5,.own 1 (List.length (selB L i'))),(7,.map 2),(34,.own 3 (List.length L)),(35,.int .i64 z3),(36,.int .i64 (↑i':Int))]∧waf [(0,.row 49 7 z9 (apF z5 z10 z0) false),(1,.row 49 7 z6 z11 false),(2,.amap (List.map (fun (p:AV×AV)=>(AV.rn z13 (Prod.fst p),AV.rn z13 (Prod.snd p))) z2)),(3,.row 49 7 (List.length L) (wad (atF L)) false)] [(0,.row 49 7 (List.length (selG L i')) (wad (atF (selG L i'))) false),(1,.row 49 7 (List.length (selB L i')) (wad (atF (selB L i'))) false),(2,.amap z2),(3,.row 49 7 (List.length L) (wad (atF L)) false)])∧P i')) ((∀ (i:Nat),i<List.length (selG L k)→true=true)∧(∀ (i:Nat),i<List.length (selB L k)→true=true)∧∃ (O':List (Nat×AObj)),waf [(0,.row 49 7 z5 z10 false),(1,.row 49 7 z6 z11 false)] O'∧R (.exit 2) (St.mk [(4,.own 0 z5),(5,.own 1 z6)] O' 2 []))):=by kernel_rfl
theorem wqv {L:List ((List UInt8×Int)×Int)} (h:(L.map Prod.fst).Nodup):wcu te 173 (entM L):=by
 refine ⟨List.all_eq_true.2 fun p hp=>?_,(w2q h).2⟩
 obtain ⟨r,_,rfl⟩:=List.mem_map.1 hp
 have:∀ (a:List UInt8) (b:Int),keyA te 173 (.agg [.str a,.int .i64 b])=true:=fun a b=>by kernel_rfl
 exact this _ _
theorem w1m {ES:List (AV×AV)} {i:Nat} {v:AV} (hi:i<ES.length) (h:wcu te 173 (ES.set i ((ES.getD i (.any,.any)).1,v))):wcu te 173 ES:=by
 have e:(ES.set i ((ES.getD i (.any,.any)).1,v)).map Prod.fst=ES.map Prod.fst:=by
  apply List.ext_getElem
  ·simp
  ·intro j h1 h2
   simp only [List.getElem_map,List.getElem_set]
   split
   ·rename_i e;subst e;simp [hi]
   ·rfl
 obtain ⟨h1,h2⟩:=h
 rw [e] at h2
 refine ⟨?_,h2⟩
 have f:∀ l:List (AV×AV),(l.all fun p=>keyA te 173 p.1)=(l.map Prod.fst).all fun k=>keyA te 173 k:=fun l=>by rw [List.all_map];rfl
 rw [f] at h1 ⊢
 rw [e] at h1
 exact h1
theorem s6_ok (hP:C.P=Tryz.prog) (E:List ((List UInt8×Int)×Int)) (F:FL) (L:List FL) (k:Nat):wak C 0 59 (regC Tryz.f99 6) (L_s6 E F L k):=by
 have _:C.Loose:=inferInstance
 rintro st Q ⟨h0,hnd,hin,hQ⟩
 refine wak.cut (SA:=S_s6b E F L k) (prg hP) [] 0 .nil [4,5,6,7,9,17,18,19] [4,5,6,7,9,17,18,19] [0,1,2,3,4,5] [4,5,6,7,9,17,18,19,23,28] h0 ?_ ?_ ⟨fun _ _=>rfl,trivial⟩
 ·refine (nf_s6a .nil .nil (.own 0 L.length) (.own 0 L.length) (.int .i64 L.length) (.int .i64 k) (.int .i64 F.day) (.int .i64 F.kind) (.view 15 F.ms.length (wae (atM F.ms))) (.view 5 F.rs.length (wai (atR F.rs))) (.view 5 F.ts.length (wah (atT F.ts))) F.id F.ver (entM E) (.row 49 7 L.length (wad (atF L)) false)).mpr ?_
  repeat' first | exact rfl | refine And.intro ?_ ?_
 rw [nf_s6]
 have zz:zvA (.int .i64 0)= .int .i64 0:=rfl
 have F1:Option.getD (mget (entM E) (.agg [.str F.id,.int .i64 F.ver])) (.int .i64 0)= .int .i64 (getC E (mk2 (edM F))):=wpx (mk2 (edM F)) E
 obtain ⟨F3,F4,F5⟩:=ment_K (mk2 (edM F)) E
 have K1:=wqv hnd
 have K2:wcu te 173 (ment (.int .i64 0) (entM E) (keyK (mk2 (edM F)))):=w1m F4 (F5.symm ▸ wqv (wrj (mk2 (edM F)) hnd))
 change Option.getD (mget (ment (.int .i64 0) (entM E) (.agg [.str F.id,.int .i64 F.ver])) (.agg [.str F.id,.int .i64 F.ver])) (.int .i64 0)= .int .i64 (getC E (mk2 (edM F))) at F3
 change midx (entM E) (.agg [.str F.id,.int .i64 F.ver])<(ment (.int .i64 0) (entM E) (.agg [.str F.id,.int .i64 F.ver])).length at F4
 change (ment (.int .i64 0) (entM E) (.agg [.str F.id,.int .i64 F.ver])).set (midx (entM E) (.agg [.str F.id,.int .i64 F.ver])) (((ment (.int .i64 0) (entM E) (.agg [.str F.id,.int .i64 F.ver])).getD (midx (entM E) (.agg [.str F.id,.int .i64 F.ver])) (.any,.any)).1,.int .i64 (getC E (mk2 (edM F))+1))=entM (addC E (mk2 (edM F))) at F5
 change wcu te 173 (ment (.int .i64 0) (entM E) (.agg [.str F.id,.int .i64 F.ver])) at K2
 have F6:(0:Int)≤(midx (entM E) (.agg [.str F.id,.int .i64 F.ver]):Int)∧(midx (entM E) (.agg [.str F.id,.int .i64 F.ver]):Int)<((ment (.int .i64 0) (entM E) (.agg [.str F.id,.int .i64 F.ver])).length:Int):=by omega
 simp only [zz,F1,F3,wao,Int.toNat_natCast,F5,wgc]
 have leaf:∃ O',waf (S_s6 (addC E (mk2 (edM F))) F L k).O O'∧Q .normal ⟨(S_s6 (addC E (mk2 (edM F))) F L k).T,O',3,[]⟩:=⟨_,wap _,hQ⟩
 have all:∀ i,i<L.length→True:=fun _ _=>trivial
 have K1:=(and_true (wcu te 173 (entM E))).symm ▸ K1
 repeat' first | exact leaf | exact trivial | exact K1 | exact K2 | exact ⟨K2,trivial⟩ | exact hin | exact F6 | exact all | refine And.intro ?_ ?_
theorem s4_loop (hP:C.P=Tryz.prog) (L:List FL):wak C 0 59 (wam Tryz.f99 4) (L_s4 L):=by
 rintro st Q ⟨h0,hn,hQ⟩
 refine wak.mkI (prg hP) [] (fun k=>[(1006,L_s6 (cntL (edG L) k) (atF L k) L k)]) 0 .nil (fun k=>[(regC Tryz.f99 6,L_s6 (cntL (edG L) k) (atF L k) L k)]) (fun k=>by kernel_rfl) (fun k=>⟨s6_ok hP _ _ L k,trivial⟩) [4,5,6,7,17,18,19] [4,5,6,7] [] (S_s4 L) (fun k=>k≤L.length) (fun k=>L.length - k) 0 (Nat.zero_le _) h0 (fun k hk=>?_) (fun k=>⟨fun _ _=>rfl,trivial⟩)
 rw [wy5,Int.toNat_natCast,wgc,wgc]
 have hb:=wqp (edG L) (mk2 (edM (atF L k))) k
 have hc:=wtf (edG L) (mk2 (edM (atF L k))) k
 refine waj (fun h1=>⟨⟨by omega,by omega⟩,⟨by omega,rfl⟩,⟨rfl,wap _⟩,wq3 (edG L) k,by simp only [inR];omega,by simp only [inR];omega,k+1,⟨rfl,?_⟩,by omega,by omega⟩) (fun h1=>?_)
 ·exact wap _
 ·have:k=L.length:=by omega
  subst this
  first | exact ⟨fun _ _=>rfl,_,wap _,hQ⟩ | (rw [wgc];exact ⟨fun _ _=>rfl,_,wap _,hQ⟩)
theorem snocF (G:List FL) (x:FL) (ch:Nat→List AV) (hch:ch 0=wbb x):∀ i,i<G.length+1→apF G.length (wad (atF G)) ch i=wad (atF (G++[x])) i:=fun i hi=>by
 unfold apF
 by_cases h:i<G.length
 ·rw [if_pos h]
  show wbb (atF G i)=wbb (atF (G++[x]) i)
  congr 1
  simp [atF,List.getD_eq_getElem?_getD,List.getElem?_append_left h]
 ·have:i=G.length:=by omega
  subst this
  rw [if_neg h,Nat.sub_self,hch]
  show wbb x=wbb (atF (G++[x]) G.length)
  congr 1
  simp [atF]
theorem s9_loop (hP:C.P=Tryz.prog) (L:List FL):wak C 0 59 (wam Tryz.f99 9) (L_s9 L):=by
 have _:C.Loose:=inferInstance
 rintro st Q ⟨h0,hn,hQ⟩
 refine AWP.ownNil 5 49 7 (AWP.ownNil 4 49 7 ?_)
 refine wak.mk (prg hP) [] 0 .nil [4,5,7,34,35,36] [4,5] [] (S_s9 L) (fun k=>k≤L.length) (fun k=>L.length - k) 0 (Nat.zero_le _) h0 (fun k hk=>?_) (fun _=>⟨fun _ _=>rfl,fun _ _=>rfl,fun _ _=>rfl,trivial⟩)
 have zz:zvA (.int .i64 0)= .int .i64 0:=rfl
 rw [wy4,Int.toNat_natCast]
 have l1:=wjm (fun i=> !cfB L i) L k
 have l2:=wjm (cfB L) L k
 have hF:Option.getD (mget (entM (cntL (edG L) L.length)) (.agg [.str (atF L k).id,.int .i64 (atF L k).ver])) (.int .i64 0)= .int .i64 (getC (cntL (edG L) L.length) (mk2 (edM (atF L k)))):=wpx (mk2 (edM (atF L k))) _
 rw [zz,hF,wqp,wgc,wgc]
 have hc:cfB L k=decide (1<numC (edG L) (mk2 (edM (atF L k))) L.length):=rfl
 have sG:selG L (k+1)=bif !cfB L k then selG L k++[atF L k] else selG L k:=rfl
 have sB:selB L (k+1)=bif cfB L k then selB L k++[atF L k] else selB L k:=rfl
 refine waj (fun h1=>⟨⟨by omega,by omega⟩,⟨by omega,rfl⟩,⟨wqv (wq3 _ _),rfl⟩,waj (fun h2=>?_) (fun h2=>?_)⟩) (fun h1=>?_)
 ·have hk':cfB L k=true:=decide_eq_true h2
  rw [hk'] at sG sB
  have sG:selG L (k+1)=selG L k:=sG
  have sB:selB L (k+1)=selB L k++[atF L k]:=sB
  have l2:(selB L k).length≤k:=l2
  refine ⟨⟨by omega,rfl,by omega⟩,⟨⟨Nat.le_refl _,rfl⟩,Nat.le_refl _,rfl,rfl,rfl,by omega,?_⟩,by simp only [inR];omega,k+1,?_,by omega,by omega⟩
  ·show ((selB L k).length+1) * 112≤_
   omega
  ·rw [sG,sB,List.length_append]
   exact ⟨rfl,⟨rfl,rfl,rfl,rfl,rfl,fun _ _=>rfl⟩,⟨rfl,rfl,rfl,rfl,rfl,snocF _ _ _ rfl⟩,rfl,⟨rfl,rfl,rfl,rfl,rfl,fun _ _=>rfl⟩,trivial⟩
 ·have hk':cfB L k=false:=decide_eq_false h2
  rw [hk'] at sG sB
  have sG:selG L (k+1)=selG L k++[atF L k]:=sG
  have sB:selB L (k+1)=selB L k:=sB
  have l1:(selG L k).length≤k:=l1
  refine ⟨⟨by omega,rfl,by omega⟩,⟨⟨Nat.le_refl _,rfl⟩,Nat.le_refl _,rfl,rfl,rfl,by omega,?_⟩,by simp only [inR];omega,k+1,?_,by omega,by omega⟩
  ·show ((selG L k).length+1) * 112≤_
   omega
  ·rw [sG,sB,List.length_append]
   exact ⟨rfl,⟨rfl,rfl,rfl,rfl,rfl,snocF _ _ _ rfl⟩,⟨rfl,rfl,rfl,rfl,rfl,fun _ _=>rfl⟩,rfl,⟨rfl,rfl,rfl,rfl,rfl,fun _ _=>rfl⟩,trivial⟩
 ·have:k=L.length:=by omega
  subst this
  exact ⟨fun _ _=>rfl,fun _ _=>rfl,_,wap _,hQ⟩
theorem nrm_gd {g:Nat→FL} {n:Nat} (hg:∀ i,i<n→(g i).Gd):∀ x∈nrmL okV g n,x.Gd:=fun x hx=>by
 obtain ⟨i,b,rfl⟩:=wpn.1 hx
 exact hg i b.lt
theorem wtg (g:Nat→FL) (n:Nat):(nrmL okV g n).length≤n:=by
 have:∀ k,(nrmK okV g n k).length≤k:=fun k=>by
  induction k with
  |zero=>exact Nat.le_refl _
  |succ k ih=>
   rw [nrmK]
   cases kept okV g n k with
   |true=>
    have hp:=wqz (nrmK okV g n k) (g k) (nrmK okV g n k).length
    rw [cond_true,insF,List.length_append,List.length_cons,List.length_take,List.length_drop]
    omega
   |false=>rw [cond_false];omega
 exact this n
theorem kf_day (L:List FL) (d:Int):kfL (qD d) (atF L) L.length=L.filter fun f=>decide (f.day≤d):=by
 unfold kfL
 rw [show lst (atF L) L.length=L from wdu L _]
 refine List.filter_congr fun x _=>?_
 unfold qD
 by_cases h:d<x.day
 ·rw [decide_eq_true h,decide_eq_false (by omega)];rfl
 ·rw [decide_eq_false h,decide_eq_true (by omega)];rfl
theorem spl_at (hP:C.P=Tryz.prog) (hL:∀ w,C.laid w→LaidW w) (g:Nat→FL) (n:Nat) (d:Int) (hn:n≤1000) (hg:∀ i,i<n→(g i).Gd):ADet C 99 [.view 7 n (wad g),.int .i64 d] [] (.tuple [.own 0 (wbs (knwL okV g n d)).length,.own 1 (badL (knwL okV g n d)).length])
     [(0,.row 49 7 (wbs (knwL okV g n d)).length (wad (atF (wbs (knwL okV g n d)))) false),(1,.row 49 7 (badL (knwL okV g n d)).length (wad (atF (badL (knwL okV g n d)))) false)]:=by
 refine wbd.wpL (prg hP) [(39,.det wl5),(100,.rel wno)] [(4,L_s4 (knwL okV g n d)),(9,L_s9 (knwL okV g n d))] 0 (.cons (nrmz_ok hP hL) (.cons (delD_ok hP) .nil)) (hP ▸ Tryz.func99) rfl rfl rfl
   [(wam Tryz.f99 4,L_s4 (knwL okV g n d)),(wam Tryz.f99 9,L_s9 (knwL okV g n d))] (by kernel_rfl) ⟨s4_loop hP _,s9_loop hP _,trivial⟩ ?_
 rw [nf_spl,wdl,wdl,wgc]
 have hl:=wtg g n
 have hgd:=nrm_gd hg
 have hk:kfL (qD d) (atF (nrmL okV g n)) (nrmL okV g n).length=knwL okV g n d:=kf_day _ d
 generalize nrmL okV g n=N at *
 rw [hk]
 generalize knwL okV g n d=K at *
 refine ⟨⟨hn,rfl,hg⟩,fun _ _=>rfl,fun _ _=>rfl,rfl,rfl,rfl,rfl,by omega,rfl,fun i hi=>(hgd _ (wlb hi)).rg,trivial,fun k h hkn hlst=>?_⟩
 obtain ⟨e1,e2⟩:=lst_at hlst we1
 subst e1
 refine ⟨fun _ _=>rfl,⟨rfl,⟨rfl,rfl,rfl,rfl,rfl,fun i hi=>?_⟩,rfl,trivial⟩,by omega,⟨rfl,⟨rfl,rfl,rfl,rfl,rfl,fun i hi=>absurd hi (Nat.not_lt_zero i)⟩,⟨rfl,rfl,rfl,rfl,rfl,fun i hi=>absurd hi (Nat.not_lt_zero i)⟩,rfl,⟨rfl,rfl,rfl,rfl,rfl,fun _ _=>rfl⟩,trivial⟩,by omega,fun _ _=>rfl,fun _ _=>rfl,_,wap _,rfl,rfl⟩
 show wbb (h i)=wbb (K.getD i we1)
 rw [e2 i hi]
theorem spl_ok (hP:C.P=Tryz.prog) (hL:∀ w,C.laid w→LaidW w):wag C 99 wlr:=by
 rintro args objs U Os vc h hvc
 unfold wlr at h
 split at h<;>simp only [Option.some.injEq,Prod.mk.injEq,reduceCtorEq] at h
 rename_i n f d
 obtain ⟨rfl,rfl,rfl⟩:=h
 obtain ⟨hn,hf,hg⟩:=hvc
 generalize flOf f=g at *
 subst hf
 exact spl_at hP hL g n d hn hg
end Go.Eng
