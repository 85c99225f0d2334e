/- The laws of files: lists of files. -/
import Derived.Test.YtgcboligphndhaaGreatDoorBy
import Derived.Test.YtgcboligphndhaaGreatDoorBx
import Derived.Test.YtgcboligphndhaaGreatDoorBu
import Derived.Test.YtgcboligphndhaaGreatDoorBv
import Derived.Test.YtgcboligphndhaaGreatDoorBs
import Derived.Test.YtgcboligphndhaaGreatDoorBq
import Derived.Test.YtgcboligphndhaaGreatDoorBr
namespace Go.Eng
open Go.Proofs Go.RowKit Go.Sort
variable {C:Ctx} [C.Loose]
set_option maxRecDepth 20000
theorem nf_nrm (g:Nat→FL) (n:Nat) (R:AV→List (Nat×AObj)→Prop):wpFn te [(91,.rel wl7)] [(3,L_n3 g n),(13,wmk g n),(19,wmj g n)] 0 Tryz.f39 [.view 7 n (wab g)] [] R=(letI z9:=ren 0 [(0,0),(19,1),(1,2),(2,3)];letI z8:=([(3,.ptr 0 0),(9,.own 1 0),(46,.ptr 2 0)]:List (Nat×AV));letI z5:=List.length (entN g n);letI z3:=(∀ (i:Nat),i<List.length (waq okV g n)→true=true:Prop);letI z2:=(IN.mk 0 (fun (_x:Nat)=>[]) z5 (List.range z5));letI z1:=List.length (waq okV g n);letI z0:=(List.map (fun (p:AV×AV)=>(AV.rn (idxN [1,0,2]) (Prod.fst p),AV.rn (idxN [1,0,2]) (Prod.snd p))) (entN g n));some (St.mk [(3,.ptr 0 0),(15,.view 7 n (wab g)),(16,.int .i64 (↑n:Int)),(17,.int .i64 0)] [(0,.cells [.map 1] 121),(1,.amap (List.map (fun (p:AV×AV)=>(AV.rn (ren 0 [(1,0),(0,1)]) (Prod.fst p),AV.rn (ren 0 [(1,0),(0,1)]) (Prod.snd p))) []))] 2 [])=some (St.mk [(3,.ptr 0 0),(15,.view 7 n (wab g)),(16,.int .i64 (↑n:Int)),(17,.int .i64 (↑0:Int))] [(0,.cells [.map 1] 121),(1,.amap (entN g 0))] 2 [])∧n≤1000∧(∀ (i:Nat),i<n→FL.Gd (g i))∧(TEq z8 z8∧wac [(0,.cells [.map 3] 121),(1,.row 9 1 0 (fun (_x:Nat)=>[]) false),(2,.miter 3 z5 (121::List.length (entN g n)::List.range z5)),(3,.amap (List.map (fun (p:AV×AV)=>(AV.rn (ren 0 [(0,0),(3,1),(2,2),(1,3)]) (Prod.fst p),AV.rn (ren 0 [(0,0),(3,1),(2,2),(1,3)]) (Prod.snd p))) (entN g n)))] [(0,.cells [.map 3] 121),(1,.row 9 1 0 (wax (IN.h z2)) false),(2,.miter 3 z5 (121::IN.c0 z2::IN.left z2)),(3,.amap (entN g n))])∧n≤1000∧∀ (h:Nat→List UInt8),List.Perm (lst h z1) (waq okV g n)→z3∧9=9∧false=false∧List.length (waq okV g n)=List.length (waq okV g n)∧List.length (waq okV g n)≤1000000∧wax h=wax (stOf (wax h))∧wbl TypeDesc.string z0∧(∀ (x:List UInt8),letI z7:=wav (gotN z0 x) (0+1+1+1+1);letI z6:=wav (gotN z0 x) (0+1+1+1+1+1);letI z4:=wav (gotN z0 x) (0+1+1+1+1+1+1); .agg [.str (wbt (wav (gotN z0 x) 0)),.int .i64 (was (wav (gotN z0 x) (0+1))),.int .i64 (was (wav (gotN z0 x) (0+1+1))),.int .i64 (was (wav (gotN z0 x) (0+1+1+1))),.view (vwS z7) (vwN z7) (vwF z7),.view (vwS z6) (vwN z6) (vwF z6),.view (vwS z4) (vwN z4) (vwF z4)]=gotN z0 x)∧(∀ (p:AV×AV),p∈List.map (fun (p:AV×AV)=>(AV.rn (idxN [1,0,2]) (Prod.fst p),AV.rn (idxN [1,0,2]) (Prod.snd p))) (entN g n)→nref (Prod.fst p)=true∧nref (Prod.snd p)=true)∧∀ (h_1:Nat→List UInt8),List.Perm (lst h_1 z1) (lst (stOf (wax h)) z1)→(∀ (i j:Nat),i<j→j<List.length (waq okV g n)→¬cmpN z0 (h_1 j) (h_1 i)<(0:Int))→z3∧∃ (h:Nat→List UInt8),∃ (o:Nat→FL),(TEq [(3,.ptr 0 0),(11,.own 1 0),(58,.own 2 z1),(59,.int .i64 (↑z1:Int)),(60,.int .i64 0)] [(3,.ptr 0 0),(11,.own 1 0),(58,.own 2 z1),(59,.int .i64 (↑z1:Int)),(60,.int .i64 (↑0:Int))]∧wac [(0,.cells [.map 3] 121),(1,.row 49 7 0 (fun (_x:Nat)=>[]) false),(2,.row 9 1 z1 (wax h_1) false),(3,.amap (List.map (fun (p:AV×AV)=>(AV.rn z9 (Prod.fst p),AV.rn z9 (Prod.snd p))) (List.map (fun (p:AV×AV)=>(AV.rn (sig [1,0,2] 3) (Prod.fst p),AV.rn (sig [1,0,2] 3) (Prod.snd p))) z0)))] [(0,.cells [.map 3] 121),(1,.row 49 7 0 (wab o) false),(2,.row 9 1 z1 (wax h) false),(3,.amap (entN g n))])∧n≤1000∧(∀ (i:Nat),i<List.length (waq okV g n)→isFl (gotN (entN g n) (h i)) (o i)∧FL.Gd (o i))∧z3∧∃ (O':List (Nat×AObj)),wac [(0,.row 49 7 z1 (wab o) false)] O'∧R (.own 0 z1) O'):=by kernel_rfl
theorem www (g:Nat→FL) (n k:Nat) (P:Nat→Prop) (R:Exit→St→Prop):wa2 ⟨te,[(29,.det wkh),(33,.det wgq)],[],0,73,0⟩ (wa4 Tryz.f39 3) [3,15,16,17] [3] [] (S_n3 g n) P R (S_n3 g n k)=(letI z10:=ren 0 [(0,0),(1,1)];letI z8:=TI.desc (TI.mk TypeDesc.string 1 16 (Value.string (ByteArray.mk #[])) false);letI z7:=zvA (.agg [.str ([]),.int .i64 0,.int .i64 0,.int .i64 0,.nil,.nil,.nil]);letI z6:=([(3,.ptr 0 0),(15,.view 7 n (wab g)),(16,.int .i64 (↑n:Int)),(17,.int .i64 ((↑k:Int)+(1:Int)))]:List (Nat×AV));letI z5:=([(0,.cells [.map 1] 121),(1,.amap (List.map (fun (p:AV×AV)=>(AV.rn z10 (Prod.fst p),AV.rn z10 (Prod.snd p))) (entN g k)))]:List (Nat×AObj));letI z4:=(inR .i64 ((↑k:Int)+(1:Int))∧∃ (i':Nat),some (St.mk z6 z5 2 [])=some (St.mk [(3,.ptr 0 0),(15,.view 7 n (wab g)),(16,.int .i64 (↑n:Int)),(17,.int .i64 (↑i':Int))] [(0,.cells [.map 1] 121),(1,.amap (entN g i'))] 2 [])∧P i');letI z3:=(g (Int.toNat (↑k:Int)));letI z16:=wai (atT (FL.ts z3));letI z15:=List.length (FL.ts z3);letI z14:=wak (atR (FL.rs z3));letI z13:=List.length (FL.rs z3);letI z12:=wah (atM (FL.ms z3));letI z11:=List.length (FL.ms z3);letI z0:=(flV (FL.id z3) (FL.ver z3) (FL.day z3) (FL.kind z3) z11 z12 z13 z14 z15 z16);letI z17:=mget (entN g k) (.str (encF z0));letI z2:=(wbl z8 (entN g k)∧inR .i64 ((↑k:Int)+(1:Int))∧∃ (i':Nat),some (St.mk z6 [(0,.cells [.map 1] 121),(1,.amap (List.map (fun (p:AV×AV)=>(AV.rn z10 (Prod.fst p),AV.rn z10 (Prod.snd p))) (mset (entN g k) (.str (encF z0)) (.agg [.str (FL.id z3),.int .i64 (FL.ver z3),.int .i64 (FL.day z3),.int .i64 (FL.kind z3),.view 15 z11 z12,.view 5 z13 z14,.view 5 z15 z16]))))] 2 [])=some (St.mk [(3,.ptr 0 0),(15,.view 7 n (wab g)),(16,.int .i64 (↑n:Int)),(17,.int .i64 (↑i':Int))] [(0,.cells [.map 1] 121),(1,.amap (entN g i'))] 2 [])∧P i');letI z1:=Option.getD z17 z7;letI z19:=wav z1 (0+1+1+1+1);letI z18:=wav z1 (0+1+1+1+1+1);letI z9:=wav z1 (0+1+1+1+1+1+1);waa (decide ((↑k:Int)<(↑n:Int))) (((0:Int)≤(↑k:Int)∧(↑k:Int)<(↑n:Int)∧7=7)∧(FlC z11 z12 z13 z14 z15 z16∧FL.Sm z0)∧waa (!decide (vinF z0=(0:Int))) z4 ((FlC z11 z12 z13 z14 z15 z16∧FL.Rg z0)∧(wbl z8 (entN g k)∧.agg [.str (wbt (wav z1 0)),.int .i64 (was (wav z1 (0+1))),.int .i64 (was (wav z1 (0+1+1))),.int .i64 (was (wav z1 (0+1+1+1))),.view (vwS z19) (vwN z19) (vwF z19),.view (vwS z18) (vwN z18) (vwF z18),.view (vwS z9) (vwN z9) (vwF z9)]=Option.getD z17 z7)∧waa (!Option.isSome z17) z2 (waa (decide (FL.day z3<was (wav z1 (0+1+1)))) z2 z4))) (R (.exit 0) (St.mk [(3,.ptr 0 0)] z5 2 []))):=by kernel_rfl
theorem wwy (es:List (AV×AV)) (i:IN) (P:IN→Prop) (R:Exit→St→Prop):wa2 ⟨te,[],[],0,73,0⟩ (wa4 Tryz.f39 13) [3,9,46] [3,9] [] (wk6 es) P R (wk6 es i)=(letI z6:=ren 0 [(0,0),(21,1),(2,2),(3,3)];letI z3:=TI.mk TypeDesc.string 1 16 (Value.string (ByteArray.mk #[])) false;List.length es=List.length es∧(IN.left i=[]→(∀ (i_1:Nat),i_1<IN.c i→true=true)∧∃ (O':List (Nat×AObj)),wac [(0,.cells [.map 2] 121),(1,.row 9 1 (IN.c i) (wax (IN.h i)) false),(2,.amap (List.map (fun (p:AV×AV)=>(AV.rn (ren 0 [(0,0),(1,1),(3,2)]) (Prod.fst p),AV.rn (ren 0 [(0,0),(1,1),(3,2)]) (Prod.snd p))) es))] O'∧R (.exit 2) (St.mk [(3,.ptr 0 0),(9,.own 1 (IN.c i))] O' 3 []))∧∀ (i_1:Nat),letI z1:=List.getD es i_1 (.any,.any);letI z0:=Prod.snd z1;letI z5:=wav z0 (0+1+1+1+1);letI z4:=wav z0 (0+1+1+1+1+1);letI z2:=wav z0 (0+1+1+1+1+1+1);i_1∈IN.left i→(List.length es=List.length es∧i_1<List.length es∧.str (wbt (Prod.fst z1))=Prod.fst z1∧.agg [.str (wbt (wav z0 0)),.int .i64 (was (wav z0 (0+1))),.int .i64 (was (wav z0 (0+1+1))),.int .i64 (was (wav z0 (0+1+1+1))),.view (vwS z5) (vwN z5) (vwF z5),.view (vwS z4) (vwN z4) (vwF z4),.view (vwS z2) (vwN z2) (vwF z2)]=Prod.snd z1)∧(1≤16777216∧1=1∧1≤9223372036854775807)∧((1≤1∧1=1)∧IN.c i≤IN.c i∧1=1∧9=9∧1=1∧IN.c i+1≤9223372036854775807∧(IN.c i+1) * TI.bytes z3≤140737488355328)∧∃ (i':IN),(TEq [(3,.ptr 0 0),(9,.own 1 (IN.c i+1)),(46,.ptr 2 0)] [(3,.ptr 0 0),(9,.own 1 (IN.c i')),(46,.ptr 2 0)]∧wac [(0,.cells [.map 3] 121),(1,.row 9 1 (IN.c i+1) (apF (IN.c i) (wax (IN.h i)) (wa0 (TI.sz z3) (.str (wbt (Prod.fst z1))::List.append [] (List.flatten (List.replicate (nat_lit 0) [.str ([])]))))) false),(2,.miter 3 (List.length es) (121::i_1::List.erase (IN.left i) i_1)),(3,.amap (List.map (fun (p:AV×AV)=>(AV.rn z6 (Prod.fst p),AV.rn z6 (Prod.snd p))) es))] [(0,.cells [.map 3] 121),(1,.row 9 1 (IN.c i') (wax (IN.h i')) false),(2,.miter 3 (List.length es) (121::IN.c0 i'::IN.left i')),(3,.amap es)])∧P i'):=by kernel_rfl
theorem wwx (es:List (AV×AV)) (m:Nat) (h:Nat→List UInt8) (o:Nat→FL) (k:Nat) (P:Nat→Prop) (R:Exit→St→Prop):wa2 ⟨te,[(96,.det wlu)],[],0,73,0⟩ (wa4 Tryz.f39 19) [3,11,58,59,60] [11] [] (wk5 es m h o) P R (wk5 es m h o k)=(letI z7:=ren 0 [(0,0),(37,1),(2,2),(3,3)];letI z6:=(mget es (.str (h (Int.toNat (↑k:Int)))));letI z5:=([.str ([]),.int .i64 0,.int .i64 0,.int .i64 0,.nil,.nil,.nil]:List AV);letI z0:=(Option.getD z6 (zvA (.agg z5)));letI z4:=wav z0 (0+1+1+1+1);letI z3:=wav z0 (0+1+1+1+1+1);letI z2:=wav z0 (0+1+1+1+1+1+1);letI z1:=([.str (wbt (wav z0 0)),.int .i64 (was (wav z0 (0+1))),.int .i64 (was (wav z0 (0+1+1))),.int .i64 (was (wav z0 (0+1+1+1))),.view (vwS z4) (vwN z4) (vwF z4),.view (vwS z3) (vwN z3) (vwF z3),.view (vwS z2) (vwN z2) (vwF z2)]:List AV);waa (decide ((↑k:Int)<(↑m:Int))) (((0:Int)≤(↑k:Int)∧(↑k:Int)<(↑m:Int))∧(Int.toNat (↑k:Int)<m∧1=1)∧(wbl (TI.desc (TI.mk TypeDesc.string 1 16 (Value.string (ByteArray.mk #[])) false)) es∧.agg z1=Option.getD z6 (zvA (.agg z5)))∧(∃ (F:FL),isFl (.agg z1) F∧List.length (FL.ms F)≤1000∧List.length (FL.rs F)≤1000∧List.length (FL.ts F)≤1000∧∀ (t:RT),t∈FL.ts F→List.length (RT.bs t)≤1000)∧(7≤16777216∧7=7∧1≤9223372036854775807)∧((1≤1∧7=7)∧k≤k∧7=7∧49=49∧7=7∧k+1≤9223372036854775807∧(k+1) * TI.bytes wd0≤140737488355328)∧inR .i64 ((↑k:Int)+(1:Int))∧∃ (i':Nat),(TEq [(3,.ptr 0 0),(11,.own 1 (k+1)),(58,.own 2 m),(59,.int .i64 (↑m:Int)),(60,.int .i64 ((↑k:Int)+(1:Int)))] [(3,.ptr 0 0),(11,.own 1 i'),(58,.own 2 m),(59,.int .i64 (↑m:Int)),(60,.int .i64 (↑i':Int))]∧wac [(0,.cells [.map 3] 121),(1,.row 49 7 (k+1) (apF k (wab o) (wa0 (TI.sz wd0) (.str (wbt (wav z0 0)):: .int .i64 (was (wav z0 (0+1))):: .int .i64 (was (wav z0 (0+1+1))):: .int .i64 (was (wav z0 (0+1+1+1))):: .view (vwS z4) (vwN z4) (vwF z4):: .view (vwS z3) (vwN z3) (vwF z3):: .view (vwS z2) (vwN z2) (vwF z2)::List.append [] (List.flatten (List.replicate (nat_lit 0) z5))))) false),(2,.row 9 1 m (wax h) false),(3,.amap (List.map (fun (p:AV×AV)=>(AV.rn z7 (Prod.fst p),AV.rn z7 (Prod.snd p))) es))] [(0,.cells [.map 3] 121),(1,.row 49 7 i' (wab o) false),(2,.row 9 1 m (wax h) false),(3,.amap es)])∧P i') ((∀ (i:Nat),i<k→true=true)∧∃ (O':List (Nat×AObj)),wac [(0,.row 49 7 k (wab o) false)] O'∧R (.exit 4) (St.mk [(11,.own 0 k)] O' 1 []))):=by kernel_rfl
theorem cpdO_ok (hP:C.P=Tryz.prog):wad C 96 wlu:=by
 rintro args objs U Os vc h hvc
 unfold wlu at h
 split at h<;>simp only [Option.some.injEq,Prod.mk.injEq,reduceCtorEq] at h
 obtain ⟨rfl,rfl,rfl⟩:=h
 obtain ⟨F,rfl,hm,hr,ht,hb⟩:=hvc
 exact cpd_at hP F hm hr ht hb
theorem n3_loop (hP:C.P=Tryz.prog) (hL:∀ w,C.laid w→LaidW w) (g:Nat→FL) (n:Nat):wae C 0 73 (wan Tryz.f39 3) (L_n3 g n):=by
 rintro st Q ⟨h0,hn,hg,hQ⟩
 refine wae.mk (prg hP) [(29,.det wkh),(33,.det wgq)] 0 (.cons (vin_ok hP hL) (.cons (enc_ok hP hL) .nil)) [3,15,16,17] [3] [] (S_n3 g n) (fun k=>k≤n) (fun k=>n - k) 0 (Nat.zero_le _) h0 (fun k hk=>?_)
 have er:∀ (σ:Nat→Option Nat) (k:Nat),(entN g k).map (fun p=>(AV.rn σ p.1,AV.rn σ p.2))=entN g k:=fun σ k=>wh4 σ _ _
 rw [www,Int.toNat_natCast,er,wd7 (g k)]
 have hkeys:wbl .string (entN g k):=woz (wfg k)
 have hgot:=gotT (wa9 okV g k) (waq okV g k) (encF (g k))
 have hshape:=wsl (wa9 okV g k) (waq okV g k) (encF (g k))
 have hmg:=wn4 (wa9 okV g k) (encF (g k)) (waq okV g k)
 rw [← wcp] at hgot hshape hmg
 refine war (fun h1=>?_) (fun h1=>?_)
 ·have hk':k<n:=by omega
  have hG:=hg k hk'
  have same:∀ {σ:Nat→Option Nat},entN g (k+1)=entN g k→inR .i64 ((k:Int)+1)∧∃ (i':Nat),some (St.mk [(3,.ptr 0 0),(15,.view 7 n (wab g)),(16,.int .i64 (n:Int)),(17,.int .i64 ((k:Int)+1))] [(0,.cells [.map 1] 121),(1,.amap (entN g k))] 2 [])=
    some (St.mk [(3,.ptr 0 0),(15,.view 7 n (wab g)),(16,.int .i64 (n:Int)),(17,.int .i64 (i':Int))] [(0,.cells [.map 1] 121),(1,.amap (entN g i'))] 2 [])∧i'≤n∧n - i'<n - k:=fun {_} e=>
   ⟨by simp only [inR];omega,k+1,by rw [e];rfl,by omega,by omega⟩
  have upd:∀ (M:List (AV×AV)),mset (entN g k) (.str (encF (g k))) (.agg (wba (g k)))=M→M=entN g (k+1)→wbl .string (entN g k)∧inR .i64 ((k:Int)+1)∧∃ (i':Nat),some (St.mk [(3,.ptr 0 0),(15,.view 7 n (wab g)),(16,.int .i64 (n:Int)),(17,.int .i64 ((k:Int)+1))] [(0,.cells [.map 1] 121),(1,.amap (M.map fun p=>(AV.rn (ren 0 [(0,0),(1,1)]) p.1,AV.rn (ren 0 [(0,0),(1,1)]) p.2)))] 2 [])=
    some (St.mk [(3,.ptr 0 0),(15,.view 7 n (wab g)),(16,.int .i64 (n:Int)),(17,.int .i64 (i':Int))] [(0,.cells [.map 1] 121),(1,.amap (entN g i'))] 2 [])∧i'≤n∧n - i'<n - k:=fun M hM e=>
   ⟨hkeys,by simp only [inR];omega,k+1,by rw [e,er];rfl,by omega,by omega⟩
  refine ⟨⟨by omega,by omega,rfl⟩,⟨wep _,hG.sm⟩,wc0 (fun hv=>same (σ:=fun _=>none) (wzi (decide_eq_false hv))) (fun hv=>?_)⟩
  have hok:okV (g k)=true:=decide_eq_true hv
  refine ⟨⟨wep _,hG.rg⟩,⟨hkeys,hshape⟩,?_⟩
  by_cases hx:encF (g k)∈waq okV g k
  ·rw [if_pos hx] at hmg
   rw [hmg]
   refine war (fun hd=>upd _ rfl (wzf hok hx hd)) (fun hd=>same (σ:=fun _=>none) (wzh hok hx hd))
  ·rw [if_neg hx] at hmg
   rw [hmg]
   exact upd _ rfl (wzg hok hx)
 ·have:k=n:=by omega
  subst this
  exact hQ
theorem Tryz.sortStr:SlLaysF.n6 Tryz.prog Tryz.sort91_ren:={ Tryz.sort91 with a24:=Tryz.isAgg9,z24:=Tryz.sizeOf9 }
theorem wu5 (hP:C.P=Tryz.prog):wbs C 91 wl7:=by
 have _:C.Loose:=inferInstance
 rintro args objs R h
 unfold wl7 at h
 split at h
 ·rename_i n t m f fr ct es
  obtain ⟨rfl,rfl,rfl,hn,hf,hk,hs,hr,hR⟩:=h
  generalize stOf f=h0 at *
  subst hf
  have hS:=wag.sortM (C:=C) (cmpN es) (t:=9) (ct:=ct) (fS:=91) (g:=92)
   ⟨_,hP ▸ Tryz.func91,rfl,by decide⟩
   (fun cb blk cap d w h1 h2 h3 h4=>by
    rw [hP] at h1 ⊢
    exact Any.slices_SortFunc Tryz.sortStr strV (fun _=>rfl) (cmpN es) (swo_of (wzy es)) 92 cb blk 0 cap d w (enters_of Tryz.func92 (by kernel_rfl) rfl) h1 h2 h3 h4)
   (fun p cap fv w=>by
    rw [hP]
    exact AnyF.slices_SortFunc_none Tryz.sort91 p cap fv w)
   es hr (fun x y=>ncmp_ok (C:=Ctx.bare C.P C.mixed) hP es hk hs x y) (n:=n) h0 (by omega)
  refine hS.mono ?_
  rintro u O ⟨rfl,f',hp,hs,rfl⟩
  exact hR f' hp hs
 ·exact h.elim
theorem wx8 {α:Type} (L:List α) (d:α):(List.range L.length).map (fun i=>L.getD i d)=L:=wd3 L d
theorem wx2 (hP:C.P=Tryz.prog) (g:Nat→FL) (n:Nat):wae C 0 73 (wan Tryz.f39 13) (wmk g n):=by
 have _:C.Loose:=inferInstance
 rintro st Q ⟨h0,hn,hQ⟩
 have hlen:=wjf g n
 have hE:=wcp g n
 generalize hK:waq okV g n=K at *
 generalize wa9 okV g n=F at *
 rw [hE] at h0 hQ
 refine AWP.ownNil 9 9 1 ?_
 refine wae.mk (prg hP) [] 0 .nil [3,9,46] [3,9] [] (wk6 (entT K F)) (fun i=>(lst i.h i.c++i.left.map (fun j=>K.getD j [])).Perm K∧∀ x∈i.left,x<K.length) (fun i=>i.left.length) ⟨0,fun _=>[],(entT K F).length,List.range (entT K F).length⟩ ⟨?_,?_⟩ h0 (fun i hi=>?_) (fun i=>⟨fun _ _=>rfl,trivial⟩)
 ·rw [woy]
  show ((List.range K.length).map fun j=>K.getD j []).Perm K
  rw [wx8]
 ·intro x hx
  have hx:x∈List.range (entT K F).length:=hx
  rw [woy] at hx
  exact List.mem_range.1 hx
 obtain ⟨hp,hlt⟩:=hi
 have hl:i.c+i.left.length=K.length:=by
  have:=hp.length_eq
  simpa [lst] using this
 rw [wwy,wh4,wh4]
 refine ⟨rfl,fun hnil=>⟨fun _ _=>rfl,_,wam _,?_⟩,fun j hj=>?_⟩
 ·rw [hnil] at hp hl
  have hc:i.c=K.length:=by simpa using hl
  rw [hc] at hp ⊢
  exact hQ i.h (by simpa using hp)
 ·have hjl:=hlt j hj
  rw [entT_at hjl,woy]
  have herase:(i.left.erase j).length+1=i.left.length:=by
   rw [List.length_erase_of_mem hj]
   have:=List.length_pos_of_mem hj
   omega
  refine ⟨⟨rfl,hjl,rfl,rfl⟩,⟨by omega,rfl,by omega⟩,⟨⟨Nat.le_refl _,rfl⟩,Nat.le_refl _,rfl,rfl,rfl,by omega,?_⟩,⟨i.c+1,fun k=>if k<i.c then i.h k else K.getD j [],j,i.left.erase j⟩,⟨rfl,rfl,⟨rfl,rfl,rfl,rfl,rfl,fun k hk=>?_⟩,rfl,rfl,trivial⟩,⟨?_,fun x hx=>hlt x (List.mem_of_mem_erase hx)⟩,?_⟩
  ·show (i.c+1) * 16≤_
   omega
  ·have hk:k<i.c+1:=hk
   unfold apF wax
   by_cases h:k<i.c
   ·simp only [h,if_true]
   ·have:k=i.c:=by omega
    subst this
    simp only [Nat.lt_irrefl,if_false,Nat.sub_self]
    rfl
  ·show (lst (fun k=>if k<i.c then i.h k else K.getD j []) (i.c+1)++(i.left.erase j).map (fun j=>K.getD j [])).Perm K
   rw [whh]
   have e1:lst (fun k=>if k<i.c then i.h k else K.getD j []) i.c=lst i.h i.c:=List.map_congr_left fun k hk=>by
    rw [if_pos (List.mem_range.1 hk)]
   rw [e1,if_neg (Nat.lt_irrefl _),List.append_assoc,List.singleton_append, ← List.map_cons (f:=fun j=>K.getD j [])]
   exact ((List.perm_cons_erase hj).map (fun j=>K.getD j [])).symm.append_left _ |>.trans hp
  ·show (i.left.erase j).length<i.left.length
   omega
theorem wx1 (hP:C.P=Tryz.prog) (g:Nat→FL) (n:Nat):wae C 0 73 (wan Tryz.f39 19) (wmj g n):=by
 rintro st Q ⟨h,o,h0,hn,hg,hQ⟩
 have hlen:=wjf g n
 have hE:=wcp g n
 have hkeys:wbl .string (entN g n):=woz (wfg n)
 have er:∀ (σ:Nat→Option Nat),(entN g n).map (fun p=>(AV.rn σ p.1,AV.rn σ p.2))=entN g n:=fun σ=>wh4 σ _ _
 generalize waq okV g n=K at *
 generalize entN g n=es at *
 refine AWP.ownNil 11 49 7 ?_
 refine wae.mk (prg hP) [(96,.det wlu)] 0 (.cons (cpdO_ok hP) .nil) [3,11,58,59,60] [11] [] (wk5 es K.length h o) (fun k=>k≤K.length) (fun k=>K.length - k) 0 (Nat.zero_le _) h0 (fun k hk=>?_) (fun _=>⟨fun _ _=>rfl,fun _ _=>rfl,trivial⟩)
 rw [wwx,Int.toNat_natCast,er]
 refine war (fun h1=>?_) (fun h1=>?_)
 ·have hk':k<K.length:=by omega
  obtain ⟨hm,hG⟩:=hg k hk'
  have hm:(mget es (.str (h k))).getD (zvA (.agg [.str [],.int .i64 0,.int .i64 0,.int .i64 0,.nil,.nil,.nil]))= .agg (wba (o k)):=hm
  rw [hm]
  refine ⟨⟨by omega,by omega⟩,⟨hk',rfl⟩,⟨hkeys,rfl⟩,⟨o k,rfl,hG.rg.nm,hG.rg.nr,hG.rg.nt,fun t ht=>(hG.rg.t t ht).n⟩,⟨by omega,rfl,by omega⟩,⟨⟨Nat.le_refl _,rfl⟩,Nat.le_refl _,rfl,rfl,rfl,by omega,?_⟩,by simp only [inR];omega,k+1,⟨rfl,rfl,⟨rfl,rfl,rfl,rfl,rfl,fun i hi=>?_⟩,⟨rfl,rfl,rfl,rfl,rfl,fun _ _=>rfl⟩,rfl,trivial⟩,by omega,by omega⟩
  ·show (k+1) * 112≤_
   omega
  ·unfold apF
   by_cases hi':i<k
   ·rw [if_pos hi']
   ·have:i=k:=by omega
    subst this
    rw [if_neg hi',Nat.sub_self];rfl
 ·have:k=K.length:=by omega
  subst this
  exact ⟨fun _ _=>rfl,_,wam _,hQ⟩
theorem w0l {g:Nat→FL} {n:Nat} {t:List UInt8} (hg:∀ i,i<n→(g i).Gd) (h:t∈waq okV g n):(wa9 okV g n t).Gd:=by
 obtain ⟨j,b,e⟩:=wfq h
 rw [e];exact hg j b.lt
theorem nrm_at (hP:C.P=Tryz.prog) (hL:∀ w,C.laid w→LaidW w) (g:Nat→FL) (n:Nat) (hn:n≤1000) (hg:∀ i,i<n→(g i).Gd):ADet C 39 [.view 7 n (wab g)] [] (.own 0 (nrmL okV g n).length) [(0,.row 49 7 (nrmL okV g n).length (wab (atF (nrmL okV g n))) false)]:=by
 refine wbs.wpL (prg hP) [(91,.rel wl7)] [(3,L_n3 g n),(13,wmk g n),(19,wmj g n)] 0 (.cons (wu5 hP) .nil) (hP ▸ Tryz.func39) rfl rfl rfl
  [(wan Tryz.f39 3,L_n3 g n),(wan Tryz.f39 13,wmk g n),(wan Tryz.f39 19,wmj g n)] (by kernel_rfl) ⟨n3_loop hP hL g n,wx2 hP g n,wx1 hP g n,trivial⟩ ?_
 have er:∀ (σ:Nat→Option Nat),(entN g n).map (fun p=>(AV.rn σ p.1,AV.rn σ p.2))=entN g n:=fun σ=>wh4 σ _ _
 rw [nf_nrm]
 simp only [er]
 have hkeys:wbl .string (entN g n):=woz (wfg n)
 have hlen:=wjf g n
 have hshape:∀ x,wcc wig (gotN (entN g n) x)=gotN (entN g n) x:=fun x=>wsl _ _ x
 have hnref:∀ p∈entN g n,nref p.1=true∧nref p.2=true:=fun p hp=>by
  obtain ⟨t,_,rfl⟩:=List.mem_map.1 hp
  exact ⟨rfl,rfl⟩
 have hgot:∀ t,t∈waq okV g n→gotN (entN g n) t= .agg (wba (wa9 okV g n t)):=fun t ht=>by
  rw [wcp,gotT,if_pos ht]
 refine ⟨rfl,hn,hg,⟨rfl,rfl,⟨rfl,rfl,rfl,rfl,rfl,fun i hi=>absurd hi (Nat.not_lt_zero i)⟩,rfl,rfl,trivial⟩,hn,fun h hp=>⟨fun _ _=>trivial,trivial,trivial,trivial,by omega,rfl,hkeys,hshape,hnref,fun h1 hp1 hs1=>?_⟩⟩
 have hpK:(lst h1 (waq okV g n).length).Perm (waq okV g n):=hp1.trans hp
 have mem:∀ i,i<(waq okV g n).length→h1 i∈waq okV g n:=fun i hi=>hpK.mem_iff.1 (List.mem_map.2 ⟨i,List.mem_range.2 hi,rfl⟩)
 refine ⟨fun _ _=>trivial,h1,fun i=>wa9 okV g n (h1 i),⟨rfl,rfl,⟨rfl,rfl,rfl,rfl,rfl,fun i hi=>absurd hi (Nat.not_lt_zero i)⟩,⟨rfl,rfl,rfl,rfl,rfl,fun _ _=>rfl⟩,rfl,trivial⟩,hn,fun i hi=>⟨hgot _ (mem i hi),w0l hg (mem i hi)⟩,?_⟩
 have hs:(lst h1 (waq okV g n).length).map (wa9 okV g n)=nrmL okV g n:=by
  refine wv1 hpK ?_
  refine wvs fun i j hij hj=>?_
  rw [← wzz (mem j hj) (mem i (by omega))]
  exact hs1 i j hij hj
 have hl:(nrmL okV g n).length=(waq okV g n).length:=by
  rw [← hs,List.length_map];simp [lst]
 have at_:∀ i,i<(waq okV g n).length→wab (fun i=>wa9 okV g n (h1 i)) i=wab (atF (nrmL okV g n)) i:=fun i hi=>by
  have:wa9 okV g n (h1 i)=atF (nrmL okV g n) i:=by
   rw [← hs]
   simp [atF,lst,hi]
  show wab (fun _=>wa9 okV g n (h1 i)) 0=wab (fun _=>atF (nrmL okV g n) i) 0
  rw [this]
 exact ⟨fun _ _=>trivial,[(0,.row 49 7 (waq okV g n).length (wab (atF (nrmL okV g n))) false)],⟨⟨rfl,rfl,rfl,rfl,rfl,at_⟩,trivial⟩,by rw [hl],by rw [hl]⟩
theorem nrmz_ok (hP:C.P=Tryz.prog) (hL:∀ w,C.laid w→LaidW w):wad C 39 wk2:=by
 rintro args objs U Os vc h hvc
 unfold wk2 at h
 split at h<;>simp only [Option.some.injEq,Prod.mk.injEq,reduceCtorEq] at h
 rename_i n f
 obtain ⟨rfl,rfl,rfl⟩:=h
 obtain ⟨hn,hf,hg⟩:=hvc
 generalize flOf f=g at *
 subst hf
 exact nrm_at hP hL g n hn hg
end Go.Eng
namespace Go.Eng
open Go.Proofs Go.RowKit
variable {C:Ctx} [C.Loose]
set_option maxRecDepth 20000
instance:Inhabited FL:=⟨wdv⟩
end Go.Eng
