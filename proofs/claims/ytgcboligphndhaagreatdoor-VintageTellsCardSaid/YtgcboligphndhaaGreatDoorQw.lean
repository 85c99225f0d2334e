/- Tariffs and rates: what is right of them. -/
import Derived.Test.YtgcboligphndhaaGreatDoorQu
import Derived.Test.YtgcboligphndhaaGreatDoorQv
import Derived.Test.YtgcboligphndhaaGreatDoorQl
import Derived.Lib.Builder
import Derived.WalkKit
import Derived.Test.YtgcboligphndhaaGreatDoorQt
import Derived.Test.YtgcboligphndhaaGreatDoorQm
import Derived.Below
import Derived.Test.YtgcboligphndhaaGreatDoorQs
import Derived.Test.YtgcboligphndhaaGreatDoorQq
namespace Go.Eng
open Go.Proofs Go.RowKit
variable {C:Ctx} [C.Loose]
set_option maxRecDepth 20000
theorem wxi (n:Nat) (v:Nat→Int) (a:Int) (R:AV→List (Nat×AObj)→Prop):wpFn te [(42,.det wbf)] [(4,wmz n v (a+1+1) (wab n v (a+1) 4) (wab n v a 500))] 0 Tryz.f82 [.ptr 0 0] [.cells [.view 1 n (waa v),.int .i64 a] 27] R=(letI z6:=(4611686018427387904:Int);letI z5:=(a+(1:Int)+(1:Int));letI z3:=((1:Int)≤(4:Int)∧(4:Int)≤(1000000:Int):Prop);letI z1:=(TfS.mk (0:Int) [] z5);(27=27∧1=1∧waa v=waa (vInt (waa v))∧((1:Int)≤(500:Int)∧(500:Int)≤(1000000:Int))∧(0:Int)≤a∧a≤z6)∧(27=27∧1=1∧waa v=waa (vInt (waa v))∧z3∧(0:Int)≤a+(1:Int)∧a+(1:Int)≤z6)∧(TEq [(0,.ptr 0 0),(2,.ptr 1 0),(3,.ptr 2 0),(4,.int .i64 0),(9,.int .i64 (wab n (vInt (waa v)) (a+(1:Int)) (4:Int))),(10,.int .i64 0)] [(0,.ptr 0 0),(2,.ptr 1 0),(3,.ptr 2 0),(4,.int .i64 (TfS.up z1)),(9,.int .i64 (wab n v (a+(1:Int)) (4:Int))),(10,.int .i64 (↑(List.length (TfS.bs z1)):Int))]∧wag [(0,.cells [.view 1 n (waa v),.int .i64 z5] 27),(1,.cells [.int .i64 0,.nil] 95),(2,.cells [.int .i64 (wab n (vInt (waa v)) a (500:Int)),.own 3 0] 95),(3,.row 115 2 0 (fun (_x:Nat)=>[]) false)] [(0,.cells [.view 1 n (waa v),.int .i64 (TfS.a z1)] 27),(1,.cells [.int .i64 0,.nil] 95),(2,.cells [.int .i64 (wab n v a (500:Int)),.own 3 0] 95),(3,.row 115 2 0 (wa1 (atB (TfS.bs z1))) false)])∧((0:Int)≤wab n v (a+(1:Int)) (4:Int)∧wab n v (a+(1:Int)) (4:Int)≤(3:Int))∧((0:Int)≤a+(1:Int)+(1:Int)∧a+(1:Int)+(1:Int)≤(4611686018427375000:Int))∧∀ (i:TfS),letI z7:=List.length (TfS.bs i);letI z4:=List.length (TfS.bs i)+1;letI z2:=(wab n (vInt (waa v)) (TfS.a i) (4:Int) * (10:Int));letI z0:=(waz (TI.sz wf6) (.int .i64 0:: .int .i64 z2::List.append [] (List.flatten (List.replicate (nat_lit 0) [.int .i64 0,.int .i64 0]))));(↑z7:Int)=wab n v (a+(1:Int)) (4:Int)→TfS.a i=a+(1:Int)+(1:Int)+(2:Int) * wab n v (a+(1:Int)) (4:Int)→TfS.bs i=tarB n v z5 (Int.toNat (wab n v (a+(1:Int)) (4:Int)))→(27=27∧1=1∧waa v=waa (vInt (waa v))∧z3∧(0:Int)≤TfS.a i∧TfS.a i≤z6)∧inR .i64 z2∧(2≤16777216∧2=2∧1≤9223372036854775807)∧((1≤1∧2=2)∧List.length (TfS.bs i)≤List.length (TfS.bs i)∧2=2∧115=115∧2=2∧List.length (TfS.bs i)+1≤9223372036854775807∧z4 * TI.bytes wf6≤140737488355328)∧(True∧True)∧(∀ (i_1:Nat),i_1<List.length (TfS.bs i)+1→nrefL (apF z7 (wa1 (atB (TfS.bs i))) z0 i_1)=true)∧∃ (O':List (Nat×AObj)),wag [(0,.cells [.view 1 n (waa v),.int .i64 (TfS.a i+(1:Int))] 27),(1,.row 115 2 z4 (apF z7 (wa1 (atB (TfS.bs i))) z0) false)] O'∧R (.agg [.int .i64 (wab n v a (500:Int)),.own 1 z4]) O'):=by kernel_rfl
theorem wxg (n:Nat) (v:Nat→Int) (N st:Int) (i:TfS) (P:TfS→Prop) (R:Exit→St→Prop):wa6 ⟨te,[(42,.det wbf)],[],1,38,0⟩ (wa8 Tryz.f82 4) [0,2,3,4,9,10] [0,2,3] [] (wir n v N st) P R (wir n v N st i)=(letI z3:=List.length (TfS.bs i)+1;letI z2:=(wab n (vInt (waa v)) (TfS.a i+(1:Int)) (4:Int) * (10:Int));letI z1:=List.length (TfS.bs i);letI z0:=(TfS.up i+((1:Int)+wab n (vInt (waa v)) (TfS.a i) (60:Int)));wac (decide ((↑z1:Int)<N)) ((27=27∧1=1∧waa v=waa (vInt (waa v))∧((1:Int)≤(60:Int)∧(60:Int)≤(1000000:Int))∧(0:Int)≤TfS.a i∧TfS.a i≤(4611686018427387904:Int))∧inR .i64 ((1:Int)+wab n (vInt (waa v)) (TfS.a i) (60:Int))∧inR .i64 z0∧(27=27∧1=1∧waa v=waa (vInt (waa v))∧((1:Int)≤(4:Int)∧(4:Int)≤(1000000:Int))∧(0:Int)≤TfS.a i+(1:Int)∧TfS.a i+(1:Int)≤(4611686018427387904:Int))∧inR .i64 z2∧(2≤16777216∧2=2∧1≤9223372036854775807)∧((1≤1∧2=2)∧List.length (TfS.bs i)≤List.length (TfS.bs i)∧2=2∧115=115∧2=2∧List.length (TfS.bs i)+1≤9223372036854775807∧z3 * TI.bytes wf6≤140737488355328)∧inR .i64 ((↑z1:Int)+(1:Int))∧∃ (i':TfS),letI z4:=List.length (TfS.bs i');(TEq [(0,.ptr 0 0),(2,.ptr 1 0),(3,.ptr 2 0),(4,.int .i64 z0),(9,.int .i64 N),(10,.int .i64 ((↑z1:Int)+(1:Int)))] [(0,.ptr 0 0),(2,.ptr 1 0),(3,.ptr 2 0),(4,.int .i64 (TfS.up i')),(9,.int .i64 N),(10,.int .i64 (↑z4:Int))]∧wag [(0,.cells [.view 1 n (waa v),.int .i64 (TfS.a i+(1:Int)+(1:Int))] 27),(1,.cells [.int .i64 0,.nil] 95),(2,.cells [.int .i64 st,.own 3 z3] 95),(3,.row 115 2 z3 (apF z1 (wa1 (atB (TfS.bs i))) (waz (TI.sz wf6) (.int .i64 z0:: .int .i64 z2::List.append [] (List.flatten (List.replicate (nat_lit 0) [.int .i64 0,.int .i64 0]))))) false)] [(0,.cells [.view 1 n (waa v),.int .i64 (TfS.a i')] 27),(1,.cells [.int .i64 0,.nil] 95),(2,.cells [.int .i64 st,.own 3 z4] 95),(3,.row 115 2 z4 (wa1 (atB (TfS.bs i'))) false)])∧P i') ((∀ (i_1:Nat),i_1<List.length (TfS.bs i)→true=true)∧∃ (O':List (Nat×AObj)),wag [(0,.cells [.view 1 n (waa v),.int .i64 (TfS.a i)] 27),(1,.cells [.int .i64 0,.nil] 95),(2,.cells [.int .i64 st,.own 3 z1] 95),(3,.row 115 2 z1 (wa1 (atB (TfS.bs i))) false)] O'∧R (.exit 0) (St.mk [(0,.ptr 0 0),(2,.ptr 1 0),(3,.ptr 2 0)] O' 4 []))):=by kernel_rfl
theorem snocG {α:Type} (enc:α→List AV) (d:α) (L:List α) (x:α) (ch:Nat→List AV) (hch:ch 0=enc x):∀ i,i<L.length+1→apF L.length (fun i=>enc (L.getD i d)) ch i=enc ((L++[x]).getD i d):=fun i hi=>by
 unfold apF
 by_cases h:i<L.length
 ·rw [if_pos h]
  congr 1
  simp [List.getD_eq_getElem?_getD,List.getElem?_append_left h]
 ·have:i=L.length:=by omega
  subst this
  rw [if_neg h,Nat.sub_self,hch]
  congr 1
  simp
theorem snocB (L:List BK) (x:BK) (ch:Nat→List AV) (hch:ch 0=[.int .i64 x.up,.int .i64 x.pr]):∀ i,i<L.length+1→apF L.length (wa1 (atB L)) ch i=wa1 (atB (L++[x])) i:=
 snocG (fun b:BK=>[.int .i64 b.up,.int .i64 b.pr]) _ L x ch hch
theorem wv1 (hP:C.P=Tryz.prog) (n:Nat) (v:Nat→Int) (a N st:Int):waj C 1 38 (wao Tryz.f82 4) (wmz n v a N st):=by
 rintro s Q ⟨h0,hN,ha,hQ⟩
 refine AWP.ownNilP 3 1 115 2 ?_
 refine waj.mk (prg hP) [(42,.det wbf)] 0 (.cons (wco hP) .nil) [0,2,3,4,9,10] [0,2,3] [] (wir n v N st)
  (fun i=>(i.bs.length:Int)≤N∧i.a=a+2 * i.bs.length∧i.up=wdk n v a i.bs.length∧i.bs=tarB n v a i.bs.length) (fun i=>N.toNat - i.bs.length) ⟨0,[],a⟩ ⟨by show (0:Int)≤N;omega,by show a=a+2 * ((0:Nat):Int);omega,rfl,rfl⟩ h0 (fun i hi=>?_) (fun i=>⟨fun _ _=>rfl,trivial⟩)
 obtain ⟨h1,h2,h3,h4⟩:=hi
 have hw:vInt (waa v)=v:=rfl
 rw [wxg,hw]
 have r1:=wav (show (1:Int)≤60 by omega) n v i.a
 have r2:=wav (show (1:Int)≤4 by omega) n v (i.a+1)
 have r3:=wn2 n v a i.bs.length
 refine wal (fun q=>?_) (fun q=>⟨fun _ _=>rfl,_,wan _,hQ i (by omega) (by omega) (by rw [show N.toNat=i.bs.length by omega];exact h4)⟩)
 refine ⟨⟨rfl,rfl,rfl,by omega,by omega⟩,by simp only [inR];omega,by simp only [inR];omega,⟨rfl,rfl,rfl,by omega,by omega⟩,by simp only [inR];omega,⟨by omega,rfl,by omega⟩,⟨⟨Nat.le_refl _,rfl⟩,Nat.le_refl _,rfl,rfl,rfl,by omega,?_⟩,by simp only [inR];omega,
  ⟨i.up+(1+wab n v i.a 60),i.bs++[⟨i.up+(1+wab n v i.a 60),wab n v (i.a+1) 4 * 10⟩],i.a+1+1⟩,?_,⟨?_,?_,?_,?_⟩,?_⟩
 ·show (i.bs.length+1) * 16≤_
  omega
 ·dsimp only
  rw [List.length_append]
  exact ⟨rfl,rfl,rfl,rfl,⟨rfl,rfl,rfl,rfl,rfl,snocB _ _ _ rfl⟩,trivial⟩
 ·show ((i.bs++[_]).length:Int)≤N
  rw [List.length_append];simp;omega
 ·show i.a+1+1=a+2 * ((i.bs++[_]).length:Int)
  rw [List.length_append];simp;omega
 ·show i.up+(1+wab n v i.a 60)=wdk n v a (i.bs++[_]).length
  rw [List.length_append,List.length_singleton,wdk, ← h3,h2]
 ·show i.bs++[_]=tarB n v a (i.bs++[_]).length
  rw [List.length_append,List.length_singleton,tarB,wdk, ← h4, ← h3,h2]
 ·show N.toNat - (i.bs++[_]).length<N.toNat - i.bs.length
  rw [List.length_append];simp;omega
theorem wv3 (hP:C.P=Tryz.prog):wae C 82 wk3:=by
 rintro args objs U Os vc h hvc
 unfold wk3 at h
 split at h<;>simp only [Option.some.injEq,Prod.mk.injEq,reduceCtorEq] at h
 rename_i sz n f a t
 obtain ⟨rfl,rfl,rfl⟩:=h
 obtain ⟨rfl,rfl,hf,ha⟩:=hvc
 rw [hf]
 generalize vInt f=v at *
 have hw:vInt (waa v)=v:=rfl
 refine wak.frzO 1 ?_
 refine wbc.wpL (prg hP) [(42,.det wbf)] [(4,wmz n v (a+1+1) (wab n v (a+1) 4) (wab n v a 500))] 0 (.cons (wco hP) .nil) (hP ▸ Tryz.func82) rfl rfl rfl [(wao Tryz.f82 4,wmz n v (a+1+1) (wab n v (a+1) 4) (wab n v a 500))] (by kernel_rfl) ⟨wv1 hP _ _ _ _ _,trivial⟩ ?_
 rw [wxi,hw]
 have r1:=wav (show (1:Int)≤500 by omega) n v a
 have r2:=wav (show (1:Int)≤4 by omega) n v (a+1)
 refine ⟨⟨rfl,rfl,rfl,by omega,by omega⟩,⟨rfl,rfl,rfl,by omega,by omega⟩,⟨rfl,rfl,rfl,rfl,⟨rfl,rfl,rfl,rfl,rfl,fun i hi=>absurd hi (Nat.not_lt_zero i)⟩,trivial⟩,by omega,by omega,fun i h1 h2 h3=>?_⟩
 have r3:=wav (show (1:Int)≤4 by omega) n v i.a
 refine ⟨⟨rfl,rfl,rfl,by omega,by omega⟩,by simp only [inR];omega,⟨by omega,rfl,by omega⟩,⟨⟨Nat.le_refl _,rfl⟩,Nat.le_refl _,rfl,rfl,rfl,by omega,?_⟩,⟨trivial,trivial⟩,?_,[(0,.cells [.view 1 n (waa v),.int .i64 (i.a+1)] 27),(1,.row 115 2 (i.bs.length+1) (wa1 (atB (i.bs++[⟨0,wab n v i.a 4 * 10⟩]))) false)],⟨rfl,⟨rfl,rfl,rfl,rfl,rfl,snocB _ _ _ rfl⟩,trivial⟩,fun _ _=>rfl,?_⟩
 ·show (i.bs.length+1) * 16≤_
  omega
 ·refine fun j hj=>?_
  rw [snocB i.bs ⟨0,wab n v i.a 4 * 10⟩ _ rfl j hj];rfl
 ·have hb:Nat.ble (i.bs.length+1) (i.bs.length+1)=true:=Nat.ble_eq_true_of_le (Nat.le_refl _)
  have e2:i.a=a+2+2 * wab n v (a+1) 4:=by omega
  have eL:tarL n v a=i.bs++[⟨0,wab n v i.a 4 * 10⟩]:=by
   unfold tarL
   rw [h3,e2,show a+1+1=a+2 by omega]
  have eA:tarA n v a=i.a+1:=by unfold tarA;omega
  have hl:(i.bs++[(⟨0,wab n v i.a 4 * 10⟩:BK)]).length=i.bs.length+1:=by simp
  rw [eL,eA,hl]
  constructor
  ·simp [frzC,frzA,frz,hb]
  ·simp [rm]
theorem nf_file (n:Nat) (v:Nat→Int) (a:Int) (R:AV→List (Nat×AObj)→Prop):wpFn te [(42,.det wbf),(59,.rel wms),(79,.rel wmq)] [(1002,wnm n v (a+1+1+1+1) (fidF (wab n v a 3)) (1+wab n v (a+1) 3) (43860+wab n v (a+1+1) 6) (1+wab n v (a+1+1+1) 3)),(10,wnl n v (a+1+1+1+1+1) (fidF (wab n v a 3)) (1+wab n v (a+1) 3) (43860+wab n v (a+1+1) 6) (1+wab n v (a+1+1+1) 3) (wab n v (a+1+1+1+1) 3))] 0 Tryz.f32 [.ptr 0 0] [.cells [.view 1 n (waa v),.int .i64 a] 27] R=(letI z17:=([(0,.ptr 0 0),(2,.ptr 1 0),(3,.ptr 2 0)]:List (Nat×AV));letI z16:=((0:Int)≤(4:Int)∧(4:Int)≤(90:Int):Prop);letI z14:=(4611686018427387904:Int);letI z13:=(fidF (wab n v a (3:Int)));letI z10:=(a+(1:Int)+(1:Int));letI z9:=((0:Int)≤a+(1:Int)+(1:Int)+(1:Int)+(1:Int)∧a+(1:Int)+(1:Int)+(1:Int)+(1:Int)≤(4611686018427370000:Int):Prop);letI z6:=((1:Int)≤(3:Int)∧(3:Int)≤(1000000:Int):Prop);letI z5:=(a+(1:Int)+(1:Int)+(1:Int)+(1:Int)+(1:Int));letI z4:=([.str [],.int .i64 0,.int .i64 0,.int .i64 0,.nil,.nil,.nil]:List AV);letI z3:=(a+(1:Int)+(1:Int)+(1:Int)+(1:Int));letI z15:=([.view 1 n (waa v),.int .i64 z3]:List AV);letI z2:=(a+(1:Int)+(1:Int)+(1:Int));letI z1:=([.view 1 n (waa v),.int .i64 a]:List AV);letI z12:=(List.length [AObj.cells z1 (27:TypeId)]+1);letI z11:=(List.length [AObj.cells z1 (27:TypeId)]+1+1);letI z8:=(List.length [AObj.cells z1 (27:TypeId)]+1,.row 61 5 0 (wah (atR [])) false);letI z7:=(List.length [AObj.cells z1 (27:TypeId)]+1+1,.row 97 5 0 (wai (atT [])) false);letI z0:=([.str z13,.int .i64 ((1:Int)+wab n v (a+(1:Int)) (3:Int)),.int .i64 ((43860:Int)+wab n v z10 (6:Int)),.int .i64 ((1:Int)+wab n v z2 (3:Int)),.own 3 0,.own 4 0,.own 5 0]:List AV);(3≤16777216∧1=1∧3≤9223372036854775807)∧(27=27∧1=1∧waa v=waa (vInt (waa v))∧z6∧(0:Int)≤a∧a≤z14)∧((0:Int)≤wab n (vInt (waa v)) a (3:Int)∧wab n (vInt (waa v)) a (3:Int)<(↑3:Int))∧(Int.toNat (wab n (vInt (waa v)) a (3:Int))<3∧1=1)∧(27=27∧1=1∧waa v=waa (vInt (waa v))∧z6∧(0:Int)≤a+(1:Int)∧a+(1:Int)≤z14)∧inR .i64 ((1:Int)+wab n (vInt (waa v)) (a+(1:Int)) (3:Int))∧(27=27∧1=1∧waa v=waa (vInt (waa v))∧((1:Int)≤(6:Int)∧(6:Int)≤(1000000:Int))∧(0:Int)≤a+(1:Int)+(1:Int)∧a+(1:Int)+(1:Int)≤z14)∧inR .i64 ((43860:Int)+wab n (vInt (waa v)) z10 (6:Int))∧(27=27∧1=1∧waa v=waa (vInt (waa v))∧z6∧(0:Int)≤a+(1:Int)+(1:Int)+(1:Int)∧a+(1:Int)+(1:Int)+(1:Int)≤z14)∧inR .i64 ((1:Int)+wab n (vInt (waa v)) z2 (3:Int))∧(TEq z17 z17∧wag [(0,.cells z15 27),(1,.cells z4 49),(2,.cells [.str (List.getD [[(102:UInt8)],[(103:UInt8)],[(104:UInt8)]] (Int.toNat (wab n (vInt (waa v)) a (3:Int))) []),.int .i64 ((1:Int)+wab n (vInt (waa v)) (a+(1:Int)) (3:Int)),.int .i64 ((43860:Int)+wab n (vInt (waa v)) z10 (6:Int)),.int .i64 ((1:Int)+wab n (vInt (waa v)) z2 (3:Int)),.own 3 0,.own 4 0,.own 5 0] 49),(3,.row 40 15 0 (fun (_x:Nat)=>[]) false),(4,.row 61 5 0 (fun (_x:Nat)=>[]) false),(5,.row 97 5 0 (fun (_x:Nat)=>[]) false)] [(0,.cells z15 27),(1,.cells z4 49),(2,.cells z0 49),(3,.row 40 15 0 (waf (atM [])) false),(4,.row 61 5 0 (wah (atR [])) false),(5,.row 97 5 0 (wai (atT [])) false)])∧wac (decide ((1:Int)+wab n v z2 (3:Int)=(1:Int))) (27=27∧1=1∧waa v=waa (vInt (waa v))∧z9∧z16∧∀ (c:Nat) (g:Nat→MG) (a':Int),c≤Int.toNat (4:Int)→a+(1:Int)+(1:Int)+(1:Int)+(1:Int)≤a'∧a'≤a+(1:Int)+(1:Int)+(1:Int)+(1:Int)+(1000:Int)→(∀ (j:Nat),j<c→MG.Made (g j))→(∀ (i:Nat),i<c→true=true)∧(True∧True)∧(∀ (i:Nat),i<c→true=true)∧(∀ (i:Nat),i<0→true=true)∧(∀ (i:Nat),i<0→true=true)∧∃ (O':List (Nat×AObj)),wag [(0,.cells [.view 1 n (waa v),.int .i64 a'] 27),(1,.row 40 15 c (waf g) false),z8,z7] O'∧R (.agg [.str z13,.int .i64 1,.int .i64 ((43860:Int)+wab n v z10 (6:Int)),.int .i64 ((1:Int)+wab n v z2 (3:Int)),.own 1 c,.own z12 0,.own z11 0]) O') (wac (decide ((1:Int)+wab n v z2 (3:Int)=(2:Int))) (27=27∧1=1∧waa v=waa (vInt (waa v))∧z9∧z16∧∀ (c:Nat) (g:Nat→RW) (a':Int),c≤Int.toNat (4:Int)→a+(1:Int)+(1:Int)+(1:Int)+(1:Int)≤a'∧a'≤a+(1:Int)+(1:Int)+(1:Int)+(1:Int)+(600:Int)→(∀ (j:Nat),j<c→RW.Made (g j))→(∀ (i:Nat),i<c→true=true)∧(True∧True)∧(∀ (i:Nat),i<0→true=true)∧(∀ (i:Nat),i<c→true=true)∧(∀ (i:Nat),i<0→true=true)∧∃ (O':List (Nat×AObj)),wag [(0,.cells [.view 1 n (waa v),.int .i64 a'] 27),(1,.row 40 15 0 (waf (atM [])) false),(List.length [AObj.cells z1 (27:TypeId)]+1,.row 61 5 c (wah g) false),z7] O'∧R (.agg [.str z13,.int .i64 ((1:Int)+wab n v (a+(1:Int)) (3:Int)),.int .i64 ((43860:Int)+wab n v z10 (6:Int)),.int .i64 ((1:Int)+wab n v z2 (3:Int)),.own 1 0,.own z12 c,.own z11 0]) O') (wac (decide ((1:Int)+wab n v z2 (3:Int)=(3:Int))) ((27=27∧1=1∧waa v=waa (vInt (waa v))∧z6∧(0:Int)≤a+(1:Int)+(1:Int)+(1:Int)+(1:Int)∧a+(1:Int)+(1:Int)+(1:Int)+(1:Int)≤z14)∧(TEq [(0,.ptr 0 0),(2,.ptr 1 0),(3,.ptr 2 0),(35,.int .i64 (wab n (vInt (waa v)) z3 (3:Int))),(36,.int .i64 0)] [(0,.ptr 0 0),(2,.ptr 1 0),(3,.ptr 2 0),(35,.int .i64 (wab n v z3 (3:Int))),(36,.int .i64 (↑(List.length (FiS.ts (FiS.mk [] z5))):Int))]∧wag [(0,.cells [.view 1 n (waa v),.int .i64 z5] 27),(1,.cells z4 49),(2,.cells z0 49),(3,.row 40 15 0 (waf (atM [])) false),(4,.row 61 5 0 (wah (atR [])) false),(5,.row 97 5 0 (wai (atT [])) false)] [(0,.cells [.view 1 n (waa v),.int .i64 (FiS.a (FiS.mk [] z5))] 27),(1,.cells z4 49),(2,.cells z0 49),(3,.row 40 15 0 (waf (atM [])) false),(4,.row 61 5 0 (wah (atR [])) false),(5,.row 97 5 0 (wai (atT (FiS.ts (FiS.mk [] z5)))) false)])∧((0:Int)≤wab n v z3 (3:Int)∧wab n v z3 (3:Int)≤(2:Int))∧((0:Int)≤a+(1:Int)+(1:Int)+(1:Int)+(1:Int)+(1:Int)∧a+(1:Int)+(1:Int)+(1:Int)+(1:Int)+(1:Int)≤(4611686018427365000:Int))∧∀ (i:FiS),List.length (FiS.ts i)≤2→a+(1:Int)+(1:Int)+(1:Int)+(1:Int)+(1:Int)≤FiS.a i∧FiS.a i≤a+(1:Int)+(1:Int)+(1:Int)+(1:Int)+(1:Int)+(40:Int)→(∀ (t:RT),t∈FiS.ts i→RT.Tn t)→(True∧True)∧(∀ (i:Nat),i<0→true=true)∧(∀ (i:Nat),i<0→true=true)∧(∀ (i_1:Nat),i_1<List.length (FiS.ts i)→true=true)∧∃ (O':List (Nat×AObj)),wag [(0,.cells [.view 1 n (waa v),.int .i64 (FiS.a i)] 27),(1,.row 40 15 0 (waf (atM [])) false),z8,(List.length [AObj.cells z1 (27:TypeId)]+1+1,.row 97 5 (List.length (FiS.ts i)) (wai (atT (FiS.ts i))) false)] O'∧R (.agg [.str z13,.int .i64 ((1:Int)+wab n v (a+(1:Int)) (3:Int)),.int .i64 ((43860:Int)+wab n v z10 (6:Int)),.int .i64 ((1:Int)+wab n v z2 (3:Int)),.own 1 0,.own z12 0,.own z11 (List.length (FiS.ts i))]) O') ((True∧True)∧(∀ (i:Nat),i<0→true=true)∧(∀ (i:Nat),i<0→true=true)∧(∀ (i:Nat),i<0→true=true)∧∃ (O':List (Nat×AObj)),wag [(0,.cells z15 27),(1,.row 40 15 0 (waf (atM [])) false),z8,z7] O'∧R (.agg [.str z13,.int .i64 ((1:Int)+wab n v (a+(1:Int)) (3:Int)),.int .i64 ((43860:Int)+wab n v z10 (6:Int)),.int .i64 ((1:Int)+wab n v z2 (3:Int)),.own 1 0,.own z12 0,.own z11 0]) O')))):=by kernel_rfl
theorem nf_fl2 (n:Nat) (v:Nat→Int) (a:Int) (id:List UInt8) (ver day kind:Int) (Q:Exit→St→Prop):regP ⟨te,[],[],1,55,0⟩ (regC Tryz.f32 2) [0,2,3,20] Q (S_fl n v a id ver day kind [] [] [])=(letI z0:=(∀ (i:Nat),i<0→true=true:Prop);z0∧z0∧z0∧∃ (O':List (Nat×AObj)),wag [(0,.cells [.view 1 n (waa v),.int .i64 a] 27),(1,.cells [.str [],.int .i64 0,.int .i64 0,.int .i64 0,.nil,.nil,.nil] 49),(2,.cells [.str id,.int .i64 ver,.int .i64 day,.int .i64 kind,.own 3 0,.own 4 0,.own 5 0] 49),(3,.row 40 15 0 (waf (atM [])) false),(4,.row 61 5 0 (wah (atR [])) false),(5,.row 97 5 0 (wai (atT [])) false)] O'∧Q .normal (St.mk [(0,.ptr 0 0),(2,.ptr 1 0),(3,.ptr 2 0),(20,.int .i64 kind)] O' 6 [])):=by kernel_rfl
theorem wyl (n:Nat) (v:Nat→Int) (id:List UInt8) (ver day kind N:Int) (i:FiS) (P:FiS→Prop) (R:Exit→St→Prop):wa6 ⟨te,[(42,.det wbf),(80,.det wcy),(81,.det wcx),(82,.det wk3)],[],1,55,0⟩ (wa8 Tryz.f32 10) [0,2,3,35,36] [0,2,3] [] (wl8 n v id ver day kind N) P R (wl8 n v id ver day kind N i)=(letI z3:=List.length (FiS.ts i)+1;letI z2:=List.length (FiS.ts i);letI z1:=([.str [],.int .i64 0,.int .i64 0,.int .i64 0,.nil,.nil,.nil]:List AV);letI z0:=(FiS.a i+(1:Int)+(1:Int)+(1:Int));wac (decide ((↑z2:Int)<N)) ((27=27∧1=1∧waa v=waa (vInt (waa v))∧(0:Int)≤FiS.a i∧FiS.a i≤(4611686018427387000:Int))∧(27=27∧1=1∧waa v=waa (vInt (waa v))∧(0:Int)≤FiS.a i+(1:Int)∧FiS.a i+(1:Int)≤(4611686018427387000:Int))∧(27=27∧1=1∧waa v=waa (vInt (waa v))∧((1:Int)≤(4:Int)∧(4:Int)≤(1000000:Int))∧(0:Int)≤FiS.a i+(1:Int)+(1:Int)∧FiS.a i+(1:Int)+(1:Int)≤(4611686018427387904:Int))∧inR .i64 ((1440:Int)+wab n (vInt (waa v)) (FiS.a i+(1:Int)+(1:Int)) (4:Int))∧(27=27∧1=1∧waa v=waa (vInt (waa v))∧(0:Int)≤FiS.a i+(1:Int)+(1:Int)+(1:Int)∧FiS.a i+(1:Int)+(1:Int)+(1:Int)≤(4611686018427370000:Int))∧(5≤16777216∧5=5∧1≤9223372036854775807)∧((1≤1∧5=5)∧List.length (FiS.ts i)≤List.length (FiS.ts i)∧5=5∧97=97∧5=5∧List.length (FiS.ts i)+1≤9223372036854775807∧z3 * TI.bytes wi2≤140737488355328)∧inR .i64 ((↑z2:Int)+(1:Int))∧∃ (i':FiS),letI z4:=List.length (FiS.ts i');(TEq [(0,.ptr 0 0),(2,.ptr 1 0),(3,.ptr 2 0),(35,.int .i64 N),(36,.int .i64 ((↑z2:Int)+(1:Int)))] [(0,.ptr 0 0),(2,.ptr 1 0),(3,.ptr 2 0),(35,.int .i64 N),(36,.int .i64 (↑z4:Int))]∧wag [(0,.cells [.view 1 n (waa v),.int .i64 (tarA n (vInt (waa v)) z0)] 27),(1,.cells z1 49),(2,.cells [.str id,.int .i64 ver,.int .i64 day,.int .i64 kind,.own 3 0,.own 4 0,.own 5 z3] 49),(3,.row 40 15 0 (waf (atM [])) false),(4,.row 61 5 0 (wah (atR [])) false),(5,.row 97 5 z3 (apF z2 (wai (atT (FiS.ts i))) (waz (TI.sz wi2) (.str (outF (wab n (vInt (waa v)) (FiS.a i) (3:Int))):: .str (idF (wab n (vInt (waa v)) (FiS.a i+(1:Int)) (4:Int))):: .int .i64 ((1440:Int)+wab n (vInt (waa v)) (FiS.a i+(1:Int)+(1:Int)) (4:Int)):: .int .i64 (wab n (vInt (waa v)) z0 (500:Int)):: .view 2 (List.length (tarL n (vInt (waa v)) z0)) (wa1 (atB (tarL n (vInt (waa v)) z0)))::List.append [] (List.flatten (List.replicate (nat_lit 0) [.str ([]),.str ([]),.int .i64 0,.int .i64 0,.nil]))))) false)] [(0,.cells [.view 1 n (waa v),.int .i64 (FiS.a i')] 27),(1,.cells z1 49),(2,.cells [.str id,.int .i64 ver,.int .i64 day,.int .i64 kind,.own 3 0,.own 4 0,.own 5 z4] 49),(3,.row 40 15 0 (waf (atM [])) false),(4,.row 61 5 0 (wah (atR [])) false),(5,.row 97 5 z4 (wai (atT (FiS.ts i'))) false)])∧P i') ((∀ (i:Nat),i<0→true=true)∧(∀ (i:Nat),i<0→true=true)∧(∀ (i_1:Nat),i_1<List.length (FiS.ts i)→true=true)∧∃ (O':List (Nat×AObj)),wag [(0,.cells [.view 1 n (waa v),.int .i64 (FiS.a i)] 27),(1,.cells z1 49),(2,.cells [.str id,.int .i64 ver,.int .i64 day,.int .i64 kind,.own 3 0,.own 4 0,.own 5 z2] 49),(3,.row 40 15 0 (waf (atM [])) false),(4,.row 61 5 0 (wah (atR [])) false),(5,.row 97 5 z2 (wai (atT (FiS.ts i))) false)] O'∧R (.exit 1) (St.mk [(0,.ptr 0 0),(2,.ptr 1 0),(3,.ptr 2 0)] O' 6 []))):=by kernel_rfl
theorem wtt {α:Type} (g:Nat→α) (n:Nat) (d:α) {i:Nat} (h:i<n):(lst g n).getD i d=g i:=by
 simp [lst,List.getD_eq_getElem?_getD,List.getElem?_range h]
theorem wew {α:Type} (g:Nat→α) (n:Nat):(lst g n).length=n:=by simp [lst]
theorem ws3 {α:Type} {g:Nat→α} {n:Nat} {p:α→Prop} (h:∀ j,j<n→p (g j)):∀ x∈lst g n,p x:=fun x hx=>by
 obtain ⟨i,hi,rfl⟩:=List.mem_map.1 hx
 exact h i (List.mem_range.1 hi)
theorem wrd {α:Type} {p:α→Prop} {L:List α} {x:α} (h:∀ y∈L,p y) (hx:p x):∀ y∈L++[x],p y:=fun y hy=>by
 rcases List.mem_append.1 hy with q | q
 ·exact h y q
 ·rw [List.mem_singleton.1 q];exact hx
theorem wgj (i:Int):(fidF i).length≤24:=by
 unfold fidF
 match i.toNat with
 |0=>decide
 |1=>decide
 |2=>decide
 |n+3=>exact Nat.zero_le _
theorem fl2_ok (hP:C.P=Tryz.prog) (n:Nat) (v:Nat→Int) (a:Int) (id:List UInt8) (ver day kind:Int):waj C 1 55 (regC Tryz.f32 2) (wnm n v a id ver day kind):=by
 have _:C.Loose:=inferInstance
 rintro st Q ⟨h0,hQ⟩
 refine AWP.ownNilP 3 4 40 15 (AWP.ownNilP 3 5 61 5 (AWP.ownNilP 3 6 97 5 ?_))
 refine waj.reg (S:=S_fl n v a id ver day kind [] [] []) (prg hP) [] 0 .nil [0,2,3] [0,2,3,20] h0 ?_ ⟨fun _ _=>rfl,fun _ _=>rfl,fun _ _=>rfl,trivial⟩
 rw [nf_fl2]
 exact ⟨fun _ _=>rfl,fun _ _=>rfl,fun _ _=>rfl,_,wan _,hQ⟩
theorem w0o (hP:C.P=Tryz.prog) (n:Nat) (v:Nat→Int) (a:Int) (id:List UInt8) (ver day kind N:Int):waj C 1 55 (wao Tryz.f32 10) (wnl n v a id ver day kind N):=by
 rintro s Q ⟨h0,hN,ha,hQ⟩
 refine waj.mk (prg hP) [(42,.det wbf),(80,.det wcy),(81,.det wcx),(82,.det wk3)] 0 (.cons (wco hP) (.cons (wgd hP) (.cons (wf4 hP) (.cons (wv3 hP) .nil)))) [0,2,3,35,36] [0,2,3] [] (wl8 n v id ver day kind N)
  (fun i=>(i.ts.length:Int)≤N∧(a≤i.a∧i.a≤a+20 * i.ts.length)∧∀ t∈i.ts,t.Tn) (fun i=>N.toNat - i.ts.length) ⟨[],a⟩ ⟨by show (0:Int)≤N;omega,by show a≤a∧a≤a+20 * ((0:Nat):Int);omega,fun t ht=>(by cases ht)⟩ h0 (fun i hi=>?_) (fun i=>⟨fun _ _=>rfl,fun _ _=>rfl,fun _ _=>rfl,trivial⟩)
 obtain ⟨h1,h2,h3⟩:=hi
 have hw:vInt (waa v)=v:=rfl
 rw [wyl,hw]
 have r1:=wav (show (1:Int)≤4 by omega) n v (i.a+1+1)
 have r2:=wav (show (1:Int)≤500 by omega) n v (i.a+1+1+1)
 obtain ⟨t1,t2,t3⟩:=wv4 n v (i.a+1+1+1)
 have rw1:=wog (wof n v (i.a - 1)).1
 have e1:i.a - 1+1=i.a:=by omega
 have ho:(outF (wab n v i.a 3)).length≤100:=by rw [← e1];exact rw1.a
 have hp:(idF (wab n v (i.a+1) 4)).length≤100:=by rw [← e1];exact rw1.b
 have htn:(⟨outF (wab n v i.a 3),idF (wab n v (i.a+1) 4),1440+wab n v (i.a+1+1) 4,wab n v (i.a+1+1+1) 500,tarL n v (i.a+1+1+1)⟩:RT).Tn:=
  ⟨⟨by simp only [inR];omega,by simp only [inR];omega,by show (tarL n v (i.a+1+1+1)).length≤1000;omega,t2⟩,ho,hp⟩
 refine wal (fun q=>?_) (fun q=>⟨fun _ _=>rfl,fun _ _=>rfl,fun _ _=>rfl,_,wan _,hQ i (by omega) (by omega) h3⟩)
 refine ⟨⟨rfl,rfl,rfl,by omega,by omega⟩,⟨rfl,rfl,rfl,by omega,by omega⟩,⟨rfl,rfl,rfl,⟨by omega,by omega⟩,by omega,by omega⟩,by simp only [inR];omega,⟨rfl,rfl,rfl,by omega,by omega⟩,⟨by omega,rfl,by omega⟩,⟨⟨Nat.le_refl _,rfl⟩,Nat.le_refl _,rfl,rfl,rfl,by omega,?_⟩,by simp only [inR];omega,
  ⟨i.ts++[⟨outF (wab n v i.a 3),idF (wab n v (i.a+1) 4),1440+wab n v (i.a+1+1) 4,wab n v (i.a+1+1+1) 500,tarL n v (i.a+1+1+1)⟩],tarA n v (i.a+1+1+1)⟩,?_,⟨?_,?_,?_⟩,?_⟩
 ·show (i.ts.length+1) * 72≤_
  omega
 ·dsimp only
  rw [List.length_append]
  exact ⟨rfl,rfl,rfl,rfl,⟨rfl,rfl,rfl,rfl,rfl,fun _ _=>rfl⟩,⟨rfl,rfl,rfl,rfl,rfl,fun _ _=>rfl⟩,⟨rfl,rfl,rfl,rfl,rfl,snocG (fun t:RT=>[.str t.o,.str t.p,.int .i64 t.per,.int .i64 t.st,.view 2 t.bs.length (wa1 (atB t.bs))]) wha i.ts _ _ rfl⟩,trivial⟩
 ·show ((i.ts++[_]).length:Int)≤N
  rw [List.length_append];simp;omega
 ·show a≤tarA n v (i.a+1+1+1)∧tarA n v (i.a+1+1+1)≤a+20 * ((i.ts++[_]).length:Int)
  rw [List.length_append];simp;omega
 ·intro t ht
  rcases List.mem_append.1 ht with ht | ht
  ·exact h3 t ht
  ·rw [List.mem_singleton.1 ht];exact htn
 ·show N.toNat - (i.ts++[_]).length<N.toNat - i.ts.length
  rw [List.length_append];simp;omega
theorem w0q (hP:C.P=Tryz.prog):wbc C 32 wvg:=by
 rintro args objs R h
 unfold wvg at h
 split at h
 ·rename_i sz n f a t
  obtain ⟨rfl,rfl,hf,ha,hR⟩:=h
  rw [hf] at hR ⊢
  generalize vInt f=v at *
  have hw:vInt (waa v)=v:=rfl
  refine wbc.wpL (prg hP) [(42,.det wbf),(59,.rel wms),(79,.rel wmq)]
   [(1002,wnm n v (a+1+1+1+1) (fidF (wab n v a 3)) (1+wab n v (a+1) 3) (43860+wab n v (a+1+1) 6) (1+wab n v (a+1+1+1) 3)),(10,wnl n v (a+1+1+1+1+1) (fidF (wab n v a 3)) (1+wab n v (a+1) 3) (43860+wab n v (a+1+1) 6) (1+wab n v (a+1+1+1) 3) (wab n v (a+1+1+1+1) 3))] 0
   (.cons (wco hP) (.cons (msgs_ok hP) (.cons (rows_ok hP) .nil))) (hP ▸ Tryz.func32) rfl rfl rfl
   [(regC Tryz.f32 2,wnm n v (a+1+1+1+1) (fidF (wab n v a 3)) (1+wab n v (a+1) 3) (43860+wab n v (a+1+1) 6) (1+wab n v (a+1+1+1) 3)),(wao Tryz.f32 10,wnl n v (a+1+1+1+1+1) (fidF (wab n v a 3)) (1+wab n v (a+1) 3) (43860+wab n v (a+1+1) 6) (1+wab n v (a+1+1+1) 3) (wab n v (a+1+1+1+1) 3))] (by kernel_rfl)
   ⟨fl2_ok hP _ _ _ _ _ _ _,w0o hP _ _ _ _ _ _ _ _,trivial⟩ ?_
  rw [nf_file,hw]
  have r0:=wav (show (1:Int)≤3 by omega) n v a
  have r1:=wav (show (1:Int)≤3 by omega) n v (a+1)
  have r2:=wav (show (1:Int)≤6 by omega) n v (a+1+1)
  have r3:=wav (show (1:Int)≤3 by omega) n v (a+1+1+1)
  have r4:=wav (show (1:Int)≤3 by omega) n v (a+1+1+1+1)
  refine ⟨⟨by omega,rfl,by omega⟩,⟨rfl,rfl,rfl,⟨by omega,by omega⟩,by omega,by omega⟩,⟨r0.1,r0.2⟩,⟨by omega,rfl⟩,⟨rfl,rfl,rfl,⟨by omega,by omega⟩,by omega,by omega⟩,by simp only [inR];omega,⟨rfl,rfl,rfl,⟨by omega,by omega⟩,by omega,by omega⟩,by simp only [inR];omega,⟨rfl,rfl,rfl,⟨by omega,by omega⟩,by omega,by omega⟩,by simp only [inR];omega,
   ⟨rfl,rfl,rfl,rfl,⟨rfl,rfl,rfl,rfl,rfl,fun i hi=>absurd hi (Nat.not_lt_zero i)⟩,⟨rfl,rfl,rfl,rfl,rfl,fun i hi=>absurd hi (Nat.not_lt_zero i)⟩,⟨rfl,rfl,rfl,rfl,rfl,fun i hi=>absurd hi (Nat.not_lt_zero i)⟩,trivial⟩,?_⟩
  refine wal (fun q1=>?_) (fun q1=>wal (fun q2=>?_) (fun q2=>wal (fun q3=>?_) (fun q3=>absurd q3 (by omega))))
  ·refine ⟨rfl,rfl,rfl,⟨by omega,by omega⟩,⟨by omega,by omega⟩,fun c g a' hc ha' hg=>⟨fun _ _=>rfl,⟨trivial,trivial⟩,fun _ _=>rfl,fun _ _=>rfl,fun _ _=>rfl,[(0,.cells [.view 1 n (waa v),.int .i64 a'] 27),(1,.row 40 15 c (waf (atM (lst g c))) false),(2,.row 61 5 0 (wah (atR [])) false),(3,.row 97 5 0 (wai (atT [])) false)],?_,?_⟩⟩
   rotate_left
   ·have:=hR ⟨fidF (wab n v a 3),1,43860+wab n v (a+1+1) 6,1+wab n v (a+1+1+1) 3,lst g c,[],[]⟩ a' ⟨Nat.le_trans (wgj _) (by omega),by simp only [inR];omega,by simp only [inR];omega,⟨by rw [wew];omega,ws3 fun j hj=>wsp (hg j hj).ok⟩,⟨by simp,fun r hr=>(by cases hr)⟩,⟨by simp,fun r hr=>(by cases hr)⟩⟩ (by rw [wew];omega) (by simp) (by simp) ⟨wgj _,by show (lst g c).length≤4;rw [wew];omega,by show 0≤4;omega,by show 0≤2;omega,by show 1≤(1:Int)∧(1:Int)≤3;omega,by show 1≤1+_∧1+_≤(3:Int);omega,by show 43860≤43860+_∧43860+_≤(43865:Int);omega⟩ (by omega)
    dsimp only at this
    rw [wew] at this
    exact this
   ·exact ⟨rfl,⟨rfl,rfl,rfl,rfl,rfl,fun j hj=>by show mgC _=mgC _;rw [show atM (lst g c) j=g j from wtt g c _ hj]⟩,⟨rfl,rfl,rfl,rfl,rfl,fun _ _=>rfl⟩,⟨rfl,rfl,rfl,rfl,rfl,fun _ _=>rfl⟩,trivial⟩
  ·refine ⟨rfl,rfl,rfl,⟨by omega,by omega⟩,⟨by omega,by omega⟩,fun c g a' hc ha' hg=>⟨fun _ _=>rfl,⟨trivial,trivial⟩,fun _ _=>rfl,fun _ _=>rfl,fun _ _=>rfl,[(0,.cells [.view 1 n (waa v),.int .i64 a'] 27),(1,.row 40 15 0 (waf (atM [])) false),(2,.row 61 5 c (wah (atR (lst g c))) false),(3,.row 97 5 0 (wai (atT [])) false)],?_,?_⟩⟩
   rotate_left
   ·have:=hR ⟨fidF (wab n v a 3),1+wab n v (a+1) 3,43860+wab n v (a+1+1) 6,1+wab n v (a+1+1+1) 3,[],lst g c,[]⟩ a' ⟨Nat.le_trans (wgj _) (by omega),by simp only [inR];omega,by simp only [inR];omega,⟨by simp,fun r hr=>(by cases hr)⟩,⟨by rw [wew];omega,ws3 fun j hj=>wog (hg j hj).ok⟩,⟨by simp,fun r hr=>(by cases hr)⟩⟩ (by simp) (by rw [wew];omega) (by simp) ⟨wgj _,by show 0≤4;omega,by show (lst g c).length≤4;rw [wew];omega,by show 0≤2;omega,by show 1≤1+_∧1+_≤(3:Int);omega,by show 1≤1+_∧1+_≤(3:Int);omega,by show 43860≤43860+_∧43860+_≤(43865:Int);omega⟩ (by omega)
    dsimp only at this
    rw [wew] at this
    exact this
   ·exact ⟨rfl,⟨rfl,rfl,rfl,rfl,rfl,fun _ _=>rfl⟩,⟨rfl,rfl,rfl,rfl,rfl,fun j hj=>by
     show wah g j=wah (atR (lst g c)) j
     unfold wah
     rw [show atR (lst g c) j=g j from wtt g c _ hj]⟩,⟨rfl,rfl,rfl,rfl,rfl,fun _ _=>rfl⟩,trivial⟩
  ·refine ⟨⟨rfl,rfl,rfl,⟨by omega,by omega⟩,by omega,by omega⟩,⟨rfl,rfl,rfl,rfl,⟨rfl,rfl,rfl,rfl,rfl,fun _ _=>rfl⟩,⟨rfl,rfl,rfl,rfl,rfl,fun _ _=>rfl⟩,⟨rfl,rfl,rfl,rfl,rfl,fun _ _=>rfl⟩,trivial⟩,⟨r4.1,by omega⟩,⟨by omega,by omega⟩,fun i hi hia hit=>⟨⟨trivial,trivial⟩,fun _ _=>rfl,fun _ _=>rfl,fun _ _=>rfl,_,wan _,?_⟩⟩
   exact hR ⟨fidF (wab n v a 3),1+wab n v (a+1) 3,43860+wab n v (a+1+1) 6,1+wab n v (a+1+1+1) 3,[],[],i.ts⟩ i.a ⟨Nat.le_trans (wgj _) (by omega),by simp only [inR];omega,by simp only [inR];omega,⟨by simp,fun r hr=>(by cases hr)⟩,⟨by simp,fun r hr=>(by cases hr)⟩,⟨by show i.ts.length≤1000;omega,hit⟩⟩ (by simp) (by simp) hi ⟨wgj _,by show 0≤4;omega,by show 0≤4;omega,hi,by show 1≤1+_∧1+_≤(3:Int);omega,by show 1≤1+_∧1+_≤(3:Int);omega,by show 43860≤43860+_∧43860+_≤(43865:Int);omega⟩ (by omega)
 ·exact h.elim
theorem file_ok (hP:C.P=Tryz.prog):wbc C 32 wmt:=by
 rintro args objs R h
 unfold wmt at h
 split at h
 ·rename_i sz n f a t
  obtain ⟨rfl,rfl,hf,ha,hR⟩:=h
  refine wak.frzO 3 (wak.frzO 2 (wak.frzO 1 (w0q hP _ _ _ ⟨rfl,rfl,hf,ha,fun F a' hF h1 h2 h3 hl ha'=>?_⟩)))
  have b1:Nat.ble F.ms.length F.ms.length=true:=Nat.ble_eq_true_of_le (Nat.le_refl _)
  have b2:Nat.ble F.rs.length F.rs.length=true:=Nat.ble_eq_true_of_le (Nat.le_refl _)
  have b3:Nat.ble F.ts.length F.ts.length=true:=Nat.ble_eq_true_of_le (Nat.le_refl _)
  refine ⟨fun _ _=>rfl,fun _ _=>rfl,fun _ _=>rfl,?_⟩
  have:=hR F a' hF hl ha'
  have c1:Nat.beq 2 1=false:=rfl
  have c2:Nat.beq 3 1=false:=rfl
  have c3:Nat.beq 3 2=false:=rfl
  simpa [frzC,frzA,frz,rm,b1,b2,b3,c1,c2,c3] using this
 ·exact h.elim
end Go.Eng
namespace Go.Proofs
open Go.RowKit
theorem Tryz.sizeBuilder:(Tryz.prog.info? 109).map (·.size)=some 2:=by kernel_rfl
theorem Tryz.liesWords:liesAt Tryz.prog Tryz.prog.depth 111 1 0 109 1=true:=by kernel_rfl
theorem Tryz.cellsWords:Tryz.prog.cellsOf 111=2:=by kernel_rfl
theorem Tryz.und106:Tryz.prog.underlying 106=some (.pointer 109):=by kernel_rfl
theorem Tryz.und220:Tryz.prog.underlying 220=some .unsafePointer:=by kernel_rfl
set_option maxHeartbeats 1000000 in
set_option maxRecDepth 100000 in
theorem Tryz.copyCheck_used (b:Nat) (w:World) (h0:w.cell? ⟨b,0,none⟩=some (.pointer (some ⟨b,0,none⟩))):
  Calls Tryz.prog 164 #[.pointer (some ⟨b,0,none⟩)] w fun e w'=>e= .returned (.tuple #[])∧w'=w:=by
 obtain ⟨j,hj,_⟩:=Option.map_eq_some_iff.1 Tryz.sizeBuilder
 go_enter Tryz.func164,Tryz.ntmps164
 go_wp2
 rw [Lib.run_neq_ptr_same w _ Tryz.und106 hj]
 go_wp2
 go_end0
 exact ⟨rfl,rfl⟩
set_option maxHeartbeats 1000000 in
set_option maxRecDepth 100000 in
theorem Tryz.copyCheck_fresh (b:Nat) (w:World) (h0:w.cell? ⟨b,0,none⟩=some (.pointer none)) (hsh:w.shape? b=some (111,2)) (hfz:w.frozen? ⟨b,0,none⟩=false):
  Calls Tryz.prog 164 #[.pointer (some ⟨b,0,none⟩)] w fun e w'=>e= .returned (.tuple #[])∧w'=w.setCell ⟨b,0,none⟩ (.pointer (some ⟨b,0,none⟩)):=by
 obtain ⟨j,hj,hjs⟩:=Option.map_eq_some_iff.1 Tryz.sizeBuilder
 go_enter Tryz.func164,Tryz.ntmps164
 go_wp2
 rw [Lib.run_to_unsafe w ⟨b,0,none⟩ Tryz.und106 Tryz.und220 hj (by rw [hjs];decide) hsh (Nat.zero_lt_succ 1)]
 simp only [Result.andThen]
 rw [Oper.upon_value]
 go_wp2
 rw [run_callFunc_extern Tryz.func203 (by kernel_rfl) (by kernel_rfl) (by kernel_rfl) (e:=Extern.AbiNoEscape.same) (by kernel_rfl)]
 rw [Lib.run_noEscape]
 simp only [Result.andThen]
 rw [Oper.upon_value]
 go_wp2
 rw [Lib.run_from_unsafe w ⟨b,0,none⟩ Tryz.und220 Tryz.und106 hj hsh (by rw [Tryz.cellsWords];exact Tryz.liesWords)]
 simp only [Result.andThen]
 rw [Oper.upon_value]
 go_wp2
 go_end0
 exact ⟨rfl,rfl⟩
end Go.Proofs
namespace Go.Eng
open Go.Proofs Go.RowKit Go.Sort
variable {C:Ctx} [C.Loose]
set_option maxRecDepth 20000
theorem wu2 (w:World) (k:Nat) (os:Array Obj):Below w.heap.size w (grow (w.drewN k) os):=
 ⟨rfl,rfl,rfl,by simp [grow,World.drewN],fun i hi=>by
  show (w.heap++os)[i]?=_
  rw [Array.getElem?_append_left hi]⟩
theorem woj {w:World} {M:Nat→Prop} {bs:Nat→Option Hd} {v:Value} {r off:Nat} (h:V w M bs v (.ptr r off)):∃ b c,v= .pointer (some ⟨b,off,none⟩)∧bs r=some (.blk b c):=by
 cases h with | ptr hb=>exact ⟨_,_,rfl,hb⟩
theorem ccUsed (hP:C.P=Tryz.prog) {args:List AV} {objs:List AObj} {cs:List AV} {t:TypeId} (ha:args=[.ptr 0 0]) (ho:objs[0]?=some (.cells (.ptr 0 0::cs) t)):wak C 164 args objs fun u O=>u= .tuple []∧O=enum 0 objs:=by
 have _:C.Loose:=inferInstance
 subst ha
 refine wak.quiet ⟨_,hP ▸ Tryz.func164,rfl,by decide⟩ fun E bs w cargs hW hl hv=>?_
 obtain ⟨a,rfl⟩:=mem1 hl
 have V0:=hv 0 _ _ rfl rfl
 obtain ⟨b,x,rfl,hx,hxV⟩:=WRep.cell hW (r:=0) (by simpa [lkL] using ho) V0 (j:=0) (u:=.ptr 0 0) rfl
 obtain ⟨b1,c1,rfl,hb1⟩:=woj hxV
 obtain ⟨b2,c2,e2,hb2⟩:=woj V0
 rw [hb1] at hb2
 injection hb2 with hb2
 injection hb2 with e3 e4
 subst e3
 injection e2 with e2
 injection e2 with e2
 injection e2 with e2
 subst e2
 rw [hP]
 refine (Tryz.copyCheck_used b w hx).mono ?_
 rintro e w' ⟨rfl,rfl⟩
 exact ⟨_,rfl,rfl,.tuple rfl (fun j v u hv hu=>by simp at hu)⟩
theorem ccFresh (hP:C.P=Tryz.prog):wak C 164 [.ptr 0 0] [.cells [.nilptr,.nil] 111] fun u O=>u= .tuple []∧O=[(0,.cells [.ptr 0 0,.nil] 111)]:=by
 have _:C.Loose:=inferInstance
 refine ⟨⟨_,hP ▸ Tryz.func164,rfl,by decide⟩,fun E bs w cargs h1 h2 h3 hW h5 h6 h7=>?_⟩
 obtain ⟨a,rfl⟩:=mem1 h6
 have V0:=h7 0 _ _ rfl rfl
 obtain ⟨b,c,vs,k1,k2,k3,k4,k5⟩:=hW.obj 0 _ rfl
 obtain ⟨x,y,rfl⟩:∃ x y,vs=#[x,y]:=by
  have k3:vs.size=2:=k3
  exact ⟨vs[0],vs[1],by
   apply Array.ext
   ·simpa using k3
   ·intro i hi1 hi2
    match i,hi2 with
    |0,_=>rfl
    |1,_=>rfl⟩
 have hx:=k5 0 x .nilptr rfl rfl
 have hy:=k5 1 y .nil rfl rfl
 cases hx
 cases hy
 obtain ⟨b',c',rfl,hb⟩:=woj V0
 rw [k1] at hb
 injection hb with hb
 injection hb with e1 e2
 subst e1;subst e2
 ·rw [hP]
  refine (Tryz.copyCheck_fresh b w (by rw [cell_of_row w b 0 _ _ (0,0) k2];rfl) (by simp [World.shape?,k2]) (by simp [World.frozen?,k2])).mono ?_
  rintro e w' ⟨rfl,rfl⟩
  have hm:(AObj.cells [.nilptr,.nil] 111).mut=true:=rfl
  have hheap:(w.setCell ⟨b,0,none⟩ (.pointer (some ⟨b,0,none⟩))).heap[b]?=some (.cells #[.pointer (some ⟨b,0,none⟩),.slice none 0 0] 111 (0,0)):=by
   simp [World.setCell,Array.getElem?_modify,k2]
  obtain ⟨g1,g2⟩:=hW.modify (x:=0) rfl hm k1 (w':=w.setCell ⟨b,0,none⟩ (.pointer (some ⟨b,0,none⟩))) (fun k hk=>by simp [World.setCell,Array.getElem?_modify,Ne.symm hk]) (by simp [World.setCell]) rfl ⟨rfl,fun _=>Nat.le_refl _⟩ rfl (o:=.cells [.ptr 0 0,.nil] 111) rfl
   (fun hS=>⟨b,c,_,k1,hheap,rfl,fun j v hv=>by
    match j with
    |0=>obtain rfl:=Option.some.inj hv;rfl
    |1=>obtain rfl:=Option.some.inj hv;rfl
    |j+2=>simp at hv,fun j v u hv hu=>by
    match j with
    |0=>obtain rfl:=Option.some.inj hv;obtain rfl:=Option.some.inj hu;exact .ptr k1
    |1=>obtain rfl:=Option.some.inj hv;obtain rfl:=Option.some.inj hu;exact .nil
    |j+2=>simp at hv⟩)
  have e2:up (lkL [AObj.cells [.nilptr,.nil] 111]) 0 (.cells [.ptr 0 0,.nil] 111)=lk [(0,.cells [.ptr 0 0,.nil] 111)]:=by
   funext i
   rw [way]
   by_cases h:(0:Nat)=i
   ·subst h;rw [war,if_pos rfl]
   ·rw [waq _ _ _ h,if_neg h]
    cases i with
    |zero=>exact absurd rfl h
    |succ i=>simp [lkL,lk]
  rw [e2] at g2
  refine ⟨_,.tuple [],[(0,.cells [.ptr 0 0,.nil] 111)],bs,rfl,⟨rfl,rfl⟩,g2,.tuple rfl (fun j v u hv hu=>by simp at hu),fun r hr=>⟨?_,h5 r (by show 1≤r;have:1+16≤r:=hr;omega)⟩⟩
  have:1+16≤r:=hr
  rw [way,if_neg (by show ¬ 0=r;omega)];rfl
theorem cc_ok (hP:C.P=Tryz.prog):wae C 164 S_cc:=by
 rintro args objs U Os vc h hvc
 unfold S_cc at h
 split at h<;>simp only [Option.some.injEq,Prod.mk.injEq,reduceCtorEq] at h
 ·rename_i t
  obtain ⟨rfl,rfl,rfl⟩:=h
  have hvc:t=_:=hvc
  subst hvc
  exact ccFresh hP
 ·rename_i n t t8 m f
  obtain ⟨rfl,rfl,rfl⟩:=h
  have hvc:t=_:=hvc
  subst hvc
  exact ccUsed hP rfl rfl
theorem wj4 (hP:C.P=Tryz.prog) (hL:∀ w,C.laid w→LaidW w):wae C 134 wd2:=by
 rintro args objs U Os vc h hvc
 unfold wd2 at h
 split at h<;>simp only [Option.some.injEq,Prod.mk.injEq,reduceCtorEq] at h
 rename_i n
 obtain ⟨rfl,rfl,rfl⟩:=h
 have hr:inR .i64 n:=hvc
 simp only [inR] at hr
 refine wak.below ⟨_,hP ▸ Tryz.func134,rfl,by decide⟩ fun w M cargs hlaid _ hM hl hv=>?_
 obtain ⟨a,b,rfl⟩:∃ a b,cargs=[a,b]:=by
  match cargs,hl with
  |[a,b],_=>exact ⟨a,b,rfl⟩
 have e1:=(hv 0 _ _ rfl rfl).int_iff
 have e2:=(hv 1 _ _ rfl rfl).int_iff
 subst e1;subst e2
 rw [hP]
 refine (Tryz.strconv_FormatInt_10 n (by omega) (by omega) w (hL w hlaid).pow).mono ?_
 rintro e w' ⟨rfl,k,os,rfl⟩
 exact ⟨_,rfl,wu2 _ _ _,.str (by simp)⟩
theorem wjw (hP:C.P=Tryz.prog) (hL:∀ w,C.laid w→LaidW w):wae C 133 wd1:=by
 rintro args objs U Os vc h hvc
 unfold wd1 at h
 split at h<;>simp only [Option.some.injEq,Prod.mk.injEq,reduceCtorEq] at h
 rename_i n
 obtain ⟨rfl,rfl,rfl⟩:=h
 have hr:inR .i64 n:=hvc
 simp only [inR] at hr
 refine wak.below ⟨_,hP ▸ Tryz.func133,rfl,by decide⟩ fun w M cargs hlaid _ hM hl hv=>?_
 obtain ⟨a,rfl⟩:=mem1 hl
 have e1:=(hv 0 _ _ rfl rfl).int_iff
 subst e1
 rw [hP]
 refine (Tryz.strconv_Itoa n (by omega) (by omega) w (hL w hlaid).pow).mono ?_
 rintro e w' ⟨rfl,k,os,rfl⟩
 exact ⟨_,rfl,wu2 _ _ _,.str (by simp)⟩
end Go.Eng
namespace Go.Eng
open Go.Proofs Go.RowKit
variable {C:Ctx} [C.Loose]
set_option maxRecDepth 20000
theorem whr {α:Type} (g:Nat→α) (n:Nat):lst g (n+1)=lst g n++[g n]:=by simp [lst,List.range_succ]
theorem lst_at {α:Type} {g:Nat→α} {L:List α} {n:Nat} (h:lst g n=L) (d:α):n=L.length∧∀ i,i<n→g i=L.getD i d:=by
 subst h
 refine ⟨by simp [lst],fun i hi=>?_⟩
 simp [lst,hi]
theorem wxq (x:Int) (R:AV→List (Nat×AObj)→Prop):wpFn te [] [] 0 Tryz.f180 [.int .i64 x] [] R=(wac (decide ((0:Int)≤x)) (R (.bool (decide (x≤(1099511627776:Int)))) []) (R (.bool false) [])):=by kernel_rfl
theorem nf_tarV (st:Int) (bs:List BK) (R:AV→List (Nat×AObj)→Prop):wpFn te [(180,.det wgw)] [(7,L_tv st bs)] 0 Tryz.f151 [.agg [.int .i64 st,.view 2 bs.length (wa1 (atB bs))]] [] R=(letI z2:=R (.int .i64 141) [];letI z1:=([(0,.cells [.int .i64 st,.view 2 (List.length bs) (wa1 (atB bs))] 95)]:List (Nat×AObj));letI z0:=(↑(List.length bs):Int);True∧wac (!(decide ((0:Int)≤st) && decide (st≤(1099511627776:Int)))) (R (.int .i64 140) []) (wac (decide (z0<(1:Int))) z2 (wac (decide ((8:Int)<z0)) z2 (some (St.mk [(1,.ptr 0 0),(3,.int .i64 0),(22,.view 2 (List.length bs) (wa1 (atB bs))),(23,.int .i64 z0),(24,.int .i64 0)] z1 1 [])=some (St.mk [(1,.ptr 0 0),(3,.int .i64 (lowB bs 0)),(22,.view 2 (List.length bs) (wa1 (atB bs))),(23,.int .i64 z0),(24,.int .i64 (↑0:Int))] z1 1 [])∧List.length bs≤8∧wac (bksB bs (List.length bs)) (R (.int .i64 0) []) z2)))):=by kernel_rfl
theorem wxa (st:Int) (bs:List BK) (k:Nat) (P:Nat→Prop) (R:Exit→St→Prop):wa6 ⟨te,[(180,.det wgw)],[],0,65,0⟩ (wa8 Tryz.f151 7) [1,3,22,23,24] [] [2] (S_tv st bs) P R (S_tv st bs k)=(letI z5:=([(0,.cells [.int .i64 st,.view 2 (List.length bs) (wa1 (atB bs))] 95)]:List (Nat×AObj));letI z4:=R .ret (St.mk [(2,.int .i64 141)] [] 0 []);letI z3:=(↑(List.length bs):Int);letI z2:=(atB bs (Int.toNat (↑k:Int)));letI z0:=(inR .i64 ((↑k:Int)+(1:Int))∧∃ (i':Nat),some (St.mk [(1,.ptr 0 0),(3,.int .i64 (BK.up z2)),(22,.view 2 (List.length bs) (wa1 (atB bs))),(23,.int .i64 z3),(24,.int .i64 ((↑k:Int)+(1:Int)))] z5 1 [])=some (St.mk [(1,.ptr 0 0),(3,.int .i64 (lowB bs i')),(22,.view 2 (List.length bs) (wa1 (atB bs))),(23,.int .i64 z3),(24,.int .i64 (↑i':Int))] z5 1 [])∧P i');letI z1:=(wac (!decide ((↑k:Int)=z3 - (1:Int))) (wac (decide (BK.up z2≤lowB bs k)) z4 (wac (decide ((1099511627776:Int)<BK.up z2)) z4 z0)) z0);wac (decide ((↑k:Int)<z3)) (((0:Int)≤(↑k:Int)∧(↑k:Int)<z3∧2=2)∧inR .i64 (z3 - (1:Int))∧True∧wac (!(decide ((0:Int)≤BK.pr z2) && decide (BK.pr z2≤(1099511627776:Int)))) z4 (wac (decide ((↑k:Int)=z3 - (1:Int))) (wac (!decide (BK.up z2=(0:Int))) z4 z1) z1)) (R (.exit 0) (St.mk [] [] 0 []))):=by kernel_rfl
theorem wxl (o p:List UInt8) (per:Int) (R:AV→List (Nat×AObj)→Prop):wpFn te [(105,.det wk5)] [] 0 Tryz.f150 [.str o,.str p,.int .i64 per] [] R=(letI z1:=(List.flatten (List.replicate (nat_lit 0) [.str ([]),.str ([]),.int .i64 0,.int .i64 0,.int .i64 0]):List AV);letI z0:=waz (TI.sz wc3) (.str o:: .str p:: .int .i64 per:: .int .i64 1:: .int .i64 1::List.append [] z1);(5≤16777216∧5=5∧1≤9223372036854775807)∧(∀ (i:Nat),i<1→nrefL (waz (TI.sz wc3) (.str o:: .str p:: .int .i64 per:: .int .i64 1:: .int .i64 1::List.append [] z1) i)=true)∧(1=1∧1≤1000000∧(∀ (i:Nat),i<1→waz (TI.sz wc3) (.str o:: .str p:: .int .i64 per:: .int .i64 1:: .int .i64 1::List.append [] z1) i=[.str (RW.o (rwOf z0 i)),.str (RW.p (rwOf z0 i)),.int .i64 (RW.per (rwOf z0 i)),.int .i64 (RW.u (rwOf z0 i)),.int .i64 (RW.tv (rwOf z0 i))])∧∀ (i:Nat),i<1→List.length (RW.o (rwOf z0 i))<4294967281)∧R (.bool (decide (svF (rwOf z0) 1=(0:Int)))) []):=by kernel_rfl
theorem wxp (t:RT) (R:AV→List (Nat×AObj)→Prop):wpFn te [(150,.det wd0),(151,.det wk4)] [] 0 Tryz.f108 [.agg [.str t.o,.str t.p,.int .i64 t.per,.int .i64 t.st,.view 2 t.bs.length (wa1 (atB t.bs))]] [] R=(letI z0:=lst (bkOf (wa1 (atB (RT.bs t)))) (List.length (RT.bs t));List.length (RT.o t)<4294967281∧wac (wby (RT.o t) (RT.p t) (RT.per t)) (wa1 (atB (RT.bs t))=wa1 (atB z0)∧R (.bool (decide (tfF (RT.st t) z0=(0:Int)))) []) (R (.bool false) [])):=by kernel_rfl
theorem wgr {bs:List BK} {i:Nat}:bkOK bs i=true↔0≤(atB bs i).pr∧(atB bs i).pr≤1099511627776∧(i+1=bs.length→(atB bs i).up=0)∧(¬ i+1=bs.length→lowB bs i<(atB bs i).up∧(atB bs i).up≤1099511627776):=by
 unfold bkOK
 by_cases h:i+1=bs.length
 ·rw [decide_eq_true h];simp [h]
 ·rw [decide_eq_false h];simp [h]
theorem wux {bs:List BK} {k:Nat} (e:bksB bs (k+1)=false):∀ n,k<n→bksB bs n=false
 |0,hn=>by omega
 |n+1,hn=>by
  by_cases q:k=n
  ·subst q;exact e
  ·rw [bksB,wux e n (by omega),Bool.false_and]
theorem wr6 (hP:C.P=Tryz.prog):wae C 180 wgw:=by
 have _:C.Loose:=inferInstance
 rintro args objs U Os vc h hvc
 unfold wgw at h
 split at h<;>simp only [Option.some.injEq,Prod.mk.injEq,reduceCtorEq] at h
 rename_i n
 obtain ⟨rfl,rfl,rfl⟩:=h
 refine wae.wp0 (prg hP) [] 0 .nil (hP ▸ Tryz.func180) rfl rfl rfl ?_
 rw [wxq]
 exact wal (fun h=>by rw [decide_eq_true h];exact ⟨rfl,rfl⟩) (fun h=>by rw [decide_eq_false h];exact ⟨rfl,rfl⟩)
theorem tv_loop (hP:C.P=Tryz.prog) (st:Int) (bs:List BK):waj C 0 65 (wao Tryz.f151 7) (L_tv st bs):=by
 rintro s Q ⟨h0,hn,hQ⟩
 have hR:=wb7 hQ
 refine waj.mk (prg hP) [(180,.det wgw)] 0 (.cons (wr6 hP) .nil) [1,3,22,23,24] [] [2] (S_tv st bs) (fun k=>k≤bs.length∧bksB bs k=true) (fun k=>bs.length - k) 0 ⟨Nat.zero_le _,rfl⟩ h0 (fun k hk=>?_)
 obtain ⟨hkn,hok⟩:=hk
 rw [wxa,Int.toNat_natCast]
 refine wal (fun h1=>?_) (fun h1=>?_)
 ·have hlt:k<bs.length:=by omega
  have bad:bkOK bs k=false→Q .ret ⟨[(2,.int .i64 141)],[],0,[]⟩:=fun h=>hR.2 (wux (k:=k) (by rw [bksB,h,Bool.and_false]) _ hlt)
  have bad':¬ bkOK bs k=true→Q .ret ⟨[(2,.int .i64 141)],[],0,[]⟩:=fun h=>bad (by cases q:bkOK bs k with
   |true=>exact absurd q h
   |false=>rfl)
  have next:bkOK bs k=true→inR .i64 ((k:Int)+1)∧∃ i':Nat,some (St.mk [(1,.ptr 0 0),(3,.int .i64 (atB bs k).up),(22,.view 2 bs.length (wa1 (atB bs))),(23,.int .i64 (bs.length:Int)),(24,.int .i64 ((k:Int)+1))] [(0,.cells [.int .i64 st,.view 2 bs.length (wa1 (atB bs))] 95)] 1 [])=
    some (St.mk [(1,.ptr 0 0),(3,.int .i64 (lowB bs i')),(22,.view 2 bs.length (wa1 (atB bs))),(23,.int .i64 (bs.length:Int)),(24,.int .i64 (i':Int))] [(0,.cells [.int .i64 st,.view 2 bs.length (wa1 (atB bs))] 95)] 1 [])∧(i'≤bs.length∧bksB bs i'=true)∧bs.length - i'<bs.length - k:=
   fun h=>⟨by simp only [inR];omega,k+1,rfl,⟨by omega,by rw [bksB,hok,h];rfl⟩,by omega⟩
  refine ⟨⟨by omega,by omega,rfl⟩,by simp only [inR];omega,trivial,wcw (fun h2=>bad' (fun h=>?_)) (fun h2=>?_)⟩
  ·rw [Bool.and_eq_false_iff,decide_eq_false_iff_not,decide_eq_false_iff_not] at h2
   have:=wgr.1 h
   omega
  ·rw [Bool.and_eq_true,decide_eq_true_eq,decide_eq_true_eq] at h2
   refine wal (fun h3=>wcc (fun h4=>bad' (fun h=>h4 ((wgr.1 h).2.2.1 (by omega)))) (fun h4=>wcc (fun h5=>absurd h3 h5) (fun _=>next (wgr.2 ⟨h2.1,h2.2,fun _=>h4,fun h=>absurd (by omega) h⟩))))
    (fun h3=>wcc (fun _=>wal (fun h4=>bad' (fun h=>by have:=(wgr.1 h).2.2.2 (by omega);omega)) (fun h4=>wal (fun h5=>bad' (fun h=>by have:=(wgr.1 h).2.2.2 (by omega);omega)) (fun h5=>next (wgr.2 ⟨h2.1,h2.2,fun h=>absurd h (by omega),fun _=>⟨by omega,by omega⟩⟩)))) (fun h5=>absurd h5 h3))
 ·have:k=bs.length:=by omega
  subst this
  exact hR.1 hok
theorem tarV_ok (hP:C.P=Tryz.prog):wae C 151 wk4:=by
 rintro args objs U Os vc h hvc
 unfold wk4 at h
 split at h<;>simp only [Option.some.injEq,Prod.mk.injEq,reduceCtorEq] at h
 rename_i st n f
 obtain ⟨rfl,rfl,rfl⟩:=h
 have hl:(lst (bkOf f) n).length=n:=by simp [lst]
 generalize lst (bkOf f) n=bs at *
 subst hl
 subst hvc
 refine wae.wpL (prg hP) [(180,.det wgw)] [(7,L_tv st bs)] 0 (.cons (wr6 hP) .nil) (hP ▸ Tryz.func151) rfl rfl rfl [(wao Tryz.f151 7,L_tv st bs)] (by kernel_rfl) ⟨tv_loop hP st bs,trivial⟩ ?_
 rw [nf_tarV]
 unfold tfF
 refine ⟨trivial,wcw (fun h=>by rw [h];exact ⟨rfl,rfl⟩) (fun h=>?_)⟩
 rw [h]
 refine wal (fun h1=>?_) (fun h1=>wal (fun h2=>?_) (fun h2=>⟨rfl,by omega,?_⟩))
 ·rw [decide_eq_true (show bs.length<1 by omega)];exact ⟨rfl,rfl⟩
 ·rw [decide_eq_true (show 8<bs.length by omega),Bool.or_true];exact ⟨rfl,rfl⟩
 ·rw [decide_eq_false (show ¬ bs.length<1 by omega),decide_eq_false (show ¬ 8<bs.length by omega)]
  exact wax (fun q=>by rw [q];exact ⟨rfl,rfl⟩) (fun q=>by rw [q];exact ⟨rfl,rfl⟩)
theorem wv5 (hP:C.P=Tryz.prog) (hL:∀ w,C.laid w→LaidW w):wae C 105 wk5:=by
 rintro args objs U Os vc h hvc
 unfold wk5 at h
 split at h<;>simp only [Option.some.injEq,Prod.mk.injEq,reduceCtorEq] at h
 rename_i n t m f fr
 obtain ⟨rfl,rfl,rfl⟩:=h
 obtain ⟨rfl,hn,hf,hs⟩:=hvc
 refine wak.rowEq 0 (f':=wah (rwOf f)) rfl (fun i hi=>(hf i hi).symm) ?_
 have hb:Nat.ble n n=true:=Nat.ble_eq_true_of_le (Nat.le_refl _)
 exact ADet.give (wq5 hP hL [.view 5 n (wah (rwOf f))] [] _ _ _ rfl ⟨hn,rfl,hs⟩) (by simp [frzC,frzA,frz,hb]) rfl rfl (fun _ _=>rfl)
theorem svF_one (o p:List UInt8) (per:Int) (g:Nat→RW) (h:g 0=⟨o,p,per,1,1⟩):decide (svF g 1=0)=wby o p per:=by
 unfold svF
 rw [decide_eq_false (show ¬ 24000<1 by omega)]
 simp only [cond_false,wda,Bool.true_and,h,rowF]
 cases wby o p per<;>rfl
theorem wwc (hP:C.P=Tryz.prog) (hL:∀ w,C.laid w→LaidW w):wae C 150 wd0:=by
 rintro args objs U Os vc h hvc
 unfold wd0 at h
 split at h<;>simp only [Option.some.injEq,Prod.mk.injEq,reduceCtorEq] at h
 rename_i o p per
 obtain ⟨rfl,rfl,rfl⟩:=h
 refine wae.wp0 (prg hP) [(105,.det wk5)] 0 (.cons (wv5 hP hL) .nil) (hP ▸ Tryz.func150) rfl rfl rfl ?_
 rw [wxl]
 have one:∀ {p:Nat→Prop},p 0→∀ i,i<1→p i:=fun h0 i hi=>by
  match i,hi with
  |0,_=>exact h0
 refine ⟨⟨by omega,rfl,by omega⟩,one rfl,⟨rfl,by omega,one rfl,one hvc⟩,?_⟩
 rw [svF_one o p per _ rfl]
 exact ⟨rfl,rfl⟩
theorem wwn (hP:C.P=Tryz.prog) (hL:∀ w,C.laid w→LaidW w):wae C 108 wlc:=by
 rintro args objs U Os vc h hvc
 unfold wlc at h
 split at h<;>simp only [Option.some.injEq,Prod.mk.injEq,reduceCtorEq] at h
 rename_i o p per st n f
 obtain ⟨rfl,rfl,rfl⟩:=h
 obtain ⟨ho,hf⟩:=hvc
 have hl:(lst (bkOf f) n).length=n:=by simp [lst]
 generalize hb:lst (bkOf f) n=bs at *
 subst hl
 subst hf
 have hn:=wxp ⟨o,p,per,st,bs⟩
 dsimp only at hn
 refine wae.wp0 (prg hP) [(150,.det wd0),(151,.det wk4)] 0 (.cons (wwc hP hL) (.cons (tarV_ok hP) .nil)) (hP ▸ Tryz.func108) rfl rfl rfl ?_
 rw [hn,wkn]
 unfold rtOK
 exact ⟨ho,wax (fun q=>⟨rfl,by rw [q];exact ⟨rfl,rfl⟩⟩) (fun q=>by rw [q];exact ⟨rfl,rfl⟩)⟩
end Go.Eng
