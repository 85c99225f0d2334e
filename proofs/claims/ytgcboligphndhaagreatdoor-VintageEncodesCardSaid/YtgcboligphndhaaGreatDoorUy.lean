/- The tape's files. -/
import Derived.Test.YtgcboligphndhaaGreatDoorUv
import Derived.Test.YtgcboligphndhaaGreatDoorUx
namespace Go.Eng
open Go.Proofs Go.RowKit
variable {C:Ctx} [C.Loose]
set_option maxRecDepth 20000
theorem nf_file (n:Nat) (v:Nat→Int) (a:Int) (R:AV→List (Nat×AObj)→Prop):wpFn te [(42,.det wbk),(59,.rel wm5),(79,.rel wm2)] [(1002,wn5 n v (a+1+1+1+1) (fidF (wac n v a 3)) (1+wac n v (a+1) 3) (43860+wac n v (a+1+1) 6) (1+wac n v (a+1+1+1) 3)),(10,wn4 n v (a+1+1+1+1+1) (fidF (wac n v a 3)) (1+wac n v (a+1) 3) (43860+wac n v (a+1+1) 6) (1+wac n v (a+1+1+1) 3) (wac n v (a+1+1+1+1) 3))] 0 Tryz.f32 [.ptr 0 0] [.cells [.view 1 n (waa v),.int .i64 a] 27] R=(letI z17:=([(0,.ptr 0 0),(2,.ptr 1 0),(3,.ptr 2 0)]:List (Nat×AV));letI z16:=((0:Int)≤(4:Int)∧(4:Int)≤(90:Int):Prop);letI z14:=(4611686018427387904:Int);letI z13:=(fidF (wac n v a (3:Int)));letI z10:=(a+(1:Int)+(1:Int));letI z9:=((0:Int)≤a+(1:Int)+(1:Int)+(1:Int)+(1:Int)∧a+(1:Int)+(1:Int)+(1:Int)+(1:Int)≤(4611686018427370000:Int):Prop);letI z6:=((1:Int)≤(3:Int)∧(3:Int)≤(1000000:Int):Prop);letI z5:=(a+(1:Int)+(1:Int)+(1:Int)+(1:Int)+(1:Int));letI z4:=([.str [],.int .i64 0,.int .i64 0,.int .i64 0,.nil,.nil,.nil]:List AV);letI z3:=(a+(1:Int)+(1:Int)+(1:Int)+(1:Int));letI z15:=([.view 1 n (waa v),.int .i64 z3]:List AV);letI z2:=(a+(1:Int)+(1:Int)+(1:Int));letI z1:=([.view 1 n (waa v),.int .i64 a]:List AV);letI z12:=(List.length [AObj.cells z1 (27:TypeId)]+1);letI z11:=(List.length [AObj.cells z1 (27:TypeId)]+1+1);letI z8:=(List.length [AObj.cells z1 (27:TypeId)]+1,.row 61 5 0 (wai (atR [])) false);letI z7:=(List.length [AObj.cells z1 (27:TypeId)]+1+1,.row 97 5 0 (wah (atT [])) false);letI z0:=([.str z13,.int .i64 ((1:Int)+wac n v (a+(1:Int)) (3:Int)),.int .i64 ((43860:Int)+wac n v z10 (6:Int)),.int .i64 ((1:Int)+wac n v z2 (3:Int)),.own 3 0,.own 4 0,.own 5 0]:List AV);(3≤16777216∧1=1∧3≤9223372036854775807)∧(27=27∧1=1∧waa v=waa (vInt (waa v))∧z6∧(0:Int)≤a∧a≤z14)∧((0:Int)≤wac n (vInt (waa v)) a (3:Int)∧wac n (vInt (waa v)) a (3:Int)<(↑3:Int))∧(Int.toNat (wac n (vInt (waa v)) a (3:Int))<3∧1=1)∧(27=27∧1=1∧waa v=waa (vInt (waa v))∧z6∧(0:Int)≤a+(1:Int)∧a+(1:Int)≤z14)∧inR .i64 ((1:Int)+wac n (vInt (waa v)) (a+(1:Int)) (3:Int))∧(27=27∧1=1∧waa v=waa (vInt (waa v))∧((1:Int)≤(6:Int)∧(6:Int)≤(1000000:Int))∧(0:Int)≤a+(1:Int)+(1:Int)∧a+(1:Int)+(1:Int)≤z14)∧inR .i64 ((43860:Int)+wac n (vInt (waa v)) z10 (6:Int))∧(27=27∧1=1∧waa v=waa (vInt (waa v))∧z6∧(0:Int)≤a+(1:Int)+(1:Int)+(1:Int)∧a+(1:Int)+(1:Int)+(1:Int)≤z14)∧inR .i64 ((1:Int)+wac n (vInt (waa v)) z2 (3:Int))∧(TEq z17 z17∧wae [(0,.cells z15 27),(1,.cells z4 49),(2,.cells [.str (List.getD [[(102:UInt8)],[(103:UInt8)],[(104:UInt8)]] (Int.toNat (wac n (vInt (waa v)) a (3:Int))) []),.int .i64 ((1:Int)+wac n (vInt (waa v)) (a+(1:Int)) (3:Int)),.int .i64 ((43860:Int)+wac n (vInt (waa v)) z10 (6:Int)),.int .i64 ((1:Int)+wac n (vInt (waa v)) z2 (3:Int)),.own 3 0,.own 4 0,.own 5 0] 49),(3,.row 40 15 0 (fun (_x:Nat)=>[]) false),(4,.row 61 5 0 (fun (_x:Nat)=>[]) false),(5,.row 97 5 0 (fun (_x:Nat)=>[]) false)] [(0,.cells z15 27),(1,.cells z4 49),(2,.cells z0 49),(3,.row 40 15 0 (waf (atM [])) false),(4,.row 61 5 0 (wai (atR [])) false),(5,.row 97 5 0 (wah (atT [])) false)])∧wad (decide ((1:Int)+wac n v z2 (3:Int)=(1:Int))) (27=27∧1=1∧waa v=waa (vInt (waa v))∧z9∧z16∧∀ (c:Nat) (g:Nat→MG) (a':Int),c≤Int.toNat (4:Int)→a+(1:Int)+(1:Int)+(1:Int)+(1:Int)≤a'∧a'≤a+(1:Int)+(1:Int)+(1:Int)+(1:Int)+(1000:Int)→(∀ (j:Nat),j<c→MG.Made (g j))→(∀ (i:Nat),i<c→true=true)∧(True∧True)∧(∀ (i:Nat),i<c→true=true)∧(∀ (i:Nat),i<0→true=true)∧(∀ (i:Nat),i<0→true=true)∧∃ (O':List (Nat×AObj)),wae [(0,.cells [.view 1 n (waa v),.int .i64 a'] 27),(1,.row 40 15 c (waf g) false),z8,z7] O'∧R (.agg [.str z13,.int .i64 1,.int .i64 ((43860:Int)+wac n v z10 (6:Int)),.int .i64 ((1:Int)+wac n v z2 (3:Int)),.own 1 c,.own z12 0,.own z11 0]) O') (wad (decide ((1:Int)+wac n v z2 (3:Int)=(2:Int))) (27=27∧1=1∧waa v=waa (vInt (waa v))∧z9∧z16∧∀ (c:Nat) (g:Nat→RW) (a':Int),c≤Int.toNat (4:Int)→a+(1:Int)+(1:Int)+(1:Int)+(1:Int)≤a'∧a'≤a+(1:Int)+(1:Int)+(1:Int)+(1:Int)+(600:Int)→(∀ (j:Nat),j<c→RW.Made (g j))→(∀ (i:Nat),i<c→true=true)∧(True∧True)∧(∀ (i:Nat),i<0→true=true)∧(∀ (i:Nat),i<c→true=true)∧(∀ (i:Nat),i<0→true=true)∧∃ (O':List (Nat×AObj)),wae [(0,.cells [.view 1 n (waa v),.int .i64 a'] 27),(1,.row 40 15 0 (waf (atM [])) false),(List.length [AObj.cells z1 (27:TypeId)]+1,.row 61 5 c (wai g) false),z7] O'∧R (.agg [.str z13,.int .i64 ((1:Int)+wac n v (a+(1:Int)) (3:Int)),.int .i64 ((43860:Int)+wac n v z10 (6:Int)),.int .i64 ((1:Int)+wac n v z2 (3:Int)),.own 1 0,.own z12 c,.own z11 0]) O') (wad (decide ((1:Int)+wac n v z2 (3:Int)=(3:Int))) ((27=27∧1=1∧waa v=waa (vInt (waa v))∧z6∧(0:Int)≤a+(1:Int)+(1:Int)+(1:Int)+(1:Int)∧a+(1:Int)+(1:Int)+(1:Int)+(1:Int)≤z14)∧(TEq [(0,.ptr 0 0),(2,.ptr 1 0),(3,.ptr 2 0),(35,.int .i64 (wac n (vInt (waa v)) z3 (3:Int))),(36,.int .i64 0)] [(0,.ptr 0 0),(2,.ptr 1 0),(3,.ptr 2 0),(35,.int .i64 (wac n v z3 (3:Int))),(36,.int .i64 (↑(List.length (FiS.ts (FiS.mk [] z5))):Int))]∧wae [(0,.cells [.view 1 n (waa v),.int .i64 z5] 27),(1,.cells z4 49),(2,.cells z0 49),(3,.row 40 15 0 (waf (atM [])) false),(4,.row 61 5 0 (wai (atR [])) false),(5,.row 97 5 0 (wah (atT [])) false)] [(0,.cells [.view 1 n (waa v),.int .i64 (FiS.a (FiS.mk [] z5))] 27),(1,.cells z4 49),(2,.cells z0 49),(3,.row 40 15 0 (waf (atM [])) false),(4,.row 61 5 0 (wai (atR [])) false),(5,.row 97 5 0 (wah (atT (FiS.ts (FiS.mk [] z5)))) false)])∧((0:Int)≤wac n v z3 (3:Int)∧wac n v z3 (3:Int)≤(2:Int))∧((0:Int)≤a+(1:Int)+(1:Int)+(1:Int)+(1:Int)+(1:Int)∧a+(1:Int)+(1:Int)+(1:Int)+(1:Int)+(1:Int)≤(4611686018427365000:Int))∧∀ (i:FiS),List.length (FiS.ts i)≤2→a+(1:Int)+(1:Int)+(1:Int)+(1:Int)+(1:Int)≤FiS.a i∧FiS.a i≤a+(1:Int)+(1:Int)+(1:Int)+(1:Int)+(1:Int)+(40:Int)→(∀ (t:RT),t∈FiS.ts i→RT.Tn t)→(True∧True)∧(∀ (i:Nat),i<0→true=true)∧(∀ (i:Nat),i<0→true=true)∧(∀ (i_1:Nat),i_1<List.length (FiS.ts i)→true=true)∧∃ (O':List (Nat×AObj)),wae [(0,.cells [.view 1 n (waa v),.int .i64 (FiS.a i)] 27),(1,.row 40 15 0 (waf (atM [])) false),z8,(List.length [AObj.cells z1 (27:TypeId)]+1+1,.row 97 5 (List.length (FiS.ts i)) (wah (atT (FiS.ts i))) false)] O'∧R (.agg [.str z13,.int .i64 ((1:Int)+wac n v (a+(1:Int)) (3:Int)),.int .i64 ((43860:Int)+wac n v z10 (6:Int)),.int .i64 ((1:Int)+wac n v z2 (3:Int)),.own 1 0,.own z12 0,.own z11 (List.length (FiS.ts i))]) O') ((True∧True)∧(∀ (i:Nat),i<0→true=true)∧(∀ (i:Nat),i<0→true=true)∧(∀ (i:Nat),i<0→true=true)∧∃ (O':List (Nat×AObj)),wae [(0,.cells z15 27),(1,.row 40 15 0 (waf (atM [])) false),z8,z7] O'∧R (.agg [.str z13,.int .i64 ((1:Int)+wac n v (a+(1:Int)) (3:Int)),.int .i64 ((43860:Int)+wac n v z10 (6:Int)),.int .i64 ((1:Int)+wac n v z2 (3:Int)),.own 1 0,.own z12 0,.own z11 0]) O')))):=by kernel_rfl
theorem nf_fl2 (n:Nat) (v:Nat→Int) (a:Int) (id:List UInt8) (ver day kind:Int) (Q:Exit→St→Prop):regP ⟨te,[],[],1,55,0⟩ (regC Tryz.f32 2) [0,2,3,20] Q (S_fl n v a id ver day kind [] [] [])=(letI z0:=(∀ (i:Nat),i<0→true=true:Prop);z0∧z0∧z0∧∃ (O':List (Nat×AObj)),wae [(0,.cells [.view 1 n (waa v),.int .i64 a] 27),(1,.cells [.str [],.int .i64 0,.int .i64 0,.int .i64 0,.nil,.nil,.nil] 49),(2,.cells [.str id,.int .i64 ver,.int .i64 day,.int .i64 kind,.own 3 0,.own 4 0,.own 5 0] 49),(3,.row 40 15 0 (waf (atM [])) false),(4,.row 61 5 0 (wai (atR [])) false),(5,.row 97 5 0 (wah (atT [])) false)] O'∧Q .normal (St.mk [(0,.ptr 0 0),(2,.ptr 1 0),(3,.ptr 2 0),(20,.int .i64 kind)] O' 6 [])):=by kernel_rfl
theorem wzj (n:Nat) (v:Nat→Int) (id:List UInt8) (ver day kind N:Int) (i:FiS) (P:FiS→Prop) (R:Exit→St→Prop):wa1 ⟨te,[(42,.det wbk),(80,.det wd9),(81,.det wd8),(82,.det wk9)],[],1,55,0⟩ (wa2 Tryz.f32 10) [0,2,3,35,36] [0,2,3] [] (wmj n v id ver day kind N) P R (wmj n v id ver day kind N i)=(letI z3:=List.length (FiS.ts i)+1;letI z2:=List.length (FiS.ts i);letI z1:=([.str [],.int .i64 0,.int .i64 0,.int .i64 0,.nil,.nil,.nil]:List AV);letI z0:=(FiS.a i+(1:Int)+(1:Int)+(1:Int));wad (decide ((↑z2:Int)<N)) ((27=27∧1=1∧waa v=waa (vInt (waa v))∧(0:Int)≤FiS.a i∧FiS.a i≤(4611686018427387000:Int))∧(27=27∧1=1∧waa v=waa (vInt (waa v))∧(0:Int)≤FiS.a i+(1:Int)∧FiS.a i+(1:Int)≤(4611686018427387000:Int))∧(27=27∧1=1∧waa v=waa (vInt (waa v))∧((1:Int)≤(4:Int)∧(4:Int)≤(1000000:Int))∧(0:Int)≤FiS.a i+(1:Int)+(1:Int)∧FiS.a i+(1:Int)+(1:Int)≤(4611686018427387904:Int))∧inR .i64 ((1440:Int)+wac n (vInt (waa v)) (FiS.a i+(1:Int)+(1:Int)) (4:Int))∧(27=27∧1=1∧waa v=waa (vInt (waa v))∧(0:Int)≤FiS.a i+(1:Int)+(1:Int)+(1:Int)∧FiS.a i+(1:Int)+(1:Int)+(1:Int)≤(4611686018427370000:Int))∧(5≤16777216∧5=5∧1≤9223372036854775807)∧((1≤1∧5=5)∧List.length (FiS.ts i)≤List.length (FiS.ts i)∧5=5∧97=97∧5=5∧List.length (FiS.ts i)+1≤9223372036854775807∧z3 * TI.bytes wf8≤140737488355328)∧inR .i64 ((↑z2:Int)+(1:Int))∧∃ (i':FiS),letI z4:=List.length (FiS.ts i');(TEq [(0,.ptr 0 0),(2,.ptr 1 0),(3,.ptr 2 0),(35,.int .i64 N),(36,.int .i64 ((↑z2:Int)+(1:Int)))] [(0,.ptr 0 0),(2,.ptr 1 0),(3,.ptr 2 0),(35,.int .i64 N),(36,.int .i64 (↑z4:Int))]∧wae [(0,.cells [.view 1 n (waa v),.int .i64 (tarA n (vInt (waa v)) z0)] 27),(1,.cells z1 49),(2,.cells [.str id,.int .i64 ver,.int .i64 day,.int .i64 kind,.own 3 0,.own 4 0,.own 5 z3] 49),(3,.row 40 15 0 (waf (atM [])) false),(4,.row 61 5 0 (wai (atR [])) false),(5,.row 97 5 z3 (apF z2 (wah (atT (FiS.ts i))) (wap (TI.sz wf8) (.str (outF (wac n (vInt (waa v)) (FiS.a i) (3:Int))):: .str (idF (wac n (vInt (waa v)) (FiS.a i+(1:Int)) (4:Int))):: .int .i64 ((1440:Int)+wac n (vInt (waa v)) (FiS.a i+(1:Int)+(1:Int)) (4:Int)):: .int .i64 (wac n (vInt (waa v)) z0 (500:Int)):: .view 2 (List.length (tarL n (vInt (waa v)) z0)) (waw (atB (tarL n (vInt (waa v)) z0)))::List.append [] (List.flatten (List.replicate (nat_lit 0) [.str ([]),.str ([]),.int .i64 0,.int .i64 0,.nil]))))) false)] [(0,.cells [.view 1 n (waa v),.int .i64 (FiS.a i')] 27),(1,.cells z1 49),(2,.cells [.str id,.int .i64 ver,.int .i64 day,.int .i64 kind,.own 3 0,.own 4 0,.own 5 z4] 49),(3,.row 40 15 0 (waf (atM [])) false),(4,.row 61 5 0 (wai (atR [])) false),(5,.row 97 5 z4 (wah (atT (FiS.ts i'))) false)])∧P i') ((∀ (i:Nat),i<0→true=true)∧(∀ (i:Nat),i<0→true=true)∧(∀ (i_1:Nat),i_1<List.length (FiS.ts i)→true=true)∧∃ (O':List (Nat×AObj)),wae [(0,.cells [.view 1 n (waa v),.int .i64 (FiS.a i)] 27),(1,.cells z1 49),(2,.cells [.str id,.int .i64 ver,.int .i64 day,.int .i64 kind,.own 3 0,.own 4 0,.own 5 z2] 49),(3,.row 40 15 0 (waf (atM [])) false),(4,.row 61 5 0 (wai (atR [])) false),(5,.row 97 5 z2 (wah (atT (FiS.ts i))) false)] O'∧R (.exit 1) (St.mk [(0,.ptr 0 0),(2,.ptr 1 0),(3,.ptr 2 0)] O' 6 []))):=by kernel_rfl
theorem wt6 {α:Type} (g:Nat→α) (n:Nat) (d:α) {i:Nat} (h:i<n):(lst g n).getD i d=g i:=by
 simp [lst,List.getD_eq_getElem?_getD,List.getElem?_range h]
theorem wey {α:Type} (g:Nat→α) (n:Nat):(lst g n).length=n:=by simp [lst]
theorem wtg {α:Type} {g:Nat→α} {n:Nat} {p:α→Prop} (h:∀ j,j<n→p (g j)):∀ x∈lst g n,p x:=fun x hx=>by
 obtain ⟨i,hi,rfl⟩:=List.mem_map.1 hx
 exact h i (List.mem_range.1 hi)
theorem wgl (i:Int):(fidF i).length≤24:=by
 unfold fidF
 match i.toNat with
 |0=>decide
 |1=>decide
 |2=>decide
 |n+3=>exact Nat.zero_le _
theorem fl2_ok (hP:C.P=Tryz.prog) (n:Nat) (v:Nat→Int) (a:Int) (id:List UInt8) (ver day kind:Int):waj C 1 55 (regC Tryz.f32 2) (wn5 n v a id ver day kind):=by
 have _:C.Loose:=inferInstance
 rintro st Q ⟨h0,hQ⟩
 refine AWP.ownNilP 3 4 40 15 (AWP.ownNilP 3 5 61 5 (AWP.ownNilP 3 6 97 5 ?_))
 refine waj.reg (S:=S_fl n v a id ver day kind [] [] []) (prg hP) [] 0 .nil [0,2,3] [0,2,3,20] h0 ?_ ⟨fun _ _=>rfl,fun _ _=>rfl,fun _ _=>rfl,trivial⟩
 rw [nf_fl2]
 exact ⟨fun _ _=>rfl,fun _ _=>rfl,fun _ _=>rfl,_,wao _,hQ⟩
theorem w1n (hP:C.P=Tryz.prog) (n:Nat) (v:Nat→Int) (a:Int) (id:List UInt8) (ver day kind N:Int):waj C 1 55 (wal Tryz.f32 10) (wn4 n v a id ver day kind N):=by
 rintro s Q ⟨h0,hN,ha,hQ⟩
 refine waj.mk (prg hP) [(42,.det wbk),(80,.det wd9),(81,.det wd8),(82,.det wk9)] 0 (.cons (wc7 hP) (.cons (wji hP) (.cons (wi4 hP) (.cons (wwh hP) .nil)))) [0,2,3,35,36] [0,2,3] [] (wmj n v id ver day kind N)
  (fun i=>(i.ts.length:Int)≤N∧(a≤i.a∧i.a≤a+20 * i.ts.length)∧∀ t∈i.ts,t.Tn) (fun i=>N.toNat - i.ts.length) ⟨[],a⟩ ⟨by show (0:Int)≤N;omega,by show a≤a∧a≤a+20 * ((0:Nat):Int);omega,fun t ht=>(by cases ht)⟩ h0 (fun i hi=>?_) (fun i=>⟨fun _ _=>rfl,fun _ _=>rfl,fun _ _=>rfl,trivial⟩)
 obtain ⟨h1,h2,h3⟩:=hi
 have hw:vInt (waa v)=v:=rfl
 rw [wzj,hw]
 have r1:=wa7 (show (1:Int)≤4 by omega) n v (i.a+1+1)
 have r2:=wa7 (show (1:Int)≤500 by omega) n v (i.a+1+1+1)
 obtain ⟨t1,t2,t3⟩:=wwi n v (i.a+1+1+1)
 have rw1:=wsi (wsc n v (i.a - 1)).1
 have e1:i.a - 1+1=i.a:=by omega
 have ho:(outF (wac n v i.a 3)).length≤100:=by rw [← e1];exact rw1.a
 have hp:(idF (wac n v (i.a+1) 4)).length≤100:=by rw [← e1];exact rw1.b
 have htn:(⟨outF (wac n v i.a 3),idF (wac n v (i.a+1) 4),1440+wac n v (i.a+1+1) 4,wac n v (i.a+1+1+1) 500,tarL n v (i.a+1+1+1)⟩:RT).Tn:=
  ⟨⟨by simp only [inR];omega,by simp only [inR];omega,by show (tarL n v (i.a+1+1+1)).length≤1000;omega,t2⟩,ho,hp⟩
 refine wam (fun q=>?_) (fun q=>⟨fun _ _=>rfl,fun _ _=>rfl,fun _ _=>rfl,_,wao _,hQ i (by omega) (by omega) h3⟩)
 refine ⟨⟨rfl,rfl,rfl,by omega,by omega⟩,⟨rfl,rfl,rfl,by omega,by omega⟩,⟨rfl,rfl,rfl,⟨by omega,by omega⟩,by omega,by omega⟩,by simp only [inR];omega,⟨rfl,rfl,rfl,by omega,by omega⟩,⟨by omega,rfl,by omega⟩,⟨⟨Nat.le_refl _,rfl⟩,Nat.le_refl _,rfl,rfl,rfl,by omega,?_⟩,by simp only [inR];omega,
  ⟨i.ts++[⟨outF (wac n v i.a 3),idF (wac n v (i.a+1) 4),1440+wac n v (i.a+1+1) 4,wac n v (i.a+1+1+1) 500,tarL n v (i.a+1+1+1)⟩],tarA n v (i.a+1+1+1)⟩,?_,⟨?_,?_,?_⟩,?_⟩
 ·show (i.ts.length+1) * 72≤_
  omega
 ·dsimp only
  rw [List.length_append]
  exact ⟨rfl,rfl,rfl,rfl,⟨rfl,rfl,rfl,rfl,rfl,fun _ _=>rfl⟩,⟨rfl,rfl,rfl,rfl,rfl,fun _ _=>rfl⟩,⟨rfl,rfl,rfl,rfl,rfl,snocG (fun t:RT=>[.str t.o,.str t.p,.int .i64 t.per,.int .i64 t.st,.view 2 t.bs.length (waw (atB t.bs))]) wfg i.ts _ _ rfl⟩,trivial⟩
 ·show ((i.ts++[_]).length:Int)≤N
  rw [List.length_append];simp;omega
 ·show a≤tarA n v (i.a+1+1+1)∧tarA n v (i.a+1+1+1)≤a+20 * ((i.ts++[_]).length:Int)
  rw [List.length_append];simp;omega
 ·intro t ht
  rcases List.mem_append.1 ht with ht | ht
  ·exact h3 t ht
  ·rw [List.mem_singleton.1 ht];exact htn
 ·show N.toNat - (i.ts++[_]).length<N.toNat - i.ts.length
  rw [List.length_append];simp;omega
theorem w1p (hP:C.P=Tryz.prog):wba C 32 wvt:=by
 rintro args objs R h
 unfold wvt at h
 split at h
 ·rename_i sz n f a t
  obtain ⟨rfl,rfl,hf,ha,hR⟩:=h
  rw [hf] at hR ⊢
  generalize vInt f=v at *
  have hw:vInt (waa v)=v:=rfl
  refine wba.wpL (prg hP) [(42,.det wbk),(59,.rel wm5),(79,.rel wm2)]
   [(1002,wn5 n v (a+1+1+1+1) (fidF (wac n v a 3)) (1+wac n v (a+1) 3) (43860+wac n v (a+1+1) 6) (1+wac n v (a+1+1+1) 3)),(10,wn4 n v (a+1+1+1+1+1) (fidF (wac n v a 3)) (1+wac n v (a+1) 3) (43860+wac n v (a+1+1) 6) (1+wac n v (a+1+1+1) 3) (wac n v (a+1+1+1+1) 3))] 0
   (.cons (wc7 hP) (.cons (msgs_ok hP) (.cons (rows_ok hP) .nil))) (hP ▸ Tryz.func32) rfl rfl rfl
   [(regC Tryz.f32 2,wn5 n v (a+1+1+1+1) (fidF (wac n v a 3)) (1+wac n v (a+1) 3) (43860+wac n v (a+1+1) 6) (1+wac n v (a+1+1+1) 3)),(wal Tryz.f32 10,wn4 n v (a+1+1+1+1+1) (fidF (wac n v a 3)) (1+wac n v (a+1) 3) (43860+wac n v (a+1+1) 6) (1+wac n v (a+1+1+1) 3) (wac n v (a+1+1+1+1) 3))] (by kernel_rfl)
   ⟨fl2_ok hP _ _ _ _ _ _ _,w1n hP _ _ _ _ _ _ _ _,trivial⟩ ?_
  rw [nf_file,hw]
  have r0:=wa7 (show (1:Int)≤3 by omega) n v a
  have r1:=wa7 (show (1:Int)≤3 by omega) n v (a+1)
  have r2:=wa7 (show (1:Int)≤6 by omega) n v (a+1+1)
  have r3:=wa7 (show (1:Int)≤3 by omega) n v (a+1+1+1)
  have r4:=wa7 (show (1:Int)≤3 by omega) n v (a+1+1+1+1)
  refine ⟨⟨by omega,rfl,by omega⟩,⟨rfl,rfl,rfl,⟨by omega,by omega⟩,by omega,by omega⟩,⟨r0.1,r0.2⟩,⟨by omega,rfl⟩,⟨rfl,rfl,rfl,⟨by omega,by omega⟩,by omega,by omega⟩,by simp only [inR];omega,⟨rfl,rfl,rfl,⟨by omega,by omega⟩,by omega,by omega⟩,by simp only [inR];omega,⟨rfl,rfl,rfl,⟨by omega,by omega⟩,by omega,by omega⟩,by simp only [inR];omega,
   ⟨rfl,rfl,rfl,rfl,⟨rfl,rfl,rfl,rfl,rfl,fun i hi=>absurd hi (Nat.not_lt_zero i)⟩,⟨rfl,rfl,rfl,rfl,rfl,fun i hi=>absurd hi (Nat.not_lt_zero i)⟩,⟨rfl,rfl,rfl,rfl,rfl,fun i hi=>absurd hi (Nat.not_lt_zero i)⟩,trivial⟩,?_⟩
  refine wam (fun q1=>?_) (fun q1=>wam (fun q2=>?_) (fun q2=>wam (fun q3=>?_) (fun q3=>absurd q3 (by omega))))
  ·refine ⟨rfl,rfl,rfl,⟨by omega,by omega⟩,⟨by omega,by omega⟩,fun c g a' hc ha' hg=>⟨fun _ _=>rfl,⟨trivial,trivial⟩,fun _ _=>rfl,fun _ _=>rfl,fun _ _=>rfl,[(0,.cells [.view 1 n (waa v),.int .i64 a'] 27),(1,.row 40 15 c (waf (atM (lst g c))) false),(2,.row 61 5 0 (wai (atR [])) false),(3,.row 97 5 0 (wah (atT [])) false)],?_,?_⟩⟩
   rotate_left
   ·have:=hR ⟨fidF (wac n v a 3),1,43860+wac n v (a+1+1) 6,1+wac n v (a+1+1+1) 3,lst g c,[],[]⟩ a' ⟨Nat.le_trans (wgl _) (by omega),by simp only [inR];omega,by simp only [inR];omega,⟨by rw [wey];omega,wtg fun j hj=>msgF_tn (hg j hj).ok⟩,⟨by simp,fun r hr=>(by cases hr)⟩,⟨by simp,fun r hr=>(by cases hr)⟩⟩ (by rw [wey];omega) (by simp) (by simp) ⟨wgl _,by show (lst g c).length≤4;rw [wey];omega,by show 0≤4;omega,by show 0≤2;omega,by show 1≤(1:Int)∧(1:Int)≤3;omega,by show 1≤1+_∧1+_≤(3:Int);omega,by show 43860≤43860+_∧43860+_≤(43865:Int);omega⟩ (by omega)
    dsimp only at this
    rw [wey] at this
    exact this
   ·exact ⟨rfl,⟨rfl,rfl,rfl,rfl,rfl,fun j hj=>by show mgC _=mgC _;rw [show atM (lst g c) j=g j from wt6 g c _ hj]⟩,⟨rfl,rfl,rfl,rfl,rfl,fun _ _=>rfl⟩,⟨rfl,rfl,rfl,rfl,rfl,fun _ _=>rfl⟩,trivial⟩
  ·refine ⟨rfl,rfl,rfl,⟨by omega,by omega⟩,⟨by omega,by omega⟩,fun c g a' hc ha' hg=>⟨fun _ _=>rfl,⟨trivial,trivial⟩,fun _ _=>rfl,fun _ _=>rfl,fun _ _=>rfl,[(0,.cells [.view 1 n (waa v),.int .i64 a'] 27),(1,.row 40 15 0 (waf (atM [])) false),(2,.row 61 5 c (wai (atR (lst g c))) false),(3,.row 97 5 0 (wah (atT [])) false)],?_,?_⟩⟩
   rotate_left
   ·have:=hR ⟨fidF (wac n v a 3),1+wac n v (a+1) 3,43860+wac n v (a+1+1) 6,1+wac n v (a+1+1+1) 3,[],lst g c,[]⟩ a' ⟨Nat.le_trans (wgl _) (by omega),by simp only [inR];omega,by simp only [inR];omega,⟨by simp,fun r hr=>(by cases hr)⟩,⟨by rw [wey];omega,wtg fun j hj=>wsi (hg j hj).ok⟩,⟨by simp,fun r hr=>(by cases hr)⟩⟩ (by simp) (by rw [wey];omega) (by simp) ⟨wgl _,by show 0≤4;omega,by show (lst g c).length≤4;rw [wey];omega,by show 0≤2;omega,by show 1≤1+_∧1+_≤(3:Int);omega,by show 1≤1+_∧1+_≤(3:Int);omega,by show 43860≤43860+_∧43860+_≤(43865:Int);omega⟩ (by omega)
    dsimp only at this
    rw [wey] at this
    exact this
   ·exact ⟨rfl,⟨rfl,rfl,rfl,rfl,rfl,fun _ _=>rfl⟩,⟨rfl,rfl,rfl,rfl,rfl,fun j hj=>by
     show wai g j=wai (atR (lst g c)) j
     unfold wai
     rw [show atR (lst g c) j=g j from wt6 g c _ hj]⟩,⟨rfl,rfl,rfl,rfl,rfl,fun _ _=>rfl⟩,trivial⟩
  ·refine ⟨⟨rfl,rfl,rfl,⟨by omega,by omega⟩,by omega,by omega⟩,⟨rfl,rfl,rfl,rfl,⟨rfl,rfl,rfl,rfl,rfl,fun _ _=>rfl⟩,⟨rfl,rfl,rfl,rfl,rfl,fun _ _=>rfl⟩,⟨rfl,rfl,rfl,rfl,rfl,fun _ _=>rfl⟩,trivial⟩,⟨r4.1,by omega⟩,⟨by omega,by omega⟩,fun i hi hia hit=>⟨⟨trivial,trivial⟩,fun _ _=>rfl,fun _ _=>rfl,fun _ _=>rfl,_,wao _,?_⟩⟩
   exact hR ⟨fidF (wac n v a 3),1+wac n v (a+1) 3,43860+wac n v (a+1+1) 6,1+wac n v (a+1+1+1) 3,[],[],i.ts⟩ i.a ⟨Nat.le_trans (wgl _) (by omega),by simp only [inR];omega,by simp only [inR];omega,⟨by simp,fun r hr=>(by cases hr)⟩,⟨by simp,fun r hr=>(by cases hr)⟩,⟨by show i.ts.length≤1000;omega,hit⟩⟩ (by simp) (by simp) hi ⟨wgl _,by show 0≤4;omega,by show 0≤4;omega,hi,by show 1≤1+_∧1+_≤(3:Int);omega,by show 1≤1+_∧1+_≤(3:Int);omega,by show 43860≤43860+_∧43860+_≤(43865:Int);omega⟩ (by omega)
 ·exact h.elim
theorem file_ok (hP:C.P=Tryz.prog):wba C 32 wm6:=by
 rintro args objs R h
 unfold wm6 at h
 split at h
 ·rename_i sz n f a t
  obtain ⟨rfl,rfl,hf,ha,hR⟩:=h
  refine wak.frzO 3 (wak.frzO 2 (wak.frzO 1 (w1p hP _ _ _ ⟨rfl,rfl,hf,ha,fun F a' hF h1 h2 h3 hl ha'=>?_⟩)))
  have b1:Nat.ble F.ms.length F.ms.length=true:=Nat.ble_eq_true_of_le (Nat.le_refl _)
  have b2:Nat.ble F.rs.length F.rs.length=true:=Nat.ble_eq_true_of_le (Nat.le_refl _)
  have b3:Nat.ble F.ts.length F.ts.length=true:=Nat.ble_eq_true_of_le (Nat.le_refl _)
  refine ⟨fun _ _=>rfl,fun _ _=>rfl,fun _ _=>rfl,?_⟩
  have:=hR F a' hF hl ha'
  have c1:Nat.beq 2 1=false:=rfl
  have c2:Nat.beq 3 1=false:=rfl
  have c3:Nat.beq 3 2=false:=rfl
  simpa [frzC,frzA,frz,rm,b1,b2,b3,c1,c2,c3] using this
 ·exact h.elim
end Go.Eng
