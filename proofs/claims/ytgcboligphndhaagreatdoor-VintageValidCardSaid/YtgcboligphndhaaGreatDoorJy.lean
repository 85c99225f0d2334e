/- Messages of a tape, exactly. -/
import Derived.Test.YtgcboligphndhaaGreatDoorJv
import Derived.Test.YtgcboligphndhaaGreatDoorJx
namespace Go.Eng
open Go.Proofs Go.RowKit
variable {C:Ctx} [C.Loose]
set_option maxRecDepth 20000
theorem nf_file (n:Nat) (v:Nat→Int) (a:Int) (R:AV→List (Nat×AObj)→Prop):wpFn te [(42,.det wbh),(59,.rel wnl),(79,.rel wni)] [(1002,wol n v (a+1+1+1+1) (fidF (wac n v a 3)) (1+wac n v (a+1) 3) (43860+wac n v (a+1+1) 6) (1+wac n v (a+1+1+1) 3)),(10,wok n v (a+1+1+1+1+1) (fidF (wac n v a 3)) (1+wac n v (a+1) 3) (43860+wac n v (a+1+1) 6) (1+wac n v (a+1+1+1) 3) (wac n v (a+1+1+1+1) 3))] 0 Tryz.f32 [.ptr 0 0] [.cells [.view 1 n (waa v),.int .i64 a] 27] R=(letI z17:=([(0,.ptr 0 0),(2,.ptr 1 0),(3,.ptr 2 0)]:List (Nat×AV));letI z16:=((0:Int)≤(4:Int)∧(4:Int)≤(90:Int):Prop);letI z14:=(4611686018427387904:Int);letI z13:=(fidF (wac n v a (3:Int)));letI z10:=(a+(1:Int)+(1:Int));letI z9:=((0:Int)≤a+(1:Int)+(1:Int)+(1:Int)+(1:Int)∧a+(1:Int)+(1:Int)+(1:Int)+(1:Int)≤(4611686018427370000:Int):Prop);letI z6:=((1:Int)≤(3:Int)∧(3:Int)≤(1000000:Int):Prop);letI z5:=(a+(1:Int)+(1:Int)+(1:Int)+(1:Int)+(1:Int));letI z4:=([.str [],.int .i64 0,.int .i64 0,.int .i64 0,.nil,.nil,.nil]:List AV);letI z3:=(a+(1:Int)+(1:Int)+(1:Int)+(1:Int));letI z15:=([.view 1 n (waa v),.int .i64 z3]:List AV);letI z2:=(a+(1:Int)+(1:Int)+(1:Int));letI z1:=([.view 1 n (waa v),.int .i64 a]:List AV);letI z12:=(List.length [AObj.cells z1 (27:TypeId)]+1);letI z11:=(List.length [AObj.cells z1 (27:TypeId)]+1+1);letI z8:=(List.length [AObj.cells z1 (27:TypeId)]+1,.row 61 5 0 (wai (atR [])) false);letI z7:=(List.length [AObj.cells z1 (27:TypeId)]+1+1,.row 97 5 0 (wah (atT [])) false);letI z0:=([.str z13,.int .i64 ((1:Int)+wac n v (a+(1:Int)) (3:Int)),.int .i64 ((43860:Int)+wac n v z10 (6:Int)),.int .i64 ((1:Int)+wac n v z2 (3:Int)),.own 3 0,.own 4 0,.own 5 0]:List AV);(3≤16777216∧1=1∧3≤9223372036854775807)∧(27=27∧1=1∧waa v=waa (vInt (waa v))∧z6∧(0:Int)≤a∧a≤z14)∧((0:Int)≤wac n (vInt (waa v)) a (3:Int)∧wac n (vInt (waa v)) a (3:Int)<(↑3:Int))∧(Int.toNat (wac n (vInt (waa v)) a (3:Int))<3∧1=1)∧(27=27∧1=1∧waa v=waa (vInt (waa v))∧z6∧(0:Int)≤a+(1:Int)∧a+(1:Int)≤z14)∧inR .i64 ((1:Int)+wac n (vInt (waa v)) (a+(1:Int)) (3:Int))∧(27=27∧1=1∧waa v=waa (vInt (waa v))∧((1:Int)≤(6:Int)∧(6:Int)≤(1000000:Int))∧(0:Int)≤a+(1:Int)+(1:Int)∧a+(1:Int)+(1:Int)≤z14)∧inR .i64 ((43860:Int)+wac n (vInt (waa v)) z10 (6:Int))∧(27=27∧1=1∧waa v=waa (vInt (waa v))∧z6∧(0:Int)≤a+(1:Int)+(1:Int)+(1:Int)∧a+(1:Int)+(1:Int)+(1:Int)≤z14)∧inR .i64 ((1:Int)+wac n (vInt (waa v)) z2 (3:Int))∧(TEq z17 z17∧waf [(0,.cells z15 27),(1,.cells z4 49),(2,.cells [.str (List.getD [[(102:UInt8)],[(103:UInt8)],[(104:UInt8)]] (Int.toNat (wac n (vInt (waa v)) a (3:Int))) []),.int .i64 ((1:Int)+wac n (vInt (waa v)) (a+(1:Int)) (3:Int)),.int .i64 ((43860:Int)+wac n (vInt (waa v)) z10 (6:Int)),.int .i64 ((1:Int)+wac n (vInt (waa v)) z2 (3:Int)),.own 3 0,.own 4 0,.own 5 0] 49),(3,.row 40 15 0 (fun (_x:Nat)=>[]) false),(4,.row 61 5 0 (fun (_x:Nat)=>[]) false),(5,.row 97 5 0 (fun (_x:Nat)=>[]) false)] [(0,.cells z15 27),(1,.cells z4 49),(2,.cells z0 49),(3,.row 40 15 0 (wae (atM [])) false),(4,.row 61 5 0 (wai (atR [])) false),(5,.row 97 5 0 (wah (atT [])) false)])∧wab (decide ((1:Int)+wac n v z2 (3:Int)=(1:Int))) (27=27∧1=1∧waa v=waa (vInt (waa v))∧z9∧z16∧∀ (c:Nat) (g:Nat→MG) (a':Int),c≤Int.toNat (4:Int)→a+(1:Int)+(1:Int)+(1:Int)+(1:Int)≤a'∧a'≤a+(1:Int)+(1:Int)+(1:Int)+(1:Int)+(1000:Int)→(∀ (j:Nat),j<c→MG.Made (g j))→(∀ (i:Nat),i<c→true=true)∧(True∧True)∧(∀ (i:Nat),i<c→true=true)∧(∀ (i:Nat),i<0→true=true)∧(∀ (i:Nat),i<0→true=true)∧∃ (O':List (Nat×AObj)),waf [(0,.cells [.view 1 n (waa v),.int .i64 a'] 27),(1,.row 40 15 c (wae g) false),z8,z7] O'∧R (.agg [.str z13,.int .i64 1,.int .i64 ((43860:Int)+wac n v z10 (6:Int)),.int .i64 ((1:Int)+wac n v z2 (3:Int)),.own 1 c,.own z12 0,.own z11 0]) O') (wab (decide ((1:Int)+wac n v z2 (3:Int)=(2:Int))) (27=27∧1=1∧waa v=waa (vInt (waa v))∧z9∧z16∧∀ (c:Nat) (g:Nat→RW) (a':Int),c≤Int.toNat (4:Int)→a+(1:Int)+(1:Int)+(1:Int)+(1:Int)≤a'∧a'≤a+(1:Int)+(1:Int)+(1:Int)+(1:Int)+(600:Int)→(∀ (j:Nat),j<c→RW.Made (g j))→(∀ (i:Nat),i<c→true=true)∧(True∧True)∧(∀ (i:Nat),i<0→true=true)∧(∀ (i:Nat),i<c→true=true)∧(∀ (i:Nat),i<0→true=true)∧∃ (O':List (Nat×AObj)),waf [(0,.cells [.view 1 n (waa v),.int .i64 a'] 27),(1,.row 40 15 0 (wae (atM [])) false),(List.length [AObj.cells z1 (27:TypeId)]+1,.row 61 5 c (wai g) false),z7] O'∧R (.agg [.str z13,.int .i64 ((1:Int)+wac n v (a+(1:Int)) (3:Int)),.int .i64 ((43860:Int)+wac n v z10 (6:Int)),.int .i64 ((1:Int)+wac n v z2 (3:Int)),.own 1 0,.own z12 c,.own z11 0]) O') (wab (decide ((1:Int)+wac n v z2 (3:Int)=(3:Int))) ((27=27∧1=1∧waa v=waa (vInt (waa v))∧z6∧(0:Int)≤a+(1:Int)+(1:Int)+(1:Int)+(1:Int)∧a+(1:Int)+(1:Int)+(1:Int)+(1:Int)≤z14)∧(TEq [(0,.ptr 0 0),(2,.ptr 1 0),(3,.ptr 2 0),(35,.int .i64 (wac n (vInt (waa v)) z3 (3:Int))),(36,.int .i64 0)] [(0,.ptr 0 0),(2,.ptr 1 0),(3,.ptr 2 0),(35,.int .i64 (wac n v z3 (3:Int))),(36,.int .i64 (↑(List.length (FiS.ts (FiS.mk [] z5))):Int))]∧waf [(0,.cells [.view 1 n (waa v),.int .i64 z5] 27),(1,.cells z4 49),(2,.cells z0 49),(3,.row 40 15 0 (wae (atM [])) false),(4,.row 61 5 0 (wai (atR [])) false),(5,.row 97 5 0 (wah (atT [])) false)] [(0,.cells [.view 1 n (waa v),.int .i64 (FiS.a (FiS.mk [] z5))] 27),(1,.cells z4 49),(2,.cells z0 49),(3,.row 40 15 0 (wae (atM [])) false),(4,.row 61 5 0 (wai (atR [])) false),(5,.row 97 5 0 (wah (atT (FiS.ts (FiS.mk [] z5)))) false)])∧((0:Int)≤wac n v z3 (3:Int)∧wac n v z3 (3:Int)≤(2:Int))∧((0:Int)≤a+(1:Int)+(1:Int)+(1:Int)+(1:Int)+(1:Int)∧a+(1:Int)+(1:Int)+(1:Int)+(1:Int)+(1:Int)≤(4611686018427365000:Int))∧∀ (i:FiS),List.length (FiS.ts i)≤2→a+(1:Int)+(1:Int)+(1:Int)+(1:Int)+(1:Int)≤FiS.a i∧FiS.a i≤a+(1:Int)+(1:Int)+(1:Int)+(1:Int)+(1:Int)+(40:Int)→(∀ (t:RT),t∈FiS.ts i→RT.Tn t)→(True∧True)∧(∀ (i:Nat),i<0→true=true)∧(∀ (i:Nat),i<0→true=true)∧(∀ (i_1:Nat),i_1<List.length (FiS.ts i)→true=true)∧∃ (O':List (Nat×AObj)),waf [(0,.cells [.view 1 n (waa v),.int .i64 (FiS.a i)] 27),(1,.row 40 15 0 (wae (atM [])) false),z8,(List.length [AObj.cells z1 (27:TypeId)]+1+1,.row 97 5 (List.length (FiS.ts i)) (wah (atT (FiS.ts i))) false)] O'∧R (.agg [.str z13,.int .i64 ((1:Int)+wac n v (a+(1:Int)) (3:Int)),.int .i64 ((43860:Int)+wac n v z10 (6:Int)),.int .i64 ((1:Int)+wac n v z2 (3:Int)),.own 1 0,.own z12 0,.own z11 (List.length (FiS.ts i))]) O') ((True∧True)∧(∀ (i:Nat),i<0→true=true)∧(∀ (i:Nat),i<0→true=true)∧(∀ (i:Nat),i<0→true=true)∧∃ (O':List (Nat×AObj)),waf [(0,.cells z15 27),(1,.row 40 15 0 (wae (atM [])) false),z8,z7] O'∧R (.agg [.str z13,.int .i64 ((1:Int)+wac n v (a+(1:Int)) (3:Int)),.int .i64 ((43860:Int)+wac n v z10 (6:Int)),.int .i64 ((1:Int)+wac n v z2 (3:Int)),.own 1 0,.own z12 0,.own z11 0]) O')))):=by kernel_rfl
theorem nf_fl2 (n:Nat) (v:Nat→Int) (a:Int) (id:List UInt8) (ver day kind:Int) (Q:Exit→St→Prop):regP ⟨te,[],[],1,55,0⟩ (regC Tryz.f32 2) [0,2,3,20] Q (S_fl n v a id ver day kind [] [] [])=(letI z0:=(∀ (i:Nat),i<0→true=true:Prop);z0∧z0∧z0∧∃ (O':List (Nat×AObj)),waf [(0,.cells [.view 1 n (waa v),.int .i64 a] 27),(1,.cells [.str [],.int .i64 0,.int .i64 0,.int .i64 0,.nil,.nil,.nil] 49),(2,.cells [.str id,.int .i64 ver,.int .i64 day,.int .i64 kind,.own 3 0,.own 4 0,.own 5 0] 49),(3,.row 40 15 0 (wae (atM [])) false),(4,.row 61 5 0 (wai (atR [])) false),(5,.row 97 5 0 (wah (atT [])) false)] O'∧Q .normal (St.mk [(0,.ptr 0 0),(2,.ptr 1 0),(3,.ptr 2 0),(20,.int .i64 kind)] O' 6 [])):=by kernel_rfl
theorem w0c (n:Nat) (v:Nat→Int) (id:List UInt8) (ver day kind N:Int) (i:FiS) (P:FiS→Prop) (R:Exit→St→Prop):wa3 ⟨te,[(42,.det wbh),(80,.det wc2),(81,.det wc1),(82,.det wln)],[],1,55,0⟩ (wa4 Tryz.f32 10) [0,2,3,35,36] [0,2,3] [] (wmy n v id ver day kind N) P R (wmy n v id ver day kind N i)=(letI z3:=List.length (FiS.ts i)+1;letI z2:=List.length (FiS.ts i);letI z1:=([.str [],.int .i64 0,.int .i64 0,.int .i64 0,.nil,.nil,.nil]:List AV);letI z0:=(FiS.a i+(1:Int)+(1:Int)+(1:Int));wab (decide ((↑z2:Int)<N)) ((27=27∧1=1∧waa v=waa (vInt (waa v))∧(0:Int)≤FiS.a i∧FiS.a i≤(4611686018427387000:Int))∧(27=27∧1=1∧waa v=waa (vInt (waa v))∧(0:Int)≤FiS.a i+(1:Int)∧FiS.a i+(1:Int)≤(4611686018427387000:Int))∧(27=27∧1=1∧waa v=waa (vInt (waa v))∧((1:Int)≤(4:Int)∧(4:Int)≤(1000000:Int))∧(0:Int)≤FiS.a i+(1:Int)+(1:Int)∧FiS.a i+(1:Int)+(1:Int)≤(4611686018427387904:Int))∧inR .i64 ((1440:Int)+wac n (vInt (waa v)) (FiS.a i+(1:Int)+(1:Int)) (4:Int))∧(27=27∧1=1∧waa v=waa (vInt (waa v))∧(0:Int)≤FiS.a i+(1:Int)+(1:Int)+(1:Int)∧FiS.a i+(1:Int)+(1:Int)+(1:Int)≤(4611686018427370000:Int))∧(5≤16777216∧5=5∧1≤9223372036854775807)∧((1≤1∧5=5)∧List.length (FiS.ts i)≤List.length (FiS.ts i)∧5=5∧97=97∧5=5∧List.length (FiS.ts i)+1≤9223372036854775807∧z3 * TI.bytes weo≤140737488355328)∧inR .i64 ((↑z2:Int)+(1:Int))∧∃ (i':FiS),letI z4:=List.length (FiS.ts i');(TEq [(0,.ptr 0 0),(2,.ptr 1 0),(3,.ptr 2 0),(35,.int .i64 N),(36,.int .i64 ((↑z2:Int)+(1:Int)))] [(0,.ptr 0 0),(2,.ptr 1 0),(3,.ptr 2 0),(35,.int .i64 N),(36,.int .i64 (↑z4:Int))]∧waf [(0,.cells [.view 1 n (waa v),.int .i64 (tarA n (vInt (waa v)) z0)] 27),(1,.cells z1 49),(2,.cells [.str id,.int .i64 ver,.int .i64 day,.int .i64 kind,.own 3 0,.own 4 0,.own 5 z3] 49),(3,.row 40 15 0 (wae (atM [])) false),(4,.row 61 5 0 (wai (atR [])) false),(5,.row 97 5 z3 (apF z2 (wah (atT (FiS.ts i))) (way (TI.sz weo) (.str (outF (wac n (vInt (waa v)) (FiS.a i) (3:Int))):: .str (idF (wac n (vInt (waa v)) (FiS.a i+(1:Int)) (4:Int))):: .int .i64 ((1440:Int)+wac n (vInt (waa v)) (FiS.a i+(1:Int)+(1:Int)) (4:Int)):: .int .i64 (wac n (vInt (waa v)) z0 (500:Int)):: .view 2 (List.length (tarL n (vInt (waa v)) z0)) (waq (atB (tarL n (vInt (waa v)) z0)))::List.append [] (List.flatten (List.replicate (nat_lit 0) [.str ([]),.str ([]),.int .i64 0,.int .i64 0,.nil]))))) false)] [(0,.cells [.view 1 n (waa v),.int .i64 (FiS.a i')] 27),(1,.cells z1 49),(2,.cells [.str id,.int .i64 ver,.int .i64 day,.int .i64 kind,.own 3 0,.own 4 0,.own 5 z4] 49),(3,.row 40 15 0 (wae (atM [])) false),(4,.row 61 5 0 (wai (atR [])) false),(5,.row 97 5 z4 (wah (atT (FiS.ts i'))) false)])∧P i') ((∀ (i:Nat),i<0→true=true)∧(∀ (i:Nat),i<0→true=true)∧(∀ (i_1:Nat),i_1<List.length (FiS.ts i)→true=true)∧∃ (O':List (Nat×AObj)),waf [(0,.cells [.view 1 n (waa v),.int .i64 (FiS.a i)] 27),(1,.cells z1 49),(2,.cells [.str id,.int .i64 ver,.int .i64 day,.int .i64 kind,.own 3 0,.own 4 0,.own 5 z2] 49),(3,.row 40 15 0 (wae (atM [])) false),(4,.row 61 5 0 (wai (atR [])) false),(5,.row 97 5 z2 (wah (atT (FiS.ts i))) false)] O'∧R (.exit 1) (St.mk [(0,.ptr 0 0),(2,.ptr 1 0),(3,.ptr 2 0)] O' 6 []))):=by kernel_rfl
theorem wut {α:Type} (g:Nat→α) (n:Nat) (d:α) {i:Nat} (h:i<n):(lst g n).getD i d=g i:=by
 simp [lst,List.getD_eq_getElem?_getD,List.getElem?_range h]
theorem wfd {α:Type} (g:Nat→α) (n:Nat):(lst g n).length=n:=by simp [lst]
theorem wt4 {α:Type} {g:Nat→α} {n:Nat} {p:α→Prop} (h:∀ j,j<n→p (g j)):∀ x∈lst g n,p x:=fun x hx=>by
 obtain ⟨i,hi,rfl⟩:=List.mem_map.1 hx
 exact h i (List.mem_range.1 hi)
theorem wjh {α:Type} {p:α→Prop} {L:List α} {x:α} (h:∀ y∈L,p y) (hx:p x):∀ y∈L++[x],p y:=fun y hy=>by
 rcases List.mem_append.1 hy with q | q
 ·exact h y q
 ·rw [List.mem_singleton.1 q];exact hx
theorem wgz (i:Int):(fidF i).length≤24:=by
 unfold fidF
 match i.toNat with
 |0=>decide
 |1=>decide
 |2=>decide
 |n+3=>exact Nat.zero_le _
theorem fl2_ok (hP:C.P=Tryz.prog) (n:Nat) (v:Nat→Int) (a:Int) (id:List UInt8) (ver day kind:Int):wak C 1 55 (regC Tryz.f32 2) (wol n v a id ver day kind):=by
 have _:C.Loose:=inferInstance
 rintro st Q ⟨h0,hQ⟩
 refine AWP.ownNilP 3 4 40 15 (AWP.ownNilP 3 5 61 5 (AWP.ownNilP 3 6 97 5 ?_))
 refine wak.reg (S:=S_fl n v a id ver day kind [] [] []) (prg hP) [] 0 .nil [0,2,3] [0,2,3,20] h0 ?_ ⟨fun _ _=>rfl,fun _ _=>rfl,fun _ _=>rfl,trivial⟩
 rw [nf_fl2]
 exact ⟨fun _ _=>rfl,fun _ _=>rfl,fun _ _=>rfl,_,wap _,hQ⟩
theorem w2h (hP:C.P=Tryz.prog) (n:Nat) (v:Nat→Int) (a:Int) (id:List UInt8) (ver day kind N:Int):wak C 1 55 (wam Tryz.f32 10) (wok n v a id ver day kind N):=by
 rintro s Q ⟨h0,hN,ha,hQ⟩
 refine wak.mk (prg hP) [(42,.det wbh),(80,.det wc2),(81,.det wc1),(82,.det wln)] 0 (.cons (wco hP) (.cons (wgt hP) (.cons (wgl hP) (.cons (ww3 hP) .nil)))) [0,2,3,35,36] [0,2,3] [] (wmy n v id ver day kind N)
  (fun i=>(i.ts.length:Int)≤N∧(a≤i.a∧i.a≤a+20 * i.ts.length)∧∀ t∈i.ts,t.Tn) (fun i=>N.toNat - i.ts.length) ⟨[],a⟩ ⟨by show (0:Int)≤N;omega,by show a≤a∧a≤a+20 * ((0:Nat):Int);omega,fun t ht=>(by cases ht)⟩ h0 (fun i hi=>?_) (fun i=>⟨fun _ _=>rfl,fun _ _=>rfl,fun _ _=>rfl,trivial⟩)
 obtain ⟨h1,h2,h3⟩:=hi
 have hw:vInt (waa v)=v:=rfl
 rw [w0c,hw]
 have r1:=wax (show (1:Int)≤4 by omega) n v (i.a+1+1)
 have r2:=wax (show (1:Int)≤500 by omega) n v (i.a+1+1+1)
 obtain ⟨t1,t2,t3⟩:=ww4 n v (i.a+1+1+1)
 have rw1:=wpg (wpf n v (i.a - 1)).1
 have e1:i.a - 1+1=i.a:=by omega
 have ho:(outF (wac n v i.a 3)).length≤100:=by rw [← e1];exact rw1.a
 have hp:(idF (wac n v (i.a+1) 4)).length≤100:=by rw [← e1];exact rw1.b
 have htn:(⟨outF (wac n v i.a 3),idF (wac n v (i.a+1) 4),1440+wac n v (i.a+1+1) 4,wac n v (i.a+1+1+1) 500,tarL n v (i.a+1+1+1)⟩:RT).Tn:=
  ⟨⟨by simp only [inR];omega,by simp only [inR];omega,by show (tarL n v (i.a+1+1+1)).length≤1000;omega,t2⟩,ho,hp⟩
 refine waj (fun q=>?_) (fun q=>⟨fun _ _=>rfl,fun _ _=>rfl,fun _ _=>rfl,_,wap _,hQ i (by omega) (by omega) h3⟩)
 refine ⟨⟨rfl,rfl,rfl,by omega,by omega⟩,⟨rfl,rfl,rfl,by omega,by omega⟩,⟨rfl,rfl,rfl,⟨by omega,by omega⟩,by omega,by omega⟩,by simp only [inR];omega,⟨rfl,rfl,rfl,by omega,by omega⟩,⟨by omega,rfl,by omega⟩,⟨⟨Nat.le_refl _,rfl⟩,Nat.le_refl _,rfl,rfl,rfl,by omega,?_⟩,by simp only [inR];omega,
  ⟨i.ts++[⟨outF (wac n v i.a 3),idF (wac n v (i.a+1) 4),1440+wac n v (i.a+1+1) 4,wac n v (i.a+1+1+1) 500,tarL n v (i.a+1+1+1)⟩],tarA n v (i.a+1+1+1)⟩,?_,⟨?_,?_,?_⟩,?_⟩
 ·show (i.ts.length+1) * 72≤_
  omega
 ·dsimp only
  rw [List.length_append]
  exact ⟨rfl,rfl,rfl,rfl,⟨rfl,rfl,rfl,rfl,rfl,fun _ _=>rfl⟩,⟨rfl,rfl,rfl,rfl,rfl,fun _ _=>rfl⟩,⟨rfl,rfl,rfl,rfl,rfl,we5 (fun t:RT=>[.str t.o,.str t.p,.int .i64 t.per,.int .i64 t.st,.view 2 t.bs.length (waq (atB t.bs))]) we0 i.ts _ _ rfl⟩,trivial⟩
 ·show ((i.ts++[_]).length:Int)≤N
  rw [List.length_append];simp;omega
 ·show a≤tarA n v (i.a+1+1+1)∧tarA n v (i.a+1+1+1)≤a+20 * ((i.ts++[_]).length:Int)
  rw [List.length_append];simp;omega
 ·intro t ht
  rcases List.mem_append.1 ht with ht | ht
  ·exact h3 t ht
  ·rw [List.mem_singleton.1 ht];exact htn
 ·show N.toNat - (i.ts++[_]).length<N.toNat - i.ts.length
  rw [List.length_append];simp;omega
theorem w2j (hP:C.P=Tryz.prog):wbd C 32 wnm:=by
 rintro args objs R h
 unfold wnm at h
 split at h
 ·rename_i sz n f a t
  obtain ⟨rfl,rfl,hf,ha,hR⟩:=h
  rw [hf] at hR ⊢
  generalize vInt f=v at *
  have hw:vInt (waa v)=v:=rfl
  refine wbd.wpL (prg hP) [(42,.det wbh),(59,.rel wnl),(79,.rel wni)]
   [(1002,wol n v (a+1+1+1+1) (fidF (wac n v a 3)) (1+wac n v (a+1) 3) (43860+wac n v (a+1+1) 6) (1+wac n v (a+1+1+1) 3)),(10,wok n v (a+1+1+1+1+1) (fidF (wac n v a 3)) (1+wac n v (a+1) 3) (43860+wac n v (a+1+1) 6) (1+wac n v (a+1+1+1) 3) (wac n v (a+1+1+1+1) 3))] 0
   (.cons (wco hP) (.cons (msgs_ok hP) (.cons (rows_ok hP) .nil))) (hP ▸ Tryz.func32) rfl rfl rfl
   [(regC Tryz.f32 2,wol n v (a+1+1+1+1) (fidF (wac n v a 3)) (1+wac n v (a+1) 3) (43860+wac n v (a+1+1) 6) (1+wac n v (a+1+1+1) 3)),(wam Tryz.f32 10,wok n v (a+1+1+1+1+1) (fidF (wac n v a 3)) (1+wac n v (a+1) 3) (43860+wac n v (a+1+1) 6) (1+wac n v (a+1+1+1) 3) (wac n v (a+1+1+1+1) 3))] (by kernel_rfl)
   ⟨fl2_ok hP _ _ _ _ _ _ _,w2h hP _ _ _ _ _ _ _ _,trivial⟩ ?_
  rw [nf_file,hw]
  have r0:=wax (show (1:Int)≤3 by omega) n v a
  have r1:=wax (show (1:Int)≤3 by omega) n v (a+1)
  have r2:=wax (show (1:Int)≤6 by omega) n v (a+1+1)
  have r3:=wax (show (1:Int)≤3 by omega) n v (a+1+1+1)
  have r4:=wax (show (1:Int)≤3 by omega) n v (a+1+1+1+1)
  refine ⟨⟨by omega,rfl,by omega⟩,⟨rfl,rfl,rfl,⟨by omega,by omega⟩,by omega,by omega⟩,⟨r0.1,r0.2⟩,⟨by omega,rfl⟩,⟨rfl,rfl,rfl,⟨by omega,by omega⟩,by omega,by omega⟩,by simp only [inR];omega,⟨rfl,rfl,rfl,⟨by omega,by omega⟩,by omega,by omega⟩,by simp only [inR];omega,⟨rfl,rfl,rfl,⟨by omega,by omega⟩,by omega,by omega⟩,by simp only [inR];omega,
   ⟨rfl,rfl,rfl,rfl,⟨rfl,rfl,rfl,rfl,rfl,fun i hi=>absurd hi (Nat.not_lt_zero i)⟩,⟨rfl,rfl,rfl,rfl,rfl,fun i hi=>absurd hi (Nat.not_lt_zero i)⟩,⟨rfl,rfl,rfl,rfl,rfl,fun i hi=>absurd hi (Nat.not_lt_zero i)⟩,trivial⟩,?_⟩
  refine waj (fun q1=>?_) (fun q1=>waj (fun q2=>?_) (fun q2=>waj (fun q3=>?_) (fun q3=>absurd q3 (by omega))))
  ·refine ⟨rfl,rfl,rfl,⟨by omega,by omega⟩,⟨by omega,by omega⟩,fun c g a' hc ha' hg=>⟨fun _ _=>rfl,⟨trivial,trivial⟩,fun _ _=>rfl,fun _ _=>rfl,fun _ _=>rfl,[(0,.cells [.view 1 n (waa v),.int .i64 a'] 27),(1,.row 40 15 c (wae (atM (lst g c))) false),(2,.row 61 5 0 (wai (atR [])) false),(3,.row 97 5 0 (wah (atT [])) false)],?_,?_⟩⟩
   rotate_left
   ·have:=hR ⟨fidF (wac n v a 3),1,43860+wac n v (a+1+1) 6,1+wac n v (a+1+1+1) 3,lst g c,[],[]⟩ a' ⟨Nat.le_trans (wgz _) (by omega),by simp only [inR];omega,by simp only [inR];omega,⟨by rw [wfd];omega,wt4 fun j hj=>wtq (hg j hj).ok⟩,⟨by simp,fun r hr=>(by cases hr)⟩,⟨by simp,fun r hr=>(by cases hr)⟩⟩ (by rw [wfd];omega) (by simp) (by simp) ⟨wgz _,by show (lst g c).length≤4;rw [wfd];omega,by show 0≤4;omega,by show 0≤2;omega,by show 1≤(1:Int)∧(1:Int)≤3;omega,by show 1≤1+_∧1+_≤(3:Int);omega,by show 43860≤43860+_∧43860+_≤(43865:Int);omega⟩ (by omega)
    dsimp only at this
    rw [wfd] at this
    exact this
   ·exact ⟨rfl,⟨rfl,rfl,rfl,rfl,rfl,fun j hj=>by show mgC _=mgC _;rw [show atM (lst g c) j=g j from wut g c _ hj]⟩,⟨rfl,rfl,rfl,rfl,rfl,fun _ _=>rfl⟩,⟨rfl,rfl,rfl,rfl,rfl,fun _ _=>rfl⟩,trivial⟩
  ·refine ⟨rfl,rfl,rfl,⟨by omega,by omega⟩,⟨by omega,by omega⟩,fun c g a' hc ha' hg=>⟨fun _ _=>rfl,⟨trivial,trivial⟩,fun _ _=>rfl,fun _ _=>rfl,fun _ _=>rfl,[(0,.cells [.view 1 n (waa v),.int .i64 a'] 27),(1,.row 40 15 0 (wae (atM [])) false),(2,.row 61 5 c (wai (atR (lst g c))) false),(3,.row 97 5 0 (wah (atT [])) false)],?_,?_⟩⟩
   rotate_left
   ·have:=hR ⟨fidF (wac n v a 3),1+wac n v (a+1) 3,43860+wac n v (a+1+1) 6,1+wac n v (a+1+1+1) 3,[],lst g c,[]⟩ a' ⟨Nat.le_trans (wgz _) (by omega),by simp only [inR];omega,by simp only [inR];omega,⟨by simp,fun r hr=>(by cases hr)⟩,⟨by rw [wfd];omega,wt4 fun j hj=>wpg (hg j hj).ok⟩,⟨by simp,fun r hr=>(by cases hr)⟩⟩ (by simp) (by rw [wfd];omega) (by simp) ⟨wgz _,by show 0≤4;omega,by show (lst g c).length≤4;rw [wfd];omega,by show 0≤2;omega,by show 1≤1+_∧1+_≤(3:Int);omega,by show 1≤1+_∧1+_≤(3:Int);omega,by show 43860≤43860+_∧43860+_≤(43865:Int);omega⟩ (by omega)
    dsimp only at this
    rw [wfd] at this
    exact this
   ·exact ⟨rfl,⟨rfl,rfl,rfl,rfl,rfl,fun _ _=>rfl⟩,⟨rfl,rfl,rfl,rfl,rfl,fun j hj=>by
     show wai g j=wai (atR (lst g c)) j
     unfold wai
     rw [show atR (lst g c) j=g j from wut g c _ hj]⟩,⟨rfl,rfl,rfl,rfl,rfl,fun _ _=>rfl⟩,trivial⟩
  ·refine ⟨⟨rfl,rfl,rfl,⟨by omega,by omega⟩,by omega,by omega⟩,⟨rfl,rfl,rfl,rfl,⟨rfl,rfl,rfl,rfl,rfl,fun _ _=>rfl⟩,⟨rfl,rfl,rfl,rfl,rfl,fun _ _=>rfl⟩,⟨rfl,rfl,rfl,rfl,rfl,fun _ _=>rfl⟩,trivial⟩,⟨r4.1,by omega⟩,⟨by omega,by omega⟩,fun i hi hia hit=>⟨⟨trivial,trivial⟩,fun _ _=>rfl,fun _ _=>rfl,fun _ _=>rfl,_,wap _,?_⟩⟩
   exact hR ⟨fidF (wac n v a 3),1+wac n v (a+1) 3,43860+wac n v (a+1+1) 6,1+wac n v (a+1+1+1) 3,[],[],i.ts⟩ i.a ⟨Nat.le_trans (wgz _) (by omega),by simp only [inR];omega,by simp only [inR];omega,⟨by simp,fun r hr=>(by cases hr)⟩,⟨by simp,fun r hr=>(by cases hr)⟩,⟨by show i.ts.length≤1000;omega,hit⟩⟩ (by simp) (by simp) hi ⟨wgz _,by show 0≤4;omega,by show 0≤4;omega,hi,by show 1≤1+_∧1+_≤(3:Int);omega,by show 1≤1+_∧1+_≤(3:Int);omega,by show 43860≤43860+_∧43860+_≤(43865:Int);omega⟩ (by omega)
 ·exact h.elim
theorem wzv (n:Nat) (v:Nat→Int) (a:Int) (R:AV→List (Nat×AObj)→Prop):wpFn te [(42,.det wbh),(80,.det wc2),(81,.det wc1),(88,.det whj),(89,.det wlh)] [] 0 Tryz.f36 [.ptr 0 0] [.cells [.view 1 n (waa v),.int .i64 a] 27] R=(letI z7:=(devF (wac n (vInt (waa v)) a (3:Int)));letI z6:=((1:Int)≤(9:Int)∧(9:Int)≤(1000000:Int):Prop);letI z5:=(a+(1:Int)+(1:Int)+(1:Int)+(1:Int)+(1:Int));letI z4:=(4611686018427387904:Int);letI z3:=(4611686018427387000:Int);letI z2:=(a+(1:Int)+(1:Int)+(1:Int));letI z1:=(a+(1:Int)+(1:Int)+(1:Int)+(1:Int)+(1:Int)+(1:Int)+(1:Int));letI z0:=(visV n (vInt (waa v)) z2);(27=27∧1=1∧waa v=waa (vInt (waa v))∧(0:Int)≤a∧a≤z3)∧(27=27∧1=1∧waa v=waa (vInt (waa v))∧z6∧(0:Int)≤a+(1:Int)∧a+(1:Int)≤z4)∧inR .i64 ((1:Int)+wac n (vInt (waa v)) (a+(1:Int)) (9:Int))∧(27=27∧1=1∧waa v=waa (vInt (waa v))∧((1:Int)≤(5:Int)∧(5:Int)≤(1000000:Int))∧(0:Int)≤a+(1:Int)+(1:Int)∧a+(1:Int)+(1:Int)≤z4)∧wab (decide (wac n (vInt (waa v)) (a+(1:Int)+(1:Int)) (5:Int)=(0:Int))) ((27=27∧1=1∧waa v=waa (vInt (waa v))∧(0:Int)≤a+(1:Int)+(1:Int)+(1:Int)∧a+(1:Int)+(1:Int)+(1:Int)≤z3)∧(27=27∧1=1∧waa v=waa (vInt (waa v))∧(0:Int)≤a+(1:Int)+(1:Int)+(1:Int)+(1:Int)∧a+(1:Int)+(1:Int)+(1:Int)+(1:Int)≤z3)∧(27=27∧1=1∧waa v=waa (vInt (waa v))∧((1:Int)≤(4:Int)∧(4:Int)≤(1000000:Int))∧(0:Int)≤a+(1:Int)+(1:Int)+(1:Int)+(1:Int)+(1:Int)∧a+(1:Int)+(1:Int)+(1:Int)+(1:Int)+(1:Int)≤z4)∧inR .i64 ((1440:Int)+wac n (vInt (waa v)) z5 (4:Int))∧(27=27∧1=1∧waa v=waa (vInt (waa v))∧(0:Int)≤a+(1:Int)+(1:Int)+(1:Int)+(1:Int)+(1:Int)+(1:Int)∧a+(1:Int)+(1:Int)+(1:Int)+(1:Int)+(1:Int)+(1:Int)≤z3)∧(27=27∧1=1∧waa v=waa (vInt (waa v))∧z6∧(0:Int)≤a+(1:Int)+(1:Int)+(1:Int)+(1:Int)+(1:Int)+(1:Int)+(1:Int)∧a+(1:Int)+(1:Int)+(1:Int)+(1:Int)+(1:Int)+(1:Int)+(1:Int)≤z4)∧inR .i64 ((1:Int)+wac n (vInt (waa v)) z1 (9:Int))∧(True∧True)∧R (.agg [.str z7,.int .i64 ((1:Int)+wac n (vInt (waa v)) (a+(1:Int)) (9:Int)),.int .i64 2,.str [],.str [],.int .i64 0,.int .i64 0,.int .i64 0,.int .i64 0,.str [],.str (outF (wac n (vInt (waa v)) z2 (3:Int))),.str (idF (wac n (vInt (waa v)) (a+(1:Int)+(1:Int)+(1:Int)+(1:Int)) (4:Int))),.int .i64 ((1440:Int)+wac n (vInt (waa v)) z5 (4:Int)),.str (devF (wac n (vInt (waa v)) (a+(1:Int)+(1:Int)+(1:Int)+(1:Int)+(1:Int)+(1:Int)) (3:Int))),.int .i64 ((1:Int)+wac n (vInt (waa v)) z1 (9:Int))]) [(0,.cells [.view 1 n (waa v),.int .i64 (a+(1:Int)+(1:Int)+(1:Int)+(1:Int)+(1:Int)+(1:Int)+(1:Int)+(1:Int))] 27)]) ((27=27∧1=1∧waa v=waa (vInt (waa v))∧(0:Int)≤a+(1:Int)+(1:Int)+(1:Int)∧a+(1:Int)+(1:Int)+(1:Int)≤(4611686018427386000:Int))∧(True∧True)∧R (.agg [.str z7,.int .i64 ((1:Int)+wac n (vInt (waa v)) (a+(1:Int)) (9:Int)),.int .i64 1,.str (VT.o z0),.str (VT.p z0),.int .i64 (VT.per z0),.int .i64 (VT.day z0),.int .i64 (VT.st z0),.int .i64 (VT.pr z0),.str (VT.rep z0),.str [],.str [],.int .i64 0,.str [],.int .i64 0]) [(0,.cells [.view 1 n (waa v),.int .i64 (visA n (vInt (waa v)) z2)] 27)])):=by kernel_rfl
theorem wwo (n:Nat) (v:Nat→Int) (a:Int):(visV n v a).Made∧(a≤visA n v a∧visA n v a≤a+7):=by
 have r1:=wax (show (1:Int)≤3 by omega) n v a
 have r2:=wax (show (1:Int)≤4 by omega) n v (a+1)
 have r3:=wax (show (1:Int)≤4 by omega) n v (a+1+1)
 have r4:=wax (show (1:Int)≤100 by omega) n v (a+1+1+1)
 have r5:=wax (show (1:Int)≤7 by omega) n v (a+1+1+1+1)
 have r6:=wax (show (1:Int)≤4 by omega) n v (a+1+1+1+1+1)
 have hst:=stF (wac n v (a+1+1+1+1) 7).toNat (by omega)
 have ho:=wh5 (wac n v a 3).toNat (by omega)
 unfold visV visA
 have hs:1≤we3 n v a∧we3 n v a≤5:=hst
 generalize we3 n v a=st at hs ⊢
 refine ⟨⟨wrw ho.1 (wdz _) (by omega) (by omega) ?_,ho.2⟩,?_⟩
 ·by_cases s5:st=5
  ·subst s5
   refine .inr (.inr ⟨rfl,by show (1:Int)≤100+_∧(100:Int)+_≤_;omega,?_⟩)
   show wa9 (bif decide _ then idF 4 else _)=true∧¬ (bif decide _ then idF 4 else _)=_
   by_cases q:idF (wac n v (a+1+1+1+1+1+1) 4)=idF (wac n v (a+1) 4)
   ·rw [decide_eq_true q];exact ⟨wdz _,wkk r2⟩
   ·rw [decide_eq_false q];exact ⟨wdz _,q⟩
  ·have e5:wdo st (idF (wac n v (a+1) 4)) (idF (wac n v (a+1+1+1+1+1+1) 4))=[]:=by unfold wdo;rw [decide_eq_false s5];rfl
   rw [e5]
   by_cases s3:st=3∨st=4
   ·refine .inr (.inl ⟨s3,?_,rfl⟩)
    unfold wdg
    rcases s3 with s3 | s3<;>simp [s3]
   ·refine .inl ⟨by omega,?_,rfl⟩
    have:wdg st (100+wac n v (a+1+1+1+1+1) 4 * 5)=100+wac n v (a+1+1+1+1+1) 4 * 5:=by
     unfold wdg
     rw [decide_eq_false (show ¬ st=3 by omega),decide_eq_false (show ¬ st=4 by omega)];rfl
    rw [this];omega
 ·unfold wel
  cases decide (st=3) || decide (st=4)<;>cases decide (st=5)<;>simp only [cond_true,cond_false]<;>omega
theorem visX_ok (hP:C.P=Tryz.prog):wag C 89 wlh:=by
 rintro args objs U Os vc h hvc
 unfold wlh at h
 split at h<;>simp only [Option.some.injEq,Prod.mk.injEq,reduceCtorEq] at h
 rename_i sz n f a t
 obtain ⟨rfl,rfl,rfl⟩:=h
 obtain ⟨rfl,rfl,hf,ha⟩:=hvc
 rw [hf]
 generalize vInt f=v
 have hw:vInt (waa v)=v:=rfl
 refine wag.wp0 (prg hP) [(42,.det wbh),(80,.det wc2),(81,.det wc1),(43,.det S_id)] 3 (.cons (wco hP) (.cons (wgt hP) (.cons (wgl hP) (.cons (wkj hP) .nil)))) (hP ▸ Tryz.func89) rfl rfl rfl ?_
 rw [wti,hw]
 have r1:=wax (show (1:Int)≤3 by omega) n v a
 have r2:=wax (show (1:Int)≤4 by omega) n v (a+1)
 have r3:=wax (show (1:Int)≤4 by omega) n v (a+1+1)
 have r4:=wax (show (1:Int)≤100 by omega) n v (a+1+1+1)
 have r5:=wax (show (1:Int)≤7 by omega) n v (a+1+1+1+1)
 have r6:=wax (show (1:Int)≤4 by omega) n v (a+1+1+1+1+1)
 have hst:=stF (wac n v (a+1+1+1+1) 7).toNat (by omega)
 unfold visV visA we3
 refine ⟨⟨rfl,rfl,rfl,by omega,by omega⟩,⟨rfl,rfl,rfl,by omega,by omega⟩,⟨rfl,rfl,rfl,⟨by omega,by omega⟩,by omega,by omega⟩,by simp only [inR];omega,⟨rfl,rfl,rfl,⟨by omega,by omega⟩,by omega,by omega⟩,by simp only [inR];omega,⟨by omega,rfl,by omega⟩,⟨rfl,rfl,rfl,⟨by omega,by omega⟩,by omega,by omega⟩,⟨by omega,by omega⟩,⟨by omega,rfl⟩,?_⟩
 generalize 1+List.getD [(0:Int),0,0,1,2,3,4] (wac n v (a+1+1+1+1) 7).toNat 0=st at *
 have key:∀ (pr:Int) (rep:List UInt8) (a':Int),pr=wdg st (100+wac n v (a+1+1+1+1+1) 4 * 5)→rep=wdo st (idF (wac n v (a+1) 4)) (idF (wac n v (a+1+1+1+1+1+1) 4))→a'=wel st (a+1+1+1+1+1)→
   (AV.agg [.str (outF (wac n v a 3)),.str (idF (wac n v (a+1) 4)),.int .i64 (1440+wac n v (a+1+1) 4),.int .i64 (43830+wac n v (a+1+1+1) 100),.int .i64 st,.int .i64 pr,.str rep]=AV.agg [.str (outF (wac n v a 3)),.str (idF (wac n v (a+1) 4)),.int .i64 (1440+wac n v (a+1+1) 4),.int .i64 (43830+wac n v (a+1+1+1) 100),.int .i64 st,.int .i64 (wdg st (100+wac n v (a+1+1+1+1+1) 4 * 5)),.str (wdo st (idF (wac n v (a+1) 4)) (idF (wac n v (a+1+1+1+1+1+1) 4)))]∧
   ([(0,.cells [.view 1 n (waa v),.int .i64 a'] 27)]:List (Nat×AObj))=[(0,.cells [.view 1 n (waa v),.int .i64 (wel st (a+1+1+1+1+1))] 27)]):=fun pr rep a' h1 h2 h3=>by rw [h1,h2,h3];exact ⟨rfl,rfl⟩
 refine ⟨by simp only [inR];omega,wb3 (fun s3=>wb3 (fun s4=>⟨⟨rfl,rfl,rfl,⟨by omega,by omega⟩,by omega,by omega⟩,by simp only [inR];omega,by simp only [inR];omega,waj (fun s5=>⟨⟨rfl,rfl,rfl,by omega,by omega⟩,waj (fun q=>⟨trivial,waj (fun q'=>absurd q' (wkk r2)) (fun q'=>⟨⟨trivial,trivial⟩,?_⟩)⟩) (fun q=>⟨⟨trivial,trivial⟩,?_⟩)⟩) (fun s5=>⟨⟨trivial,trivial⟩,?_⟩)⟩)
  (fun s4=>waj (fun s5=>absurd s5 (by omega)) (fun s5=>⟨⟨trivial,trivial⟩,?_⟩))) (fun s3=>waj (fun s5=>absurd s5 (by omega)) (fun s5=>⟨⟨trivial,trivial⟩,?_⟩))⟩
 ·refine key _ (idF 4) _ ?_ ?_ ?_
  ·simp [wdg,s3,s4]
  ·unfold wdo
   rw [decide_eq_true s5,decide_eq_true q];rfl
  ·simp [wel,s5]
 ·refine key _ _ _ ?_ ?_ ?_
  ·simp [wdg,s3,s4]
  ·unfold wdo
   rw [decide_eq_true s5,decide_eq_false q];rfl
  ·simp [wel,s5]
 ·refine key _ _ _ ?_ ?_ ?_
  ·simp [wdg,s3,s4]
  ·unfold wdo
   rw [decide_eq_false s5];rfl
  ·simp [wel,s3,s4,s5]
 ·refine key _ _ _ ?_ ?_ ?_
  ·simp [wdg,s4]
  ·unfold wdo
   rw [decide_eq_false s5];rfl
  ·simp [wel,s4]
 ·refine key _ _ _ ?_ ?_ ?_
  ·simp [wdg,s3]
  ·unfold wdo
   rw [decide_eq_false s5];rfl
  ·simp [wel,s3]
theorem w04 (n:Nat) (v:Nat→Int) (a:Int):(msgV n v a).Made∧(a≤msgA n v a∧msgA n v a≤a+10):=by
 have r1:=wax (show (1:Int)≤3 by omega) n v a
 have r2:=wax (show (1:Int)≤9 by omega) n v (a+1)
 have r4:=wax (show (1:Int)≤3 by omega) n v (a+1+1+1)
 have r6:=wax (show (1:Int)≤4 by omega) n v (a+1+1+1+1+1)
 have r7:=wax (show (1:Int)≤3 by omega) n v (a+1+1+1+1+1+1)
 have r8:=wax (show (1:Int)≤9 by omega) n v (a+1+1+1+1+1+1+1)
 have hd:=wkz (wac n v a 3).toNat (by omega)
 have ho:=wh5 (wac n v (a+1+1+1) 3).toNat (by omega)
 have hd':=wkz (wac n v (a+1+1+1+1+1+1) 3).toNat (by omega)
 obtain ⟨hx,h1,h2⟩:=wwo n v (a+1+1+1)
 unfold msgV msgA
 cases decide (wac n v (a+1+1) 5=0) with
 |true=>exact ⟨⟨wtp hd.1 (by omega) (wsh ho.1 (wdz _) (by omega)) hd'.1 (by omega),hd.2,Nat.zero_le _,ho.2,hd'.2⟩,by simp only [cond_true];omega⟩
 |false=>exact ⟨⟨wto hd.1 (by omega) hx.ok,hd.2,hx.o,Nat.zero_le _,Nat.zero_le _⟩,by simp only [cond_false];omega⟩
theorem w06 (hP:C.P=Tryz.prog):wag C 36 wmc:=by
 rintro args objs U Os vc h hvc
 unfold wmc at h
 split at h<;>simp only [Option.some.injEq,Prod.mk.injEq,reduceCtorEq] at h
 rename_i sz n f a t
 obtain ⟨rfl,rfl,rfl⟩:=h
 obtain ⟨rfl,rfl,hf,ha⟩:=hvc
 rw [hf]
 generalize vInt f=v
 have hw:vInt (waa v)=v:=rfl
 refine wag.wp0 (prg hP) [(42,.det wbh),(80,.det wc2),(81,.det wc1),(88,.det whj),(89,.det wlh)] 0 (.cons (wco hP) (.cons (wgt hP) (.cons (wgl hP) (.cons (wvk hP) (.cons (visX_ok hP) .nil))))) (hP ▸ Tryz.func36) rfl rfl rfl ?_
 rw [wzv,hw]
 have r2:=wax (show (1:Int)≤9 by omega) n v (a+1)
 have r6:=wax (show (1:Int)≤4 by omega) n v (a+1+1+1+1+1)
 have r8:=wax (show (1:Int)≤9 by omega) n v (a+1+1+1+1+1+1+1)
 unfold msgV msgA
 refine ⟨⟨rfl,rfl,rfl,by omega,by omega⟩,⟨rfl,rfl,rfl,⟨by omega,by omega⟩,by omega,by omega⟩,by simp only [inR];omega,⟨rfl,rfl,rfl,⟨by omega,by omega⟩,by omega,by omega⟩,waj (fun q=>⟨⟨rfl,rfl,rfl,by omega,by omega⟩,⟨rfl,rfl,rfl,by omega,by omega⟩,⟨rfl,rfl,rfl,⟨by omega,by omega⟩,by omega,by omega⟩,by simp only [inR];omega,⟨rfl,rfl,rfl,by omega,by omega⟩,⟨rfl,rfl,rfl,⟨by omega,by omega⟩,by omega,by omega⟩,by simp only [inR];omega,⟨trivial,trivial⟩,?_⟩)
  (fun q=>⟨⟨rfl,rfl,rfl,by omega,by omega⟩,⟨trivial,trivial⟩,?_⟩)⟩
 ·rw [decide_eq_true q];exact ⟨rfl,rfl⟩
 ·rw [decide_eq_false q];exact ⟨rfl,rfl⟩
end Go.Eng
