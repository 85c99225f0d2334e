/- Messages of a tape, exactly. -/
import Derived.Test.YtgcboligphndhaaGreatDoorYt
import Derived.Test.YtgcboligphndhaaGreatDoorYzb
import Derived.Test.YtgcboligphndhaaGreatDoorYw
import Derived.Test.YtgcboligphndhaaGreatDoorYv
namespace Go.Eng
open Go.Proofs Go.RowKit
variable {C:Ctx} [C.Loose]
set_option maxRecDepth 20000
theorem nf_msgs (n:Nat) (v:Nat→Int) (a most:Int) (R:AV→List (Nat×AObj)→Prop):wpFn te [(36,.rel whj),(42,.det wba)] [(3,wn0 n v (a+1) (wab n v a (most+1)))] 0 Tryz.f59 [.ptr 0 0,.int .i64 most] [.cells [.view 1 n (waa v),.int .i64 a] 27] R=(letI z1:=(most+(1:Int));letI z0:=(MgS.mk 0 (fun (_x:Nat)=>default) (a+(1:Int)));inR .i64 z1∧(27=27∧1=1∧waa v=waa (vInt (waa v))∧((1:Int)≤most+(1:Int)∧most+(1:Int)≤(1000000:Int))∧(0:Int)≤a∧a≤(4611686018427387904:Int))∧(TEq [(0,.ptr 0 0),(5,.own 1 0),(9,.int .i64 (wab n (vInt (waa v)) a z1)),(10,.int .i64 0)] [(0,.ptr 0 0),(5,.own 1 0),(9,.int .i64 (wab n v a z1)),(10,.int .i64 (↑(MgS.c z0):Int))]∧wae [(0,.cells [.view 1 n (waa v),.int .i64 (a+(1:Int))] 27),(1,.row 40 15 0 (fun (_x:Nat)=>[]) false)] [(0,.cells [.view 1 n (waa v),.int .i64 (MgS.a z0)] 27),(1,.row 40 15 0 (wag (MgS.g z0)) false)])∧((0:Int)≤wab n v a z1∧wab n v a z1≤(100:Int))∧((0:Int)≤a+(1:Int)∧a+(1:Int)≤(4611686018427375000:Int))∧∀ (i:MgS),MgS.c i=Int.toNat (wab n v a z1)→a+(1:Int)≤MgS.a i∧MgS.a i≤a+(1:Int)+(10:Int) * (↑(MgS.c i):Int)→(∀ (j:Nat),j<MgS.c i→MG.Made (MgS.g i j))→(∀ (i_1:Nat),i_1<MgS.c i→true=true)∧∃ (O':List (Nat×AObj)),wae [(0,.cells [.view 1 n (waa v),.int .i64 (MgS.a i)] 27),(1,.row 40 15 (MgS.c i) (wag (MgS.g i)) false)] O'∧R (.own 1 (MgS.c i)) O'):=by kernel_rfl
theorem wze (n:Nat) (v:Nat→Int) (N:Int) (i:MgS) (P:MgS→Prop) (R:Exit→St→Prop):wa2 ⟨te,[(36,.rel whj)],[],1,19,0⟩ (wa3 Tryz.f59 3) [0,5,9,10] [5] [] (wl8 n v N) P R (wl8 n v N i)=(wad (decide ((↑(MgS.c i):Int)<N)) (27=27∧1=1∧waa v=waa (vInt (waa v))∧((0:Int)≤MgS.a i∧MgS.a i≤(4611686018427385000:Int))∧∀ (m:MG) (a':Int),MG.Made m→MgS.a i≤a'∧a'≤MgS.a i+(10:Int)→(15≤16777216∧15=15∧1≤9223372036854775807)∧((1≤1∧15=15)∧MgS.c i≤MgS.c i∧15=15∧40=40∧15=15∧MgS.c i+1≤9223372036854775807∧(MgS.c i+1) * TI.bytes wfq≤140737488355328)∧inR .i64 ((↑(MgS.c i):Int)+(1:Int))∧∃ (i':MgS),(TEq [(0,.ptr 0 0),(5,.own 1 (MgS.c i+1)),(9,.int .i64 N),(10,.int .i64 ((↑(MgS.c i):Int)+(1:Int)))] [(0,.ptr 0 0),(5,.own 1 (MgS.c i')),(9,.int .i64 N),(10,.int .i64 (↑(MgS.c i'):Int))]∧wae [(0,.cells [.view 1 n (waa v),.int .i64 a'] 27),(1,.row 40 15 (MgS.c i+1) (apF (MgS.c i) (wag (MgS.g i)) (waq (TI.sz wfq) (.str (MG.dev m):: .int .i64 (MG.seq m):: .int .i64 (MG.kind m):: .str (VT.o (MG.v m)):: .str (VT.p (MG.v m)):: .int .i64 (VT.per (MG.v m)):: .int .i64 (VT.day (MG.v m)):: .int .i64 (VT.st (MG.v m)):: .int .i64 (VT.pr (MG.v m)):: .str (VT.rep (MG.v m)):: .str (DT.o (MG.d m)):: .str (DT.p (MG.d m)):: .int .i64 (DT.per (MG.d m)):: .str (DT.dev (MG.d m)):: .int .i64 (DT.num (MG.d m))::List.append [] (List.flatten (List.replicate (nat_lit 0) [.str ([]),.int .i64 0,.int .i64 0,.str ([]),.str ([]),.int .i64 0,.int .i64 0,.int .i64 0,.int .i64 0,.str ([]),.str ([]),.str ([]),.int .i64 0,.str ([]),.int .i64 0]))))) false)] [(0,.cells [.view 1 n (waa v),.int .i64 (MgS.a i')] 27),(1,.row 40 15 (MgS.c i') (wag (MgS.g i')) false)])∧P i') ((∀ (i_1:Nat),i_1<MgS.c i→true=true)∧∃ (O':List (Nat×AObj)),wae [(0,.cells [.view 1 n (waa v),.int .i64 (MgS.a i)] 27),(1,.row 40 15 (MgS.c i) (wag (MgS.g i)) false)] O'∧R (.exit 0) (St.mk [(5,.own 1 (MgS.c i))] O' 2 []))):=by kernel_rfl
theorem mput_ap (g:Nat→MG) (k:Nat) (r:MG) (ch:Nat→List AV) (hch:ch 0=mgC r) (j:Nat) (_hj:j<k+1):apF k (wag g) ch j=wag (MG.put g k r) j:=by
 unfold apF wag MG.put
 by_cases h:j<k
 ·rw [if_pos h,if_pos h]
 ·have:j=k:=by omega
  rw [if_neg h,if_neg h,this,Nat.sub_self,hch];rfl
theorem w0r (hP:C.P=Tryz.prog) (n:Nat) (v:Nat→Int) (a N:Int):waj C 1 19 (wam Tryz.f59 3) (wn0 n v a N):=by
 rintro st Q ⟨h0,hN,ha,hQ⟩
 refine AWP.ownNil 5 40 15 ?_
 refine waj.mk (prg hP) [(36,.rel whj)] 0 (.cons (wto hP) .nil) [0,5,9,10] [5] [] (wl8 n v N) (fun i=>(i.c:Int)≤N∧(a≤i.a∧i.a≤a+10 * i.c)∧∀ j,j<i.c→(i.g j).Made) (fun i=>N.toNat - i.c) ⟨0,fun _=>default,a⟩
  ⟨hN.1,by show a≤a∧a≤a+10 * ((0:Nat):Int);omega,fun j hj=>absurd hj (Nat.not_lt_zero j)⟩ h0 (fun i hi=>?_) (fun i=>⟨fun _ _=>rfl,trivial⟩)
 obtain ⟨h1,h2,h3⟩:=hi
 rw [wze]
 refine wak (fun q=>?_) (fun q=>⟨fun _ _=>rfl,_,wan _,hQ i (by omega) h2 h3⟩)
 refine ⟨rfl,rfl,rfl,by omega,fun m a' hm ha'=>⟨⟨by omega,rfl,by omega⟩,⟨⟨Nat.le_refl _,rfl⟩,Nat.le_refl _,rfl,rfl,rfl,by omega,?_⟩,by simp only [inR];omega,⟨i.c+1,MG.put i.g i.c m,a'⟩,⟨rfl,rfl,⟨rfl,rfl,rfl,rfl,rfl,fun j hj=>?_⟩,trivial⟩,⟨?_,?_,fun j hj=>?_⟩,?_⟩⟩
 ·show (i.c+1) * 176≤_
  omega
 ·exact mput_ap i.g i.c m _ rfl j hj
 ·show ((i.c+1:Nat):Int)≤N
  omega
 ·show a≤a'∧a'≤a+10 * ((i.c+1:Nat):Int)
  omega
 ·show (MG.put i.g i.c m j).Made
  unfold MG.put
  by_cases h:j<i.c
  ·rw [if_pos h];exact h3 j h
  ·rw [if_neg h];exact hm
 ·show N.toNat - (i.c+1)<N.toNat - i.c
  omega
theorem msgs_ok (hP:C.P=Tryz.prog):wa7 C 59 wnj:=by
 rintro args objs R h
 unfold wnj at h
 split at h
 ·rename_i most sz n f a t
  obtain ⟨rfl,rfl,hf,ha,hm,hR⟩:=h
  rw [hf] at hR ⊢
  generalize vInt f=v at *
  have hw:vInt (waa v)=v:=rfl
  refine wa7.wpL (prg hP) [(36,.rel whj),(42,.det wba)] [(3,wn0 n v (a+1) (wab n v a (most+1)))] 0 (.cons (wto hP) (.cons (wb7 hP) .nil)) (hP ▸ Tryz.func59) rfl rfl rfl [(wam Tryz.f59 3,wn0 n v (a+1) (wab n v a (most+1)))] (by kernel_rfl) ⟨w0r hP _ _ _ _,trivial⟩ ?_
  rw [nf_msgs,hw]
  have r:=wav (show (1:Int)≤most+1 by omega) n v a
  exact ⟨by simp only [inR];omega,⟨rfl,rfl,rfl,⟨by omega,by omega⟩,by omega,by omega⟩,⟨rfl,rfl,⟨rfl,rfl,rfl,rfl,rfl,fun i hi=>absurd hi (Nat.not_lt_zero i)⟩,trivial⟩,⟨by omega,by omega⟩,⟨by omega,by omega⟩,fun i h1 h2 h3=>⟨fun _ _=>rfl,_,wan _,hR i.c i.g i.a (by omega) ⟨by omega,by omega⟩ h3⟩⟩
 ·exact h.elim
theorem wym (n:Nat) (v:Nat→Int) (a:Int) (R:AV→List (Nat×AObj)→Prop):wpFn te [(42,.det wba)] [(4,wns n v (a+1+1) (wab n v (a+1) 4) (wab n v a 500))] 0 Tryz.f82 [.ptr 0 0] [.cells [.view 1 n (waa v),.int .i64 a] 27] R=(letI z6:=(4611686018427387904:Int);letI z5:=(a+(1:Int)+(1:Int));letI z3:=((1:Int)≤(4:Int)∧(4:Int)≤(1000000:Int):Prop);letI z1:=(TfS.mk (0:Int) [] z5);(27=27∧1=1∧waa v=waa (vInt (waa v))∧((1:Int)≤(500:Int)∧(500:Int)≤(1000000:Int))∧(0:Int)≤a∧a≤z6)∧(27=27∧1=1∧waa v=waa (vInt (waa v))∧z3∧(0:Int)≤a+(1:Int)∧a+(1:Int)≤z6)∧(TEq [(0,.ptr 0 0),(2,.ptr 1 0),(3,.ptr 2 0),(4,.int .i64 0),(9,.int .i64 (wab n (vInt (waa v)) (a+(1:Int)) (4:Int))),(10,.int .i64 0)] [(0,.ptr 0 0),(2,.ptr 1 0),(3,.ptr 2 0),(4,.int .i64 (TfS.up z1)),(9,.int .i64 (wab n v (a+(1:Int)) (4:Int))),(10,.int .i64 (↑(List.length (TfS.bs z1)):Int))]∧wae [(0,.cells [.view 1 n (waa v),.int .i64 z5] 27),(1,.cells [.int .i64 0,.nil] 95),(2,.cells [.int .i64 (wab n (vInt (waa v)) a (500:Int)),.own 3 0] 95),(3,.row 115 2 0 (fun (_x:Nat)=>[]) false)] [(0,.cells [.view 1 n (waa v),.int .i64 (TfS.a z1)] 27),(1,.cells [.int .i64 0,.nil] 95),(2,.cells [.int .i64 (wab n v a (500:Int)),.own 3 0] 95),(3,.row 115 2 0 (wa0 (atB (TfS.bs z1))) false)])∧((0:Int)≤wab n v (a+(1:Int)) (4:Int)∧wab n v (a+(1:Int)) (4:Int)≤(3:Int))∧((0:Int)≤a+(1:Int)+(1:Int)∧a+(1:Int)+(1:Int)≤(4611686018427375000:Int))∧∀ (i:TfS),letI z7:=List.length (TfS.bs i);letI z4:=List.length (TfS.bs i)+1;letI z2:=(wab n (vInt (waa v)) (TfS.a i) (4:Int) * (10:Int));letI z0:=(waq (TI.sz wge) (.int .i64 0:: .int .i64 z2::List.append [] (List.flatten (List.replicate (nat_lit 0) [.int .i64 0,.int .i64 0]))));(↑z7:Int)=wab n v (a+(1:Int)) (4:Int)→TfS.a i=a+(1:Int)+(1:Int)+(2:Int) * wab n v (a+(1:Int)) (4:Int)→TfS.bs i=tarB n v z5 (Int.toNat (wab n v (a+(1:Int)) (4:Int)))→(27=27∧1=1∧waa v=waa (vInt (waa v))∧z3∧(0:Int)≤TfS.a i∧TfS.a i≤z6)∧inR .i64 z2∧(2≤16777216∧2=2∧1≤9223372036854775807)∧((1≤1∧2=2)∧List.length (TfS.bs i)≤List.length (TfS.bs i)∧2=2∧115=115∧2=2∧List.length (TfS.bs i)+1≤9223372036854775807∧z4 * TI.bytes wge≤140737488355328)∧(True∧True)∧(∀ (i_1:Nat),i_1<List.length (TfS.bs i)+1→nrefL (apF z7 (wa0 (atB (TfS.bs i))) z0 i_1)=true)∧∃ (O':List (Nat×AObj)),wae [(0,.cells [.view 1 n (waa v),.int .i64 (TfS.a i+(1:Int))] 27),(1,.row 115 2 z4 (apF z7 (wa0 (atB (TfS.bs i))) z0) false)] O'∧R (.agg [.int .i64 (wab n v a (500:Int)),.own 1 z4]) O'):=by kernel_rfl
theorem wyj (n:Nat) (v:Nat→Int) (N st:Int) (i:TfS) (P:TfS→Prop) (R:Exit→St→Prop):wa2 ⟨te,[(42,.det wba)],[],1,38,0⟩ (wa3 Tryz.f82 4) [0,2,3,4,9,10] [0,2,3] [] (wi4 n v N st) P R (wi4 n v N st i)=(letI z3:=List.length (TfS.bs i)+1;letI z2:=(wab n (vInt (waa v)) (TfS.a i+(1:Int)) (4:Int) * (10:Int));letI z1:=List.length (TfS.bs i);letI z0:=(TfS.up i+((1:Int)+wab n (vInt (waa v)) (TfS.a i) (60:Int)));wad (decide ((↑z1:Int)<N)) ((27=27∧1=1∧waa v=waa (vInt (waa v))∧((1:Int)≤(60:Int)∧(60:Int)≤(1000000:Int))∧(0:Int)≤TfS.a i∧TfS.a i≤(4611686018427387904:Int))∧inR .i64 ((1:Int)+wab n (vInt (waa v)) (TfS.a i) (60:Int))∧inR .i64 z0∧(27=27∧1=1∧waa v=waa (vInt (waa v))∧((1:Int)≤(4:Int)∧(4:Int)≤(1000000:Int))∧(0:Int)≤TfS.a i+(1:Int)∧TfS.a i+(1:Int)≤(4611686018427387904:Int))∧inR .i64 z2∧(2≤16777216∧2=2∧1≤9223372036854775807)∧((1≤1∧2=2)∧List.length (TfS.bs i)≤List.length (TfS.bs i)∧2=2∧115=115∧2=2∧List.length (TfS.bs i)+1≤9223372036854775807∧z3 * TI.bytes wge≤140737488355328)∧inR .i64 ((↑z1:Int)+(1:Int))∧∃ (i':TfS),letI z4:=List.length (TfS.bs i');(TEq [(0,.ptr 0 0),(2,.ptr 1 0),(3,.ptr 2 0),(4,.int .i64 z0),(9,.int .i64 N),(10,.int .i64 ((↑z1:Int)+(1:Int)))] [(0,.ptr 0 0),(2,.ptr 1 0),(3,.ptr 2 0),(4,.int .i64 (TfS.up i')),(9,.int .i64 N),(10,.int .i64 (↑z4:Int))]∧wae [(0,.cells [.view 1 n (waa v),.int .i64 (TfS.a i+(1:Int)+(1:Int))] 27),(1,.cells [.int .i64 0,.nil] 95),(2,.cells [.int .i64 st,.own 3 z3] 95),(3,.row 115 2 z3 (apF z1 (wa0 (atB (TfS.bs i))) (waq (TI.sz wge) (.int .i64 z0:: .int .i64 z2::List.append [] (List.flatten (List.replicate (nat_lit 0) [.int .i64 0,.int .i64 0]))))) false)] [(0,.cells [.view 1 n (waa v),.int .i64 (TfS.a i')] 27),(1,.cells [.int .i64 0,.nil] 95),(2,.cells [.int .i64 st,.own 3 z4] 95),(3,.row 115 2 z4 (wa0 (atB (TfS.bs i'))) false)])∧P i') ((∀ (i_1:Nat),i_1<List.length (TfS.bs i)→true=true)∧∃ (O':List (Nat×AObj)),wae [(0,.cells [.view 1 n (waa v),.int .i64 (TfS.a i)] 27),(1,.cells [.int .i64 0,.nil] 95),(2,.cells [.int .i64 st,.own 3 z1] 95),(3,.row 115 2 z1 (wa0 (atB (TfS.bs i))) false)] O'∧R (.exit 0) (St.mk [(0,.ptr 0 0),(2,.ptr 1 0),(3,.ptr 2 0)] O' 4 []))):=by kernel_rfl
theorem wel {α:Type} (enc:α→List AV) (d:α) (L:List α) (x:α) (ch:Nat→List AV) (hch:ch 0=enc x):∀ i,i<L.length+1→apF L.length (fun i=>enc (L.getD i d)) ch i=enc ((L++[x]).getD i d):=fun i hi=>by
 unfold apF
 by_cases h:i<L.length
 ·rw [if_pos h]
  congr 1
  simp [List.getD_eq_getElem?_getD,List.getElem?_append_left h]
 ·have:i=L.length:=by omega
  subst this
  rw [if_neg h,Nat.sub_self,hch]
  congr 1
  simp
theorem snocB (L:List BK) (x:BK) (ch:Nat→List AV) (hch:ch 0=[.int .i64 x.up,.int .i64 x.pr]):∀ i,i<L.length+1→apF L.length (wa0 (atB L)) ch i=wa0 (atB (L++[x])) i:=
 wel (fun b:BK=>[.int .i64 b.up,.int .i64 b.pr]) _ L x ch hch
theorem ww0 (hP:C.P=Tryz.prog) (n:Nat) (v:Nat→Int) (a N st:Int):waj C 1 38 (wam Tryz.f82 4) (wns n v a N st):=by
 rintro s Q ⟨h0,hN,ha,hQ⟩
 refine AWP.ownNilP 3 1 115 2 ?_
 refine waj.mk (prg hP) [(42,.det wba)] 0 (.cons (wb7 hP) .nil) [0,2,3,4,9,10] [0,2,3] [] (wi4 n v N st)
  (fun i=>(i.bs.length:Int)≤N∧i.a=a+2 * i.bs.length∧i.up=wdt n v a i.bs.length∧i.bs=tarB n v a i.bs.length) (fun i=>N.toNat - i.bs.length) ⟨0,[],a⟩ ⟨by show (0:Int)≤N;omega,by show a=a+2 * ((0:Nat):Int);omega,rfl,rfl⟩ h0 (fun i hi=>?_) (fun i=>⟨fun _ _=>rfl,trivial⟩)
 obtain ⟨h1,h2,h3,h4⟩:=hi
 have hw:vInt (waa v)=v:=rfl
 rw [wyj,hw]
 have r1:=wav (show (1:Int)≤60 by omega) n v i.a
 have r2:=wav (show (1:Int)≤4 by omega) n v (i.a+1)
 have r3:=woz n v a i.bs.length
 refine wak (fun q=>?_) (fun q=>⟨fun _ _=>rfl,_,wan _,hQ i (by omega) (by omega) (by rw [show N.toNat=i.bs.length by omega];exact h4)⟩)
 refine ⟨⟨rfl,rfl,rfl,by omega,by omega⟩,by simp only [inR];omega,by simp only [inR];omega,⟨rfl,rfl,rfl,by omega,by omega⟩,by simp only [inR];omega,⟨by omega,rfl,by omega⟩,⟨⟨Nat.le_refl _,rfl⟩,Nat.le_refl _,rfl,rfl,rfl,by omega,?_⟩,by simp only [inR];omega,
  ⟨i.up+(1+wab n v i.a 60),i.bs++[⟨i.up+(1+wab n v i.a 60),wab n v (i.a+1) 4 * 10⟩],i.a+1+1⟩,?_,⟨?_,?_,?_,?_⟩,?_⟩
 ·show (i.bs.length+1) * 16≤_
  omega
 ·dsimp only
  rw [List.length_append]
  exact ⟨rfl,rfl,rfl,rfl,⟨rfl,rfl,rfl,rfl,rfl,snocB _ _ _ rfl⟩,trivial⟩
 ·show ((i.bs++[_]).length:Int)≤N
  rw [List.length_append];simp;omega
 ·show i.a+1+1=a+2 * ((i.bs++[_]).length:Int)
  rw [List.length_append];simp;omega
 ·show i.up+(1+wab n v i.a 60)=wdt n v a (i.bs++[_]).length
  rw [List.length_append,List.length_singleton,wdt, ← h3,h2]
 ·show i.bs++[_]=tarB n v a (i.bs++[_]).length
  rw [List.length_append,List.length_singleton,tarB,wdt, ← h4, ← h3,h2]
 ·show N.toNat - (i.bs++[_]).length<N.toNat - i.bs.length
  rw [List.length_append];simp;omega
theorem ww3 (hP:C.P=Tryz.prog):waf C 82 wln:=by
 rintro args objs U Os vc h hvc
 unfold wln at h
 split at h<;>simp only [Option.some.injEq,Prod.mk.injEq,reduceCtorEq] at h
 rename_i sz n f a t
 obtain ⟨rfl,rfl,rfl⟩:=h
 obtain ⟨rfl,rfl,hf,ha⟩:=hvc
 rw [hf]
 generalize vInt f=v at *
 have hw:vInt (waa v)=v:=rfl
 refine wal.frzO 1 ?_
 refine wa7.wpL (prg hP) [(42,.det wba)] [(4,wns n v (a+1+1) (wab n v (a+1) 4) (wab n v a 500))] 0 (.cons (wb7 hP) .nil) (hP ▸ Tryz.func82) rfl rfl rfl [(wam Tryz.f82 4,wns n v (a+1+1) (wab n v (a+1) 4) (wab n v a 500))] (by kernel_rfl) ⟨ww0 hP _ _ _ _ _,trivial⟩ ?_
 rw [wym,hw]
 have r1:=wav (show (1:Int)≤500 by omega) n v a
 have r2:=wav (show (1:Int)≤4 by omega) n v (a+1)
 refine ⟨⟨rfl,rfl,rfl,by omega,by omega⟩,⟨rfl,rfl,rfl,by omega,by omega⟩,⟨rfl,rfl,rfl,rfl,⟨rfl,rfl,rfl,rfl,rfl,fun i hi=>absurd hi (Nat.not_lt_zero i)⟩,trivial⟩,by omega,by omega,fun i h1 h2 h3=>?_⟩
 have r3:=wav (show (1:Int)≤4 by omega) n v i.a
 refine ⟨⟨rfl,rfl,rfl,by omega,by omega⟩,by simp only [inR];omega,⟨by omega,rfl,by omega⟩,⟨⟨Nat.le_refl _,rfl⟩,Nat.le_refl _,rfl,rfl,rfl,by omega,?_⟩,⟨trivial,trivial⟩,?_,[(0,.cells [.view 1 n (waa v),.int .i64 (i.a+1)] 27),(1,.row 115 2 (i.bs.length+1) (wa0 (atB (i.bs++[⟨0,wab n v i.a 4 * 10⟩]))) false)],⟨rfl,⟨rfl,rfl,rfl,rfl,rfl,snocB _ _ _ rfl⟩,trivial⟩,fun _ _=>rfl,?_⟩
 ·show (i.bs.length+1) * 16≤_
  omega
 ·refine fun j hj=>?_
  rw [snocB i.bs ⟨0,wab n v i.a 4 * 10⟩ _ rfl j hj];rfl
 ·have hb:Nat.ble (i.bs.length+1) (i.bs.length+1)=true:=Nat.ble_eq_true_of_le (Nat.le_refl _)
  have e2:i.a=a+2+2 * wab n v (a+1) 4:=by omega
  have eL:tarL n v a=i.bs++[⟨0,wab n v i.a 4 * 10⟩]:=by
   unfold tarL
   rw [h3,e2,show a+1+1=a+2 by omega]
  have eA:tarA n v a=i.a+1:=by unfold tarA;omega
  have hl:(i.bs++[(⟨0,wab n v i.a 4 * 10⟩:BK)]).length=i.bs.length+1:=by simp
  rw [eL,eA,hl]
  constructor
  ·simp [frzC,frzA,frz,hb]
  ·simp [rm]
theorem nf_file (n:Nat) (v:Nat→Int) (a:Int) (R:AV→List (Nat×AObj)→Prop):wpFn te [(42,.det wba),(59,.rel wnj),(79,.rel wnh)] [(1002,woi n v (a+1+1+1+1) (fidF (wab n v a 3)) (1+wab n v (a+1) 3) (43860+wab n v (a+1+1) 6) (1+wab n v (a+1+1+1) 3)),(10,woh n v (a+1+1+1+1+1) (fidF (wab n v a 3)) (1+wab n v (a+1) 3) (43860+wab n v (a+1+1) 6) (1+wab n v (a+1+1+1) 3) (wab n v (a+1+1+1+1) 3))] 0 Tryz.f32 [.ptr 0 0] [.cells [.view 1 n (waa v),.int .i64 a] 27] R=(letI z17:=([(0,.ptr 0 0),(2,.ptr 1 0),(3,.ptr 2 0)]:List (Nat×AV));letI z16:=((0:Int)≤(4:Int)∧(4:Int)≤(90:Int):Prop);letI z14:=(4611686018427387904:Int);letI z13:=(fidF (wab n v a (3:Int)));letI z10:=(a+(1:Int)+(1:Int));letI z9:=((0:Int)≤a+(1:Int)+(1:Int)+(1:Int)+(1:Int)∧a+(1:Int)+(1:Int)+(1:Int)+(1:Int)≤(4611686018427370000:Int):Prop);letI z6:=((1:Int)≤(3:Int)∧(3:Int)≤(1000000:Int):Prop);letI z5:=(a+(1:Int)+(1:Int)+(1:Int)+(1:Int)+(1:Int));letI z4:=([.str [],.int .i64 0,.int .i64 0,.int .i64 0,.nil,.nil,.nil]:List AV);letI z3:=(a+(1:Int)+(1:Int)+(1:Int)+(1:Int));letI z15:=([.view 1 n (waa v),.int .i64 z3]:List AV);letI z2:=(a+(1:Int)+(1:Int)+(1:Int));letI z1:=([.view 1 n (waa v),.int .i64 a]:List AV);letI z12:=(List.length [AObj.cells z1 (27:TypeId)]+1);letI z11:=(List.length [AObj.cells z1 (27:TypeId)]+1+1);letI z8:=(List.length [AObj.cells z1 (27:TypeId)]+1,.row 61 5 0 (wai (atR [])) false);letI z7:=(List.length [AObj.cells z1 (27:TypeId)]+1+1,.row 97 5 0 (wah (atT [])) false);letI z0:=([.str z13,.int .i64 ((1:Int)+wab n v (a+(1:Int)) (3:Int)),.int .i64 ((43860:Int)+wab n v z10 (6:Int)),.int .i64 ((1:Int)+wab n v z2 (3:Int)),.own 3 0,.own 4 0,.own 5 0]:List AV);(3≤16777216∧1=1∧3≤9223372036854775807)∧(27=27∧1=1∧waa v=waa (vInt (waa v))∧z6∧(0:Int)≤a∧a≤z14)∧((0:Int)≤wab n (vInt (waa v)) a (3:Int)∧wab n (vInt (waa v)) a (3:Int)<(↑3:Int))∧(Int.toNat (wab n (vInt (waa v)) a (3:Int))<3∧1=1)∧(27=27∧1=1∧waa v=waa (vInt (waa v))∧z6∧(0:Int)≤a+(1:Int)∧a+(1:Int)≤z14)∧inR .i64 ((1:Int)+wab n (vInt (waa v)) (a+(1:Int)) (3:Int))∧(27=27∧1=1∧waa v=waa (vInt (waa v))∧((1:Int)≤(6:Int)∧(6:Int)≤(1000000:Int))∧(0:Int)≤a+(1:Int)+(1:Int)∧a+(1:Int)+(1:Int)≤z14)∧inR .i64 ((43860:Int)+wab n (vInt (waa v)) z10 (6:Int))∧(27=27∧1=1∧waa v=waa (vInt (waa v))∧z6∧(0:Int)≤a+(1:Int)+(1:Int)+(1:Int)∧a+(1:Int)+(1:Int)+(1:Int)≤z14)∧inR .i64 ((1:Int)+wab n (vInt (waa v)) z2 (3:Int))∧(TEq z17 z17∧wae [(0,.cells z15 27),(1,.cells z4 49),(2,.cells [.str (List.getD [[(102:UInt8)],[(103:UInt8)],[(104:UInt8)]] (Int.toNat (wab n (vInt (waa v)) a (3:Int))) []),.int .i64 ((1:Int)+wab n (vInt (waa v)) (a+(1:Int)) (3:Int)),.int .i64 ((43860:Int)+wab n (vInt (waa v)) z10 (6:Int)),.int .i64 ((1:Int)+wab n (vInt (waa v)) z2 (3:Int)),.own 3 0,.own 4 0,.own 5 0] 49),(3,.row 40 15 0 (fun (_x:Nat)=>[]) false),(4,.row 61 5 0 (fun (_x:Nat)=>[]) false),(5,.row 97 5 0 (fun (_x:Nat)=>[]) false)] [(0,.cells z15 27),(1,.cells z4 49),(2,.cells z0 49),(3,.row 40 15 0 (wag (atM [])) false),(4,.row 61 5 0 (wai (atR [])) false),(5,.row 97 5 0 (wah (atT [])) false)])∧wad (decide ((1:Int)+wab n v z2 (3:Int)=(1:Int))) (27=27∧1=1∧waa v=waa (vInt (waa v))∧z9∧z16∧∀ (c:Nat) (g:Nat→MG) (a':Int),c≤Int.toNat (4:Int)→a+(1:Int)+(1:Int)+(1:Int)+(1:Int)≤a'∧a'≤a+(1:Int)+(1:Int)+(1:Int)+(1:Int)+(1000:Int)→(∀ (j:Nat),j<c→MG.Made (g j))→(∀ (i:Nat),i<c→true=true)∧(True∧True)∧(∀ (i:Nat),i<c→true=true)∧(∀ (i:Nat),i<0→true=true)∧(∀ (i:Nat),i<0→true=true)∧∃ (O':List (Nat×AObj)),wae [(0,.cells [.view 1 n (waa v),.int .i64 a'] 27),(1,.row 40 15 c (wag g) false),z8,z7] O'∧R (.agg [.str z13,.int .i64 1,.int .i64 ((43860:Int)+wab n v z10 (6:Int)),.int .i64 ((1:Int)+wab n v z2 (3:Int)),.own 1 c,.own z12 0,.own z11 0]) O') (wad (decide ((1:Int)+wab n v z2 (3:Int)=(2:Int))) (27=27∧1=1∧waa v=waa (vInt (waa v))∧z9∧z16∧∀ (c:Nat) (g:Nat→RW) (a':Int),c≤Int.toNat (4:Int)→a+(1:Int)+(1:Int)+(1:Int)+(1:Int)≤a'∧a'≤a+(1:Int)+(1:Int)+(1:Int)+(1:Int)+(600:Int)→(∀ (j:Nat),j<c→RW.Made (g j))→(∀ (i:Nat),i<c→true=true)∧(True∧True)∧(∀ (i:Nat),i<0→true=true)∧(∀ (i:Nat),i<c→true=true)∧(∀ (i:Nat),i<0→true=true)∧∃ (O':List (Nat×AObj)),wae [(0,.cells [.view 1 n (waa v),.int .i64 a'] 27),(1,.row 40 15 0 (wag (atM [])) false),(List.length [AObj.cells z1 (27:TypeId)]+1,.row 61 5 c (wai g) false),z7] O'∧R (.agg [.str z13,.int .i64 ((1:Int)+wab n v (a+(1:Int)) (3:Int)),.int .i64 ((43860:Int)+wab n v z10 (6:Int)),.int .i64 ((1:Int)+wab n v z2 (3:Int)),.own 1 0,.own z12 c,.own z11 0]) O') (wad (decide ((1:Int)+wab n v z2 (3:Int)=(3:Int))) ((27=27∧1=1∧waa v=waa (vInt (waa v))∧z6∧(0:Int)≤a+(1:Int)+(1:Int)+(1:Int)+(1:Int)∧a+(1:Int)+(1:Int)+(1:Int)+(1:Int)≤z14)∧(TEq [(0,.ptr 0 0),(2,.ptr 1 0),(3,.ptr 2 0),(35,.int .i64 (wab n (vInt (waa v)) z3 (3:Int))),(36,.int .i64 0)] [(0,.ptr 0 0),(2,.ptr 1 0),(3,.ptr 2 0),(35,.int .i64 (wab n v z3 (3:Int))),(36,.int .i64 (↑(List.length (FiS.ts (FiS.mk [] z5))):Int))]∧wae [(0,.cells [.view 1 n (waa v),.int .i64 z5] 27),(1,.cells z4 49),(2,.cells z0 49),(3,.row 40 15 0 (wag (atM [])) false),(4,.row 61 5 0 (wai (atR [])) false),(5,.row 97 5 0 (wah (atT [])) false)] [(0,.cells [.view 1 n (waa v),.int .i64 (FiS.a (FiS.mk [] z5))] 27),(1,.cells z4 49),(2,.cells z0 49),(3,.row 40 15 0 (wag (atM [])) false),(4,.row 61 5 0 (wai (atR [])) false),(5,.row 97 5 0 (wah (atT (FiS.ts (FiS.mk [] z5)))) false)])∧((0:Int)≤wab n v z3 (3:Int)∧wab n v z3 (3:Int)≤(2:Int))∧((0:Int)≤a+(1:Int)+(1:Int)+(1:Int)+(1:Int)+(1:Int)∧a+(1:Int)+(1:Int)+(1:Int)+(1:Int)+(1:Int)≤(4611686018427365000:Int))∧∀ (i:FiS),List.length (FiS.ts i)≤2→a+(1:Int)+(1:Int)+(1:Int)+(1:Int)+(1:Int)≤FiS.a i∧FiS.a i≤a+(1:Int)+(1:Int)+(1:Int)+(1:Int)+(1:Int)+(40:Int)→(∀ (t:RT),t∈FiS.ts i→RT.Tn t)→(True∧True)∧(∀ (i:Nat),i<0→true=true)∧(∀ (i:Nat),i<0→true=true)∧(∀ (i_1:Nat),i_1<List.length (FiS.ts i)→true=true)∧∃ (O':List (Nat×AObj)),wae [(0,.cells [.view 1 n (waa v),.int .i64 (FiS.a i)] 27),(1,.row 40 15 0 (wag (atM [])) false),z8,(List.length [AObj.cells z1 (27:TypeId)]+1+1,.row 97 5 (List.length (FiS.ts i)) (wah (atT (FiS.ts i))) false)] O'∧R (.agg [.str z13,.int .i64 ((1:Int)+wab n v (a+(1:Int)) (3:Int)),.int .i64 ((43860:Int)+wab n v z10 (6:Int)),.int .i64 ((1:Int)+wab n v z2 (3:Int)),.own 1 0,.own z12 0,.own z11 (List.length (FiS.ts i))]) O') ((True∧True)∧(∀ (i:Nat),i<0→true=true)∧(∀ (i:Nat),i<0→true=true)∧(∀ (i:Nat),i<0→true=true)∧∃ (O':List (Nat×AObj)),wae [(0,.cells z15 27),(1,.row 40 15 0 (wag (atM [])) false),z8,z7] O'∧R (.agg [.str z13,.int .i64 ((1:Int)+wab n v (a+(1:Int)) (3:Int)),.int .i64 ((43860:Int)+wab n v z10 (6:Int)),.int .i64 ((1:Int)+wab n v z2 (3:Int)),.own 1 0,.own z12 0,.own z11 0]) O')))):=by kernel_rfl
theorem nf_fl2 (n:Nat) (v:Nat→Int) (a:Int) (id:List UInt8) (ver day kind:Int) (Q:Exit→St→Prop):regP ⟨te,[],[],1,55,0⟩ (regC Tryz.f32 2) [0,2,3,20] Q (S_fl n v a id ver day kind [] [] [])=(letI z0:=(∀ (i:Nat),i<0→true=true:Prop);z0∧z0∧z0∧∃ (O':List (Nat×AObj)),wae [(0,.cells [.view 1 n (waa v),.int .i64 a] 27),(1,.cells [.str [],.int .i64 0,.int .i64 0,.int .i64 0,.nil,.nil,.nil] 49),(2,.cells [.str id,.int .i64 ver,.int .i64 day,.int .i64 kind,.own 3 0,.own 4 0,.own 5 0] 49),(3,.row 40 15 0 (wag (atM [])) false),(4,.row 61 5 0 (wai (atR [])) false),(5,.row 97 5 0 (wah (atT [])) false)] O'∧Q .normal (St.mk [(0,.ptr 0 0),(2,.ptr 1 0),(3,.ptr 2 0),(20,.int .i64 kind)] O' 6 [])):=by kernel_rfl
theorem wzz (n:Nat) (v:Nat→Int) (id:List UInt8) (ver day kind N:Int) (i:FiS) (P:FiS→Prop) (R:Exit→St→Prop):wa2 ⟨te,[(42,.det wba),(80,.det wc3),(81,.det wc2),(82,.det wln)],[],1,55,0⟩ (wa3 Tryz.f32 10) [0,2,3,35,36] [0,2,3] [] (wmx n v id ver day kind N) P R (wmx n v id ver day kind N i)=(letI z3:=List.length (FiS.ts i)+1;letI z2:=List.length (FiS.ts i);letI z1:=([.str [],.int .i64 0,.int .i64 0,.int .i64 0,.nil,.nil,.nil]:List AV);letI z0:=(FiS.a i+(1:Int)+(1:Int)+(1:Int));wad (decide ((↑z2:Int)<N)) ((27=27∧1=1∧waa v=waa (vInt (waa v))∧(0:Int)≤FiS.a i∧FiS.a i≤(4611686018427387000:Int))∧(27=27∧1=1∧waa v=waa (vInt (waa v))∧(0:Int)≤FiS.a i+(1:Int)∧FiS.a i+(1:Int)≤(4611686018427387000:Int))∧(27=27∧1=1∧waa v=waa (vInt (waa v))∧((1:Int)≤(4:Int)∧(4:Int)≤(1000000:Int))∧(0:Int)≤FiS.a i+(1:Int)+(1:Int)∧FiS.a i+(1:Int)+(1:Int)≤(4611686018427387904:Int))∧inR .i64 ((1440:Int)+wab n (vInt (waa v)) (FiS.a i+(1:Int)+(1:Int)) (4:Int))∧(27=27∧1=1∧waa v=waa (vInt (waa v))∧(0:Int)≤FiS.a i+(1:Int)+(1:Int)+(1:Int)∧FiS.a i+(1:Int)+(1:Int)+(1:Int)≤(4611686018427370000:Int))∧(5≤16777216∧5=5∧1≤9223372036854775807)∧((1≤1∧5=5)∧List.length (FiS.ts i)≤List.length (FiS.ts i)∧5=5∧97=97∧5=5∧List.length (FiS.ts i)+1≤9223372036854775807∧z3 * TI.bytes wfp≤140737488355328)∧inR .i64 ((↑z2:Int)+(1:Int))∧∃ (i':FiS),letI z4:=List.length (FiS.ts i');(TEq [(0,.ptr 0 0),(2,.ptr 1 0),(3,.ptr 2 0),(35,.int .i64 N),(36,.int .i64 ((↑z2:Int)+(1:Int)))] [(0,.ptr 0 0),(2,.ptr 1 0),(3,.ptr 2 0),(35,.int .i64 N),(36,.int .i64 (↑z4:Int))]∧wae [(0,.cells [.view 1 n (waa v),.int .i64 (tarA n (vInt (waa v)) z0)] 27),(1,.cells z1 49),(2,.cells [.str id,.int .i64 ver,.int .i64 day,.int .i64 kind,.own 3 0,.own 4 0,.own 5 z3] 49),(3,.row 40 15 0 (wag (atM [])) false),(4,.row 61 5 0 (wai (atR [])) false),(5,.row 97 5 z3 (apF z2 (wah (atT (FiS.ts i))) (waq (TI.sz wfp) (.str (outF (wab n (vInt (waa v)) (FiS.a i) (3:Int))):: .str (idF (wab n (vInt (waa v)) (FiS.a i+(1:Int)) (4:Int))):: .int .i64 ((1440:Int)+wab n (vInt (waa v)) (FiS.a i+(1:Int)+(1:Int)) (4:Int)):: .int .i64 (wab n (vInt (waa v)) z0 (500:Int)):: .view 2 (List.length (tarL n (vInt (waa v)) z0)) (wa0 (atB (tarL n (vInt (waa v)) z0)))::List.append [] (List.flatten (List.replicate (nat_lit 0) [.str ([]),.str ([]),.int .i64 0,.int .i64 0,.nil]))))) false)] [(0,.cells [.view 1 n (waa v),.int .i64 (FiS.a i')] 27),(1,.cells z1 49),(2,.cells [.str id,.int .i64 ver,.int .i64 day,.int .i64 kind,.own 3 0,.own 4 0,.own 5 z4] 49),(3,.row 40 15 0 (wag (atM [])) false),(4,.row 61 5 0 (wai (atR [])) false),(5,.row 97 5 z4 (wah (atT (FiS.ts i'))) false)])∧P i') ((∀ (i:Nat),i<0→true=true)∧(∀ (i:Nat),i<0→true=true)∧(∀ (i_1:Nat),i_1<List.length (FiS.ts i)→true=true)∧∃ (O':List (Nat×AObj)),wae [(0,.cells [.view 1 n (waa v),.int .i64 (FiS.a i)] 27),(1,.cells z1 49),(2,.cells [.str id,.int .i64 ver,.int .i64 day,.int .i64 kind,.own 3 0,.own 4 0,.own 5 z2] 49),(3,.row 40 15 0 (wag (atM [])) false),(4,.row 61 5 0 (wai (atR [])) false),(5,.row 97 5 z2 (wah (atT (FiS.ts i))) false)] O'∧R (.exit 1) (St.mk [(0,.ptr 0 0),(2,.ptr 1 0),(3,.ptr 2 0)] O' 6 []))):=by kernel_rfl
theorem wuq {α:Type} (g:Nat→α) (n:Nat) (d:α) {i:Nat} (h:i<n):(lst g n).getD i d=g i:=by
 simp [lst,List.getD_eq_getElem?_getD,List.getElem?_range h]
theorem we4 {α:Type} (g:Nat→α) (n:Nat):(lst g n).length=n:=by simp [lst]
theorem wty {α:Type} {g:Nat→α} {n:Nat} {p:α→Prop} (h:∀ j,j<n→p (g j)):∀ x∈lst g n,p x:=fun x hx=>by
 obtain ⟨i,hi,rfl⟩:=List.mem_map.1 hx
 exact h i (List.mem_range.1 hi)
theorem wey {α:Type} {p:α→Prop} {L:List α} {x:α} (h:∀ y∈L,p y) (hx:p x):∀ y∈L++[x],p y:=fun y hy=>by
 rcases List.mem_append.1 hy with q | q
 ·exact h y q
 ·rw [List.mem_singleton.1 q];exact hx
theorem wgu (i:Int):(fidF i).length≤24:=by
 unfold fidF
 match i.toNat with
 |0=>decide
 |1=>decide
 |2=>decide
 |n+3=>exact Nat.zero_le _
theorem fl2_ok (hP:C.P=Tryz.prog) (n:Nat) (v:Nat→Int) (a:Int) (id:List UInt8) (ver day kind:Int):waj C 1 55 (regC Tryz.f32 2) (woi n v a id ver day kind):=by
 have _:C.Loose:=inferInstance
 rintro st Q ⟨h0,hQ⟩
 refine AWP.ownNilP 3 4 40 15 (AWP.ownNilP 3 5 61 5 (AWP.ownNilP 3 6 97 5 ?_))
 refine waj.reg (S:=S_fl n v a id ver day kind [] [] []) (prg hP) [] 0 .nil [0,2,3] [0,2,3,20] h0 ?_ ⟨fun _ _=>rfl,fun _ _=>rfl,fun _ _=>rfl,trivial⟩
 rw [nf_fl2]
 exact ⟨fun _ _=>rfl,fun _ _=>rfl,fun _ _=>rfl,_,wan _,hQ⟩
theorem w18 (hP:C.P=Tryz.prog) (n:Nat) (v:Nat→Int) (a:Int) (id:List UInt8) (ver day kind N:Int):waj C 1 55 (wam Tryz.f32 10) (woh n v a id ver day kind N):=by
 rintro s Q ⟨h0,hN,ha,hQ⟩
 refine waj.mk (prg hP) [(42,.det wba),(80,.det wc3),(81,.det wc2),(82,.det wln)] 0 (.cons (wb7 hP) (.cons (wgl hP) (.cons (wgc hP) (.cons (ww3 hP) .nil)))) [0,2,3,35,36] [0,2,3] [] (wmx n v id ver day kind N)
  (fun i=>(i.ts.length:Int)≤N∧(a≤i.a∧i.a≤a+20 * i.ts.length)∧∀ t∈i.ts,t.Tn) (fun i=>N.toNat - i.ts.length) ⟨[],a⟩ ⟨by show (0:Int)≤N;omega,by show a≤a∧a≤a+20 * ((0:Nat):Int);omega,fun t ht=>(by cases ht)⟩ h0 (fun i hi=>?_) (fun i=>⟨fun _ _=>rfl,fun _ _=>rfl,fun _ _=>rfl,trivial⟩)
 obtain ⟨h1,h2,h3⟩:=hi
 have hw:vInt (waa v)=v:=rfl
 rw [wzz,hw]
 have r1:=wav (show (1:Int)≤4 by omega) n v (i.a+1+1)
 have r2:=wav (show (1:Int)≤500 by omega) n v (i.a+1+1+1)
 obtain ⟨t1,t2,t3⟩:=ww4 n v (i.a+1+1+1)
 have rw1:=wpc (wpb n v (i.a - 1)).1
 have e1:i.a - 1+1=i.a:=by omega
 have ho:(outF (wab n v i.a 3)).length≤100:=by rw [← e1];exact rw1.a
 have hp:(idF (wab n v (i.a+1) 4)).length≤100:=by rw [← e1];exact rw1.b
 have htn:(⟨outF (wab n v i.a 3),idF (wab n v (i.a+1) 4),1440+wab n v (i.a+1+1) 4,wab n v (i.a+1+1+1) 500,tarL n v (i.a+1+1+1)⟩:RT).Tn:=
  ⟨⟨by simp only [inR];omega,by simp only [inR];omega,by show (tarL n v (i.a+1+1+1)).length≤1000;omega,t2⟩,ho,hp⟩
 refine wak (fun q=>?_) (fun q=>⟨fun _ _=>rfl,fun _ _=>rfl,fun _ _=>rfl,_,wan _,hQ i (by omega) (by omega) h3⟩)
 refine ⟨⟨rfl,rfl,rfl,by omega,by omega⟩,⟨rfl,rfl,rfl,by omega,by omega⟩,⟨rfl,rfl,rfl,⟨by omega,by omega⟩,by omega,by omega⟩,by simp only [inR];omega,⟨rfl,rfl,rfl,by omega,by omega⟩,⟨by omega,rfl,by omega⟩,⟨⟨Nat.le_refl _,rfl⟩,Nat.le_refl _,rfl,rfl,rfl,by omega,?_⟩,by simp only [inR];omega,
  ⟨i.ts++[⟨outF (wab n v i.a 3),idF (wab n v (i.a+1) 4),1440+wab n v (i.a+1+1) 4,wab n v (i.a+1+1+1) 500,tarL n v (i.a+1+1+1)⟩],tarA n v (i.a+1+1+1)⟩,?_,⟨?_,?_,?_⟩,?_⟩
 ·show (i.ts.length+1) * 72≤_
  omega
 ·dsimp only
  rw [List.length_append]
  exact ⟨rfl,rfl,rfl,rfl,⟨rfl,rfl,rfl,rfl,rfl,fun _ _=>rfl⟩,⟨rfl,rfl,rfl,rfl,rfl,fun _ _=>rfl⟩,⟨rfl,rfl,rfl,rfl,rfl,wel (fun t:RT=>[.str t.o,.str t.p,.int .i64 t.per,.int .i64 t.st,.view 2 t.bs.length (wa0 (atB t.bs))]) whn i.ts _ _ rfl⟩,trivial⟩
 ·show ((i.ts++[_]).length:Int)≤N
  rw [List.length_append];simp;omega
 ·show a≤tarA n v (i.a+1+1+1)∧tarA n v (i.a+1+1+1)≤a+20 * ((i.ts++[_]).length:Int)
  rw [List.length_append];simp;omega
 ·intro t ht
  rcases List.mem_append.1 ht with ht | ht
  ·exact h3 t ht
  ·rw [List.mem_singleton.1 ht];exact htn
 ·show N.toNat - (i.ts++[_]).length<N.toNat - i.ts.length
  rw [List.length_append];simp;omega
theorem wuz (hP:C.P=Tryz.prog):wa7 C 32 wnm:=by
 rintro args objs R h
 unfold wnm at h
 split at h
 ·rename_i sz n f a t
  obtain ⟨rfl,rfl,hf,ha,hR⟩:=h
  rw [hf] at hR ⊢
  generalize vInt f=v at *
  have hw:vInt (waa v)=v:=rfl
  refine wa7.wpL (prg hP) [(42,.det wba),(59,.rel wnj),(79,.rel wnh)]
   [(1002,woi n v (a+1+1+1+1) (fidF (wab n v a 3)) (1+wab n v (a+1) 3) (43860+wab n v (a+1+1) 6) (1+wab n v (a+1+1+1) 3)),(10,woh n v (a+1+1+1+1+1) (fidF (wab n v a 3)) (1+wab n v (a+1) 3) (43860+wab n v (a+1+1) 6) (1+wab n v (a+1+1+1) 3) (wab n v (a+1+1+1+1) 3))] 0
   (.cons (wb7 hP) (.cons (msgs_ok hP) (.cons (rows_ok hP) .nil))) (hP ▸ Tryz.func32) rfl rfl rfl
   [(regC Tryz.f32 2,woi n v (a+1+1+1+1) (fidF (wab n v a 3)) (1+wab n v (a+1) 3) (43860+wab n v (a+1+1) 6) (1+wab n v (a+1+1+1) 3)),(wam Tryz.f32 10,woh n v (a+1+1+1+1+1) (fidF (wab n v a 3)) (1+wab n v (a+1) 3) (43860+wab n v (a+1+1) 6) (1+wab n v (a+1+1+1) 3) (wab n v (a+1+1+1+1) 3))] (by kernel_rfl)
   ⟨fl2_ok hP _ _ _ _ _ _ _,w18 hP _ _ _ _ _ _ _ _,trivial⟩ ?_
  rw [nf_file,hw]
  have r0:=wav (show (1:Int)≤3 by omega) n v a
  have r1:=wav (show (1:Int)≤3 by omega) n v (a+1)
  have r2:=wav (show (1:Int)≤6 by omega) n v (a+1+1)
  have r3:=wav (show (1:Int)≤3 by omega) n v (a+1+1+1)
  have r4:=wav (show (1:Int)≤3 by omega) n v (a+1+1+1+1)
  refine ⟨⟨by omega,rfl,by omega⟩,⟨rfl,rfl,rfl,⟨by omega,by omega⟩,by omega,by omega⟩,⟨r0.1,r0.2⟩,⟨by omega,rfl⟩,⟨rfl,rfl,rfl,⟨by omega,by omega⟩,by omega,by omega⟩,by simp only [inR];omega,⟨rfl,rfl,rfl,⟨by omega,by omega⟩,by omega,by omega⟩,by simp only [inR];omega,⟨rfl,rfl,rfl,⟨by omega,by omega⟩,by omega,by omega⟩,by simp only [inR];omega,
   ⟨rfl,rfl,rfl,rfl,⟨rfl,rfl,rfl,rfl,rfl,fun i hi=>absurd hi (Nat.not_lt_zero i)⟩,⟨rfl,rfl,rfl,rfl,rfl,fun i hi=>absurd hi (Nat.not_lt_zero i)⟩,⟨rfl,rfl,rfl,rfl,rfl,fun i hi=>absurd hi (Nat.not_lt_zero i)⟩,trivial⟩,?_⟩
  refine wak (fun q1=>?_) (fun q1=>wak (fun q2=>?_) (fun q2=>wak (fun q3=>?_) (fun q3=>absurd q3 (by omega))))
  ·refine ⟨rfl,rfl,rfl,⟨by omega,by omega⟩,⟨by omega,by omega⟩,fun c g a' hc ha' hg=>⟨fun _ _=>rfl,⟨trivial,trivial⟩,fun _ _=>rfl,fun _ _=>rfl,fun _ _=>rfl,[(0,.cells [.view 1 n (waa v),.int .i64 a'] 27),(1,.row 40 15 c (wag (atM (lst g c))) false),(2,.row 61 5 0 (wai (atR [])) false),(3,.row 97 5 0 (wah (atT [])) false)],?_,?_⟩⟩
   rotate_left
   ·have:=hR ⟨fidF (wab n v a 3),1,43860+wab n v (a+1+1) 6,1+wab n v (a+1+1+1) 3,lst g c,[],[]⟩ a' ⟨Nat.le_trans (wgu _) (by omega),by simp only [inR];omega,by simp only [inR];omega,⟨by rw [we4];omega,wty fun j hj=>wtj (hg j hj).ok⟩,⟨by simp,fun r hr=>(by cases hr)⟩,⟨by simp,fun r hr=>(by cases hr)⟩⟩ (by rw [we4];omega) (by simp) (by simp) ⟨wgu _,by show (lst g c).length≤4;rw [we4];omega,by show 0≤4;omega,by show 0≤2;omega,by show 1≤(1:Int)∧(1:Int)≤3;omega,by show 1≤1+_∧1+_≤(3:Int);omega,by show 43860≤43860+_∧43860+_≤(43865:Int);omega⟩ (by omega)
    dsimp only at this
    rw [we4] at this
    exact this
   ·exact ⟨rfl,⟨rfl,rfl,rfl,rfl,rfl,fun j hj=>by show mgC _=mgC _;rw [show atM (lst g c) j=g j from wuq g c _ hj]⟩,⟨rfl,rfl,rfl,rfl,rfl,fun _ _=>rfl⟩,⟨rfl,rfl,rfl,rfl,rfl,fun _ _=>rfl⟩,trivial⟩
  ·refine ⟨rfl,rfl,rfl,⟨by omega,by omega⟩,⟨by omega,by omega⟩,fun c g a' hc ha' hg=>⟨fun _ _=>rfl,⟨trivial,trivial⟩,fun _ _=>rfl,fun _ _=>rfl,fun _ _=>rfl,[(0,.cells [.view 1 n (waa v),.int .i64 a'] 27),(1,.row 40 15 0 (wag (atM [])) false),(2,.row 61 5 c (wai (atR (lst g c))) false),(3,.row 97 5 0 (wah (atT [])) false)],?_,?_⟩⟩
   rotate_left
   ·have:=hR ⟨fidF (wab n v a 3),1+wab n v (a+1) 3,43860+wab n v (a+1+1) 6,1+wab n v (a+1+1+1) 3,[],lst g c,[]⟩ a' ⟨Nat.le_trans (wgu _) (by omega),by simp only [inR];omega,by simp only [inR];omega,⟨by simp,fun r hr=>(by cases hr)⟩,⟨by rw [we4];omega,wty fun j hj=>wpc (hg j hj).ok⟩,⟨by simp,fun r hr=>(by cases hr)⟩⟩ (by simp) (by rw [we4];omega) (by simp) ⟨wgu _,by show 0≤4;omega,by show (lst g c).length≤4;rw [we4];omega,by show 0≤2;omega,by show 1≤1+_∧1+_≤(3:Int);omega,by show 1≤1+_∧1+_≤(3:Int);omega,by show 43860≤43860+_∧43860+_≤(43865:Int);omega⟩ (by omega)
    dsimp only at this
    rw [we4] at this
    exact this
   ·exact ⟨rfl,⟨rfl,rfl,rfl,rfl,rfl,fun _ _=>rfl⟩,⟨rfl,rfl,rfl,rfl,rfl,fun j hj=>by
     show wai g j=wai (atR (lst g c)) j
     unfold wai
     rw [show atR (lst g c) j=g j from wuq g c _ hj]⟩,⟨rfl,rfl,rfl,rfl,rfl,fun _ _=>rfl⟩,trivial⟩
  ·refine ⟨⟨rfl,rfl,rfl,⟨by omega,by omega⟩,by omega,by omega⟩,⟨rfl,rfl,rfl,rfl,⟨rfl,rfl,rfl,rfl,rfl,fun _ _=>rfl⟩,⟨rfl,rfl,rfl,rfl,rfl,fun _ _=>rfl⟩,⟨rfl,rfl,rfl,rfl,rfl,fun _ _=>rfl⟩,trivial⟩,⟨r4.1,by omega⟩,⟨by omega,by omega⟩,fun i hi hia hit=>⟨⟨trivial,trivial⟩,fun _ _=>rfl,fun _ _=>rfl,fun _ _=>rfl,_,wan _,?_⟩⟩
   exact hR ⟨fidF (wab n v a 3),1+wab n v (a+1) 3,43860+wab n v (a+1+1) 6,1+wab n v (a+1+1+1) 3,[],[],i.ts⟩ i.a ⟨Nat.le_trans (wgu _) (by omega),by simp only [inR];omega,by simp only [inR];omega,⟨by simp,fun r hr=>(by cases hr)⟩,⟨by simp,fun r hr=>(by cases hr)⟩,⟨by show i.ts.length≤1000;omega,hit⟩⟩ (by simp) (by simp) hi ⟨wgu _,by show 0≤4;omega,by show 0≤4;omega,hi,by show 1≤1+_∧1+_≤(3:Int);omega,by show 1≤1+_∧1+_≤(3:Int);omega,by show 43860≤43860+_∧43860+_≤(43865:Int);omega⟩ (by omega)
 ·exact h.elim
theorem wuy (hP:C.P=Tryz.prog):wa7 C 32 whk:=by
 rintro args objs R h
 unfold whk at h
 split at h
 ·rename_i sz n f a t
  obtain ⟨rfl,rfl,hf,ha,hR⟩:=h
  refine wal.frzO 3 (wal.frzO 2 (wal.frzO 1 (wuz hP _ _ _ ⟨rfl,rfl,hf,ha,fun F a' hF h1 h2 h3 hl ha'=>?_⟩)))
  have b1:Nat.ble F.ms.length F.ms.length=true:=Nat.ble_eq_true_of_le (Nat.le_refl _)
  have b2:Nat.ble F.rs.length F.rs.length=true:=Nat.ble_eq_true_of_le (Nat.le_refl _)
  have b3:Nat.ble F.ts.length F.ts.length=true:=Nat.ble_eq_true_of_le (Nat.le_refl _)
  refine ⟨fun _ _=>rfl,fun _ _=>rfl,fun _ _=>rfl,?_⟩
  have:=hR F a' hF hl ha'
  have c1:Nat.beq 2 1=false:=rfl
  have c2:Nat.beq 3 1=false:=rfl
  have c3:Nat.beq 3 2=false:=rfl
  simpa [frzC,frzA,frz,rm,b1,b2,b3,c1,c2,c3] using this
 ·exact h.elim
theorem wzf (n:Nat) (v:Nat→Int) (a:Int) (R:AV→List (Nat×AObj)→Prop):wpFn te [(42,.det wba),(80,.det wc3),(81,.det wc2),(88,.det whe),(89,.det wle)] [] 0 Tryz.f36 [.ptr 0 0] [.cells [.view 1 n (waa v),.int .i64 a] 27] R=(letI z7:=(devF (wab n (vInt (waa v)) a (3:Int)));letI z6:=((1:Int)≤(9:Int)∧(9:Int)≤(1000000:Int):Prop);letI z5:=(a+(1:Int)+(1:Int)+(1:Int)+(1:Int)+(1:Int));letI z4:=(4611686018427387904:Int);letI z3:=(4611686018427387000:Int);letI z2:=(a+(1:Int)+(1:Int)+(1:Int));letI z1:=(a+(1:Int)+(1:Int)+(1:Int)+(1:Int)+(1:Int)+(1:Int)+(1:Int));letI z0:=(visV n (vInt (waa v)) z2);(27=27∧1=1∧waa v=waa (vInt (waa v))∧(0:Int)≤a∧a≤z3)∧(27=27∧1=1∧waa v=waa (vInt (waa v))∧z6∧(0:Int)≤a+(1:Int)∧a+(1:Int)≤z4)∧inR .i64 ((1:Int)+wab n (vInt (waa v)) (a+(1:Int)) (9:Int))∧(27=27∧1=1∧waa v=waa (vInt (waa v))∧((1:Int)≤(5:Int)∧(5:Int)≤(1000000:Int))∧(0:Int)≤a+(1:Int)+(1:Int)∧a+(1:Int)+(1:Int)≤z4)∧wad (decide (wab n (vInt (waa v)) (a+(1:Int)+(1:Int)) (5:Int)=(0:Int))) ((27=27∧1=1∧waa v=waa (vInt (waa v))∧(0:Int)≤a+(1:Int)+(1:Int)+(1:Int)∧a+(1:Int)+(1:Int)+(1:Int)≤z3)∧(27=27∧1=1∧waa v=waa (vInt (waa v))∧(0:Int)≤a+(1:Int)+(1:Int)+(1:Int)+(1:Int)∧a+(1:Int)+(1:Int)+(1:Int)+(1:Int)≤z3)∧(27=27∧1=1∧waa v=waa (vInt (waa v))∧((1:Int)≤(4:Int)∧(4:Int)≤(1000000:Int))∧(0:Int)≤a+(1:Int)+(1:Int)+(1:Int)+(1:Int)+(1:Int)∧a+(1:Int)+(1:Int)+(1:Int)+(1:Int)+(1:Int)≤z4)∧inR .i64 ((1440:Int)+wab n (vInt (waa v)) z5 (4:Int))∧(27=27∧1=1∧waa v=waa (vInt (waa v))∧(0:Int)≤a+(1:Int)+(1:Int)+(1:Int)+(1:Int)+(1:Int)+(1:Int)∧a+(1:Int)+(1:Int)+(1:Int)+(1:Int)+(1:Int)+(1:Int)≤z3)∧(27=27∧1=1∧waa v=waa (vInt (waa v))∧z6∧(0:Int)≤a+(1:Int)+(1:Int)+(1:Int)+(1:Int)+(1:Int)+(1:Int)+(1:Int)∧a+(1:Int)+(1:Int)+(1:Int)+(1:Int)+(1:Int)+(1:Int)+(1:Int)≤z4)∧inR .i64 ((1:Int)+wab n (vInt (waa v)) z1 (9:Int))∧(True∧True)∧R (.agg [.str z7,.int .i64 ((1:Int)+wab n (vInt (waa v)) (a+(1:Int)) (9:Int)),.int .i64 2,.str [],.str [],.int .i64 0,.int .i64 0,.int .i64 0,.int .i64 0,.str [],.str (outF (wab n (vInt (waa v)) z2 (3:Int))),.str (idF (wab n (vInt (waa v)) (a+(1:Int)+(1:Int)+(1:Int)+(1:Int)) (4:Int))),.int .i64 ((1440:Int)+wab n (vInt (waa v)) z5 (4:Int)),.str (devF (wab n (vInt (waa v)) (a+(1:Int)+(1:Int)+(1:Int)+(1:Int)+(1:Int)+(1:Int)) (3:Int))),.int .i64 ((1:Int)+wab n (vInt (waa v)) z1 (9:Int))]) [(0,.cells [.view 1 n (waa v),.int .i64 (a+(1:Int)+(1:Int)+(1:Int)+(1:Int)+(1:Int)+(1:Int)+(1:Int)+(1:Int))] 27)]) ((27=27∧1=1∧waa v=waa (vInt (waa v))∧(0:Int)≤a+(1:Int)+(1:Int)+(1:Int)∧a+(1:Int)+(1:Int)+(1:Int)≤(4611686018427386000:Int))∧(True∧True)∧R (.agg [.str z7,.int .i64 ((1:Int)+wab n (vInt (waa v)) (a+(1:Int)) (9:Int)),.int .i64 1,.str (VT.o z0),.str (VT.p z0),.int .i64 (VT.per z0),.int .i64 (VT.day z0),.int .i64 (VT.st z0),.int .i64 (VT.pr z0),.str (VT.rep z0),.str [],.str [],.int .i64 0,.str [],.int .i64 0]) [(0,.cells [.view 1 n (waa v),.int .i64 (visA n (vInt (waa v)) z2)] 27)])):=by kernel_rfl
theorem wwp (n:Nat) (v:Nat→Int) (a:Int):(visV n v a).Made∧(a≤visA n v a∧visA n v a≤a+7):=by
 have r1:=wav (show (1:Int)≤3 by omega) n v a
 have r2:=wav (show (1:Int)≤4 by omega) n v (a+1)
 have r3:=wav (show (1:Int)≤4 by omega) n v (a+1+1)
 have r4:=wav (show (1:Int)≤100 by omega) n v (a+1+1+1)
 have r5:=wav (show (1:Int)≤7 by omega) n v (a+1+1+1+1)
 have r6:=wav (show (1:Int)≤4 by omega) n v (a+1+1+1+1+1)
 have hst:=stF (wab n v (a+1+1+1+1) 7).toNat (by omega)
 have ho:=wh4 (wab n v a 3).toNat (by omega)
 unfold visV visA
 have hs:1≤wew n v a∧wew n v a≤5:=hst
 generalize wew n v a=st at hs ⊢
 refine ⟨⟨wro ho.1 (wd1 _) (by omega) (by omega) ?_,ho.2⟩,?_⟩
 ·by_cases s5:st=5
  ·subst s5
   refine .inr (.inr ⟨rfl,by show (1:Int)≤100+_∧(100:Int)+_≤_;omega,?_⟩)
   show wbg (bif decide _ then idF 4 else _)=true∧¬ (bif decide _ then idF 4 else _)=_
   by_cases q:idF (wab n v (a+1+1+1+1+1+1) 4)=idF (wab n v (a+1) 4)
   ·rw [decide_eq_true q];exact ⟨wd1 _,wkf r2⟩
   ·rw [decide_eq_false q];exact ⟨wd1 _,q⟩
  ·have e5:wds st (idF (wab n v (a+1) 4)) (idF (wab n v (a+1+1+1+1+1+1) 4))=[]:=by unfold wds;rw [decide_eq_false s5];rfl
   rw [e5]
   by_cases s3:st=3∨st=4
   ·refine .inr (.inl ⟨s3,?_,rfl⟩)
    unfold wdh
    rcases s3 with s3 | s3<;>simp [s3]
   ·refine .inl ⟨by omega,?_,rfl⟩
    have:wdh st (100+wab n v (a+1+1+1+1+1) 4 * 5)=100+wab n v (a+1+1+1+1+1) 4 * 5:=by
     unfold wdh
     rw [decide_eq_false (show ¬ st=3 by omega),decide_eq_false (show ¬ st=4 by omega)];rfl
    rw [this];omega
 ·unfold wej
  cases decide (st=3) || decide (st=4)<;>cases decide (st=5)<;>simp only [cond_true,cond_false]<;>omega
theorem visX_ok (hP:C.P=Tryz.prog):waf C 89 wle:=by
 rintro args objs U Os vc h hvc
 unfold wle at h
 split at h<;>simp only [Option.some.injEq,Prod.mk.injEq,reduceCtorEq] at h
 rename_i sz n f a t
 obtain ⟨rfl,rfl,rfl⟩:=h
 obtain ⟨rfl,rfl,hf,ha⟩:=hvc
 rw [hf]
 generalize vInt f=v
 have hw:vInt (waa v)=v:=rfl
 refine waf.wp0 (prg hP) [(42,.det wba),(80,.det wc3),(81,.det wc2),(43,.det S_id)] 3 (.cons (wb7 hP) (.cons (wgl hP) (.cons (wgc hP) (.cons (wke hP) .nil)))) (hP ▸ Tryz.func89) rfl rfl rfl ?_
 rw [wtb,hw]
 have r1:=wav (show (1:Int)≤3 by omega) n v a
 have r2:=wav (show (1:Int)≤4 by omega) n v (a+1)
 have r3:=wav (show (1:Int)≤4 by omega) n v (a+1+1)
 have r4:=wav (show (1:Int)≤100 by omega) n v (a+1+1+1)
 have r5:=wav (show (1:Int)≤7 by omega) n v (a+1+1+1+1)
 have r6:=wav (show (1:Int)≤4 by omega) n v (a+1+1+1+1+1)
 have hst:=stF (wab n v (a+1+1+1+1) 7).toNat (by omega)
 unfold visV visA wew
 refine ⟨⟨rfl,rfl,rfl,by omega,by omega⟩,⟨rfl,rfl,rfl,by omega,by omega⟩,⟨rfl,rfl,rfl,⟨by omega,by omega⟩,by omega,by omega⟩,by simp only [inR];omega,⟨rfl,rfl,rfl,⟨by omega,by omega⟩,by omega,by omega⟩,by simp only [inR];omega,⟨by omega,rfl,by omega⟩,⟨rfl,rfl,rfl,⟨by omega,by omega⟩,by omega,by omega⟩,⟨by omega,by omega⟩,⟨by omega,rfl⟩,?_⟩
 generalize 1+List.getD [(0:Int),0,0,1,2,3,4] (wab n v (a+1+1+1+1) 7).toNat 0=st at *
 have key:∀ (pr:Int) (rep:List UInt8) (a':Int),pr=wdh st (100+wab n v (a+1+1+1+1+1) 4 * 5)→rep=wds st (idF (wab n v (a+1) 4)) (idF (wab n v (a+1+1+1+1+1+1) 4))→a'=wej st (a+1+1+1+1+1)→
   (AV.agg [.str (outF (wab n v a 3)),.str (idF (wab n v (a+1) 4)),.int .i64 (1440+wab n v (a+1+1) 4),.int .i64 (43830+wab n v (a+1+1+1) 100),.int .i64 st,.int .i64 pr,.str rep]=AV.agg [.str (outF (wab n v a 3)),.str (idF (wab n v (a+1) 4)),.int .i64 (1440+wab n v (a+1+1) 4),.int .i64 (43830+wab n v (a+1+1+1) 100),.int .i64 st,.int .i64 (wdh st (100+wab n v (a+1+1+1+1+1) 4 * 5)),.str (wds st (idF (wab n v (a+1) 4)) (idF (wab n v (a+1+1+1+1+1+1) 4)))]∧
   ([(0,.cells [.view 1 n (waa v),.int .i64 a'] 27)]:List (Nat×AObj))=[(0,.cells [.view 1 n (waa v),.int .i64 (wej st (a+1+1+1+1+1))] 27)]):=fun pr rep a' h1 h2 h3=>by rw [h1,h2,h3];exact ⟨rfl,rfl⟩
 refine ⟨by simp only [inR];omega,wca (fun s3=>wca (fun s4=>⟨⟨rfl,rfl,rfl,⟨by omega,by omega⟩,by omega,by omega⟩,by simp only [inR];omega,by simp only [inR];omega,wak (fun s5=>⟨⟨rfl,rfl,rfl,by omega,by omega⟩,wak (fun q=>⟨trivial,wak (fun q'=>absurd q' (wkf r2)) (fun q'=>⟨⟨trivial,trivial⟩,?_⟩)⟩) (fun q=>⟨⟨trivial,trivial⟩,?_⟩)⟩) (fun s5=>⟨⟨trivial,trivial⟩,?_⟩)⟩)
  (fun s4=>wak (fun s5=>absurd s5 (by omega)) (fun s5=>⟨⟨trivial,trivial⟩,?_⟩))) (fun s3=>wak (fun s5=>absurd s5 (by omega)) (fun s5=>⟨⟨trivial,trivial⟩,?_⟩))⟩
 ·refine key _ (idF 4) _ ?_ ?_ ?_
  ·simp [wdh,s3,s4]
  ·unfold wds
   rw [decide_eq_true s5,decide_eq_true q];rfl
  ·simp [wej,s5]
 ·refine key _ _ _ ?_ ?_ ?_
  ·simp [wdh,s3,s4]
  ·unfold wds
   rw [decide_eq_true s5,decide_eq_false q];rfl
  ·simp [wej,s5]
 ·refine key _ _ _ ?_ ?_ ?_
  ·simp [wdh,s3,s4]
  ·unfold wds
   rw [decide_eq_false s5];rfl
  ·simp [wej,s3,s4,s5]
 ·refine key _ _ _ ?_ ?_ ?_
  ·simp [wdh,s4]
  ·unfold wds
   rw [decide_eq_false s5];rfl
  ·simp [wej,s4]
 ·refine key _ _ _ ?_ ?_ ?_
  ·simp [wdh,s3]
  ·unfold wds
   rw [decide_eq_false s5];rfl
  ·simp [wej,s3]
theorem w0s (n:Nat) (v:Nat→Int) (a:Int):(msgV n v a).Made∧(a≤msgA n v a∧msgA n v a≤a+10):=by
 have r1:=wav (show (1:Int)≤3 by omega) n v a
 have r2:=wav (show (1:Int)≤9 by omega) n v (a+1)
 have r4:=wav (show (1:Int)≤3 by omega) n v (a+1+1+1)
 have r6:=wav (show (1:Int)≤4 by omega) n v (a+1+1+1+1+1)
 have r7:=wav (show (1:Int)≤3 by omega) n v (a+1+1+1+1+1+1)
 have r8:=wav (show (1:Int)≤9 by omega) n v (a+1+1+1+1+1+1+1)
 have hd:=wkx (wab n v a 3).toNat (by omega)
 have ho:=wh4 (wab n v (a+1+1+1) 3).toNat (by omega)
 have hd':=wkx (wab n v (a+1+1+1+1+1+1) 3).toNat (by omega)
 obtain ⟨hx,h1,h2⟩:=wwp n v (a+1+1+1)
 unfold msgV msgA
 cases decide (wab n v (a+1+1) 5=0) with
 |true=>exact ⟨⟨wti hd.1 (by omega) (wr9 ho.1 (wd1 _) (by omega)) hd'.1 (by omega),hd.2,Nat.zero_le _,ho.2,hd'.2⟩,by simp only [cond_true];omega⟩
 |false=>exact ⟨⟨wth hd.1 (by omega) hx.ok,hd.2,hx.o,Nat.zero_le _,Nat.zero_le _⟩,by simp only [cond_false];omega⟩
theorem w0u (hP:C.P=Tryz.prog):waf C 36 wl9:=by
 rintro args objs U Os vc h hvc
 unfold wl9 at h
 split at h<;>simp only [Option.some.injEq,Prod.mk.injEq,reduceCtorEq] at h
 rename_i sz n f a t
 obtain ⟨rfl,rfl,rfl⟩:=h
 obtain ⟨rfl,rfl,hf,ha⟩:=hvc
 rw [hf]
 generalize vInt f=v
 have hw:vInt (waa v)=v:=rfl
 refine waf.wp0 (prg hP) [(42,.det wba),(80,.det wc3),(81,.det wc2),(88,.det whe),(89,.det wle)] 0 (.cons (wb7 hP) (.cons (wgl hP) (.cons (wgc hP) (.cons (wvl hP) (.cons (visX_ok hP) .nil))))) (hP ▸ Tryz.func36) rfl rfl rfl ?_
 rw [wzf,hw]
 have r2:=wav (show (1:Int)≤9 by omega) n v (a+1)
 have r6:=wav (show (1:Int)≤4 by omega) n v (a+1+1+1+1+1)
 have r8:=wav (show (1:Int)≤9 by omega) n v (a+1+1+1+1+1+1+1)
 unfold msgV msgA
 refine ⟨⟨rfl,rfl,rfl,by omega,by omega⟩,⟨rfl,rfl,rfl,⟨by omega,by omega⟩,by omega,by omega⟩,by simp only [inR];omega,⟨rfl,rfl,rfl,⟨by omega,by omega⟩,by omega,by omega⟩,wak (fun q=>⟨⟨rfl,rfl,rfl,by omega,by omega⟩,⟨rfl,rfl,rfl,by omega,by omega⟩,⟨rfl,rfl,rfl,⟨by omega,by omega⟩,by omega,by omega⟩,by simp only [inR];omega,⟨rfl,rfl,rfl,by omega,by omega⟩,⟨rfl,rfl,rfl,⟨by omega,by omega⟩,by omega,by omega⟩,by simp only [inR];omega,⟨trivial,trivial⟩,?_⟩)
  (fun q=>⟨⟨rfl,rfl,rfl,by omega,by omega⟩,⟨trivial,trivial⟩,?_⟩)⟩
 ·rw [decide_eq_true q];exact ⟨rfl,rfl⟩
 ·rw [decide_eq_false q];exact ⟨rfl,rfl⟩
end Go.Eng
