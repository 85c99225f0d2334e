/- The tape's tariffs and files. -/
import Derived.Test.YtgcboligphndhaaGreatDoorZx
namespace Go.Eng
open Go.Proofs Go.RowKit
variable {C:Ctx} [C.Loose]
set_option maxRecDepth 20000
theorem nf_rws(n:Nat)(v:Nat->Int)(a most:Int)(R:oR7):wpFn te [(37,.det wf0),(42,.det wbd)] [(3,wo6 n v (a+1) (wab n v a (most+1)))] 0 Tryz.f79 [.ptr 0 0,.q most] [.cells [.view 1 n (wad v),.q a] 27] R=(letI z1:=(most+1);letI z0:=(RwS.mk 0 (λ(_x:Nat)=>default) (a+1));inR .i64 z1/\(27=27/\1=1/\wad v=wad (vInt (wad v))/\((1:Int)<=most+1/\most+1<=1000000)/\(0:Int)<=a/\a<=4611686018427387904)/\(TEq [(0,.ptr 0 0),(5,.own 1 0),(9,.q (wab n (vInt (wad v)) a z1)),(10,.q 0)] [(0,.ptr 0 0),(5,.own 1 0),(9,.q (wab n v a z1)),(10,.q (z0.c:Int))]/\wae [(0,.cells [.view 1 n (wad v),.q (a+1)] 27),(1,.row 61 5 0 (λ(_x:Nat)=>[]) false)] [(0,.cells [.view 1 n (wad v),.q z0.a] 27),(1,.row 61 5 0 (wah z0.g) false)])/\((0:Int)<=wab n v a z1/\wab n v a z1<=100)/\((0:Int)<=a+1/\a+1<=4611686018427375000)/\∀(i:RwS),i.c=(wab n v a z1).toNat->i.a=a+1+6 * (i.c:Int)->(∀(j:Nat),j<i.c->RW.Made (RwS.g i j))->(∀(i_1:Nat),i_1<i.c->true=true)/\∃(O':oL7),wae [(0,.cells [.view 1 n (wad v),.q i.a] 27),(1,.row 61 5 i.c (wah i.g) false)] O'/\R (.own 1 i.c) O'):=by kernel_rfl
theorem w1i(n:Nat)(v:Nat->Int)(N:Int)(i:RwS)(P:RwS->Prop)(R:eR7):wau ⟨te,[(37,.det wf0)],[],1,19,0⟩ (wax Tryz.f79 3) [0,5,9,10] [5] [] (wmp n v N) P R (wmp n v N i)=(letI z0:=rowV n (vInt (wad v)) i.a;wac (decide ((i.c:Int)<N)) ((27=27/\1=1/\wad v=wad (vInt (wad v))/\(0:Int)<=i.a/\i.a<=4611686018427380000)/\(5<=16777216/\5=5/\1<=9223372036854775807)/\((1<=1/\5=5)/\i.c<=i.c/\5=5/\61=61/\5=5/\i.c+1<=9223372036854775807/\(i.c+1) * TI.bytes wc9<=140737488355328)/\inR .i64 ((i.c:Int)+1)/\∃(i':RwS),(TEq [(0,.ptr 0 0),(5,.own 1 (i.c+1)),(9,.q N),(10,.q ((i.c:Int)+1))] [(0,.ptr 0 0),(5,.own 1 i'.c),(9,.q N),(10,.q (i'.c:Int))]/\wae [(0,.cells [.view 1 n (wad v),.q (i.a+1+1+1+1+1+1)] 27),(1,.row 61 5 (i.c+1) (apF i.c (wah i.g) (wap (TI.sz wc9) (.str z0.o:: .str z0.p:: .q z0.per:: .q z0.u:: .q z0.tv::List.append [] wff))) false)] [(0,.cells [.view 1 n (wad v),.q i'.a] 27),(1,.row 61 5 i'.c (wah i'.g) false)])/\P i') ((∀(i_1:Nat),i_1<i.c->true=true)/\∃(O':oL7),wae [(0,.cells [.view 1 n (wad v),.q i.a] 27),(1,.row 61 5 i.c (wah i.g) false)] O'/\R (.exit 0) (St.mk [(5,.own 1 i.c)] O' 2 []))):=by kernel_rfl
theorem put_ap(g:Nat->RW)(k:Nat)(r:RW)(ch:Nat->List AV)(hch:ch 0=[.str r.o,.str r.p,.q r.per,.q r.u,.q r.tv])(j:Nat)(hj:j<k+1):apF k (wah g) ch j=wah (RW.put g k r) j:=by
 unfold apF wah RW.put
 by_cases h:j<k
 ·rw[if_pos h,if_pos h]
 ·have:j=k:=by omega
  rw[if_neg h,if_neg h,this,Nat.sub_self,hch]
theorem w34(n:Nat)(v:Nat->Int)(a:Int):(rowV n v a).Made:=by
 obtain⟨b1,b2,b3,b4⟩:=wum n v a;obtain⟨c1,c2⟩:=wqx n v a;exact⟨c1,c2,⟨b1,b2⟩,by omega,by omega⟩
theorem wzj(hP:C.P=Tryz.prog)(n:Nat)(v:Nat->Int)(a N:Int):waj C 1 19 (wal Tryz.f79 3) (wo6 n v a N):=by
 rintro st Q ⟨h0,hN,ha,hQ⟩;refine AWP.ownNil 5 61 5 ?_
 refine waj.mk (prg hP) [(37,.det wf0)] 0 (.cons (wqk hP) .nil) [0,5,9,10] [5] [] (wmp n v N) (λi=>(i.c:Int)<=N/\i.a=a+6 * i.c/\∀j,j<i.c->(i.g j).Made) (λi=>N.toNat - i.c) ⟨0,λ_=>default,a⟩
  ⟨hN.1,by show a=a+6 * ((0:Nat):Int);omega,λj hj=>absurd hj (nZ7 j)⟩ h0 (λi hi=>?_) (λi=>⟨λ_ _=>rfl,trivial⟩)
 obtain⟨h1,h2,h3⟩:=hi;have hw:vInt (wad v)=v:=rfl;rw[w1i,hw];refine wak (λq=>?_) (λq=>⟨λ_ _=>rfl,_,wam _,hQ i (by omega) h2 h3⟩);refine⟨⟨rfl,rfl,rfl,by omega,by omega⟩,⟨by omega,rfl,by omega⟩,⟨⟨lR7 _,rfl⟩,lR7 _,rfl,rfl,rfl,by omega,?_⟩,by simp only[inR];omega,⟨i.c+1,RW.put i.g i.c (rowV n v i.a),i.a+1+1+1+1+1+1⟩,⟨rfl,rfl,⟨rfl,rfl,rfl,rfl,rfl,λj hj=>?_⟩,trivial⟩,⟨?_,?_,λj hj=>?_⟩,?_⟩
 ·show (i.c+1) * 56<=_;omega
 ·exact put_ap i.g i.c _ _ rfl j hj
 ·show ((i.c+1:Nat):Int)<=N;omega
 ·show i.a+1+1+1+1+1+1=a+6 * ((i.c+1:Nat):Int);omega
 ·show (RW.put i.g i.c (rowV n v i.a) j).Made;unfold RW.put
  by_cases h:j<i.c
  ·rw[if_pos h];exact h3 j h
  ·rw[if_neg h];exact w34 n v i.a
 ·show N.toNat - (i.c+1)<N.toNat - i.c;omega
theorem rows_ok(hP:C.P=Tryz.prog):wa5 C 79 wom:=by
 rintro args objs R h;unfold wom at h;split at h
 ·rename_i most sz n f a t;obtain⟨rfl,rfl,hf,ha,hm,hR⟩:=h;rw[hf] at hR ⊢;generalize vInt f=v at *;have hw:vInt (wad v)=v:=rfl;refine wa5.wpL (prg hP) [(37,.det wf0),(42,.det wbd)] [(3,wo6 n v (a+1) (wab n v a (most+1)))] 0 (.cons (wqk hP) (.cons (wce hP) .nil)) (hP ▸ Tryz.func79) rfl rfl rfl [(wal Tryz.f79 3,wo6 n v (a+1) (wab n v a (most+1)))] (by kernel_rfl) ⟨wzj hP _ _ _ _,trivial⟩ ?_;rw[nf_rws,hw];have r:=waw (show (1:Int)<=most+1 by omega) n v a;exact⟨by simp only[inR];omega,⟨rfl,rfl,rfl,⟨by omega,by omega⟩,by omega,by omega⟩,⟨rfl,rfl,⟨rfl,rfl,rfl,rfl,rfl,λi hi=>absurd hi (nZ7 i)⟩,trivial⟩,⟨by omega,by omega⟩,⟨by omega,by omega⟩,λi h1 h2 h3=>⟨λ_ _=>rfl,_,wam _,hR i.c i.g i.a (by omega) ⟨by omega,by omega⟩ h3⟩⟩
 ·exact h.elim
theorem w26(n:Nat)(v:Nat->Int)(a:Int)(R:oR7):wpFn te [(42,.det wbd)] [] 0 Tryz.f88 [.ptr 0 0] [.cells [.view 1 n (wad v),.q a] 27] R=(letI z0:=vInt (wad v);(3<=16777216/\1=1/\3<=9223372036854775807)/\(27=27/\1=1/\wad v=wad z0/\((1:Int)<=3/\(3:Int)<=1000000)/\(0:Int)<=a/\a<=4611686018427387904)/\((0:Int)<=wab n z0 a (3:Int)/\wab n z0 a (3:Int)<(↑3:Int))/\((wab n z0 a (3:Int)).toNat<3/\1=1)/\R (.str (List.getD [[(97:UInt8)],[(98:UInt8)],[(99:UInt8)]] (wab n z0 a (3:Int)).toNat [])) [(0,.cells [.view 1 n (wad v),.q (a+1)] 27)]):=by kernel_rfl
theorem wu9(n:Nat)(v:Nat->Int)(a:Int)(R:oR7):wpFn te [(42,.det wbd),(80,.det wdf),(81,.det wde),(43,.det S_id)] [] 3 Tryz.f89 [.ptr 0 0] [.cells [.view 1 n (wad v),.q a] 27] R=(letI z20:=((1:Int)<=4/\(4:Int)<=1000000:Prop);letI z19:=4611686018427387904;letI z18:=4611686018427387000;letI z16:=((48:Int)+(cdF (id7 (4:Int))).1).toNat;letI z14:=([(0,.cells [.view 1 n (wad v),.q (a+1+1+1+1+1+1+1)] 27)]:oL7);letI z12:=(a+1+1);letI z11:=(a+1+1+1+1);letI z10:=(a+1+1+1);letI z9:=(idV (4:Int));letI z7:=(a+1+1+1+1+1+1);letI z17:=([(0,.cells [.view 1 n (wad v),.q z7] 27)]:oL7);letI z6:=(a+1+1+1+1+1);letI z5:=vInt (wad v);letI z13:=(outF (wab n z5 a (3:Int)));letI z8:=(wab n z5 (a+1) (4:Int));letI z4:=(wab n z5 z11 (7:Int)).toNat;letI z15:=(decide ((1:Int)+List.getD [(0:Int),(0:Int),(0:Int),(1:Int),(2:Int),(3:Int),(4:Int)] z4 (0:Int)=5));letI z3:=((True/\True)/\R (.agg [.str z13,.str (idF z8),.q ((1440:Int)+wab n z5 z12 (4:Int)),.q ((43830:Int)+wab n z5 z10 (100:Int)),.q ((1:Int)+List.getD [(0:Int),(0:Int),(0:Int),(1:Int),(2:Int),(3:Int),(4:Int)] z4 (0:Int)),.q 0,.str [(λ(i:Nat)=>UInt8.ofNat (war (List.headD (wbb z9 i) .any)).toNat) (nat_lit 0),(λ(i:Nat)=>UInt8.ofNat (war (List.headD (wbb z9 i) .any)).toNat) (nat_lit 1),(λ(i:Nat)=>UInt8.ofNat (war (List.headD (wbb z9 i) .any)).toNat) (nat_lit 2),(λ(i:Nat)=>UInt8.ofNat (war (List.headD (wbb z9 i) .any)).toNat) (nat_lit 3),(λ(i:Nat)=>UInt8.ofNat (war (List.headD (wbb z9 i) .any)).toNat) (nat_lit 4),(λ(i:Nat)=>UInt8.ofNat (war (List.headD (wbb z9 i) .any)).toNat) (nat_lit 5),(λ(i:Nat)=>UInt8.ofNat (war (List.headD (wbb z9 i) .any)).toNat) (nat_lit 6),UInt8.ofNat z16]]) z17:Prop);letI z2:=((True/\True)/\R (.agg [.str z13,.str (idF z8),.q ((1440:Int)+wab n z5 z12 (4:Int)),.q ((43830:Int)+wab n z5 z10 (100:Int)),.q ((1:Int)+List.getD [(0:Int),(0:Int),(0:Int),(1:Int),(2:Int),(3:Int),(4:Int)] z4 (0:Int)),.q ((100:Int)+wab n z5 z6 (4:Int) * (5:Int)),.str [(λ(i:Nat)=>UInt8.ofNat (war (List.headD (wbb z9 i) .any)).toNat) (nat_lit 0),(λ(i:Nat)=>UInt8.ofNat (war (List.headD (wbb z9 i) .any)).toNat) (nat_lit 1),(λ(i:Nat)=>UInt8.ofNat (war (List.headD (wbb z9 i) .any)).toNat) (nat_lit 2),(λ(i:Nat)=>UInt8.ofNat (war (List.headD (wbb z9 i) .any)).toNat) (nat_lit 3),(λ(i:Nat)=>UInt8.ofNat (war (List.headD (wbb z9 i) .any)).toNat) (nat_lit 4),(λ(i:Nat)=>UInt8.ofNat (war (List.headD (wbb z9 i) .any)).toNat) (nat_lit 5),(λ(i:Nat)=>UInt8.ofNat (war (List.headD (wbb z9 i) .any)).toNat) (nat_lit 6),UInt8.ofNat z16]]) z14:Prop);letI z1:=(decide ([(λ(i:Nat)=>UInt8.ofNat (war (List.headD (wbb z9 i) .any)).toNat) (nat_lit 0),(λ(i:Nat)=>UInt8.ofNat (war (List.headD (wbb z9 i) .any)).toNat) (nat_lit 1),(λ(i:Nat)=>UInt8.ofNat (war (List.headD (wbb z9 i) .any)).toNat) (nat_lit 2),(λ(i:Nat)=>UInt8.ofNat (war (List.headD (wbb z9 i) .any)).toNat) (nat_lit 3),(λ(i:Nat)=>UInt8.ofNat (war (List.headD (wbb z9 i) .any)).toNat) (nat_lit 4),(λ(i:Nat)=>UInt8.ofNat (war (List.headD (wbb z9 i) .any)).toNat) (nat_lit 5),(λ(i:Nat)=>UInt8.ofNat (war (List.headD (wbb z9 i) .any)).toNat) (nat_lit 6),UInt8.ofNat z16]=idF z8));letI z0:=(wac z15 ((27=27/\1=1/\wad v=wad z5/\(0:Int)<=a+1+1+1+1+1/\a+1+1+1+1+1<=z18)/\wac (decide (idF (wab n z5 z6 (4:Int))=idF z8)) (True/\wac z1 (True/\wac z1 (True/\False) z3) z3) ((True/\True)/\R (.agg [.str z13,.str (idF z8),.q ((1440:Int)+wab n z5 z12 (4:Int)),.q ((43830:Int)+wab n z5 z10 (100:Int)),.q ((1:Int)+List.getD [(0:Int),(0:Int),(0:Int),(1:Int),(2:Int),(3:Int),(4:Int)] z4 (0:Int)),.q 0,.str (idF (wab n z5 z6 (4:Int)))]) z17)) ((True/\True)/\R (.agg [.str z13,.str (idF z8),.q ((1440:Int)+wab n z5 z12 (4:Int)),.q ((43830:Int)+wab n z5 z10 (100:Int)),.q ((1:Int)+List.getD [(0:Int),(0:Int),(0:Int),(1:Int),(2:Int),(3:Int),(4:Int)] z4 (0:Int)),.q 0,.str []]) [(0,.cells [.view 1 n (wad v),.q z6] 27)]));(27=27/\1=1/\wad v=wad z5/\(0:Int)<=a/\a<=z18)/\(27=27/\1=1/\wad v=wad z5/\(0:Int)<=a+1/\a+1<=z18)/\(27=27/\1=1/\wad v=wad z5/\z20/\(0:Int)<=a+1+1/\a+1+1<=z19)/\inR .i64 ((1440:Int)+wab n z5 z12 (4:Int))/\(27=27/\1=1/\wad v=wad z5/\((1:Int)<=100/\(100:Int)<=1000000)/\(0:Int)<=a+1+1+1/\a+1+1+1<=z19)/\inR .i64 ((43830:Int)+wab n z5 z10 (100:Int))/\(7<=16777216/\1=1/\7<=9223372036854775807)/\(27=27/\1=1/\wad v=wad z5/\((1:Int)<=7/\(7:Int)<=1000000)/\(0:Int)<=a+1+1+1+1/\a+1+1+1+1<=z19)/\((0:Int)<=wab n z5 z11 (7:Int)/\wab n z5 z11 (7:Int)<(↑7:Int))/\((wab n z5 z11 (7:Int)).toNat<7/\1=1)/\inR .i64 ((1:Int)+List.getD [(0:Int),(0:Int),(0:Int),(1:Int),(2:Int),(3:Int),(4:Int)] z4 (0:Int))/\wac (!decide ((1:Int)+List.getD [(0:Int),(0:Int),(0:Int),(1:Int),(2:Int),(3:Int),(4:Int)] z4 (0:Int)=3)) (wac (!decide ((1:Int)+List.getD [(0:Int),(0:Int),(0:Int),(1:Int),(2:Int),(3:Int),(4:Int)] z4 (0:Int)=4)) ((27=27/\1=1/\wad v=wad z5/\z20/\(0:Int)<=a+1+1+1+1+1/\a+1+1+1+1+1<=z19)/\inR .i64 (wab n z5 z6 (4:Int) * (5:Int))/\inR .i64 ((100:Int)+wab n z5 z6 (4:Int) * (5:Int))/\wac z15 ((27=27/\1=1/\wad v=wad z5/\(0:Int)<=a+1+1+1+1+1+1/\a+1+1+1+1+1+1<=z18)/\wac (decide (idF (wab n z5 z7 (4:Int))=idF z8)) (True/\wac z1 (True/\wac z1 (True/\False) z2) z2) ((True/\True)/\R (.agg [.str z13,.str (idF z8),.q ((1440:Int)+wab n z5 z12 (4:Int)),.q ((43830:Int)+wab n z5 z10 (100:Int)),.q ((1:Int)+List.getD [(0:Int),(0:Int),(0:Int),(1:Int),(2:Int),(3:Int),(4:Int)] z4 (0:Int)),.q ((100:Int)+wab n z5 z6 (4:Int) * (5:Int)),.str (idF (wab n z5 z7 (4:Int)))]) z14)) ((True/\True)/\R (.agg [.str z13,.str (idF z8),.q ((1440:Int)+wab n z5 z12 (4:Int)),.q ((43830:Int)+wab n z5 z10 (100:Int)),.q ((1:Int)+List.getD [(0:Int),(0:Int),(0:Int),(1:Int),(2:Int),(3:Int),(4:Int)] z4 (0:Int)),.q ((100:Int)+wab n z5 z6 (4:Int) * (5:Int)),.str []]) z17)) z0) z0):=by kernel_rfl
theorem nf_mmsg(n:Nat)(v:Nat->Int)(a:Int)(R:oR7):wpFn te [(42,.det wbd),(80,.det wdf),(81,.det wde),(88,.det wh0),(89,.rel woj)] [] 0 Tryz.f36 [.ptr 0 0] [.cells [.view 1 n (wad v),.q a] 27] R=(letI z5:=((1:Int)<=9/\(9:Int)<=1000000:Prop);letI z4:=(a+1+1+1+1+1);letI z3:=4611686018427387904;letI z2:=4611686018427387000;letI z1:=(a+1+1+1+1+1+1+1);letI z0:=vInt (wad v);(27=27/\1=1/\wad v=wad z0/\(0:Int)<=a/\a<=z2)/\(27=27/\1=1/\wad v=wad z0/\z5/\(0:Int)<=a+1/\a+1<=z3)/\inR .i64 ((1:Int)+wab n z0 (a+1) (9:Int))/\(27=27/\1=1/\wad v=wad z0/\((1:Int)<=5/\(5:Int)<=1000000)/\(0:Int)<=a+1+1/\a+1+1<=z3)/\wac (decide (wab n z0 (a+1+1) (5:Int)=0)) ((27=27/\1=1/\wad v=wad z0/\(0:Int)<=a+1+1+1/\a+1+1+1<=z2)/\(27=27/\1=1/\wad v=wad z0/\(0:Int)<=a+1+1+1+1/\a+1+1+1+1<=z2)/\(27=27/\1=1/\wad v=wad z0/\((1:Int)<=4/\(4:Int)<=1000000)/\(0:Int)<=a+1+1+1+1+1/\a+1+1+1+1+1<=z3)/\inR .i64 ((1440:Int)+wab n z0 z4 (4:Int))/\(27=27/\1=1/\wad v=wad z0/\(0:Int)<=a+1+1+1+1+1+1/\a+1+1+1+1+1+1<=z2)/\(27=27/\1=1/\wad v=wad z0/\z5/\(0:Int)<=a+1+1+1+1+1+1+1/\a+1+1+1+1+1+1+1<=z3)/\inR .i64 ((1:Int)+wab n z0 z1 (9:Int))/\(True/\True)/\R (.agg [.str (devF (wab n z0 a (3:Int))),.q ((1:Int)+wab n z0 (a+1) (9:Int)),.q 2,.str [],.str [],.q 0,.q 0,.q 0,.q 0,.str [],.str (outF (wab n z0 (a+1+1+1) (3:Int))),.str (idF (wab n z0 (a+1+1+1+1) (4:Int))),.q ((1440:Int)+wab n z0 z4 (4:Int)),.str (devF (wab n z0 (a+1+1+1+1+1+1) (3:Int))),.q ((1:Int)+wab n z0 z1 (9:Int))]) [(0,.cells [.view 1 n (wad v),.q (a+1+1+1+1+1+1+1+1)] 27)]) (27=27/\1=1/\wad v=wad z0/\((0:Int)<=a+1+1+1/\a+1+1+1<=4611686018427386000)/\∀(x:VT) (a':Int),VT.Made x->a+1+1+1<=a'/\a'<=a+1+1+1+7->(True/\True)/\R (.agg [.str (devF (wab n z0 a (3:Int))),.q ((1:Int)+wab n z0 (a+1) (9:Int)),.q 1,.str x.o,.str x.p,.q x.per,.q x.day,.q x.st,.q x.pr,.str x.rep,.str [],.str [],.q 0,.str [],.q 0]) [(0,.cells [.view 1 n (wad v),.q a'] 27)])):=by kernel_rfl
theorem wxe(hP:C.P=Tryz.prog):wai C 88 wh0:=by
 rintro args objs U Os vc h hvc;unfold wh0 at h;split at h<;>cases h;rename_i sz n f a t;obtain⟨rfl,rfl,hf,h1,h2⟩:=hvc;rw[hf];generalize vInt f=v;have hw:vInt (wad v)=v:=rfl;refine wai.wp0 (prg hP) [(42,.det wbd)] 0 (.cons (wce hP) .nil) (hP ▸ Tryz.func88) rfl rfl rfl ?_;rw[w26];have r:=waw (show (1:Int)<=3 by omega) n v a;exact⟨⟨by omega,rfl,by omega⟩,⟨rfl,rfl,rfl,⟨by omega,by omega⟩,by omega,by omega⟩,⟨r.1,r.2⟩,⟨by rw[hw];omega,rfl⟩,rfl,rfl⟩
theorem stF:∀i:Nat,i<7->1<=1+List.getD [(0:Int),0,0,1,2,3,4] i 0/\1+List.getD [(0:Int),0,0,1,2,3,4] i 0<=5:=by decide
theorem wk3{x:Int}(h:0<=x/\x<4):¬ idF 4=idF x:=by
 have:=idF4 x.toNat (by omega)
 rwa [show ((x.toNat:Nat):Int)=x by omega] at this
theorem wtj{o p:List UInt8}{per day st pr:Int}{rep:List UInt8}(ho:wa3 o=true)(hp:wba p=true)(hper:0<=per/\per<=5999)(hday:0<=day/\day<=182620)
  (h:((st=1∨st=2)/\(1<=pr/\pr<=1099511627776)/\rep=[])∨((st=3∨st=4)/\pr=0/\rep=[])∨(st=5/\(1<=pr/\pr<=1099511627776)/\wba rep=true/\¬ rep=p)):visF ⟨o,p,per,day,st,pr,rep⟩=true:=by
 unfold visF wbh;dsimp only
 rw[ho,hp,decide_eq_true hper.1,decide_eq_true hper.2,decide_eq_true hday.1,decide_eq_true hday.2]
 rcases h with⟨q | q,⟨h1,h2⟩,h3⟩ | ⟨q | q,h1,h2⟩ | ⟨q,⟨h1,h2⟩,h3,h4⟩
 ·subst q;subst h3;rw[decide_eq_true h1,decide_eq_true h2];rfl
 ·subst q;subst h3;rw[decide_eq_true h1,decide_eq_true h2];rfl
 ·subst q;subst h1;subst h2;rfl
 ·subst q;subst h1;subst h2;rfl
 ·subst q;rw[decide_eq_true h1,decide_eq_true h2,h3,decide_eq_false h4];rfl
theorem wvf{dev:List UInt8}{seq:Int}{x:VT}(hd:wa3 dev=true)(hs:1<=seq/\seq<=1048576)(hx:visF x=true):msgF ⟨dev,seq,1,x,⟨[],[],0,[],0⟩⟩=0:=by
 unfold msgF numF;dsimp only
 rw[hd,hx,decide_eq_true hs.1,decide_eq_true hs.2];rfl
theorem wvg{dev:List UInt8}{seq:Int}{o p:List UInt8}{per:Int}{dd:List UInt8}{num:Int}(hd:wa3 dev=true)(hs:1<=seq/\seq<=1048576)(h:wbh o p per=true)(h':wa3 dd=true)(hn:1<=num/\num<=1048576):
  msgF ⟨dev,seq,2,⟨[],[],0,0,0,0,[]⟩,⟨o,p,per,dd,num⟩⟩=0:=by
 unfold msgF numF;dsimp only
 rw[hd,h,h',decide_eq_true hs.1,decide_eq_true hs.2,decide_eq_true hn.1,decide_eq_true hn.2];rfl
theorem wt6{o p:List UInt8}{per:Int}(ho:wa3 o=true)(hp:wba p=true)(hper:0<=per/\per<=5999):wbh o p per=true:=by
 unfold wbh;rw[ho,hp,decide_eq_true hper.1,decide_eq_true hper.2];rfl
theorem w3v(hP:C.P=Tryz.prog):wa5 C 89 woj:=by
 rintro args objs R h;unfold woj at h;split at h
 ·rename_i sz n f a t;obtain⟨rfl,rfl,hf,ha,hR⟩:=h;rw[hf] at hR ⊢;generalize vInt f=v at *;have hw:vInt (wad v)=v:=rfl;refine wa5.wpL (prg hP) [(42,.det wbd),(80,.det wdf),(81,.det wde),(43,.det S_id)] [] 3 (.cons (wce hP) (.cons (wg8 hP) (.cons (wg1 hP) (.cons (wk2 hP) .nil)))) (hP ▸ Tryz.func89) rfl rfl rfl [] (by kernel_rfl) trivial ?_;rw[wu9,hw];have r1:=waw (show (1:Int)<=3 by omega) n v a;have r2:=waw (show (1:Int)<=4 by omega) n v (a+1);have r3:=waw (show (1:Int)<=4 by omega) n v (a+1+1);have r4:=waw (show (1:Int)<=100 by omega) n v (a+1+1+1);have r5:=waw (show (1:Int)<=7 by omega) n v (a+1+1+1+1);have r6:=waw (show (1:Int)<=4 by omega) n v (a+1+1+1+1+1);have hst:=stF (wab n v (a+1+1+1+1) 7).toNat (by omega);have ho:=wio (wab n v a 3).toNat (by omega);have key:∀(st pr:Int) (rep:List UInt8) (a':Int),(((st=1∨st=2)/\(1<=pr/\pr<=1099511627776)/\rep=[])∨((st=3∨st=4)/\pr=0/\rep=[])∨(st=5/\(1<=pr/\pr<=1099511627776)/\wba rep=true/\¬ rep=idF (wab n v (a+1) 4)))->(a<=a'/\a'<=a+7)->
    R (.agg [.str (outF (wab n v a 3)),.str (idF (wab n v (a+1) 4)),.q (1440+wab n v (a+1+1) 4),.q (43830+wab n v (a+1+1+1) 100),.q st,.q pr,.str rep]) [(0,.cells [.view 1 n (wad v),.q a'] 27)]:=λst pr rep a' h1 h2=>
   hR ⟨outF (wab n v a 3),idF (wab n v (a+1) 4),1440+wab n v (a+1+1) 4,43830+wab n v (a+1+1+1) 100,st,pr,rep⟩ a' ⟨wtj ho.1 (wd9 _) (by omega) (by omega) h1,ho.2⟩ h2
  refine⟨⟨rfl,rfl,rfl,by omega,by omega⟩,⟨rfl,rfl,rfl,by omega,by omega⟩,⟨rfl,rfl,rfl,⟨by omega,by omega⟩,by omega,by omega⟩,by simp only[inR];omega,⟨rfl,rfl,rfl,⟨by omega,by omega⟩,by omega,by omega⟩,by simp only[inR];omega,⟨by omega,rfl,by omega⟩,⟨rfl,rfl,rfl,⟨by omega,by omega⟩,by omega,by omega⟩,⟨by omega,by omega⟩,⟨by omega,rfl⟩,?_⟩;generalize 1+List.getD [(0:Int),0,0,1,2,3,4] (wab n v (a+1+1+1+1) 7).toNat 0=st at *
  refine⟨by simp only[inR];omega,wbj (λs3=>wbj (λs4=>⟨⟨rfl,rfl,rfl,⟨by omega,by omega⟩,by omega,by omega⟩,by simp only[inR];omega,by simp only[inR];omega,wak (λs5=>⟨⟨rfl,rfl,rfl,by omega,by omega⟩,wak (λq=>⟨trivial,wak (λq'=>absurd q' (wk3 r2)) (λq'=>⟨⟨trivial,trivial⟩,?_⟩)⟩) (λq=>⟨⟨trivial,trivial⟩,?_⟩)⟩) (λs5=>⟨⟨trivial,trivial⟩,?_⟩)⟩)
   (λs4=>wak (λs5=>absurd s5 (by omega)) (λs5=>⟨⟨trivial,trivial⟩,?_⟩))) (λs3=>wak (λs5=>absurd s5 (by omega)) (λs5=>⟨⟨trivial,trivial⟩,?_⟩))⟩
  ·exact key st _ (idF 4) _ (.inr (.inr ⟨s5,by omega,wd9 _,wk3 r2⟩)) (by omega)
  ·exact key st _ _ _ (.inr (.inr ⟨s5,by omega,wd9 _,q⟩)) (by omega)
  ·exact key st _ _ _ (.inl ⟨by omega,by omega,rfl⟩) (by omega)
  ·exact key st _ _ _ (.inr (.inl ⟨by omega,rfl,rfl⟩)) (by omega)
  ·exact key st _ _ _ (.inr (.inl ⟨by omega,rfl,rfl⟩)) (by omega)
 ·exact h.elim
theorem wvo (hP : C.P = Tryz.prog) : wa5 C 36 wh5 := by
  rintro args objs R h
  unfold wh5 at h
  split at h
  · rename_i sz n f a t
    obtain ⟨rfl, rfl, hf, ha, hR⟩ := h
    rw [hf] at hR ⊢
    generalize vInt f = v at *
    have hw : vInt (wad v) = v := rfl
    refine wa5.wpL (prg hP) [(42, .det wbd), (80, .det wdf), (81, .det wde), (88, .det wh0), (89, .rel woj)] [] 0 (.cons (wce hP) (.cons (wg8 hP) (.cons (wg1 hP) (.cons (wxe hP) (.cons (w3v hP) .nil))))) (hP ▸ Tryz.func36) rfl rfl rfl [] (by kernel_rfl) trivial ?_
    rw [nf_mmsg, hw]
    have r1 := waw (show (1 : Int) ≤ 3 by omega) n v a
    have r2 := waw (show (1 : Int) ≤ 9 by omega) n v (a + 1)
    have r4 := waw (show (1 : Int) ≤ 3 by omega) n v (a + 1 + 1 + 1)
    have r6 := waw (show (1 : Int) ≤ 4 by omega) n v (a + 1 + 1 + 1 + 1 + 1)
    have r7 := waw (show (1 : Int) ≤ 3 by omega) n v (a + 1 + 1 + 1 + 1 + 1 + 1)
    have r8 := waw (show (1 : Int) ≤ 9 by omega) n v (a + 1 + 1 + 1 + 1 + 1 + 1 + 1)
    have hd := wln (wab n v a 3).toNat (by omega)
    have ho := wio (wab n v (a + 1 + 1 + 1) 3).toNat (by omega)
    have hd' := wln (wab n v (a + 1 + 1 + 1 + 1 + 1 + 1) 3).toNat (by omega)
    refine ⟨⟨rfl, rfl, rfl, by omega, by omega⟩, ⟨rfl, rfl, rfl, ⟨by omega, by omega⟩, by omega, by omega⟩, by simp only [inR]; omega, ⟨rfl, rfl, rfl, ⟨by omega, by omega⟩, by omega, by omega⟩, wak (fun q => ⟨⟨rfl, rfl, rfl, by omega, by omega⟩, ⟨rfl, rfl, rfl, by omega, by omega⟩, ⟨rfl, rfl, rfl, ⟨by omega, by omega⟩, by omega, by omega⟩, by simp only [inR]; omega, ⟨rfl, rfl, rfl, by omega, by omega⟩, ⟨rfl, rfl, rfl, ⟨by omega, by omega⟩, by omega, by omega⟩, by simp only [inR]; omega, ⟨trivial, trivial⟩, ?_⟩)
      (fun q => ⟨rfl, rfl, rfl, ⟨by omega, by omega⟩, fun x a' hx ha' => ⟨⟨trivial, trivial⟩, ?_⟩⟩)⟩
    · exact hR ⟨devF (wab n v a 3), 1 + wab n v (a + 1) 9, 2, ⟨[], [], 0, 0, 0, 0, []⟩, ⟨outF (wab n v (a + 1 + 1 + 1) 3), idF (wab n v (a + 1 + 1 + 1 + 1) 4), 1440 + wab n v (a + 1 + 1 + 1 + 1 + 1) 4, devF (wab n v (a + 1 + 1 + 1 + 1 + 1 + 1) 3), 1 + wab n v (a + 1 + 1 + 1 + 1 + 1 + 1 + 1) 9⟩⟩ _
        ⟨wvg hd.1 (by omega) (wt6 ho.1 (wd9 _) (by omega)) hd'.1 (by omega), hd.2, zL7 _, ho.2, hd'.2⟩ (by omega)
    · exact hR ⟨devF (wab n v a 3), 1 + wab n v (a + 1) 9, 1, x, ⟨[], [], 0, [], 0⟩⟩ a' ⟨wvf hd.1 (by omega) hx.ok, hd.2, hx.o, zL7 _, zL7 _⟩ (by omega)
  · exact h.elim
theorem nf_msgs(n:Nat)(v:Nat->Int)(a most:Int)(R:oR7):wpFn te [(36,.rel wh5),(42,.det wbd)] [(3,wpj n v (a+1) (wab n v a (most+1)))] 0 Tryz.f59 [.ptr 0 0,.q most] [.cells [.view 1 n (wad v),.q a] 27] R=(letI z1:=(most+1);letI z0:=(MgS.mk 0 (λ(_x:Nat)=>default) (a+1));inR .i64 z1/\(27=27/\1=1/\wad v=wad (vInt (wad v))/\((1:Int)<=most+1/\most+1<=1000000)/\(0:Int)<=a/\a<=4611686018427387904)/\(TEq [(0,.ptr 0 0),(5,.own 1 0),(9,.q (wab n (vInt (wad v)) a z1)),(10,.q 0)] [(0,.ptr 0 0),(5,.own 1 0),(9,.q (wab n v a z1)),(10,.q (z0.c:Int))]/\wae [(0,.cells [.view 1 n (wad v),.q (a+1)] 27),(1,.row 40 15 0 (λ(_x:Nat)=>[]) false)] [(0,.cells [.view 1 n (wad v),.q z0.a] 27),(1,.row 40 15 0 (waf z0.g) false)])/\((0:Int)<=wab n v a z1/\wab n v a z1<=100)/\((0:Int)<=a+1/\a+1<=4611686018427375000)/\∀(i:MgS),i.c=(wab n v a z1).toNat->a+1<=i.a/\i.a<=a+1+10 * (i.c:Int)->(∀(j:Nat),j<i.c->MG.Made (MgS.g i j))->(∀(i_1:Nat),i_1<i.c->true=true)/\∃(O':oL7),wae [(0,.cells [.view 1 n (wad v),.q i.a] 27),(1,.row 40 15 i.c (waf i.g) false)] O'/\R (.own 1 i.c) O'):=by kernel_rfl
theorem w2e(n:Nat)(v:Nat->Int)(N:Int)(i:MgS)(P:MgS->Prop)(R:eR7):wau ⟨te,[(36,.rel wh5)],[],1,19,0⟩ (wax Tryz.f59 3) [0,5,9,10] [5] [] (wm9 n v N) P R (wm9 n v N i)=(wac (decide ((i.c:Int)<N)) (27=27/\1=1/\wad v=wad (vInt (wad v))/\((0:Int)<=i.a/\i.a<=4611686018427385000)/\∀(m:MG) (a':Int),MG.Made m->i.a<=a'/\a'<=i.a+10->(15<=16777216/\15=15/\1<=9223372036854775807)/\((1<=1/\15=15)/\i.c<=i.c/\15=15/\40=40/\15=15/\i.c+1<=9223372036854775807/\(i.c+1) * TI.bytes wez<=140737488355328)/\inR .i64 ((i.c:Int)+1)/\∃(i':MgS),(TEq [(0,.ptr 0 0),(5,.own 1 (i.c+1)),(9,.q N),(10,.q ((i.c:Int)+1))] [(0,.ptr 0 0),(5,.own 1 i'.c),(9,.q N),(10,.q (i'.c:Int))]/\wae [(0,.cells [.view 1 n (wad v),.q a'] 27),(1,.row 40 15 (i.c+1) (apF i.c (waf i.g) (wap (TI.sz wez) (.str m.dev:: .q m.seq:: .q m.kind:: .str m.v.o:: .str m.v.p:: .q m.v.per:: .q m.v.day:: .q m.v.st:: .q m.v.pr:: .str m.v.rep:: .str m.d.o:: .str m.d.p:: .q m.d.per:: .str m.d.dev:: .q m.d.num::List.append [] (List.flatten (List.replicate (nat_lit 0) [.str ([]),.q 0,.q 0,.str ([]),.str ([]),.q 0,.q 0,.q 0,.q 0,.str ([]),.str ([]),.str ([]),.q 0,.str ([]),.q 0]))))) false)] [(0,.cells [.view 1 n (wad v),.q i'.a] 27),(1,.row 40 15 i'.c (waf i'.g) false)])/\P i') ((∀(i_1:Nat),i_1<i.c->true=true)/\∃(O':oL7),wae [(0,.cells [.view 1 n (wad v),.q i.a] 27),(1,.row 40 15 i.c (waf i.g) false)] O'/\R (.exit 0) (St.mk [(5,.own 1 i.c)] O' 2 []))):=by kernel_rfl
theorem mput_ap(g:Nat->MG)(k:Nat)(r:MG)(ch:Nat->List AV)(hch:ch 0=mgC r)(j:Nat)(_hj:j<k+1):apF k (waf g) ch j=waf (MG.put g k r) j:=by
 unfold apF waf MG.put
 by_cases h:j<k
 ·rw[if_pos h,if_pos h]
 ·have:j=k:=by omega
  rw[if_neg h,if_neg h,this,Nat.sub_self,hch];rfl
theorem w3w(hP:C.P=Tryz.prog)(n:Nat)(v:Nat->Int)(a N:Int):waj C 1 19 (wal Tryz.f59 3) (wpj n v a N):=by
 rintro st Q ⟨h0,hN,ha,hQ⟩;refine AWP.ownNil 5 40 15 ?_
 refine waj.mk (prg hP) [(36,.rel wh5)] 0 (.cons (wvo hP) .nil) [0,5,9,10] [5] [] (wm9 n v N) (λi=>(i.c:Int)<=N/\(a<=i.a/\i.a<=a+10 * i.c)/\∀j,j<i.c->(i.g j).Made) (λi=>N.toNat - i.c) ⟨0,λ_=>default,a⟩
  ⟨hN.1,by show a<=a/\a<=a+10 * ((0:Nat):Int);omega,λj hj=>absurd hj (nZ7 j)⟩ h0 (λi hi=>?_) (λi=>⟨λ_ _=>rfl,trivial⟩)
 obtain⟨h1,h2,h3⟩:=hi;rw[w2e];refine wak (λq=>?_) (λq=>⟨λ_ _=>rfl,_,wam _,hQ i (by omega) h2 h3⟩);refine⟨rfl,rfl,rfl,by omega,λm a' hm ha'=>⟨⟨by omega,rfl,by omega⟩,⟨⟨lR7 _,rfl⟩,lR7 _,rfl,rfl,rfl,by omega,?_⟩,by simp only[inR];omega,⟨i.c+1,MG.put i.g i.c m,a'⟩,⟨rfl,rfl,⟨rfl,rfl,rfl,rfl,rfl,λj hj=>?_⟩,trivial⟩,⟨?_,?_,λj hj=>?_⟩,?_⟩⟩
 ·show (i.c+1) * 176<=_;omega
 ·exact mput_ap i.g i.c m _ rfl j hj
 ·show ((i.c+1:Nat):Int)<=N;omega
 ·show a<=a'/\a'<=a+10 * ((i.c+1:Nat):Int);omega
 ·show (MG.put i.g i.c m j).Made;unfold MG.put
  by_cases h:j<i.c
  ·rw[if_pos h];exact h3 j h
  ·rw[if_neg h];exact hm
 ·show N.toNat - (i.c+1)<N.toNat - i.c;omega
theorem msgs_ok(hP:C.P=Tryz.prog):wa5 C 59 woo:=by
 rintro args objs R h;unfold woo at h;split at h
 ·rename_i most sz n f a t;obtain⟨rfl,rfl,hf,ha,hm,hR⟩:=h;rw[hf] at hR ⊢;generalize vInt f=v at *;have hw:vInt (wad v)=v:=rfl;refine wa5.wpL (prg hP) [(36,.rel wh5),(42,.det wbd)] [(3,wpj n v (a+1) (wab n v a (most+1)))] 0 (.cons (wvo hP) (.cons (wce hP) .nil)) (hP ▸ Tryz.func59) rfl rfl rfl [(wal Tryz.f59 3,wpj n v (a+1) (wab n v a (most+1)))] (by kernel_rfl) ⟨w3w hP _ _ _ _,trivial⟩ ?_;rw[nf_msgs,hw];have r:=waw (show (1:Int)<=most+1 by omega) n v a;exact⟨by simp only[inR];omega,⟨rfl,rfl,rfl,⟨by omega,by omega⟩,by omega,by omega⟩,⟨rfl,rfl,⟨rfl,rfl,rfl,rfl,rfl,λi hi=>absurd hi (nZ7 i)⟩,trivial⟩,⟨by omega,by omega⟩,⟨by omega,by omega⟩,λi h1 h2 h3=>⟨λ_ _=>rfl,_,wam _,hR i.c i.g i.a (by omega) ⟨by omega,by omega⟩ h3⟩⟩
 ·exact h.elim
theorem w08(n:Nat)(v:Nat->Int)(a:Int)(R:oR7):wpFn te [(42,.det wbd)] [(4,wo2 n v (a+1+1) (wab n v (a+1) 4) (wab n v a 500))] 0 Tryz.f82 [.ptr 0 0] [.cells [.view 1 n (wad v),.q a] 27] R=(letI z7:=4611686018427387904;letI z6:=(a+1+1);letI z4:=((1:Int)<=4/\(4:Int)<=1000000:Prop);letI z3:=(a+1);letI z2:=vInt (wad v);letI z1:=(TfS.mk (0:Int) [] z6);(27=27/\1=1/\wad v=wad z2/\((1:Int)<=500/\(500:Int)<=1000000)/\(0:Int)<=a/\a<=z7)/\(27=27/\1=1/\wad v=wad z2/\z4/\(0:Int)<=a+1/\a+1<=z7)/\(TEq [(0,.ptr 0 0),(2,.ptr 1 0),(3,.ptr 2 0),(4,.q 0),(9,.q (wab n z2 z3 (4:Int))),(10,.q 0)] [(0,.ptr 0 0),(2,.ptr 1 0),(3,.ptr 2 0),(4,.q z1.up),(9,.q (wab n v z3 (4:Int))),(10,.q (z1.bs.length:Int))]/\wae [(0,.cells [.view 1 n (wad v),.q z6] 27),(1,.cells [.q 0,.nil] 95),(2,.cells [.q (wab n z2 a (500:Int)),.own 3 0] 95),(3,.row 115 2 0 (λ(_x:Nat)=>[]) false)] [(0,.cells [.view 1 n (wad v),.q z1.a] 27),(1,.cells [.q 0,.nil] 95),(2,.cells [.q (wab n v a (500:Int)),.own 3 0] 95),(3,.row 115 2 0 (was (atB z1.bs)) false)])/\((0:Int)<=wab n v z3 (4:Int)/\wab n v z3 (4:Int)<=3)/\((0:Int)<=a+1+1/\a+1+1<=4611686018427375000)/\∀(i:TfS),letI z9:=i.bs.length;letI z8:=(wab n z2 i.a (4:Int) * (10:Int));letI z5:=i.bs.length+1;letI z0:=(wap (TI.sz wgd) (.q 0:: .q z8::List.append [] (List.flatten (List.replicate (nat_lit 0) [.q 0,.q 0]))));(z9:Int)=wab n v z3 (4:Int)->i.a=a+1+1+2 * wab n v z3 (4:Int)->i.bs=tarB n v z6 (wab n v z3 (4:Int)).toNat->(27=27/\1=1/\wad v=wad z2/\z4/\(0:Int)<=i.a/\i.a<=z7)/\inR .i64 z8/\(2<=16777216/\2=2/\1<=9223372036854775807)/\((1<=1/\2=2)/\i.bs.length<=i.bs.length/\2=2/\115=115/\2=2/\i.bs.length+1<=9223372036854775807/\z5 * TI.bytes wgd<=140737488355328)/\(True/\True)/\(∀(i_1:Nat),i_1<i.bs.length+1->nrefL (apF z9 (was (atB i.bs)) z0 i_1)=true)/\∃(O':oL7),wae [(0,.cells [.view 1 n (wad v),.q (i.a+1)] 27),(1,.row 115 2 z5 (apF z9 (was (atB i.bs)) z0) false)] O'/\R (.agg [.q (wab n v a (500:Int)),.own 1 z5]) O'):=by kernel_rfl
theorem w05(n:Nat)(v:Nat->Int)(N st:Int)(i:TfS)(P:TfS->Prop)(R:eR7):wau ⟨te,[(42,.det wbd)],[],1,38,0⟩ (wax Tryz.f82 4) [0,2,3,4,9,10] [0,2,3] [] (wjq n v N st) P R (wjq n v N st i)=(letI z4:=i.bs.length+1;letI z2:=vInt (wad v);letI z3:=(wab n z2 (i.a+1) (4:Int) * (10:Int));letI z1:=i.bs.length;letI z0:=(i.up+((1:Int)+wab n z2 i.a (60:Int)));wac (decide ((z1:Int)<N)) ((27=27/\1=1/\wad v=wad z2/\((1:Int)<=60/\(60:Int)<=1000000)/\(0:Int)<=i.a/\i.a<=4611686018427387904)/\inR .i64 ((1:Int)+wab n z2 i.a (60:Int))/\inR .i64 z0/\(27=27/\1=1/\wad v=wad z2/\((1:Int)<=4/\(4:Int)<=1000000)/\(0:Int)<=i.a+1/\i.a+1<=4611686018427387904)/\inR .i64 z3/\(2<=16777216/\2=2/\1<=9223372036854775807)/\((1<=1/\2=2)/\i.bs.length<=i.bs.length/\2=2/\115=115/\2=2/\i.bs.length+1<=9223372036854775807/\z4 * TI.bytes wgd<=140737488355328)/\inR .i64 ((z1:Int)+1)/\∃(i':TfS),letI z5:=i'.bs.length;(TEq [(0,.ptr 0 0),(2,.ptr 1 0),(3,.ptr 2 0),(4,.q z0),(9,.q N),(10,.q ((z1:Int)+1))] [(0,.ptr 0 0),(2,.ptr 1 0),(3,.ptr 2 0),(4,.q i'.up),(9,.q N),(10,.q (z5:Int))]/\wae [(0,.cells [.view 1 n (wad v),.q (i.a+1+1)] 27),(1,.cells [.q 0,.nil] 95),(2,.cells [.q st,.own 3 z4] 95),(3,.row 115 2 z4 (apF z1 (was (atB i.bs)) (wap (TI.sz wgd) (.q z0:: .q z3::List.append [] (List.flatten (List.replicate (nat_lit 0) [.q 0,.q 0]))))) false)] [(0,.cells [.view 1 n (wad v),.q i'.a] 27),(1,.cells [.q 0,.nil] 95),(2,.cells [.q st,.own 3 z5] 95),(3,.row 115 2 z5 (was (atB i'.bs)) false)])/\P i') ((∀(i_1:Nat),i_1<i.bs.length->true=true)/\∃(O':oL7),wae [(0,.cells [.view 1 n (wad v),.q i.a] 27),(1,.cells [.q 0,.nil] 95),(2,.cells [.q st,.own 3 z1] 95),(3,.row 115 2 z1 (was (atB i.bs)) false)] O'/\R (.exit 0) (St.mk [(0,.ptr 0 0),(2,.ptr 1 0),(3,.ptr 2 0)] O' 4 []))):=by kernel_rfl
theorem wew{α:Type}(enc:α->List AV)(d:α)(L:List α)(x:α)(ch:Nat->List AV)(hch:ch 0=enc x):∀i,i<L.length+1->apF L.length (λi=>enc (L.getD i d)) ch i=enc ((L++[x]).getD i d):=λi hi=>by
 unfold apF
 by_cases h:i<L.length
 ·rw[if_pos h];congr 1;simp[List.getD_eq_getElem?_getD,List.getElem?_append_left h]
 ·have:i=L.length:=by omega
  subst this;rw[if_neg h,Nat.sub_self,hch];congr 1;simp
theorem snocB(L:List BK)(x:BK)(ch:Nat->List AV)(hch:ch 0=[.q x.up,.q x.pr]):∀i,i<L.length+1->apF L.length (was (atB L)) ch i=was (atB (L++[x])) i:=
 wew (λb:BK=>[.q b.up,.q b.pr]) _ L x ch hch
theorem wy0(hP:C.P=Tryz.prog)(n:Nat)(v:Nat->Int)(a N st:Int):waj C 1 38 (wal Tryz.f82 4) (wo2 n v a N st):=by
 rintro s Q ⟨h0,hN,ha,hQ⟩;refine AWP.ownNilP 3 1 115 2 ?_
 refine waj.mk (prg hP) [(42,.det wbd)] 0 (.cons (wce hP) .nil) [0,2,3,4,9,10] [0,2,3] [] (wjq n v N st)
  (λi=>(i.bs.length:Int)<=N/\i.a=a+2 * i.bs.length/\i.up=wd2 n v a i.bs.length/\i.bs=tarB n v a i.bs.length) (λi=>N.toNat - i.bs.length) ⟨0,[],a⟩ ⟨by show (0:Int)<=N;omega,by show a=a+2 * ((0:Nat):Int);omega,rfl,rfl⟩ h0 (λi hi=>?_) (λi=>⟨λ_ _=>rfl,trivial⟩)
 obtain⟨h1,h2,h3,h4⟩:=hi;have hw:vInt (wad v)=v:=rfl;rw[w05,hw];have r1:=waw (show (1:Int)<=60 by omega) n v i.a;have r2:=waw (show (1:Int)<=4 by omega) n v (i.a+1);have r3:=wqm n v a i.bs.length;refine wak (λq=>?_) (λq=>⟨λ_ _=>rfl,_,wam _,hQ i (by omega) (by omega) (by rw[show N.toNat=i.bs.length by omega];exact h4)⟩);refine⟨⟨rfl,rfl,rfl,by omega,by omega⟩,by simp only[inR];omega,by simp only[inR];omega,⟨rfl,rfl,rfl,by omega,by omega⟩,by simp only[inR];omega,⟨by omega,rfl,by omega⟩,⟨⟨lR7 _,rfl⟩,lR7 _,rfl,rfl,rfl,by omega,?_⟩,by simp only[inR];omega,
  ⟨i.up+(1+wab n v i.a 60),i.bs++[⟨i.up+(1+wab n v i.a 60),wab n v (i.a+1) 4 * 10⟩],i.a+1+1⟩,?_,⟨?_,?_,?_,?_⟩,?_⟩
 ·show (i.bs.length+1) * 16<=_;omega
 ·dsimp only
  rw[lA7];exact⟨rfl,rfl,rfl,rfl,⟨rfl,rfl,rfl,rfl,rfl,snocB _ _ _ rfl⟩,trivial⟩
 ·show ((i.bs++[_]).length:Int)<=N;rw[lA7];simp;omega
 ·show i.a+1+1=a+2 * ((i.bs++[_]).length:Int);rw[lA7];simp;omega
 ·show i.up+(1+wab n v i.a 60)=wd2 n v a (i.bs++[_]).length;rw[lA7,List.length_singleton,wd2, ← h3,h2]
 ·show i.bs++[_]=tarB n v a (i.bs++[_]).length;rw[lA7,List.length_singleton,tarB,wd2, ← h4, ← h3,h2]
 ·show N.toNat - (i.bs++[_]).length<N.toNat - i.bs.length;rw[lA7];simp;omega
theorem wy3(hP:C.P=Tryz.prog):wai C 82 wmg:=by
 rintro args objs U Os vc h hvc;unfold wmg at h;split at h<;>cases h;rename_i sz n f a t;obtain⟨rfl,rfl,hf,ha⟩:=hvc;rw[hf];generalize vInt f=v at *;have hw:vInt (wad v)=v:=rfl;refine wan.frzO 1 ?_;refine wa5.wpL (prg hP) [(42,.det wbd)] [(4,wo2 n v (a+1+1) (wab n v (a+1) 4) (wab n v a 500))] 0 (.cons (wce hP) .nil) (hP ▸ Tryz.func82) rfl rfl rfl [(wal Tryz.f82 4,wo2 n v (a+1+1) (wab n v (a+1) 4) (wab n v a 500))] (by kernel_rfl) ⟨wy0 hP _ _ _ _ _,trivial⟩ ?_;rw[w08,hw];have r1:=waw (show (1:Int)<=500 by omega) n v a;have r2:=waw (show (1:Int)<=4 by omega) n v (a+1);refine⟨⟨rfl,rfl,rfl,by omega,by omega⟩,⟨rfl,rfl,rfl,by omega,by omega⟩,⟨rfl,rfl,rfl,rfl,⟨rfl,rfl,rfl,rfl,rfl,λi hi=>absurd hi (nZ7 i)⟩,trivial⟩,by omega,by omega,λi h1 h2 h3=>?_⟩;have r3:=waw (show (1:Int)<=4 by omega) n v i.a;refine⟨⟨rfl,rfl,rfl,by omega,by omega⟩,by simp only[inR];omega,⟨by omega,rfl,by omega⟩,⟨⟨lR7 _,rfl⟩,lR7 _,rfl,rfl,rfl,by omega,?_⟩,⟨trivial,trivial⟩,?_,[(0,.cells [.view 1 n (wad v),.q (i.a+1)] 27),(1,.row 115 2 (i.bs.length+1) (was (atB (i.bs++[⟨0,wab n v i.a 4 * 10⟩]))) false)],⟨rfl,⟨rfl,rfl,rfl,rfl,rfl,snocB _ _ _ rfl⟩,trivial⟩,λ_ _=>rfl,?_⟩
 ·show (i.bs.length+1) * 16<=_;omega
 ·refine λj hj=>?_;rw[snocB i.bs ⟨0,wab n v i.a 4 * 10⟩ _ rfl j hj];rfl
 ·have hb:Nat.ble (i.bs.length+1) (i.bs.length+1)=true:=Nat.ble_eq_true_of_le (lR7 _);have e2:i.a=a+2+2 * wab n v (a+1) 4:=by omega
  have eL:tarL n v a=i.bs++[⟨0,wab n v i.a 4 * 10⟩]:=by
   unfold tarL;rw[h3,e2,show a+1+1=a+2 by omega]
  have eA:tarA n v a=i.a+1:=by unfold tarA;omega
  have hl:(i.bs++[(⟨0,wab n v i.a 4 * 10⟩:BK)]).length=i.bs.length+1:=by simp
  rw[eL,eA,hl]
  constructor
  ·simp[frzC,frzA,frz,hb]
  ·simp[rm]
end Go.Eng
