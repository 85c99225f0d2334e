/- The tape's tariffs and files. -/
import Derived.Test.YtgcboligphndhaaGreatDoorJt
import Derived.Test.YtgcboligphndhaaGreatDoorJw
import Derived.Test.YtgcboligphndhaaGreatDoorJr
import Derived.Test.YtgcboligphndhaaGreatDoorJv
namespace Go.Eng
open Go.Proofs Go.RowKit
variable {C:Ctx} [C.Loose]
set_option maxRecDepth 20000
theorem w0g (n:Nat) (v:Nat→Int) (a:Int) (R:AV→List (Nat×AObj)→Prop):wpFn te [(42,.det wbh)] [] 0 Tryz.f88 [.ptr 0 0] [.cells [.view 1 n (waa v),.int .i64 a] 27] R=((3≤16777216∧1=1∧3≤9223372036854775807)∧(27=27∧1=1∧waa v=waa (vInt (waa v))∧((1:Int)≤(3:Int)∧(3:Int)≤(1000000:Int))∧(0:Int)≤a∧a≤(4611686018427387904:Int))∧((0:Int)≤wac n (vInt (waa v)) a (3:Int)∧wac n (vInt (waa v)) a (3:Int)<(↑3:Int))∧(Int.toNat (wac n (vInt (waa v)) a (3:Int))<3∧1=1)∧R (.str (List.getD [[(97:UInt8)],[(98:UInt8)],[(99:UInt8)]] (Int.toNat (wac n (vInt (waa v)) a (3:Int))) [])) [(0,.cells [.view 1 n (waa v),.int .i64 (a+(1:Int))] 27)]):=by kernel_rfl
theorem wti (n:Nat) (v:Nat→Int) (a:Int) (R:AV→List (Nat×AObj)→Prop):wpFn te [(42,.det wbh),(80,.det wc2),(81,.det wc1),(43,.det S_id)] [] 3 Tryz.f89 [.ptr 0 0] [.cells [.view 1 n (waa v),.int .i64 a] 27] R=(letI z18:=((1:Int)≤(4:Int)∧(4:Int)≤(1000000:Int):Prop);letI z17:=(4611686018427387904:Int);letI z16:=(4611686018427387000:Int);letI z14:=(Int.toNat ((48:Int)+Prod.fst (cdF (id7 (4:Int)))));letI z12:=([(0,.cells [.view 1 n (waa v),.int .i64 (a+(1:Int)+(1:Int)+(1:Int)+(1:Int)+(1:Int)+(1:Int)+(1:Int))] 27)]:List (Nat×AObj));letI z11:=(a+(1:Int)+(1:Int));letI z10:=(a+(1:Int)+(1:Int)+(1:Int)+(1:Int));letI z19:=(wac n (vInt (waa v)) z10 (7:Int));letI z9:=(outF (wac n (vInt (waa v)) a (3:Int)));letI z8:=(a+(1:Int)+(1:Int)+(1:Int));letI z7:=(a+(1:Int)+(1:Int)+(1:Int)+(1:Int)+(1:Int)+(1:Int));letI z15:=([(0,.cells [.view 1 n (waa v),.int .i64 z7] 27)]:List (Nat×AObj));letI z6:=(wac n (vInt (waa v)) (a+(1:Int)) (4:Int));letI z5:=(a+(1:Int)+(1:Int)+(1:Int)+(1:Int)+(1:Int));letI z4:=(Int.toNat z19);letI z13:=(decide ((1:Int)+List.getD [(0:Int),(0:Int),(0:Int),(1:Int),(2:Int),(3:Int),(4:Int)] z4 (0:Int)=(5:Int)));letI z3:=((True∧True)∧R (.agg [.str z9,.str (idF z6),.int .i64 ((1440:Int)+wac n (vInt (waa v)) z11 (4:Int)),.int .i64 ((43830:Int)+wac n (vInt (waa v)) z8 (100:Int)),.int .i64 ((1:Int)+List.getD [(0:Int),(0:Int),(0:Int),(1:Int),(2:Int),(3:Int),(4:Int)] z4 (0:Int)),.int .i64 0,.str [(fun (i:Nat)=>UInt8.ofNat (Int.toNat (wao (List.headD (wba (idV (4:Int)) i) .any)))) (nat_lit 0),(fun (i:Nat)=>UInt8.ofNat (Int.toNat (wao (List.headD (wba (idV (4:Int)) i) .any)))) (nat_lit 1),(fun (i:Nat)=>UInt8.ofNat (Int.toNat (wao (List.headD (wba (idV (4:Int)) i) .any)))) (nat_lit 2),(fun (i:Nat)=>UInt8.ofNat (Int.toNat (wao (List.headD (wba (idV (4:Int)) i) .any)))) (nat_lit 3),(fun (i:Nat)=>UInt8.ofNat (Int.toNat (wao (List.headD (wba (idV (4:Int)) i) .any)))) (nat_lit 4),(fun (i:Nat)=>UInt8.ofNat (Int.toNat (wao (List.headD (wba (idV (4:Int)) i) .any)))) (nat_lit 5),(fun (i:Nat)=>UInt8.ofNat (Int.toNat (wao (List.headD (wba (idV (4:Int)) i) .any)))) (nat_lit 6),UInt8.ofNat z14]]) z15:Prop);letI z2:=((True∧True)∧R (.agg [.str z9,.str (idF z6),.int .i64 ((1440:Int)+wac n (vInt (waa v)) z11 (4:Int)),.int .i64 ((43830:Int)+wac n (vInt (waa v)) z8 (100:Int)),.int .i64 ((1:Int)+List.getD [(0:Int),(0:Int),(0:Int),(1:Int),(2:Int),(3:Int),(4:Int)] z4 (0:Int)),.int .i64 ((100:Int)+wac n (vInt (waa v)) z5 (4:Int) * (5:Int)),.str [(fun (i:Nat)=>UInt8.ofNat (Int.toNat (wao (List.headD (wba (idV (4:Int)) i) .any)))) (nat_lit 0),(fun (i:Nat)=>UInt8.ofNat (Int.toNat (wao (List.headD (wba (idV (4:Int)) i) .any)))) (nat_lit 1),(fun (i:Nat)=>UInt8.ofNat (Int.toNat (wao (List.headD (wba (idV (4:Int)) i) .any)))) (nat_lit 2),(fun (i:Nat)=>UInt8.ofNat (Int.toNat (wao (List.headD (wba (idV (4:Int)) i) .any)))) (nat_lit 3),(fun (i:Nat)=>UInt8.ofNat (Int.toNat (wao (List.headD (wba (idV (4:Int)) i) .any)))) (nat_lit 4),(fun (i:Nat)=>UInt8.ofNat (Int.toNat (wao (List.headD (wba (idV (4:Int)) i) .any)))) (nat_lit 5),(fun (i:Nat)=>UInt8.ofNat (Int.toNat (wao (List.headD (wba (idV (4:Int)) i) .any)))) (nat_lit 6),UInt8.ofNat z14]]) z12:Prop);letI z1:=(decide ([(fun (i:Nat)=>UInt8.ofNat (Int.toNat (wao (List.headD (wba (idV (4:Int)) i) .any)))) (nat_lit 0),(fun (i:Nat)=>UInt8.ofNat (Int.toNat (wao (List.headD (wba (idV (4:Int)) i) .any)))) (nat_lit 1),(fun (i:Nat)=>UInt8.ofNat (Int.toNat (wao (List.headD (wba (idV (4:Int)) i) .any)))) (nat_lit 2),(fun (i:Nat)=>UInt8.ofNat (Int.toNat (wao (List.headD (wba (idV (4:Int)) i) .any)))) (nat_lit 3),(fun (i:Nat)=>UInt8.ofNat (Int.toNat (wao (List.headD (wba (idV (4:Int)) i) .any)))) (nat_lit 4),(fun (i:Nat)=>UInt8.ofNat (Int.toNat (wao (List.headD (wba (idV (4:Int)) i) .any)))) (nat_lit 5),(fun (i:Nat)=>UInt8.ofNat (Int.toNat (wao (List.headD (wba (idV (4:Int)) i) .any)))) (nat_lit 6),UInt8.ofNat z14]=idF z6));letI z0:=(wab z13 ((27=27∧1=1∧waa v=waa (vInt (waa v))∧(0:Int)≤a+(1:Int)+(1:Int)+(1:Int)+(1:Int)+(1:Int)∧a+(1:Int)+(1:Int)+(1:Int)+(1:Int)+(1:Int)≤z16)∧wab (decide (idF (wac n (vInt (waa v)) z5 (4:Int))=idF z6)) (True∧wab z1 (True∧wab z1 (True∧False) z3) z3) ((True∧True)∧R (.agg [.str z9,.str (idF z6),.int .i64 ((1440:Int)+wac n (vInt (waa v)) z11 (4:Int)),.int .i64 ((43830:Int)+wac n (vInt (waa v)) z8 (100:Int)),.int .i64 ((1:Int)+List.getD [(0:Int),(0:Int),(0:Int),(1:Int),(2:Int),(3:Int),(4:Int)] z4 (0:Int)),.int .i64 0,.str (idF (wac n (vInt (waa v)) z5 (4:Int)))]) z15)) ((True∧True)∧R (.agg [.str z9,.str (idF z6),.int .i64 ((1440:Int)+wac n (vInt (waa v)) z11 (4:Int)),.int .i64 ((43830:Int)+wac n (vInt (waa v)) z8 (100:Int)),.int .i64 ((1:Int)+List.getD [(0:Int),(0:Int),(0:Int),(1:Int),(2:Int),(3:Int),(4:Int)] z4 (0:Int)),.int .i64 0,.str []]) [(0,.cells [.view 1 n (waa v),.int .i64 z5] 27)]));(27=27∧1=1∧waa v=waa (vInt (waa v))∧(0:Int)≤a∧a≤z16)∧(27=27∧1=1∧waa v=waa (vInt (waa v))∧(0:Int)≤a+(1:Int)∧a+(1:Int)≤z16)∧(27=27∧1=1∧waa v=waa (vInt (waa v))∧z18∧(0:Int)≤a+(1:Int)+(1:Int)∧a+(1:Int)+(1:Int)≤z17)∧inR .i64 ((1440:Int)+wac n (vInt (waa v)) z11 (4:Int))∧(27=27∧1=1∧waa v=waa (vInt (waa v))∧((1:Int)≤(100:Int)∧(100:Int)≤(1000000:Int))∧(0:Int)≤a+(1:Int)+(1:Int)+(1:Int)∧a+(1:Int)+(1:Int)+(1:Int)≤z17)∧inR .i64 ((43830:Int)+wac n (vInt (waa v)) z8 (100:Int))∧(7≤16777216∧1=1∧7≤9223372036854775807)∧(27=27∧1=1∧waa v=waa (vInt (waa v))∧((1:Int)≤(7:Int)∧(7:Int)≤(1000000:Int))∧(0:Int)≤a+(1:Int)+(1:Int)+(1:Int)+(1:Int)∧a+(1:Int)+(1:Int)+(1:Int)+(1:Int)≤z17)∧((0:Int)≤wac n (vInt (waa v)) z10 (7:Int)∧wac n (vInt (waa v)) z10 (7:Int)<(↑7:Int))∧(Int.toNat z19<7∧1=1)∧inR .i64 ((1:Int)+List.getD [(0:Int),(0:Int),(0:Int),(1:Int),(2:Int),(3:Int),(4:Int)] z4 (0:Int))∧wab (!decide ((1:Int)+List.getD [(0:Int),(0:Int),(0:Int),(1:Int),(2:Int),(3:Int),(4:Int)] z4 (0:Int)=(3:Int))) (wab (!decide ((1:Int)+List.getD [(0:Int),(0:Int),(0:Int),(1:Int),(2:Int),(3:Int),(4:Int)] z4 (0:Int)=(4:Int))) ((27=27∧1=1∧waa v=waa (vInt (waa v))∧z18∧(0:Int)≤a+(1:Int)+(1:Int)+(1:Int)+(1:Int)+(1:Int)∧a+(1:Int)+(1:Int)+(1:Int)+(1:Int)+(1:Int)≤z17)∧inR .i64 (wac n (vInt (waa v)) z5 (4:Int) * (5:Int))∧inR .i64 ((100:Int)+wac n (vInt (waa v)) z5 (4:Int) * (5:Int))∧wab z13 ((27=27∧1=1∧waa v=waa (vInt (waa v))∧(0:Int)≤a+(1:Int)+(1:Int)+(1:Int)+(1:Int)+(1:Int)+(1:Int)∧a+(1:Int)+(1:Int)+(1:Int)+(1:Int)+(1:Int)+(1:Int)≤z16)∧wab (decide (idF (wac n (vInt (waa v)) z7 (4:Int))=idF z6)) (True∧wab z1 (True∧wab z1 (True∧False) z2) z2) ((True∧True)∧R (.agg [.str z9,.str (idF z6),.int .i64 ((1440:Int)+wac n (vInt (waa v)) z11 (4:Int)),.int .i64 ((43830:Int)+wac n (vInt (waa v)) z8 (100:Int)),.int .i64 ((1:Int)+List.getD [(0:Int),(0:Int),(0:Int),(1:Int),(2:Int),(3:Int),(4:Int)] z4 (0:Int)),.int .i64 ((100:Int)+wac n (vInt (waa v)) z5 (4:Int) * (5:Int)),.str (idF (wac n (vInt (waa v)) z7 (4:Int)))]) z12)) ((True∧True)∧R (.agg [.str z9,.str (idF z6),.int .i64 ((1440:Int)+wac n (vInt (waa v)) z11 (4:Int)),.int .i64 ((43830:Int)+wac n (vInt (waa v)) z8 (100:Int)),.int .i64 ((1:Int)+List.getD [(0:Int),(0:Int),(0:Int),(1:Int),(2:Int),(3:Int),(4:Int)] z4 (0:Int)),.int .i64 ((100:Int)+wac n (vInt (waa v)) z5 (4:Int) * (5:Int)),.str []]) z15)) z0) z0):=by kernel_rfl
theorem nf_mmsg (n:Nat) (v:Nat→Int) (a:Int) (R:AV→List (Nat×AObj)→Prop):wpFn te [(42,.det wbh),(80,.det wc2),(81,.det wc1),(88,.det whj),(89,.rel wnf)] [] 0 Tryz.f36 [.ptr 0 0] [.cells [.view 1 n (waa v),.int .i64 a] 27] R=(letI z5:=(devF (wac n (vInt (waa v)) a (3:Int)));letI z4:=((1:Int)≤(9:Int)∧(9:Int)≤(1000000:Int):Prop);letI z3:=(a+(1:Int)+(1:Int)+(1:Int)+(1:Int)+(1:Int));letI z2:=(4611686018427387904:Int);letI z1:=(4611686018427387000:Int);letI z0:=(a+(1:Int)+(1:Int)+(1:Int)+(1:Int)+(1:Int)+(1:Int)+(1:Int));(27=27∧1=1∧waa v=waa (vInt (waa v))∧(0:Int)≤a∧a≤z1)∧(27=27∧1=1∧waa v=waa (vInt (waa v))∧z4∧(0:Int)≤a+(1:Int)∧a+(1:Int)≤z2)∧inR .i64 ((1:Int)+wac n (vInt (waa v)) (a+(1:Int)) (9:Int))∧(27=27∧1=1∧waa v=waa (vInt (waa v))∧((1:Int)≤(5:Int)∧(5:Int)≤(1000000:Int))∧(0:Int)≤a+(1:Int)+(1:Int)∧a+(1:Int)+(1:Int)≤z2)∧wab (decide (wac n (vInt (waa v)) (a+(1:Int)+(1:Int)) (5:Int)=(0:Int))) ((27=27∧1=1∧waa v=waa (vInt (waa v))∧(0:Int)≤a+(1:Int)+(1:Int)+(1:Int)∧a+(1:Int)+(1:Int)+(1:Int)≤z1)∧(27=27∧1=1∧waa v=waa (vInt (waa v))∧(0:Int)≤a+(1:Int)+(1:Int)+(1:Int)+(1:Int)∧a+(1:Int)+(1:Int)+(1:Int)+(1:Int)≤z1)∧(27=27∧1=1∧waa v=waa (vInt (waa v))∧((1:Int)≤(4:Int)∧(4:Int)≤(1000000:Int))∧(0:Int)≤a+(1:Int)+(1:Int)+(1:Int)+(1:Int)+(1:Int)∧a+(1:Int)+(1:Int)+(1:Int)+(1:Int)+(1:Int)≤z2)∧inR .i64 ((1440:Int)+wac n (vInt (waa v)) z3 (4:Int))∧(27=27∧1=1∧waa v=waa (vInt (waa v))∧(0:Int)≤a+(1:Int)+(1:Int)+(1:Int)+(1:Int)+(1:Int)+(1:Int)∧a+(1:Int)+(1:Int)+(1:Int)+(1:Int)+(1:Int)+(1:Int)≤z1)∧(27=27∧1=1∧waa v=waa (vInt (waa v))∧z4∧(0:Int)≤a+(1:Int)+(1:Int)+(1:Int)+(1:Int)+(1:Int)+(1:Int)+(1:Int)∧a+(1:Int)+(1:Int)+(1:Int)+(1:Int)+(1:Int)+(1:Int)+(1:Int)≤z2)∧inR .i64 ((1:Int)+wac n (vInt (waa v)) z0 (9:Int))∧(True∧True)∧R (.agg [.str z5,.int .i64 ((1:Int)+wac n (vInt (waa v)) (a+(1:Int)) (9:Int)),.int .i64 2,.str [],.str [],.int .i64 0,.int .i64 0,.int .i64 0,.int .i64 0,.str [],.str (outF (wac n (vInt (waa v)) (a+(1:Int)+(1:Int)+(1:Int)) (3:Int))),.str (idF (wac n (vInt (waa v)) (a+(1:Int)+(1:Int)+(1:Int)+(1:Int)) (4:Int))),.int .i64 ((1440:Int)+wac n (vInt (waa v)) z3 (4:Int)),.str (devF (wac n (vInt (waa v)) (a+(1:Int)+(1:Int)+(1:Int)+(1:Int)+(1:Int)+(1:Int)) (3:Int))),.int .i64 ((1:Int)+wac n (vInt (waa v)) z0 (9:Int))]) [(0,.cells [.view 1 n (waa v),.int .i64 (a+(1:Int)+(1:Int)+(1:Int)+(1:Int)+(1:Int)+(1:Int)+(1:Int)+(1:Int))] 27)]) (27=27∧1=1∧waa v=waa (vInt (waa v))∧((0:Int)≤a+(1:Int)+(1:Int)+(1:Int)∧a+(1:Int)+(1:Int)+(1:Int)≤(4611686018427386000:Int))∧∀ (x:VT) (a':Int),VT.Made x→a+(1:Int)+(1:Int)+(1:Int)≤a'∧a'≤a+(1:Int)+(1:Int)+(1:Int)+(7:Int)→(True∧True)∧R (.agg [.str z5,.int .i64 ((1:Int)+wac n (vInt (waa v)) (a+(1:Int)) (9:Int)),.int .i64 1,.str (VT.o x),.str (VT.p x),.int .i64 (VT.per x),.int .i64 (VT.day x),.int .i64 (VT.st x),.int .i64 (VT.pr x),.str (VT.rep x),.str [],.str [],.int .i64 0,.str [],.int .i64 0]) [(0,.cells [.view 1 n (waa v),.int .i64 a'] 27)])):=by kernel_rfl
theorem wvk (hP:C.P=Tryz.prog):wag C 88 whj:=by
 rintro args objs U Os vc h hvc
 unfold whj at h
 split at h<;>simp only [Option.some.injEq,Prod.mk.injEq,reduceCtorEq] at h
 rename_i sz n f a t
 obtain ⟨rfl,rfl,rfl⟩:=h
 obtain ⟨rfl,rfl,hf,h1,h2⟩:=hvc
 rw [hf]
 generalize vInt f=v
 have hw:vInt (waa v)=v:=rfl
 refine wag.wp0 (prg hP) [(42,.det wbh)] 0 (.cons (wco hP) .nil) (hP ▸ Tryz.func88) rfl rfl rfl ?_
 rw [w0g]
 have r:=wax (show (1:Int)≤3 by omega) n v a
 exact ⟨⟨by omega,rfl,by omega⟩,⟨rfl,rfl,rfl,⟨by omega,by omega⟩,by omega,by omega⟩,⟨r.1,r.2⟩,⟨by rw [hw];omega,rfl⟩,rfl,rfl⟩
theorem stF:∀ i:Nat,i<7→1≤1+List.getD [(0:Int),0,0,1,2,3,4] i 0∧1+List.getD [(0:Int),0,0,1,2,3,4] i 0≤5:=by decide
theorem wkk {x:Int} (h:0≤x∧x<4):¬ idF 4=idF x:=by
 have:=idF4 x.toNat (by omega)
 rwa [show ((x.toNat:Nat):Int)=x by omega] at this
theorem wrw {o p:List UInt8} {per day st pr:Int} {rep:List UInt8} (ho:wa0 o=true) (hp:wa9 p=true) (hper:0≤per∧per≤5999) (hday:0≤day∧day≤182620)
  (h:((st=1∨st=2)∧(1≤pr∧pr≤1099511627776)∧rep=[])∨((st=3∨st=4)∧pr=0∧rep=[])∨(st=5∧(1≤pr∧pr≤1099511627776)∧wa9 rep=true∧¬ rep=p)):visF ⟨o,p,per,day,st,pr,rep⟩=true:=by
 unfold visF wbg
 dsimp only
 rw [ho,hp,decide_eq_true hper.1,decide_eq_true hper.2,decide_eq_true hday.1,decide_eq_true hday.2]
 rcases h with ⟨q | q,⟨h1,h2⟩,h3⟩ | ⟨q | q,h1,h2⟩ | ⟨q,⟨h1,h2⟩,h3,h4⟩
 ·subst q;subst h3;rw [decide_eq_true h1,decide_eq_true h2];rfl
 ·subst q;subst h3;rw [decide_eq_true h1,decide_eq_true h2];rfl
 ·subst q;subst h1;subst h2;rfl
 ·subst q;subst h1;subst h2;rfl
 ·subst q;rw [decide_eq_true h1,decide_eq_true h2,h3,decide_eq_false h4];rfl
theorem wto {dev:List UInt8} {seq:Int} {x:VT} (hd:wa0 dev=true) (hs:1≤seq∧seq≤1048576) (hx:visF x=true):msgF ⟨dev,seq,1,x,⟨[],[],0,[],0⟩⟩=0:=by
 unfold msgF numF
 dsimp only
 rw [hd,hx,decide_eq_true hs.1,decide_eq_true hs.2];rfl
theorem wtp {dev:List UInt8} {seq:Int} {o p:List UInt8} {per:Int} {dd:List UInt8} {num:Int} (hd:wa0 dev=true) (hs:1≤seq∧seq≤1048576) (h:wbg o p per=true) (h':wa0 dd=true) (hn:1≤num∧num≤1048576):
  msgF ⟨dev,seq,2,⟨[],[],0,0,0,0,[]⟩,⟨o,p,per,dd,num⟩⟩=0:=by
 unfold msgF numF
 dsimp only
 rw [hd,h,h',decide_eq_true hs.1,decide_eq_true hs.2,decide_eq_true hn.1,decide_eq_true hn.2];rfl
theorem wsh {o p:List UInt8} {per:Int} (ho:wa0 o=true) (hp:wa9 p=true) (hper:0≤per∧per≤5999):wbg o p per=true:=by
 unfold wbg
 rw [ho,hp,decide_eq_true hper.1,decide_eq_true hper.2];rfl
theorem w02 (hP:C.P=Tryz.prog):wbd C 89 wnf:=by
 rintro args objs R h
 unfold wnf at h
 split at h
 ·rename_i sz n f a t
  obtain ⟨rfl,rfl,hf,ha,hR⟩:=h
  rw [hf] at hR ⊢
  generalize vInt f=v at *
  have hw:vInt (waa v)=v:=rfl
  refine wbd.wpL (prg hP) [(42,.det wbh),(80,.det wc2),(81,.det wc1),(43,.det S_id)] [] 3 (.cons (wco hP) (.cons (wgt hP) (.cons (wgl hP) (.cons (wkj hP) .nil)))) (hP ▸ Tryz.func89) rfl rfl rfl [] (by kernel_rfl) trivial ?_
  rw [wti,hw]
  have r1:=wax (show (1:Int)≤3 by omega) n v a
  have r2:=wax (show (1:Int)≤4 by omega) n v (a+1)
  have r3:=wax (show (1:Int)≤4 by omega) n v (a+1+1)
  have r4:=wax (show (1:Int)≤100 by omega) n v (a+1+1+1)
  have r5:=wax (show (1:Int)≤7 by omega) n v (a+1+1+1+1)
  have r6:=wax (show (1:Int)≤4 by omega) n v (a+1+1+1+1+1)
  have hst:=stF (wac n v (a+1+1+1+1) 7).toNat (by omega)
  have ho:=wh5 (wac n v a 3).toNat (by omega)
  have key:∀ (st pr:Int) (rep:List UInt8) (a':Int),(((st=1∨st=2)∧(1≤pr∧pr≤1099511627776)∧rep=[])∨((st=3∨st=4)∧pr=0∧rep=[])∨(st=5∧(1≤pr∧pr≤1099511627776)∧wa9 rep=true∧¬ rep=idF (wac n v (a+1) 4)))→(a≤a'∧a'≤a+7)→
    R (.agg [.str (outF (wac n v a 3)),.str (idF (wac n v (a+1) 4)),.int .i64 (1440+wac n v (a+1+1) 4),.int .i64 (43830+wac n v (a+1+1+1) 100),.int .i64 st,.int .i64 pr,.str rep]) [(0,.cells [.view 1 n (waa v),.int .i64 a'] 27)]:=fun st pr rep a' h1 h2=>
   hR ⟨outF (wac n v a 3),idF (wac n v (a+1) 4),1440+wac n v (a+1+1) 4,43830+wac n v (a+1+1+1) 100,st,pr,rep⟩ a' ⟨wrw ho.1 (wdz _) (by omega) (by omega) h1,ho.2⟩ h2
  refine ⟨⟨rfl,rfl,rfl,by omega,by omega⟩,⟨rfl,rfl,rfl,by omega,by omega⟩,⟨rfl,rfl,rfl,⟨by omega,by omega⟩,by omega,by omega⟩,by simp only [inR];omega,⟨rfl,rfl,rfl,⟨by omega,by omega⟩,by omega,by omega⟩,by simp only [inR];omega,⟨by omega,rfl,by omega⟩,⟨rfl,rfl,rfl,⟨by omega,by omega⟩,by omega,by omega⟩,⟨by omega,by omega⟩,⟨by omega,rfl⟩,?_⟩
  generalize 1+List.getD [(0:Int),0,0,1,2,3,4] (wac n v (a+1+1+1+1) 7).toNat 0=st at *
  refine ⟨by simp only [inR];omega,wb3 (fun s3=>wb3 (fun s4=>⟨⟨rfl,rfl,rfl,⟨by omega,by omega⟩,by omega,by omega⟩,by simp only [inR];omega,by simp only [inR];omega,waj (fun s5=>⟨⟨rfl,rfl,rfl,by omega,by omega⟩,waj (fun q=>⟨trivial,waj (fun q'=>absurd q' (wkk r2)) (fun q'=>⟨⟨trivial,trivial⟩,?_⟩)⟩) (fun q=>⟨⟨trivial,trivial⟩,?_⟩)⟩) (fun s5=>⟨⟨trivial,trivial⟩,?_⟩)⟩)
   (fun s4=>waj (fun s5=>absurd s5 (by omega)) (fun s5=>⟨⟨trivial,trivial⟩,?_⟩))) (fun s3=>waj (fun s5=>absurd s5 (by omega)) (fun s5=>⟨⟨trivial,trivial⟩,?_⟩))⟩
  ·exact key st _ (idF 4) _ (.inr (.inr ⟨s5,by omega,wdz _,wkk r2⟩)) (by omega)
  ·exact key st _ _ _ (.inr (.inr ⟨s5,by omega,wdz _,q⟩)) (by omega)
  ·exact key st _ _ _ (.inl ⟨by omega,by omega,rfl⟩) (by omega)
  ·exact key st _ _ _ (.inr (.inl ⟨by omega,rfl,rfl⟩)) (by omega)
  ·exact key st _ _ _ (.inr (.inl ⟨by omega,rfl,rfl⟩)) (by omega)
 ·exact h.elim
theorem wtv (hP : C.P = Tryz.prog) : wbd C 36 who := by
  rintro args objs R h
  unfold who at h
  split at h
  · rename_i sz n f a t
    obtain ⟨rfl, rfl, hf, ha, hR⟩ := h
    rw [hf] at hR ⊢
    generalize vInt f = v at *
    have hw : vInt (waa v) = v := rfl
    refine wbd.wpL (prg hP) [(42, .det wbh), (80, .det wc2), (81, .det wc1), (88, .det whj), (89, .rel wnf)] [] 0 (.cons (wco hP) (.cons (wgt hP) (.cons (wgl hP) (.cons (wvk hP) (.cons (w02 hP) .nil))))) (hP ▸ Tryz.func36) rfl rfl rfl [] (by kernel_rfl) trivial ?_
    rw [nf_mmsg, hw]
    have r1 := wax (show (1 : Int) ≤ 3 by omega) n v a
    have r2 := wax (show (1 : Int) ≤ 9 by omega) n v (a + 1)
    have r4 := wax (show (1 : Int) ≤ 3 by omega) n v (a + 1 + 1 + 1)
    have r6 := wax (show (1 : Int) ≤ 4 by omega) n v (a + 1 + 1 + 1 + 1 + 1)
    have r7 := wax (show (1 : Int) ≤ 3 by omega) n v (a + 1 + 1 + 1 + 1 + 1 + 1)
    have r8 := wax (show (1 : Int) ≤ 9 by omega) n v (a + 1 + 1 + 1 + 1 + 1 + 1 + 1)
    have hd := wkz (wac n v a 3).toNat (by omega)
    have ho := wh5 (wac n v (a + 1 + 1 + 1) 3).toNat (by omega)
    have hd' := wkz (wac n v (a + 1 + 1 + 1 + 1 + 1 + 1) 3).toNat (by omega)
    refine ⟨⟨rfl, rfl, rfl, by omega, by omega⟩, ⟨rfl, rfl, rfl, ⟨by omega, by omega⟩, by omega, by omega⟩, by simp only [inR]; omega, ⟨rfl, rfl, rfl, ⟨by omega, by omega⟩, by omega, by omega⟩, waj (fun q => ⟨⟨rfl, rfl, rfl, by omega, by omega⟩, ⟨rfl, rfl, rfl, by omega, by omega⟩, ⟨rfl, rfl, rfl, ⟨by omega, by omega⟩, by omega, by omega⟩, by simp only [inR]; omega, ⟨rfl, rfl, rfl, by omega, by omega⟩, ⟨rfl, rfl, rfl, ⟨by omega, by omega⟩, by omega, by omega⟩, by simp only [inR]; omega, ⟨trivial, trivial⟩, ?_⟩)
      (fun q => ⟨rfl, rfl, rfl, ⟨by omega, by omega⟩, fun x a' hx ha' => ⟨⟨trivial, trivial⟩, ?_⟩⟩)⟩
    · exact hR ⟨devF (wac n v a 3), 1 + wac n v (a + 1) 9, 2, ⟨[], [], 0, 0, 0, 0, []⟩, ⟨outF (wac n v (a + 1 + 1 + 1) 3), idF (wac n v (a + 1 + 1 + 1 + 1) 4), 1440 + wac n v (a + 1 + 1 + 1 + 1 + 1) 4, devF (wac n v (a + 1 + 1 + 1 + 1 + 1 + 1) 3), 1 + wac n v (a + 1 + 1 + 1 + 1 + 1 + 1 + 1) 9⟩⟩ _
        ⟨wtp hd.1 (by omega) (wsh ho.1 (wdz _) (by omega)) hd'.1 (by omega), hd.2, Nat.zero_le _, ho.2, hd'.2⟩ (by omega)
    · exact hR ⟨devF (wac n v a 3), 1 + wac n v (a + 1) 9, 1, x, ⟨[], [], 0, [], 0⟩⟩ a' ⟨wto hd.1 (by omega) hx.ok, hd.2, hx.o, Nat.zero_le _, Nat.zero_le _⟩ (by omega)
  · exact h.elim
def keyK (p:List UInt8×Int):AV:=.agg [.str p.1,.int .i64 p.2]
theorem wf8 (a b:List UInt8×Int):keq (keyK a) (keyK b)=(decide (a.1=b.1) && decide (a.2=b.2)):=by simp [keyK,keq,keqL,keq0]
theorem wso (p:List UInt8×Int):(decide (p.1=p.1) && decide (p.2=p.2))=true:=by simp
theorem wgc (σ:Nat→Option Nat) (L:List ((List UInt8×Int)×Int)):(entM L).map (fun p=>(AV.rn σ p.1,AV.rn σ p.2))=entM L:=by
 unfold entM
 rw [List.map_map]
 rfl
theorem w2q {L:List ((List UInt8×Int)×Int)} (h:(L.map Prod.fst).Nodup):wcu te 83 (entM L):=by
 refine ⟨List.all_eq_true.2 fun p hp=>?_,?_⟩
 ·obtain ⟨r,_,rfl⟩:=List.mem_map.1 hp
  have:∀ (a:List UInt8) (b:Int),keyA te 83 (.agg [.str a,.int .i64 b])=true:=fun a b=>by kernel_rfl
  exact this _ _
 ·have:(entM L).map Prod.fst=(L.map Prod.fst).map keyK:=by simp [entM,keyK]
  rw [this]
  refine List.pairwise_map.2 (h.imp fun {a b} hab he=>hab ?_)
  have q:=wf8 a b
  rw [he,wf8,wso] at q
  exact wgo.1 q.symm
theorem wpx (p:List UInt8×Int):∀ L:List ((List UInt8×Int)×Int),Option.getD (mget (entM L) (keyK p)) (.int .i64 0)= .int .i64 (getC L p)
 |[]=>rfl
 |x::l=>by
  rw [getC]
  show Option.getD (match keq (keyK x.1) (keyK p) with | true=>some (.int .i64 x.2) | false=>mget (entM l) (keyK p)) _=_
  rw [wf8]
  cases decide (x.1.1=p.1) && decide (x.1.2=p.2) with
  |true=>rfl
  |false=>exact wpx p l
theorem ment_K (p:List UInt8×Int):∀ L:List ((List UInt8×Int)×Int),
  Option.getD (mget (ment (.int .i64 0) (entM L) (keyK p)) (keyK p)) (.int .i64 0)= .int .i64 (getC L p)∧midx (entM L) (keyK p)<(ment (.int .i64 0) (entM L) (keyK p)).length∧
  (ment (.int .i64 0) (entM L) (keyK p)).set (midx (entM L) (keyK p)) (((ment (.int .i64 0) (entM L) (keyK p)).getD (midx (entM L) (keyK p)) (.any,.any)).1,.int .i64 (getC L p+1))=entM (addC L p)
 |[]=>by
  refine ⟨?_,Nat.zero_lt_one,rfl⟩
  show Option.getD (match keq (keyK p) (keyK p) with | true=>some (AV.int .i64 0) | false=>none) _=_
  rw [wf8,wso];rfl
 |x::l=>by
  obtain ⟨i1,i2,i3⟩:=ment_K p l
  have e1:ment (.int .i64 0) (entM (x::l)) (keyK p)=match keq (keyK x.1) (keyK p) with | true=>(keyK x.1,AV.int .i64 x.2)::entM l | false=>(keyK x.1,AV.int .i64 x.2)::ment (.int .i64 0) (entM l) (keyK p):=rfl
  have e2:midx (entM (x::l)) (keyK p)=match keq (keyK x.1) (keyK p) with | true=>0 | false=>midx (entM l) (keyK p)+1:=rfl
  rw [e1,e2,getC,addC,wf8]
  cases h:decide (x.1.1=p.1) && decide (x.1.2=p.2) with
  |true=>
   have e:=wgo.1 h
   refine ⟨?_,Nat.succ_pos _,?_⟩
   ·show Option.getD (match keq (keyK x.1) (keyK p) with | true=>some (AV.int .i64 x.2) | false=>mget (entM l) (keyK p)) _=_
    rw [wf8,h];rfl
   ·show (keyK x.1,AV.int .i64 (x.2+1))::entM l=(keyK p,AV.int .i64 (x.2+1))::entM l
    rw [e]
  |false=>
   refine ⟨?_,Nat.succ_lt_succ i2,?_⟩
   ·show Option.getD (match keq (keyK x.1) (keyK p) with | true=>some (AV.int .i64 x.2) | false=>mget (ment (.int .i64 0) (entM l) (keyK p)) (keyK p)) _=_
    rw [wf8,h];exact i1
   ·show (keyK x.1,AV.int .i64 x.2)::(ment (.int .i64 0) (entM l) (keyK p)).set (midx (entM l) (keyK p)) (((ment (.int .i64 0) (entM l) (keyK p)).getD (midx (entM l) (keyK p)) (.any,.any)).1,.int .i64 (getC l p+1))=(keyK x.1,AV.int .i64 x.2)::entM (addC l p)
    rw [i3]
theorem nf_msgs (n:Nat) (v:Nat→Int) (a most:Int) (R:AV→List (Nat×AObj)→Prop):wpFn te [(36,.rel who),(42,.det wbh)] [(3,wn5 n v (a+1) (wac n v a (most+1)))] 0 Tryz.f59 [.ptr 0 0,.int .i64 most] [.cells [.view 1 n (waa v),.int .i64 a] 27] R=(letI z1:=(most+(1:Int));letI z0:=(MgS.mk 0 (fun (_x:Nat)=>default) (a+(1:Int)));inR .i64 z1∧(27=27∧1=1∧waa v=waa (vInt (waa v))∧((1:Int)≤most+(1:Int)∧most+(1:Int)≤(1000000:Int))∧(0:Int)≤a∧a≤(4611686018427387904:Int))∧(TEq [(0,.ptr 0 0),(5,.own 1 0),(9,.int .i64 (wac n (vInt (waa v)) a z1)),(10,.int .i64 0)] [(0,.ptr 0 0),(5,.own 1 0),(9,.int .i64 (wac n v a z1)),(10,.int .i64 (↑(MgS.c z0):Int))]∧waf [(0,.cells [.view 1 n (waa v),.int .i64 (a+(1:Int))] 27),(1,.row 40 15 0 (fun (_x:Nat)=>[]) false)] [(0,.cells [.view 1 n (waa v),.int .i64 (MgS.a z0)] 27),(1,.row 40 15 0 (wae (MgS.g z0)) false)])∧((0:Int)≤wac n v a z1∧wac n v a z1≤(100:Int))∧((0:Int)≤a+(1:Int)∧a+(1:Int)≤(4611686018427375000:Int))∧∀ (i:MgS),MgS.c i=Int.toNat (wac n v a z1)→a+(1:Int)≤MgS.a i∧MgS.a i≤a+(1:Int)+(10:Int) * (↑(MgS.c i):Int)→(∀ (j:Nat),j<MgS.c i→MG.Made (MgS.g i j))→(∀ (i_1:Nat),i_1<MgS.c i→true=true)∧∃ (O':List (Nat×AObj)),waf [(0,.cells [.view 1 n (waa v),.int .i64 (MgS.a i)] 27),(1,.row 40 15 (MgS.c i) (wae (MgS.g i)) false)] O'∧R (.own 1 (MgS.c i)) O'):=by kernel_rfl
theorem wzu (n:Nat) (v:Nat→Int) (N:Int) (i:MgS) (P:MgS→Prop) (R:Exit→St→Prop):wa3 ⟨te,[(36,.rel who)],[],1,19,0⟩ (wa4 Tryz.f59 3) [0,5,9,10] [5] [] (wmb n v N) P R (wmb n v N i)=(wab (decide ((↑(MgS.c i):Int)<N)) (27=27∧1=1∧waa v=waa (vInt (waa v))∧((0:Int)≤MgS.a i∧MgS.a i≤(4611686018427385000:Int))∧∀ (m:MG) (a':Int),MG.Made m→MgS.a i≤a'∧a'≤MgS.a i+(10:Int)→(15≤16777216∧15=15∧1≤9223372036854775807)∧((1≤1∧15=15)∧MgS.c i≤MgS.c i∧15=15∧40=40∧15=15∧MgS.c i+1≤9223372036854775807∧(MgS.c i+1) * TI.bytes wep≤140737488355328)∧inR .i64 ((↑(MgS.c i):Int)+(1:Int))∧∃ (i':MgS),(TEq [(0,.ptr 0 0),(5,.own 1 (MgS.c i+1)),(9,.int .i64 N),(10,.int .i64 ((↑(MgS.c i):Int)+(1:Int)))] [(0,.ptr 0 0),(5,.own 1 (MgS.c i')),(9,.int .i64 N),(10,.int .i64 (↑(MgS.c i'):Int))]∧waf [(0,.cells [.view 1 n (waa v),.int .i64 a'] 27),(1,.row 40 15 (MgS.c i+1) (apF (MgS.c i) (wae (MgS.g i)) (way (TI.sz wep) (.str (MG.dev m):: .int .i64 (MG.seq m):: .int .i64 (MG.kind m):: .str (VT.o (MG.v m)):: .str (VT.p (MG.v m)):: .int .i64 (VT.per (MG.v m)):: .int .i64 (VT.day (MG.v m)):: .int .i64 (VT.st (MG.v m)):: .int .i64 (VT.pr (MG.v m)):: .str (VT.rep (MG.v m)):: .str (DT.o (MG.d m)):: .str (DT.p (MG.d m)):: .int .i64 (DT.per (MG.d m)):: .str (DT.dev (MG.d m)):: .int .i64 (DT.num (MG.d m))::List.append [] (List.flatten (List.replicate (nat_lit 0) [.str ([]),.int .i64 0,.int .i64 0,.str ([]),.str ([]),.int .i64 0,.int .i64 0,.int .i64 0,.int .i64 0,.str ([]),.str ([]),.str ([]),.int .i64 0,.str ([]),.int .i64 0]))))) false)] [(0,.cells [.view 1 n (waa v),.int .i64 (MgS.a i')] 27),(1,.row 40 15 (MgS.c i') (wae (MgS.g i')) false)])∧P i') ((∀ (i_1:Nat),i_1<MgS.c i→true=true)∧∃ (O':List (Nat×AObj)),waf [(0,.cells [.view 1 n (waa v),.int .i64 (MgS.a i)] 27),(1,.row 40 15 (MgS.c i) (wae (MgS.g i)) false)] O'∧R (.exit 0) (St.mk [(5,.own 1 (MgS.c i))] O' 2 []))):=by kernel_rfl
theorem mput_ap (g:Nat→MG) (k:Nat) (r:MG) (ch:Nat→List AV) (hch:ch 0=mgC r) (j:Nat) (_hj:j<k+1):apF k (wae g) ch j=wae (MG.put g k r) j:=by
 unfold apF wae MG.put
 by_cases h:j<k
 ·rw [if_pos h,if_pos h]
 ·have:j=k:=by omega
  rw [if_neg h,if_neg h,this,Nat.sub_self,hch];rfl
theorem w03 (hP:C.P=Tryz.prog) (n:Nat) (v:Nat→Int) (a N:Int):wak C 1 19 (wam Tryz.f59 3) (wn5 n v a N):=by
 rintro st Q ⟨h0,hN,ha,hQ⟩
 refine AWP.ownNil 5 40 15 ?_
 refine wak.mk (prg hP) [(36,.rel who)] 0 (.cons (wtv hP) .nil) [0,5,9,10] [5] [] (wmb n v N) (fun i=>(i.c:Int)≤N∧(a≤i.a∧i.a≤a+10 * i.c)∧∀ j,j<i.c→(i.g j).Made) (fun i=>N.toNat - i.c) ⟨0,fun _=>default,a⟩
  ⟨hN.1,by show a≤a∧a≤a+10 * ((0:Nat):Int);omega,fun j hj=>absurd hj (Nat.not_lt_zero j)⟩ h0 (fun i hi=>?_) (fun i=>⟨fun _ _=>rfl,trivial⟩)
 obtain ⟨h1,h2,h3⟩:=hi
 rw [wzu]
 refine waj (fun q=>?_) (fun q=>⟨fun _ _=>rfl,_,wap _,hQ i (by omega) h2 h3⟩)
 refine ⟨rfl,rfl,rfl,by omega,fun m a' hm ha'=>⟨⟨by omega,rfl,by omega⟩,⟨⟨Nat.le_refl _,rfl⟩,Nat.le_refl _,rfl,rfl,rfl,by omega,?_⟩,by simp only [inR];omega,⟨i.c+1,MG.put i.g i.c m,a'⟩,⟨rfl,rfl,⟨rfl,rfl,rfl,rfl,rfl,fun j hj=>?_⟩,trivial⟩,⟨?_,?_,fun j hj=>?_⟩,?_⟩⟩
 ·show (i.c+1) * 176≤_
  omega
 ·exact mput_ap i.g i.c m _ rfl j hj
 ·show ((i.c+1:Nat):Int)≤N
  omega
 ·show a≤a'∧a'≤a+10 * ((i.c+1:Nat):Int)
  omega
 ·show (MG.put i.g i.c m j).Made
  unfold MG.put
  by_cases h:j<i.c
  ·rw [if_pos h];exact h3 j h
  ·rw [if_neg h];exact hm
 ·show N.toNat - (i.c+1)<N.toNat - i.c
  omega
theorem msgs_ok (hP:C.P=Tryz.prog):wbd C 59 wnl:=by
 rintro args objs R h
 unfold wnl at h
 split at h
 ·rename_i most sz n f a t
  obtain ⟨rfl,rfl,hf,ha,hm,hR⟩:=h
  rw [hf] at hR ⊢
  generalize vInt f=v at *
  have hw:vInt (waa v)=v:=rfl
  refine wbd.wpL (prg hP) [(36,.rel who),(42,.det wbh)] [(3,wn5 n v (a+1) (wac n v a (most+1)))] 0 (.cons (wtv hP) (.cons (wco hP) .nil)) (hP ▸ Tryz.func59) rfl rfl rfl [(wam Tryz.f59 3,wn5 n v (a+1) (wac n v a (most+1)))] (by kernel_rfl) ⟨w03 hP _ _ _ _,trivial⟩ ?_
  rw [nf_msgs,hw]
  have r:=wax (show (1:Int)≤most+1 by omega) n v a
  exact ⟨by simp only [inR];omega,⟨rfl,rfl,rfl,⟨by omega,by omega⟩,by omega,by omega⟩,⟨rfl,rfl,⟨rfl,rfl,rfl,rfl,rfl,fun i hi=>absurd hi (Nat.not_lt_zero i)⟩,trivial⟩,⟨by omega,by omega⟩,⟨by omega,by omega⟩,fun i h1 h2 h3=>⟨fun _ _=>rfl,_,wap _,hR i.c i.g i.a (by omega) ⟨by omega,by omega⟩ h3⟩⟩
 ·exact h.elim
theorem wyy (n:Nat) (v:Nat→Int) (a:Int) (R:AV→List (Nat×AObj)→Prop):wpFn te [(42,.det wbh)] [(4,wns n v (a+1+1) (wac n v (a+1) 4) (wac n v a 500))] 0 Tryz.f82 [.ptr 0 0] [.cells [.view 1 n (waa v),.int .i64 a] 27] R=(letI z6:=(4611686018427387904:Int);letI z5:=(a+(1:Int)+(1:Int));letI z3:=((1:Int)≤(4:Int)∧(4:Int)≤(1000000:Int):Prop);letI z1:=(TfS.mk (0:Int) [] z5);(27=27∧1=1∧waa v=waa (vInt (waa v))∧((1:Int)≤(500:Int)∧(500:Int)≤(1000000:Int))∧(0:Int)≤a∧a≤z6)∧(27=27∧1=1∧waa v=waa (vInt (waa v))∧z3∧(0:Int)≤a+(1:Int)∧a+(1:Int)≤z6)∧(TEq [(0,.ptr 0 0),(2,.ptr 1 0),(3,.ptr 2 0),(4,.int .i64 0),(9,.int .i64 (wac n (vInt (waa v)) (a+(1:Int)) (4:Int))),(10,.int .i64 0)] [(0,.ptr 0 0),(2,.ptr 1 0),(3,.ptr 2 0),(4,.int .i64 (TfS.up z1)),(9,.int .i64 (wac n v (a+(1:Int)) (4:Int))),(10,.int .i64 (↑(List.length (TfS.bs z1)):Int))]∧waf [(0,.cells [.view 1 n (waa v),.int .i64 z5] 27),(1,.cells [.int .i64 0,.nil] 95),(2,.cells [.int .i64 (wac n (vInt (waa v)) a (500:Int)),.own 3 0] 95),(3,.row 115 2 0 (fun (_x:Nat)=>[]) false)] [(0,.cells [.view 1 n (waa v),.int .i64 (TfS.a z1)] 27),(1,.cells [.int .i64 0,.nil] 95),(2,.cells [.int .i64 (wac n v a (500:Int)),.own 3 0] 95),(3,.row 115 2 0 (waq (atB (TfS.bs z1))) false)])∧((0:Int)≤wac n v (a+(1:Int)) (4:Int)∧wac n v (a+(1:Int)) (4:Int)≤(3:Int))∧((0:Int)≤a+(1:Int)+(1:Int)∧a+(1:Int)+(1:Int)≤(4611686018427375000:Int))∧∀ (i:TfS),letI z7:=List.length (TfS.bs i);letI z4:=List.length (TfS.bs i)+1;letI z2:=(wac n (vInt (waa v)) (TfS.a i) (4:Int) * (10:Int));letI z0:=(way (TI.sz wfz) (.int .i64 0:: .int .i64 z2::List.append [] (List.flatten (List.replicate (nat_lit 0) [.int .i64 0,.int .i64 0]))));(↑z7:Int)=wac n v (a+(1:Int)) (4:Int)→TfS.a i=a+(1:Int)+(1:Int)+(2:Int) * wac n v (a+(1:Int)) (4:Int)→TfS.bs i=tarB n v z5 (Int.toNat (wac n v (a+(1:Int)) (4:Int)))→(27=27∧1=1∧waa v=waa (vInt (waa v))∧z3∧(0:Int)≤TfS.a i∧TfS.a i≤z6)∧inR .i64 z2∧(2≤16777216∧2=2∧1≤9223372036854775807)∧((1≤1∧2=2)∧List.length (TfS.bs i)≤List.length (TfS.bs i)∧2=2∧115=115∧2=2∧List.length (TfS.bs i)+1≤9223372036854775807∧z4 * TI.bytes wfz≤140737488355328)∧(True∧True)∧(∀ (i_1:Nat),i_1<List.length (TfS.bs i)+1→nrefL (apF z7 (waq (atB (TfS.bs i))) z0 i_1)=true)∧∃ (O':List (Nat×AObj)),waf [(0,.cells [.view 1 n (waa v),.int .i64 (TfS.a i+(1:Int))] 27),(1,.row 115 2 z4 (apF z7 (waq (atB (TfS.bs i))) z0) false)] O'∧R (.agg [.int .i64 (wac n v a (500:Int)),.own 1 z4]) O'):=by kernel_rfl
theorem wyw (n:Nat) (v:Nat→Int) (N st:Int) (i:TfS) (P:TfS→Prop) (R:Exit→St→Prop):wa3 ⟨te,[(42,.det wbh)],[],1,38,0⟩ (wa4 Tryz.f82 4) [0,2,3,4,9,10] [0,2,3] [] (wi6 n v N st) P R (wi6 n v N st i)=(letI z3:=List.length (TfS.bs i)+1;letI z2:=(wac n (vInt (waa v)) (TfS.a i+(1:Int)) (4:Int) * (10:Int));letI z1:=List.length (TfS.bs i);letI z0:=(TfS.up i+((1:Int)+wac n (vInt (waa v)) (TfS.a i) (60:Int)));wab (decide ((↑z1:Int)<N)) ((27=27∧1=1∧waa v=waa (vInt (waa v))∧((1:Int)≤(60:Int)∧(60:Int)≤(1000000:Int))∧(0:Int)≤TfS.a i∧TfS.a i≤(4611686018427387904:Int))∧inR .i64 ((1:Int)+wac n (vInt (waa v)) (TfS.a i) (60:Int))∧inR .i64 z0∧(27=27∧1=1∧waa v=waa (vInt (waa v))∧((1:Int)≤(4:Int)∧(4:Int)≤(1000000:Int))∧(0:Int)≤TfS.a i+(1:Int)∧TfS.a i+(1:Int)≤(4611686018427387904:Int))∧inR .i64 z2∧(2≤16777216∧2=2∧1≤9223372036854775807)∧((1≤1∧2=2)∧List.length (TfS.bs i)≤List.length (TfS.bs i)∧2=2∧115=115∧2=2∧List.length (TfS.bs i)+1≤9223372036854775807∧z3 * TI.bytes wfz≤140737488355328)∧inR .i64 ((↑z1:Int)+(1:Int))∧∃ (i':TfS),letI z4:=List.length (TfS.bs i');(TEq [(0,.ptr 0 0),(2,.ptr 1 0),(3,.ptr 2 0),(4,.int .i64 z0),(9,.int .i64 N),(10,.int .i64 ((↑z1:Int)+(1:Int)))] [(0,.ptr 0 0),(2,.ptr 1 0),(3,.ptr 2 0),(4,.int .i64 (TfS.up i')),(9,.int .i64 N),(10,.int .i64 (↑z4:Int))]∧waf [(0,.cells [.view 1 n (waa v),.int .i64 (TfS.a i+(1:Int)+(1:Int))] 27),(1,.cells [.int .i64 0,.nil] 95),(2,.cells [.int .i64 st,.own 3 z3] 95),(3,.row 115 2 z3 (apF z1 (waq (atB (TfS.bs i))) (way (TI.sz wfz) (.int .i64 z0:: .int .i64 z2::List.append [] (List.flatten (List.replicate (nat_lit 0) [.int .i64 0,.int .i64 0]))))) false)] [(0,.cells [.view 1 n (waa v),.int .i64 (TfS.a i')] 27),(1,.cells [.int .i64 0,.nil] 95),(2,.cells [.int .i64 st,.own 3 z4] 95),(3,.row 115 2 z4 (waq (atB (TfS.bs i'))) false)])∧P i') ((∀ (i_1:Nat),i_1<List.length (TfS.bs i)→true=true)∧∃ (O':List (Nat×AObj)),waf [(0,.cells [.view 1 n (waa v),.int .i64 (TfS.a i)] 27),(1,.cells [.int .i64 0,.nil] 95),(2,.cells [.int .i64 st,.own 3 z1] 95),(3,.row 115 2 z1 (waq (atB (TfS.bs i))) false)] O'∧R (.exit 0) (St.mk [(0,.ptr 0 0),(2,.ptr 1 0),(3,.ptr 2 0)] O' 4 []))):=by kernel_rfl
theorem we5 {α:Type} (enc:α→List AV) (d:α) (L:List α) (x:α) (ch:Nat→List AV) (hch:ch 0=enc x):∀ i,i<L.length+1→apF L.length (fun i=>enc (L.getD i d)) ch i=enc ((L++[x]).getD i d):=fun i hi=>by
 unfold apF
 by_cases h:i<L.length
 ·rw [if_pos h]
  congr 1
  simp [List.getD_eq_getElem?_getD,List.getElem?_append_left h]
 ·have:i=L.length:=by omega
  subst this
  rw [if_neg h,Nat.sub_self,hch]
  congr 1
  simp
theorem snocB (L:List BK) (x:BK) (ch:Nat→List AV) (hch:ch 0=[.int .i64 x.up,.int .i64 x.pr]):∀ i,i<L.length+1→apF L.length (waq (atB L)) ch i=waq (atB (L++[x])) i:=
 we5 (fun b:BK=>[.int .i64 b.up,.int .i64 b.pr]) _ L x ch hch
theorem ww1 (hP:C.P=Tryz.prog) (n:Nat) (v:Nat→Int) (a N st:Int):wak C 1 38 (wam Tryz.f82 4) (wns n v a N st):=by
 rintro s Q ⟨h0,hN,ha,hQ⟩
 refine AWP.ownNilP 3 1 115 2 ?_
 refine wak.mk (prg hP) [(42,.det wbh)] 0 (.cons (wco hP) .nil) [0,2,3,4,9,10] [0,2,3] [] (wi6 n v N st)
  (fun i=>(i.bs.length:Int)≤N∧i.a=a+2 * i.bs.length∧i.up=wdp n v a i.bs.length∧i.bs=tarB n v a i.bs.length) (fun i=>N.toNat - i.bs.length) ⟨0,[],a⟩ ⟨by show (0:Int)≤N;omega,by show a=a+2 * ((0:Nat):Int);omega,rfl,rfl⟩ h0 (fun i hi=>?_) (fun i=>⟨fun _ _=>rfl,trivial⟩)
 obtain ⟨h1,h2,h3,h4⟩:=hi
 have hw:vInt (waa v)=v:=rfl
 rw [wyw,hw]
 have r1:=wax (show (1:Int)≤60 by omega) n v i.a
 have r2:=wax (show (1:Int)≤4 by omega) n v (i.a+1)
 have r3:=wo2 n v a i.bs.length
 refine waj (fun q=>?_) (fun q=>⟨fun _ _=>rfl,_,wap _,hQ i (by omega) (by omega) (by rw [show N.toNat=i.bs.length by omega];exact h4)⟩)
 refine ⟨⟨rfl,rfl,rfl,by omega,by omega⟩,by simp only [inR];omega,by simp only [inR];omega,⟨rfl,rfl,rfl,by omega,by omega⟩,by simp only [inR];omega,⟨by omega,rfl,by omega⟩,⟨⟨Nat.le_refl _,rfl⟩,Nat.le_refl _,rfl,rfl,rfl,by omega,?_⟩,by simp only [inR];omega,
  ⟨i.up+(1+wac n v i.a 60),i.bs++[⟨i.up+(1+wac n v i.a 60),wac n v (i.a+1) 4 * 10⟩],i.a+1+1⟩,?_,⟨?_,?_,?_,?_⟩,?_⟩
 ·show (i.bs.length+1) * 16≤_
  omega
 ·dsimp only
  rw [List.length_append]
  exact ⟨rfl,rfl,rfl,rfl,⟨rfl,rfl,rfl,rfl,rfl,snocB _ _ _ rfl⟩,trivial⟩
 ·show ((i.bs++[_]).length:Int)≤N
  rw [List.length_append];simp;omega
 ·show i.a+1+1=a+2 * ((i.bs++[_]).length:Int)
  rw [List.length_append];simp;omega
 ·show i.up+(1+wac n v i.a 60)=wdp n v a (i.bs++[_]).length
  rw [List.length_append,List.length_singleton,wdp, ← h3,h2]
 ·show i.bs++[_]=tarB n v a (i.bs++[_]).length
  rw [List.length_append,List.length_singleton,tarB,wdp, ← h4, ← h3,h2]
 ·show N.toNat - (i.bs++[_]).length<N.toNat - i.bs.length
  rw [List.length_append];simp;omega
theorem ww3 (hP:C.P=Tryz.prog):wag C 82 wln:=by
 rintro args objs U Os vc h hvc
 unfold wln at h
 split at h<;>simp only [Option.some.injEq,Prod.mk.injEq,reduceCtorEq] at h
 rename_i sz n f a t
 obtain ⟨rfl,rfl,rfl⟩:=h
 obtain ⟨rfl,rfl,hf,ha⟩:=hvc
 rw [hf]
 generalize vInt f=v at *
 have hw:vInt (waa v)=v:=rfl
 refine wal.frzO 1 ?_
 refine wbd.wpL (prg hP) [(42,.det wbh)] [(4,wns n v (a+1+1) (wac n v (a+1) 4) (wac n v a 500))] 0 (.cons (wco hP) .nil) (hP ▸ Tryz.func82) rfl rfl rfl [(wam Tryz.f82 4,wns n v (a+1+1) (wac n v (a+1) 4) (wac n v a 500))] (by kernel_rfl) ⟨ww1 hP _ _ _ _ _,trivial⟩ ?_
 rw [wyy,hw]
 have r1:=wax (show (1:Int)≤500 by omega) n v a
 have r2:=wax (show (1:Int)≤4 by omega) n v (a+1)
 refine ⟨⟨rfl,rfl,rfl,by omega,by omega⟩,⟨rfl,rfl,rfl,by omega,by omega⟩,⟨rfl,rfl,rfl,rfl,⟨rfl,rfl,rfl,rfl,rfl,fun i hi=>absurd hi (Nat.not_lt_zero i)⟩,trivial⟩,by omega,by omega,fun i h1 h2 h3=>?_⟩
 have r3:=wax (show (1:Int)≤4 by omega) n v i.a
 refine ⟨⟨rfl,rfl,rfl,by omega,by omega⟩,by simp only [inR];omega,⟨by omega,rfl,by omega⟩,⟨⟨Nat.le_refl _,rfl⟩,Nat.le_refl _,rfl,rfl,rfl,by omega,?_⟩,⟨trivial,trivial⟩,?_,[(0,.cells [.view 1 n (waa v),.int .i64 (i.a+1)] 27),(1,.row 115 2 (i.bs.length+1) (waq (atB (i.bs++[⟨0,wac n v i.a 4 * 10⟩]))) false)],⟨rfl,⟨rfl,rfl,rfl,rfl,rfl,snocB _ _ _ rfl⟩,trivial⟩,fun _ _=>rfl,?_⟩
 ·show (i.bs.length+1) * 16≤_
  omega
 ·refine fun j hj=>?_
  rw [snocB i.bs ⟨0,wac n v i.a 4 * 10⟩ _ rfl j hj];rfl
 ·have hb:Nat.ble (i.bs.length+1) (i.bs.length+1)=true:=Nat.ble_eq_true_of_le (Nat.le_refl _)
  have e2:i.a=a+2+2 * wac n v (a+1) 4:=by omega
  have eL:tarL n v a=i.bs++[⟨0,wac n v i.a 4 * 10⟩]:=by
   unfold tarL
   rw [h3,e2,show a+1+1=a+2 by omega]
  have eA:tarA n v a=i.a+1:=by unfold tarA;omega
  have hl:(i.bs++[(⟨0,wac n v i.a 4 * 10⟩:BK)]).length=i.bs.length+1:=by simp
  rw [eL,eA,hl]
  constructor
  ·simp [frzC,frzA,frz,hb]
  ·simp [rm]
end Go.Eng
