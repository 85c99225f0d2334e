/- The law's spoiled files. -/
import Derived.Test.YtgcboligphndhaaGreatDoorYv
import Derived.Test.YtgcboligphndhaaGreatDoorYzc
namespace Go.Eng
open Go.Proofs Go.RowKit
variable {C:Ctx} [C.Loose]
set_option maxRecDepth 20000
theorem wyo (n:Nat) (v:Nat→Int) (a:Int) (m:MG) (N j:Nat) (P:Nat→Prop) (R:Exit→St→Prop):wa2 ⟨te,[],[],1,96,0⟩ (wa3 Tryz.f27 23) [0,2,3,4,85,86] [0,2,3] [] (wls n v a m N) P R (wls n v a m N j)=(letI z3:=([.view 1 n (waa v),.int .i64 a]:List AV);letI z2:=([.str [(102:UInt8)],.int .i64 1,.int .i64 0,.int .i64 1,.own 4 N,.own 5 0,.own 6 0]:List AV);letI z1:=([.str [],.int .i64 0,.int .i64 0,.int .i64 0,.nil,.nil,.nil]:List AV);letI z0:=([.str (MG.dev m),.int .i64 (MG.seq m),.int .i64 (MG.kind m),.str (VT.o (MG.v m)),.str (VT.p (MG.v m)),.int .i64 (VT.per (MG.v m)),.int .i64 (VT.day (MG.v m)),.int .i64 (VT.st (MG.v m)),.int .i64 (VT.pr (MG.v m)),.str (VT.rep (MG.v m)),.str (DT.o (MG.d m)),.str (DT.p (MG.d m)),.int .i64 (DT.per (MG.d m)),.str (DT.dev (MG.d m)),.int .i64 (DT.num (MG.d m))]:List AV);wad (decide ((↑j:Int)<(↑N:Int))) (((0:Int)≤(↑j:Int)∧(↑j:Int)<(↑N:Int))∧(List.length [AV.str (MG.dev m),.int .i64 (MG.seq m),.int .i64 (MG.kind m),.str (VT.o (MG.v m)),.str (VT.p (MG.v m)),.int .i64 (VT.per (MG.v m)),.int .i64 (VT.day (MG.v m)),.int .i64 (VT.st (MG.v m)),.int .i64 (VT.pr (MG.v m)),.str (VT.rep (MG.v m)),.str (DT.o (MG.d m)),.str (DT.p (MG.d m)),.int .i64 (DT.per (MG.d m)),.str (DT.dev (MG.d m)),.int .i64 (DT.num (MG.d m))]=15∧Int.toNat (↑j:Int)<N∧15=15)∧inR .i64 ((↑j:Int)+(1:Int))∧∃ (i':Nat),(TEq [(0,.ptr 0 0),(2,.ptr 1 0),(3,.ptr 2 0),(4,.ptr 3 0),(85,.int .i64 (↑N:Int)),(86,.int .i64 ((↑j:Int)+(1:Int)))] [(0,.ptr 0 0),(2,.ptr 1 0),(3,.ptr 2 0),(4,.ptr 3 0),(85,.int .i64 (↑N:Int)),(86,.int .i64 (↑i':Int))]∧wae [(0,.cells z3 27),(1,.cells z1 49),(2,.cells z2 49),(3,.cells z0 40),(4,.row 40 15 N (fun (k:Nat)=>if k=Int.toNat (↑j:Int) then z0 else wag (wd4 m j) k) false),(5,.row 61 5 0 (wai (atR [])) false),(6,.row 97 5 0 (wah (atT [])) false)] [(0,.cells z3 27),(1,.cells z1 49),(2,.cells z2 49),(3,.cells z0 40),(4,.row 40 15 N (wag (wd4 m i')) false),(5,.row 61 5 0 (wai (atR [])) false),(6,.row 97 5 0 (wah (atT [])) false)])∧P i') ((∀ (i:Nat),i<N→true=true)∧(∀ (i:Nat),i<0→true=true)∧(∀ (i:Nat),i<0→true=true)∧∃ (O':List (Nat×AObj)),wae [(0,.cells z3 27),(1,.cells z1 49),(2,.cells [.str [(102:UInt8)],.int .i64 1,.int .i64 0,.int .i64 1,.own 3 N,.own 4 0,.own 5 0] 49),(3,.row 40 15 N (wag (wd4 m j)) false),(4,.row 61 5 0 (wai (atR [])) false),(5,.row 97 5 0 (wah (atT [])) false)] O'∧R (.exit 1) (St.mk [(0,.ptr 0 0),(2,.ptr 1 0),(3,.ptr 2 0)] O' 6 []))):=by kernel_rfl
theorem nf_sp15 (n:Nat) (v:Nat→Int) (a:Int) (R:AV→List (Nat×AObj)→Prop):wpFn te [(32,.rel wnm),(42,.det wba),(36,.det wl9),(37,.det wfe),(43,.det S_id)] [(23,wnu n v)] 0 Tryz.f27 [.ptr 0 0] [.cells [.view 1 n (waa v),.int .i64 a] 27] R=(letI z36:=(4≤16777216∧1=1∧4≤9223372036854775807:Prop);letI z35:=(Int.toNat ((48:Int)+Prod.fst (cdF (id7 (1:Int)))));letI z34:=([.str [],.int .i64 0,.int .i64 0,.int .i64 0,.nil,.nil,.nil]:List AV);letI z32:=(4611686018427387904:Int);letI z29:=(List.flatten (List.replicate (nat_lit 0) [.str ([]),.str ([]),.int .i64 0,.int .i64 0,.nil]):List AV);letI z27:=(5≤16777216∧5=5∧1≤9223372036854775807:Prop);letI z26:=waq (TI.sz wdi) (.str []:: .str []:: .int .i64 0:: .int .i64 0:: .int .i64 0::List.append [] wfr);letI z2:=([.view 1 n (waa v),.int .i64 a]:List AV);letI z8:=(List.length [AObj.cells z2 (27:TypeId)]+1);letI z7:=(List.length [AObj.cells z2 (27:TypeId)]+1+1);27=27∧1=1∧waa v=waa (vInt (waa v))∧((0:Int)≤a∧a≤(4611686018427360000:Int))∧∀ (F:FL) (a':Int),letI z40:=wah (atT (FL.ts F));letI z39:=List.length (FL.ts F)+1;letI z38:=List.length (FL.ms F)+1;letI z33:=List.length (FL.rs F)+1;letI z31:=wai (atR (FL.rs F));letI z30:=([.view 1 n (waa v),.int .i64 (a'+(1:Int))]:List AV);letI z28:=(wab n (vInt (waa v)) (a'+(1:Int)) (5:Int));letI z25:=wag (atM (FL.ms F));letI z23:=((0:Int)≤wab n (vInt (waa v)) (a'+(1:Int)) (4:Int)∧wab n (vInt (waa v)) (a'+(1:Int)) (4:Int)<(↑4:Int):Prop);letI z22:=(27=27∧1=1∧waa v=waa (vInt (waa v))∧(0:Int)≤a'+(1:Int)∧a'+(1:Int)≤(4611686018427385000:Int):Prop);letI z20:=(wab n (vInt (waa v)) (a'+(1:Int)) (4:Int));letI z18:=List.length (FL.ts F);letI z17:=(27=27∧1=1∧waa v=waa (vInt (waa v))∧((1:Int)≤(5:Int)∧(5:Int)≤(1000000:Int))∧(0:Int)≤a'+(1:Int)∧a'+(1:Int)≤z32:Prop);letI z16:=(27=27∧1=1∧waa v=waa (vInt (waa v))∧((1:Int)≤(4:Int)∧(4:Int)≤(1000000:Int))∧(0:Int)≤a'+(1:Int)∧a'+(1:Int)≤z32:Prop);letI z15:=List.length (FL.rs F);letI z14:=((1≤1∧5=5)∧List.length (FL.rs F)≤List.length (FL.rs F)∧5=5∧61=61∧5=5∧List.length (FL.rs F)+1≤9223372036854775807∧z33 * TI.bytes wdi≤140737488355328:Prop);letI z13:=List.length (FL.ms F);letI z21:=([.str (FL.id F),.int .i64 (FL.ver F),.int .i64 (FL.day F),.int .i64 (FL.kind F),.own 1 z13,.own z8 z33,.own z7 z18]:List AV);letI z12:=(List.length [AObj.cells z2 (27:TypeId)]+1,.row 61 5 z15 z31 false);letI z11:=(rowV n (vInt (waa v)) (a'+(1:Int)));letI z19:=waq (TI.sz wdi) (.str (RW.o z11):: .str (RW.p z11):: .int .i64 (RW.per z11):: .int .i64 (RW.u z11):: .int .i64 (RW.tv z11)::List.append [] wfr);letI z10:=(msgA n (vInt (waa v)) (a'+(1:Int)));letI z24:=(Int.toNat ((399:Int)+wab n (vInt (waa v)) z10 (3:Int)));letI z9:=(∀ (i:Nat),i<List.length (FL.rs F)→true=true:Prop);letI z6:=(∀ (i:Nat),i<List.length (FL.ts F)→true=true:Prop);letI z5:=(∀ (i:Nat),i<List.length (FL.ms F)→true=true:Prop);letI z4:=(List.length [AObj.cells z2 (27:TypeId)]+1+1,.row 97 5 z18 z40 false);letI z1:=([(0,.cells [.view 1 n (waa v),.int .i64 (a'+(1:Int)+(1:Int))] 27),(1,.row 40 15 z13 z25 false),z12,z4]:List (Nat×AObj));letI z0:=(msgV n (vInt (waa v)) (a'+(1:Int)));letI z3:=waq (TI.sz wfq) (.str (MG.dev z0):: .int .i64 (MG.seq z0):: .int .i64 (MG.kind z0):: .str (VT.o (MG.v z0)):: .str (VT.p (MG.v z0)):: .int .i64 (VT.per (MG.v z0)):: .int .i64 (VT.day (MG.v z0)):: .int .i64 (VT.st (MG.v z0)):: .int .i64 (VT.pr (MG.v z0)):: .str (VT.rep (MG.v z0)):: .str (DT.o (MG.d z0)):: .str (DT.p (MG.d z0)):: .int .i64 (DT.per (MG.d z0)):: .str (DT.dev (MG.d z0)):: .int .i64 (DT.num (MG.d z0))::List.append [] (List.flatten (List.replicate (nat_lit 0) [.str ([]),.int .i64 0,.int .i64 0,.str ([]),.str ([]),.int .i64 0,.int .i64 0,.int .i64 0,.int .i64 0,.str ([]),.str ([]),.str ([]),.int .i64 0,.str ([]),.int .i64 0])));FL.Tn F→List.length (FL.ms F)≤4→List.length (FL.rs F)≤4→List.length (FL.ts F)≤2→FL.Low F→a≤a'∧a'≤a+(1100:Int)→z5∧z9∧z6∧(27=27∧1=1∧waa v=waa (vInt (waa v))∧((1:Int)≤(12:Int)∧(12:Int)≤(1000000:Int))∧(0:Int)≤a'∧a'≤z32)∧wad (decide (wab n (vInt (waa v)) a' (12:Int)=(0:Int))) (z36∧z16∧z23∧(Int.toNat z20<4∧1=1)∧(True∧True)∧z5∧z9∧z6∧∃ (O':List (Nat×AObj)),wae z1 O'∧R (.agg [.str (List.getD [[],[(65:UInt8)],[(102:UInt8),46,120],[(97:UInt8),98,99,100,101,102,103,104,105,106,107,108,109,110,111,112,113,114,115,116,117,118,119,120,121]] (Int.toNat z20) []),.int .i64 (FL.ver F),.int .i64 (FL.day F),.int .i64 (FL.kind F),.own 1 z13,.own z8 z15,.own z7 z18]) O') (wad (decide (wab n (vInt (waa v)) a' (12:Int)=(1:Int))) ((5≤16777216∧1=1∧5≤9223372036854775807)∧z17∧((0:Int)≤wab n (vInt (waa v)) (a'+(1:Int)) (5:Int)∧wab n (vInt (waa v)) (a'+(1:Int)) (5:Int)<(↑5:Int))∧(Int.toNat z28<5∧1=1)∧(True∧True)∧z5∧z9∧z6∧∃ (O':List (Nat×AObj)),wae z1 O'∧R (.agg [.str (FL.id F),.int .i64 (List.getD [(0:Int),(1:Int),(2:Int),(1000:Int),(1001:Int)] (Int.toNat z28) (0:Int)),.int .i64 (FL.day F),.int .i64 (FL.kind F),.own 1 z13,.own z8 z15,.own z7 z18]) O') (wad (decide (wab n (vInt (waa v)) a' (12:Int)=(2:Int))) (z36∧z16∧z23∧(Int.toNat z20<4∧1=1)∧(True∧True)∧z5∧z9∧z6∧∃ (O':List (Nat×AObj)),wae z1 O'∧R (.agg [.str (FL.id F),.int .i64 (FL.ver F),.int .i64 (List.getD [(-1:Int),(0:Int),(182620:Int),(182621:Int)] (Int.toNat z20) (0:Int)),.int .i64 (FL.kind F),.own 1 z13,.own z8 z15,.own z7 z18]) O') (wad (decide (wab n (vInt (waa v)) a' (12:Int)=(3:Int))) (z17∧(True∧True)∧z5∧z9∧z6∧∃ (O':List (Nat×AObj)),wae z1 O'∧R (.agg [.str (FL.id F),.int .i64 (FL.ver F),.int .i64 (FL.day F),.int .i64 z28,.own 1 z13,.own z8 z15,.own z7 z18]) O') (wad (decide (wab n (vInt (waa v)) a' (12:Int)=(4:Int))) (z22∧(15≤16777216∧15=15∧1≤9223372036854775807)∧((1≤1∧15=15)∧List.length (FL.ms F)≤List.length (FL.ms F)∧15=15∧40=40∧15=15∧List.length (FL.ms F)+1≤9223372036854775807∧z38 * TI.bytes wfq≤140737488355328)∧(True∧True)∧(∀ (i:Nat),i<List.length (FL.ms F)+1→nrefL (apF z13 z25 z3 i)=true)∧z9∧z6∧∃ (O':List (Nat×AObj)),wae [(0,.cells [.view 1 n (waa v),.int .i64 z10] 27),(1,.row 40 15 z38 (apF z13 z25 z3) false),z12,z4] O'∧R (.agg [.str (FL.id F),.int .i64 (FL.ver F),.int .i64 (FL.day F),.int .i64 (FL.kind F),.own 1 z38,.own z8 z15,.own z7 z18]) O') (wad (decide (wab n (vInt (waa v)) a' (12:Int)=(5:Int))) ((27=27∧1=1∧waa v=waa (vInt (waa v))∧(0:Int)≤a'+(1:Int)∧a'+(1:Int)≤(4611686018427380000:Int))∧z27∧z14∧(True∧True)∧z5∧(∀ (i:Nat),i<List.length (FL.rs F)+1→nrefL (apF z15 z31 z19 i)=true)∧z6∧∃ (O':List (Nat×AObj)),wae [(0,.cells [.view 1 n (waa v),.int .i64 (a'+(1:Int)+(1:Int)+(1:Int)+(1:Int)+(1:Int)+(1:Int)+(1:Int))] 27),(1,.row 40 15 z13 z25 false),(List.length [AObj.cells z2 (27:TypeId)]+1,.row 61 5 z33 (apF z15 z31 z19) false),z4] O'∧R (.agg z21) O') (wad (decide (wab n (vInt (waa v)) a' (12:Int)=(6:Int))) (z27∧z14∧(True∧True)∧z5∧(∀ (i:Nat),i<List.length (FL.rs F)+1→nrefL (apF z15 z31 z26 i)=true)∧z6∧∃ (O':List (Nat×AObj)),wae [(0,.cells z30 27),(1,.row 40 15 z13 z25 false),(List.length [AObj.cells z2 (27:TypeId)]+1,.row 61 5 z33 (apF z15 z31 z26) false),z4] O'∧R (.agg z21) O') (wad (decide (wab n (vInt (waa v)) a' (12:Int)=(7:Int))) (True∧z27∧((1≤1∧5=5)∧List.length (FL.ts F)≤List.length (FL.ts F)∧5=5∧97=97∧5=5∧List.length (FL.ts F)+1≤9223372036854775807∧z39 * TI.bytes wfp≤140737488355328)∧(True∧True)∧z5∧z9∧(∀ (i:Nat),i<List.length (FL.ts F)+1→nrefL (apF z18 z40 (waq (TI.sz wfp) (.str [(111:UInt8),49]:: .str [(fun (i:Nat)=>UInt8.ofNat (Int.toNat (wap (List.headD (wa9 (idV (1:Int)) i) .any)))) (nat_lit 0),(fun (i:Nat)=>UInt8.ofNat (Int.toNat (wap (List.headD (wa9 (idV (1:Int)) i) .any)))) (nat_lit 1),(fun (i:Nat)=>UInt8.ofNat (Int.toNat (wap (List.headD (wa9 (idV (1:Int)) i) .any)))) (nat_lit 2),(fun (i:Nat)=>UInt8.ofNat (Int.toNat (wap (List.headD (wa9 (idV (1:Int)) i) .any)))) (nat_lit 3),(fun (i:Nat)=>UInt8.ofNat (Int.toNat (wap (List.headD (wa9 (idV (1:Int)) i) .any)))) (nat_lit 4),(fun (i:Nat)=>UInt8.ofNat (Int.toNat (wap (List.headD (wa9 (idV (1:Int)) i) .any)))) (nat_lit 5),(fun (i:Nat)=>UInt8.ofNat (Int.toNat (wap (List.headD (wa9 (idV (1:Int)) i) .any)))) (nat_lit 6),UInt8.ofNat z35]:: .int .i64 3:: .int .i64 0:: .nil::List.append [] z29)) i)=true)∧∃ (O':List (Nat×AObj)),wae [(0,.cells z30 27),(1,.row 40 15 z13 z25 false),z12,(List.length [AObj.cells z2 (27:TypeId)]+1+1,.row 97 5 z39 (apF z18 z40 (waq (TI.sz wfp) (.str [(111:UInt8),49]:: .str [UInt8.ofNat (Int.toNat (wap (List.headD (wa9 (idV (1:Int)) (nat_lit 0)) .any))),UInt8.ofNat (Int.toNat (wap (List.headD (wa9 (idV (1:Int)) (nat_lit 1)) .any))),UInt8.ofNat (Int.toNat (wap (List.headD (wa9 (idV (1:Int)) (nat_lit 2)) .any))),UInt8.ofNat (Int.toNat (wap (List.headD (wa9 (idV (1:Int)) (nat_lit 3)) .any))),UInt8.ofNat (Int.toNat (wap (List.headD (wa9 (idV (1:Int)) (nat_lit 4)) .any))),UInt8.ofNat (Int.toNat (wap (List.headD (wa9 (idV (1:Int)) (nat_lit 5)) .any))),UInt8.ofNat (Int.toNat (wap (List.headD (wa9 (idV (1:Int)) (nat_lit 6)) .any))),UInt8.ofNat z35]:: .int .i64 3:: .int .i64 0:: .nil::List.append [] z29))) false)] O'∧R (.agg [.str (FL.id F),.int .i64 (FL.ver F),.int .i64 (FL.day F),.int .i64 (FL.kind F),.own 1 z13,.own z8 z15,.own z7 z39]) O') (wad (decide (wab n (vInt (waa v)) a' (12:Int)=(8:Int))) (z22∧(27=27∧1=1∧waa v=waa (vInt (waa v))∧((1:Int)≤(3:Int)∧(3:Int)≤(1000000:Int))∧(0:Int)≤msgA n (vInt (waa v)) (a'+(1:Int))∧msgA n (vInt (waa v)) (a'+(1:Int))≤z32)∧inR .i64 ((399:Int)+wab n (vInt (waa v)) z10 (3:Int))∧((0:Int)≤(399:Int)+wab n (vInt (waa v)) z10 (3:Int)∧(399:Int)+wab n (vInt (waa v)) z10 (3:Int)≤(399:Int)+wab n (vInt (waa v)) z10 (3:Int)∧(↑(TI.bytes wfq):Int) * ((399:Int)+wab n (vInt (waa v)) z10 (3:Int))≤(281474976710656:Int)∧(399:Int)+wab n (vInt (waa v)) z10 (3:Int)≤(9223372036854775807:Int))∧∃ (b:Int),∃ (m:MG),∃ (N:Nat),letI z37:=List.replicate N m;(TEq [(0,.ptr 0 0),(2,.ptr 1 0),(3,.ptr 2 0),(4,.ptr 3 0),(85,.int .i64 (↑z24:Int)),(86,.int .i64 0)] [(0,.ptr 0 0),(2,.ptr 1 0),(3,.ptr 2 0),(4,.ptr 3 0),(85,.int .i64 (↑N:Int)),(86,.int .i64 (↑0:Int))]∧wae [(0,.cells [.view 1 n (waa v),.int .i64 (msgA n (vInt (waa v)) (a'+(1:Int))+(1:Int))] 27),(1,.cells z34 49),(2,.cells [.str [(102:UInt8)],.int .i64 1,.int .i64 0,.int .i64 1,.own 4 z24,.own 5 0,.own 6 0] 49),(3,.cells [.str (MG.dev z0),.int .i64 (MG.seq z0),.int .i64 (MG.kind z0),.str (VT.o (MG.v z0)),.str (VT.p (MG.v z0)),.int .i64 (VT.per (MG.v z0)),.int .i64 (VT.day (MG.v z0)),.int .i64 (VT.st (MG.v z0)),.int .i64 (VT.pr (MG.v z0)),.str (VT.rep (MG.v z0)),.str (DT.o (MG.d z0)),.str (DT.p (MG.d z0)),.int .i64 (DT.per (MG.d z0)),.str (DT.dev (MG.d z0)),.int .i64 (DT.num (MG.d z0))] 40),(4,.row 40 15 z24 (fun (_x:Nat)=>[.str [],.int .i64 0,.int .i64 0,.str [],.str [],.int .i64 0,.int .i64 0,.int .i64 0,.int .i64 0,.str [],.str [],.str [],.int .i64 0,.str [],.int .i64 0]) false),(5,.row 61 5 0 (fun (_x:Nat)=>[]) false),(6,.row 97 5 0 (fun (_x:Nat)=>[]) false)] [(0,.cells [.view 1 n (waa v),.int .i64 b] 27),(1,.cells z34 49),(2,.cells [.str [(102:UInt8)],.int .i64 1,.int .i64 0,.int .i64 1,.own 4 N,.own 5 0,.own 6 0] 49),(3,.cells [.str (MG.dev m),.int .i64 (MG.seq m),.int .i64 (MG.kind m),.str (VT.o (MG.v m)),.str (VT.p (MG.v m)),.int .i64 (VT.per (MG.v m)),.int .i64 (VT.day (MG.v m)),.int .i64 (VT.st (MG.v m)),.int .i64 (VT.pr (MG.v m)),.str (VT.rep (MG.v m)),.str (DT.o (MG.d m)),.str (DT.p (MG.d m)),.int .i64 (DT.per (MG.d m)),.str (DT.dev (MG.d m)),.int .i64 (DT.num (MG.d m))] 40),(4,.row 40 15 N (wag (wd4 m 0)) false),(5,.row 61 5 0 (wai (atR [])) false),(6,.row 97 5 0 (wah (atT [])) false)])∧N≤401∧(True∧True)∧(∀ (i:Nat),i<List.length z37→true=true)∧(∀ (i:Nat),i<0→true=true)∧(∀ (i:Nat),i<0→true=true)∧∃ (O':List (Nat×AObj)),wae [(0,.cells [.view 1 n (waa v),.int .i64 b] 27),(1,.row 40 15 (List.length z37) (wag (atM z37)) false),(List.length [AObj.cells z2 (27:TypeId)]+1,.row 61 5 0 (wai (atR [])) false),(List.length [AObj.cells z2 (27:TypeId)]+1+1,.row 97 5 0 (wah (atT [])) false)] O'∧R (.agg [.str [(102:UInt8)],.int .i64 1,.int .i64 0,.int .i64 1,.own 1 (List.length z37),.own z8 0,.own z7 0]) O') ((True∧True)∧z5∧z9∧z6∧∃ (O':List (Nat×AObj)),wae [(0,.cells z30 27),(1,.row 40 15 z13 z25 false),z12,z4] O'∧R (.agg [.str (FL.id F),.int .i64 (FL.ver F),.int .i64 (FL.day F),.int .i64 (FL.kind F),.own 1 z13,.own z8 z15,.own z7 z18]) O')))))))))):=by kernel_rfl
def nilB:AV→AV:=nilv 2 (wa0 (atB []))
theorem fin15 {n:Nat} {v:Nat→Int} {a:Int} {R:AV→List (Nat×AObj)→Prop} (hR:∀ (F:FL) (a':Int),F.Tn→(a≤a'∧a'≤a+1200)→
     R (.agg [.str F.id,.int .i64 F.ver,.int .i64 F.day,.int .i64 F.kind,.view 15 F.ms.length (wag (atM F.ms)),.view 5 F.rs.length (wai (atR F.rs)),.view 5 F.ts.length (wah (atT F.ts))]) [(0,.cells [.view 1 n (waa v),.int .i64 a'] 27)])
   (F:FL) (hF:F.Tn) (b:Int) (hb:a≤b∧b≤a+1200) (nm nr nt:Nat) (f3:Nat→List AV) (h1:nm=F.ms.length) (h2:nr=F.rs.length) (h3:nt=F.ts.length) (hf:∀ i,(f3 i).map nilB=wah (atT F.ts) i):
   frzO 1 (frzO 2 (frzO 3 R)) (.agg [.str F.id,.int .i64 F.ver,.int .i64 F.day,.int .i64 F.kind,.own 1 nm,.own 2 nr,.own 3 nt]) (mapO nilB [3] [(0,.cells [.view 1 n (waa v),.int .i64 b] 27),(1,.row 40 15 nm (wag (atM F.ms)) false),(2,.row 61 5 nr (wai (atR F.rs)) false),(3,.row 97 5 nt f3 false)]):=by
 subst h1 h2 h3
 have hf:(fun i=>(f3 i).map nilB)=wah (atT F.ts):=funext hf
 have e:mapO nilB [3] [(0,.cells [.view 1 n (waa v),.int .i64 b] 27),(1,.row 40 15 F.ms.length (wag (atM F.ms)) false),(2,.row 61 5 F.rs.length (wai (atR F.rs)) false),(3,.row 97 5 F.ts.length f3 false)]=[(0,.cells [.view 1 n (waa v),.int .i64 b] 27),(1,.row 40 15 F.ms.length (wag (atM F.ms)) false),(2,.row 61 5 F.rs.length (wai (atR F.rs)) false),(3,.row 97 5 F.ts.length (wah (atT F.ts)) false)]:=by rw [← hf];rfl
 rw [e]
 have b1:Nat.ble F.ms.length F.ms.length=true:=Nat.ble_eq_true_of_le (Nat.le_refl _)
 have b2:Nat.ble F.rs.length F.rs.length=true:=Nat.ble_eq_true_of_le (Nat.le_refl _)
 have b3:Nat.ble F.ts.length F.ts.length=true:=Nat.ble_eq_true_of_le (Nat.le_refl _)
 refine ⟨fun _ _=>rfl,fun _ _=>rfl,fun _ _=>rfl,?_⟩
 have:=hR F b hF hb
 have c1:Nat.beq 2 1=false:=rfl
 have c2:Nat.beq 3 1=false:=rfl
 have c3:Nat.beq 3 2=false:=rfl
 simpa [frzC,frzA,frz,rm,b1,b2,b3,c1,c2,c3] using this
theorem idl_le (i:Nat):(List.getD [[],[65],[102,46,120],[97,98,99,100,101,102,103,104,105,106,107,108,109,110,111,112,113,114,115,116,117,118,119,120,121]] i ([]:List UInt8)).length≤100:=by
 match i with
 |0=>decide
 |1=>decide
 |2=>decide
 |3=>decide
 |n+4=>exact Nat.zero_le _
theorem verl_rg (i:Nat):inR .i64 (List.getD [(0:Int),1,2,1000,1001] i 0):=by
 match i with
 |0=>exact ⟨by decide,by decide⟩
 |1=>exact ⟨by decide,by decide⟩
 |2=>exact ⟨by decide,by decide⟩
 |3=>exact ⟨by decide,by decide⟩
 |4=>exact ⟨by decide,by decide⟩
 |n+5=>
  show inR .i64 0
  exact ⟨by decide,by decide⟩
theorem wjg (enc:Nat→List AV) {k:Nat} {f ch:Nat→List AV} (H:∀ i,i<k+1→apF k f ch i=enc i) (hn:∀ i,nrefL (enc i)=true):∀ i,i<k+1→nrefL (apF k f ch i)=true:=fun i hi=>by rw [H i hi];exact hn i
theorem ww9 (hP:C.P=Tryz.prog) (n:Nat) (v:Nat→Int):waj C 1 96 (wam Tryz.f27 23) (wnu n v):=by
 have _:C.Loose:=inferInstance
 rintro s Q ⟨a,m,N,h0,hN,hQ⟩
 refine AWP.ownNilP 3 5 61 5 (AWP.ownNilP 3 6 97 5 ?_)
 refine waj.mk (prg hP) [] 0 .nil [0,2,3,4,85,86] [0,2,3] [] (wls n v a m N) (fun j=>j≤N) (fun j=>N - j) 0 (Nat.zero_le _) h0 (fun j hj=>?_) (fun i=>⟨fun _ _=>rfl,fun _ _=>rfl,fun _ _=>rfl,trivial⟩)
 rw [wyo]
 refine wak (fun h1=>⟨⟨by omega,by omega⟩,⟨rfl,by omega,rfl⟩,by simp only [inR];omega,j+1,⟨rfl,rfl,rfl,rfl,rfl,⟨rfl,rfl,rfl,rfl,rfl,fun i hi=>?_⟩,⟨rfl,rfl,rfl,rfl,rfl,fun _ _=>rfl⟩,⟨rfl,rfl,rfl,rfl,rfl,fun _ _=>rfl⟩,trivial⟩,by omega,by omega⟩) (fun h1=>?_)
 ·rw [Int.toNat_natCast]
  show (if i=j then mgC m else mgC (wd4 m j i))=mgC (wd4 m (j+1) i)
  unfold wd4
  by_cases q:i=j
  ·rw [if_pos q,decide_eq_true (show i<j+1 by omega)];rfl
  ·rw [if_neg q]
   by_cases q2:i<j
   ·rw [decide_eq_true q2,decide_eq_true (show i<j+1 by omega)]
   ·rw [decide_eq_false q2,decide_eq_false (show ¬ i<j+1 by omega)]
 ·have:j=N:=by omega
  subst this
  refine ⟨fun _ _=>rfl,fun _ _=>rfl,fun _ _=>rfl,_,?_,hQ⟩
  unfold S_fl
  dsimp only
  rw [List.length_replicate]
  exact ⟨rfl,rfl,rfl,⟨rfl,rfl,rfl,rfl,rfl,fun i hi=>by
   show mgC (wd4 m j i)=mgC (atM (List.replicate j m) i)
   have e:atM (List.replicate j m) i=m:=by simp [atM,List.getD_eq_getElem?_getD,hi]
   rw [e]
   unfold wd4
   rw [decide_eq_true hi];rfl⟩,⟨rfl,rfl,rfl,rfl,rfl,fun _ _=>rfl⟩,⟨rfl,rfl,rfl,rfl,rfl,fun _ _=>rfl⟩,trivial⟩
theorem fill_tn (N:Nat) (m:MG) (hN:N≤1000) (hm:m.Tn):(⟨[102],1,0,1,List.replicate N m,[],[]⟩:FL).Tn:=
 ⟨by show 1≤100;omega,by show inR .i64 1;exact ⟨by decide,by decide⟩,by show inR .i64 1;exact ⟨by decide,by decide⟩,⟨by show (List.replicate _ _).length≤1000;rw [List.length_replicate];exact hN,fun x hx=>by rw [List.eq_of_mem_replicate hx];exact hm⟩,⟨by show 0≤1000;omega,fun r hr=>(by cases hr)⟩,⟨by show 0≤1000;omega,fun r hr=>(by cases hr)⟩⟩
theorem sp15_ok (hP:C.P=Tryz.prog):wa7 C 27 wnf:=by
 rintro args objs R h
 unfold wnf at h
 split at h
 ·rename_i sz n f a t
  obtain ⟨rfl,rfl,hf,ha,hR⟩:=h
  rw [hf] at hR ⊢
  generalize vInt f=v at *
  have hw:vInt (waa v)=v:=rfl
  refine wal.frzO 3 (wal.frzO 2 (wal.frzO 1 (wal.mapO nilB (fun w M bs v u h=>h.nilv) [3] ?_)))
  refine wa7.wpL (prg hP) [(32,.rel wnm),(42,.det wba),(36,.det wl9),(37,.det wfe),(43,.det S_id)] [(23,wnu n v)] 0
   (.cons (wuz hP) (.cons (wb7 hP) (.cons (w0u hP) (.cons (wox hP) (.cons (wke hP) .nil))))) (hP ▸ Tryz.func27) rfl rfl rfl [(wam Tryz.f27 23,wnu n v)] (by kernel_rfl) ⟨ww9 hP n v,trivial⟩ ?_
  rw [nf_sp15,hw]
  refine ⟨rfl,rfl,rfl,⟨by omega,by omega⟩,fun F b hF h1 h2 h3 _ hb=>⟨fun _ _=>rfl,fun _ _=>rfl,fun _ _=>rfl,⟨rfl,rfl,rfl,⟨by omega,by omega⟩,by omega,by omega⟩,?_⟩⟩
  have r4:=wav (show (1:Int)≤4 by omega) n v (b+1)
  have r5:=wav (show (1:Int)≤5 by omega) n v (b+1)
  obtain ⟨m1,m2⟩:=w0s n v (b+1)
  have r3:=wav (show (1:Int)≤3 by omega) n v (msgA n v (b+1))
  have tnm:=wtj m1.ok
  have tnr:=wpc (wpb n v (b+1)).1
  have fin:=fin15 hR
  refine wak (fun _=>?_) (fun _=>wak (fun _=>?_) (fun _=>wak (fun _=>?_) (fun _=>wak (fun _=>?_) (fun _=>wak (fun _=>?_) (fun _=>wak (fun _=>?_) (fun _=>wak (fun _=>?_) (fun _=>wak (fun _=>?_) (fun _=>wak (fun _=>?_) (fun _=>?_)))))))))
  ·exact ⟨⟨by omega,rfl,by omega⟩,⟨rfl,rfl,rfl,⟨by omega,by omega⟩,by omega,by omega⟩,⟨r4.1,r4.2⟩,⟨by omega,rfl⟩,⟨trivial,trivial⟩,fun _ _=>rfl,fun _ _=>rfl,fun _ _=>rfl,[(0,.cells [.view 1 n (waa v),.int .i64 (b+1+1)] 27),(1,.row 40 15 F.ms.length (wag (atM F.ms)) false),(2,.row 61 5 F.rs.length (wai (atR F.rs)) false),(3,.row 97 5 F.ts.length (wah (atT F.ts)) false)],⟨rfl,⟨rfl,rfl,rfl,rfl,rfl,fun _ _=>rfl⟩,⟨rfl,rfl,rfl,rfl,rfl,fun _ _=>rfl⟩,⟨rfl,rfl,rfl,rfl,rfl,fun _ _=>rfl⟩,trivial⟩,fin ⟨List.getD [[],[65],[102,46,120],[97,98,99,100,101,102,103,104,105,106,107,108,109,110,111,112,113,114,115,116,117,118,119,120,121]] (wab n v (b+1) 4).toNat [],F.ver,F.day,F.kind,F.ms,F.rs,F.ts⟩ ⟨idl_le _,hF.ver,hF.kind,hF.m,hF.r,hF.t⟩ _ (by omega) _ _ _ _ rfl rfl rfl fun _=>rfl⟩
  ·exact ⟨⟨by omega,rfl,by omega⟩,⟨rfl,rfl,rfl,⟨by omega,by omega⟩,by omega,by omega⟩,⟨r5.1,r5.2⟩,⟨by omega,rfl⟩,⟨trivial,trivial⟩,fun _ _=>rfl,fun _ _=>rfl,fun _ _=>rfl,[(0,.cells [.view 1 n (waa v),.int .i64 (b+1+1)] 27),(1,.row 40 15 F.ms.length (wag (atM F.ms)) false),(2,.row 61 5 F.rs.length (wai (atR F.rs)) false),(3,.row 97 5 F.ts.length (wah (atT F.ts)) false)],⟨rfl,⟨rfl,rfl,rfl,rfl,rfl,fun _ _=>rfl⟩,⟨rfl,rfl,rfl,rfl,rfl,fun _ _=>rfl⟩,⟨rfl,rfl,rfl,rfl,rfl,fun _ _=>rfl⟩,trivial⟩,fin ⟨F.id,List.getD [(0:Int),1,2,1000,1001] (wab n v (b+1) 5).toNat 0,F.day,F.kind,F.ms,F.rs,F.ts⟩ ⟨hF.id,verl_rg _,hF.kind,hF.m,hF.r,hF.t⟩ _ (by omega) _ _ _ _ rfl rfl rfl fun _=>rfl⟩
  ·exact ⟨⟨by omega,rfl,by omega⟩,⟨rfl,rfl,rfl,⟨by omega,by omega⟩,by omega,by omega⟩,⟨r4.1,r4.2⟩,⟨by omega,rfl⟩,⟨trivial,trivial⟩,fun _ _=>rfl,fun _ _=>rfl,fun _ _=>rfl,[(0,.cells [.view 1 n (waa v),.int .i64 (b+1+1)] 27),(1,.row 40 15 F.ms.length (wag (atM F.ms)) false),(2,.row 61 5 F.rs.length (wai (atR F.rs)) false),(3,.row 97 5 F.ts.length (wah (atT F.ts)) false)],⟨rfl,⟨rfl,rfl,rfl,rfl,rfl,fun _ _=>rfl⟩,⟨rfl,rfl,rfl,rfl,rfl,fun _ _=>rfl⟩,⟨rfl,rfl,rfl,rfl,rfl,fun _ _=>rfl⟩,trivial⟩,fin ⟨F.id,F.ver,List.getD [(-1:Int),0,182620,182621] (wab n v (b+1) 4).toNat 0,F.kind,F.ms,F.rs,F.ts⟩ ⟨hF.id,hF.ver,hF.kind,hF.m,hF.r,hF.t⟩ _ (by omega) _ _ _ _ rfl rfl rfl fun _=>rfl⟩
  ·exact ⟨⟨rfl,rfl,rfl,⟨by omega,by omega⟩,by omega,by omega⟩,⟨trivial,trivial⟩,fun _ _=>rfl,fun _ _=>rfl,fun _ _=>rfl,[(0,.cells [.view 1 n (waa v),.int .i64 (b+1+1)] 27),(1,.row 40 15 F.ms.length (wag (atM F.ms)) false),(2,.row 61 5 F.rs.length (wai (atR F.rs)) false),(3,.row 97 5 F.ts.length (wah (atT F.ts)) false)],⟨rfl,⟨rfl,rfl,rfl,rfl,rfl,fun _ _=>rfl⟩,⟨rfl,rfl,rfl,rfl,rfl,fun _ _=>rfl⟩,⟨rfl,rfl,rfl,rfl,rfl,fun _ _=>rfl⟩,trivial⟩,fin ⟨F.id,F.ver,F.day,wab n v (b+1) 5,F.ms,F.rs,F.ts⟩ ⟨hF.id,hF.ver,by simp only [inR];omega,hF.m,hF.r,hF.t⟩ _ (by omega) _ _ _ _ rfl rfl rfl fun _=>rfl⟩
  ·refine ⟨⟨rfl,rfl,rfl,by omega,by omega⟩,⟨by omega,rfl,by omega⟩,⟨⟨Nat.le_refl _,rfl⟩,Nat.le_refl _,rfl,rfl,rfl,by omega,?_⟩,⟨trivial,trivial⟩,wjg (wag (atM (F.ms++[msgV n v (b+1)]))) (wel mgC default F.ms (msgV n v (b+1)) _ rfl) (fun _=>rfl),fun _ _=>rfl,fun _ _=>rfl,
    [(0,.cells [.view 1 n (waa v),.int .i64 (msgA n v (b+1))] 27),(1,.row 40 15 (F.ms.length+1) (wag (atM (F.ms++[msgV n v (b+1)]))) false),(2,.row 61 5 F.rs.length (wai (atR F.rs)) false),(3,.row 97 5 F.ts.length (wah (atT F.ts)) false)],⟨rfl,⟨rfl,rfl,rfl,rfl,rfl,wel mgC default F.ms (msgV n v (b+1)) _ rfl⟩,⟨rfl,rfl,rfl,rfl,rfl,fun _ _=>rfl⟩,⟨rfl,rfl,rfl,rfl,rfl,fun _ _=>rfl⟩,trivial⟩,
    fin ⟨F.id,F.ver,F.day,F.kind,F.ms++[msgV n v (b+1)],F.rs,F.ts⟩ ⟨hF.id,hF.ver,hF.kind,⟨by show (F.ms++[_]).length≤1000;rw [List.length_append,List.length_singleton];omega,wey hF.m.2 tnm⟩,hF.r,hF.t⟩ _ (by omega) _ _ _ _ (by show _=(F.ms++[_]).length;rw [List.length_append,List.length_singleton]) rfl rfl fun _=>rfl⟩
   show (F.ms.length+1) * 176≤_
   omega
  ·refine ⟨⟨rfl,rfl,rfl,by omega,by omega⟩,⟨by omega,rfl,by omega⟩,⟨⟨Nat.le_refl _,rfl⟩,Nat.le_refl _,rfl,rfl,rfl,by omega,?_⟩,⟨trivial,trivial⟩,fun _ _=>rfl,wjg (wai (atR (F.rs++[rowV n v (b+1)]))) (wel (fun r:RW=>[.str r.o,.str r.p,.int .i64 r.per,.int .i64 r.u,.int .i64 r.tv]) default F.rs (rowV n v (b+1)) _ rfl) (fun _=>rfl),fun _ _=>rfl,
    [(0,.cells [.view 1 n (waa v),.int .i64 (b+1+1+1+1+1+1+1)] 27),(1,.row 40 15 F.ms.length (wag (atM F.ms)) false),(2,.row 61 5 (F.rs.length+1) (wai (atR (F.rs++[rowV n v (b+1)]))) false),(3,.row 97 5 F.ts.length (wah (atT F.ts)) false)],⟨rfl,⟨rfl,rfl,rfl,rfl,rfl,fun _ _=>rfl⟩,⟨rfl,rfl,rfl,rfl,rfl,wel (fun r:RW=>[.str r.o,.str r.p,.int .i64 r.per,.int .i64 r.u,.int .i64 r.tv]) default F.rs (rowV n v (b+1)) _ rfl⟩,⟨rfl,rfl,rfl,rfl,rfl,fun _ _=>rfl⟩,trivial⟩,
    fin ⟨F.id,F.ver,F.day,F.kind,F.ms,F.rs++[rowV n v (b+1)],F.ts⟩ ⟨hF.id,hF.ver,hF.kind,hF.m,⟨by show (F.rs++[_]).length≤1000;rw [List.length_append,List.length_singleton];omega,wey hF.r.2 tnr⟩,hF.t⟩ _ (by omega) _ _ _ _ rfl (by show _=(F.rs++[_]).length;rw [List.length_append,List.length_singleton]) rfl fun _=>rfl⟩
   show (F.rs.length+1) * 56≤_
   omega
  ·refine ⟨⟨by omega,rfl,by omega⟩,⟨⟨Nat.le_refl _,rfl⟩,Nat.le_refl _,rfl,rfl,rfl,by omega,?_⟩,⟨trivial,trivial⟩,fun _ _=>rfl,wjg (wai (atR (F.rs++[zRw]))) (wel (fun r:RW=>[.str r.o,.str r.p,.int .i64 r.per,.int .i64 r.u,.int .i64 r.tv]) default F.rs zRw _ rfl) (fun _=>rfl),fun _ _=>rfl,
    [(0,.cells [.view 1 n (waa v),.int .i64 (b+1)] 27),(1,.row 40 15 F.ms.length (wag (atM F.ms)) false),(2,.row 61 5 (F.rs.length+1) (wai (atR (F.rs++[zRw]))) false),(3,.row 97 5 F.ts.length (wah (atT F.ts)) false)],⟨rfl,⟨rfl,rfl,rfl,rfl,rfl,fun _ _=>rfl⟩,⟨rfl,rfl,rfl,rfl,rfl,wel (fun r:RW=>[.str r.o,.str r.p,.int .i64 r.per,.int .i64 r.u,.int .i64 r.tv]) default F.rs zRw _ rfl⟩,⟨rfl,rfl,rfl,rfl,rfl,fun _ _=>rfl⟩,trivial⟩,
    fin ⟨F.id,F.ver,F.day,F.kind,F.ms,F.rs++[zRw],F.ts⟩ ⟨hF.id,hF.ver,hF.kind,hF.m,⟨by show (F.rs++[_]).length≤1000;rw [List.length_append,List.length_singleton];omega,wey hF.r.2 ⟨⟨⟨by decide,by decide⟩,⟨by decide,by decide⟩,⟨by decide,by decide⟩⟩,by decide,by decide⟩⟩,hF.t⟩ _ (by omega) _ _ _ _ rfl (by show _=(F.rs++[_]).length;rw [List.length_append,List.length_singleton]) rfl fun _=>rfl⟩
   show (F.rs.length+1) * 56≤_
   omega
  ·let r:RT:=⟨[111,49],idF 1,3,0,[]⟩
   let g:Nat→List AV:=fun i=>if i=F.ts.length then [.str [111,49],.str (idF 1),.int .i64 3,.int .i64 0,.nil] else wah (atT (F.ts++[r])) i
   have H:∀ ch:Nat→List AV,ch 0=[.str [111,49],.str (idF 1),.int .i64 3,.int .i64 0,.nil]→∀ i,i<F.ts.length+1→apF F.ts.length (wah (atT F.ts)) ch i=g i:=fun ch hc i hi=>by
    unfold apF
    show _=if i=F.ts.length then _ else _
    by_cases q:i=F.ts.length
    ·rw [if_pos q,if_neg (by omega),q,Nat.sub_self,hc]
    ·rw [if_neg q,if_pos (by omega)]
     have e:atT (F.ts++[r]) i=atT F.ts i:=by simp [atT,List.getD_eq_getElem?_getD,List.getElem?_append_left (show i<F.ts.length by omega)]
     unfold wah
     rw [e]
   have hg:∀ i,(g i).map nilB=wah (atT (F.ts++[r])) i:=fun i=>by
    show List.map nilB (if i=F.ts.length then _ else _)=_
    by_cases q:i=F.ts.length
    ·rw [if_pos q]
     have e:atT (F.ts++[r]) i=r:=by subst q;simp [atT,List.getD_eq_getElem?_getD]
     unfold wah
     rw [e];rfl
    ·rw [if_neg q];rfl
   have hn:∀ i,nrefL (g i)=true:=fun i=>by
    show nrefL (if i=F.ts.length then _ else _)=true
    by_cases q:i=F.ts.length
    ·rw [if_pos q];rfl
    ·rw [if_neg q];rfl
   have tnt:r.Tn:=⟨⟨⟨by decide,by decide⟩,⟨by decide,by decide⟩,by decide,fun b hb=>(by cases hb)⟩,by decide,by have:=wov (wd1 1);show (idF 1).length≤100;omega⟩
   refine ⟨trivial,⟨by omega,rfl,by omega⟩,⟨⟨Nat.le_refl _,rfl⟩,Nat.le_refl _,rfl,rfl,rfl,by omega,?_⟩,⟨trivial,trivial⟩,fun _ _=>rfl,fun _ _=>rfl,wjg g (H _ rfl) hn,
    [(0,.cells [.view 1 n (waa v),.int .i64 (b+1)] 27),(1,.row 40 15 F.ms.length (wag (atM F.ms)) false),(2,.row 61 5 F.rs.length (wai (atR F.rs)) false),(3,.row 97 5 (F.ts.length+1) g false)],⟨rfl,⟨rfl,rfl,rfl,rfl,rfl,fun _ _=>rfl⟩,⟨rfl,rfl,rfl,rfl,rfl,fun _ _=>rfl⟩,⟨rfl,rfl,rfl,rfl,rfl,H _ rfl⟩,trivial⟩,
    fin ⟨F.id,F.ver,F.day,F.kind,F.ms,F.rs,F.ts++[r]⟩ ⟨hF.id,hF.ver,hF.kind,hF.m,hF.r,⟨by show (F.ts++[_]).length≤1000;rw [List.length_append,List.length_singleton];omega,wey hF.t.2 tnt⟩⟩ _ (by omega) _ _ _ _ rfl rfl (by show _=(F.ts++[_]).length;rw [List.length_append,List.length_singleton]) hg⟩
   show (F.ts.length+1) * 72≤_
   omega
  ·have hN:Int.toNat (399+wab n v (msgA n v (b+1)) 3)≤401:=by omega
   refine ⟨⟨rfl,rfl,rfl,by omega,by omega⟩,⟨rfl,rfl,rfl,⟨by omega,by omega⟩,by omega,by omega⟩,by simp only [inR];omega,⟨by omega,by omega,?_,by omega⟩,msgA n v (b+1)+1,msgV n v (b+1),Int.toNat (399+wab n v (msgA n v (b+1)) 3),⟨rfl,rfl,rfl,rfl,rfl,⟨rfl,rfl,rfl,rfl,rfl,fun i hi=>rfl⟩,⟨rfl,rfl,rfl,rfl,rfl,fun i hi=>absurd hi (Nat.not_lt_zero i)⟩,⟨rfl,rfl,rfl,rfl,rfl,fun i hi=>absurd hi (Nat.not_lt_zero i)⟩,trivial⟩,hN,⟨trivial,trivial⟩,fun _ _=>rfl,fun _ _=>rfl,fun _ _=>rfl,_,wan _,?_⟩
   ·show (176:Int) * _≤_
    omega
   ·exact fin ⟨[102],1,0,1,List.replicate (Int.toNat (399+wab n v (msgA n v (b+1)) 3)) (msgV n v (b+1)),[],[]⟩ (fill_tn _ _ (by omega) tnm) _ (by omega) _ _ _ _ rfl rfl rfl fun _=>rfl
  ·exact ⟨⟨trivial,trivial⟩,fun _ _=>rfl,fun _ _=>rfl,fun _ _=>rfl,[(0,.cells [.view 1 n (waa v),.int .i64 (b+1)] 27),(1,.row 40 15 F.ms.length (wag (atM F.ms)) false),(2,.row 61 5 F.rs.length (wai (atR F.rs)) false),(3,.row 97 5 F.ts.length (wah (atT F.ts)) false)],⟨rfl,⟨rfl,rfl,rfl,rfl,rfl,fun _ _=>rfl⟩,⟨rfl,rfl,rfl,rfl,rfl,fun _ _=>rfl⟩,⟨rfl,rfl,rfl,rfl,rfl,fun _ _=>rfl⟩,trivial⟩,fin F hF _ (by omega) _ _ _ _ rfl rfl rfl fun _=>rfl⟩
 ·exact h.elim
end Go.Eng
