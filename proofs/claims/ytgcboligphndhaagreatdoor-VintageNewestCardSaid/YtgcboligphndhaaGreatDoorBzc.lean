/- The tied card of VintageNewest: its statement is 'VintageNewestCardSaid' of the given cards. -/
import Derived.Test.YtgcboligphndhaaGreatDoorBu
import Derived.Test.YtgcboligphndhaaGreatDoorBzb
import Derived.Test.YtgcboligphndhaaGreatDoorBn
import Derived.Test.YtgcboligphndhaaGreatDoorBo
import Derived.Test.YtgcboligphndhaaGreatDoorBm
import Derived.Test.YtgcboligphndhaaGreatDoorCards
import Derived.Test.YtgcboligphndhaaGreatDoorTie
import Derived.SevenTiedAt
namespace Go.Eng
open Go.Proofs Go.RowKit
variable {C:Ctx} [C.Loose]
set_option maxRecDepth 20000
theorem wws (n:Nat) (v:Nat→Int) (N:Int) (i:NwS) (P:NwS→Prop) (R:Exit→St→Prop):wa2 ⟨te,[(42,.det wgm),(43,.det S_id)],[(1006,wmf)],0,134,0⟩ (wa4 Tryz.f9 4) [3,4,19,20] [3,4] [] (wky n v N) P R (wky n v N i)=(letI z15:=wab (nwg (NwS.V i) (NwS.R i) (NwS.T i));letI z14:=(4611686018427387904:Int);letI z13:=(↑(NwS.k i):Int);letI z12:=(Int.toNat (was (List.headD (wb0 (idV (0:Int)) (nat_lit 6)) .any)));letI z11:=(Int.toNat (was (List.headD (wb0 (idV (0:Int)) (nat_lit 5)) .any)));letI z10:=(Int.toNat (was (List.headD (wb0 (idV (0:Int)) (nat_lit 4)) .any)));letI z9:=(Int.toNat (was (List.headD (wb0 (idV (0:Int)) (nat_lit 3)) .any)));letI z8:=(Int.toNat (was (List.headD (wb0 (idV (0:Int)) (nat_lit 2)) .any)));letI z7:=(Int.toNat (was (List.headD (wb0 (idV (0:Int)) (nat_lit 1)) .any)));letI z6:=(Int.toNat (was (List.headD (wb0 (idV (0:Int)) (nat_lit 0)) .any)));letI z5:=(NwS.a i+(1:Int));letI z4:=([.view 1 n (waf v),.int .i64 (NwS.a i+(1:Int)+(1:Int)+(1:Int))]:List AV);letI z2:=(Int.toNat ((48:Int)+Prod.fst (cdF (id7 (0:Int)))));letI z1:=(NwS.a i+(1:Int)+(1:Int));letI z0:=(wa0 (TI.sz wd0) (.str [(102:UInt8)]:: .int .i64 ((1:Int)+wbb n (vInt (waf v)) (NwS.a i) (3:Int)):: .int .i64 ((43860:Int)+wbb n (vInt (waf v)) z5 (4:Int)):: .int .i64 2:: .nil:: .own 66 1:: .nil::List.append [] (List.flatten (List.replicate (nat_lit 0) [.str ([]),.int .i64 0,.int .i64 0,.int .i64 0,.nil,.nil,.nil]))));waa (decide (z13<N)) ((27=27∧1=1∧waf v=waf (vInt (waf v))∧((1:Int)≤(3:Int)∧(3:Int)≤(1000000:Int))∧(0:Int)≤NwS.a i∧NwS.a i≤z14)∧inR .i64 ((1:Int)+wbb n (vInt (waf v)) (NwS.a i) (3:Int))∧(27=27∧1=1∧waf v=waf (vInt (waf v))∧((1:Int)≤(4:Int)∧(4:Int)≤(1000000:Int))∧(0:Int)≤NwS.a i+(1:Int)∧NwS.a i+(1:Int)≤z14)∧inR .i64 ((43860:Int)+wbb n (vInt (waf v)) z5 (4:Int))∧True∧(27=27∧1=1∧waf v=waf (vInt (waf v))∧((1:Int)≤(2:Int)∧(2:Int)≤(1000000:Int))∧(0:Int)≤NwS.a i+(1:Int)+(1:Int)∧NwS.a i+(1:Int)+(1:Int)≤z14)∧inR .i64 ((100:Int)+wbb n (vInt (waf v)) z1 (2:Int))∧(5≤16777216∧5=5∧1≤9223372036854775807)∧(7≤16777216∧7=7∧1≤9223372036854775807)∧((1≤1∧7=7)∧NwS.k i≤NwS.k i∧7=7∧49=49∧7=7∧NwS.k i+1≤9223372036854775807∧(NwS.k i+1) * TI.bytes wd0≤140737488355328)∧∃ (n_1:Nat),∃ (v_1:Nat→Int),∃ (N_1:Int),∃ (a:Int),∃ (k:Nat),∃ (V:Nat→Int),∃ (R:Nat→Int),∃ (T:Nat→Int),letI z3:=([(0,.cells [.view 1 n_1 (waf v_1),.int .i64 a] 27),(1,.row 49 7 (k+1) (wab (nwg V R T)) false)]:List (Nat×AObj));∃ (z:Int),(∀ (i_1:Nat),i_1<1→[AV.str (RW.o (atR [nwr z] i_1)),.str (RW.p (atR [nwr z] i_1)),.int .i64 (RW.per (atR [nwr z] i_1)),.int .i64 (RW.u (atR [nwr z] i_1)),.int .i64 (RW.tv (atR [nwr z] i_1))]=wa0 (TI.sz we8) (.str [(111:UInt8),49]:: .str [(fun (i:Nat)=>UInt8.ofNat (Int.toNat (was (List.headD (wb0 (idV (0:Int)) i) .any)))) (nat_lit 0),(fun (i:Nat)=>UInt8.ofNat (Int.toNat (was (List.headD (wb0 (idV (0:Int)) i) .any)))) (nat_lit 1),(fun (i:Nat)=>UInt8.ofNat (Int.toNat (was (List.headD (wb0 (idV (0:Int)) i) .any)))) (nat_lit 2),(fun (i:Nat)=>UInt8.ofNat (Int.toNat (was (List.headD (wb0 (idV (0:Int)) i) .any)))) (nat_lit 3),(fun (i:Nat)=>UInt8.ofNat (Int.toNat (was (List.headD (wb0 (idV (0:Int)) i) .any)))) (nat_lit 4),(fun (i:Nat)=>UInt8.ofNat (Int.toNat (was (List.headD (wb0 (idV (0:Int)) i) .any)))) (nat_lit 5),(fun (i:Nat)=>UInt8.ofNat (Int.toNat (was (List.headD (wb0 (idV (0:Int)) i) .any)))) (nat_lit 6),UInt8.ofNat z2]:: .int .i64 1440:: .int .i64 1:: .int .i64 ((100:Int)+wbb n (vInt (waf v)) z1 (2:Int))::List.append [] (List.flatten (List.replicate (nat_lit 0) [.str ([]),.str ([]),.int .i64 0,.int .i64 0,.int .i64 0]))) i_1)∧(∀ (i:Nat),i<1→true=true)∧wha 68 (wab (nwg V R T)) (St.mk [(4,.own 68 (NwS.k i+1)),(37,.own 68 (NwS.k i+1)),(36,.own 67 1),(35,.agg [.str [(102:UInt8)],.int .i64 ((1:Int)+wbb n (vInt (waf v)) (NwS.a i) (3:Int)),.int .i64 ((43860:Int)+wbb n (vInt (waf v)) z5 (4:Int)),.int .i64 2,.nil,.view 5 1 (wak (atR [nwr z])),.nil]),(34,.view 5 1 (wak (atR [nwr z]))),(33,.agg [.str [(111:UInt8),49],.str [UInt8.ofNat z6,UInt8.ofNat z7,UInt8.ofNat z8,UInt8.ofNat z9,UInt8.ofNat z10,UInt8.ofNat z11,UInt8.ofNat z12,UInt8.ofNat z2],.int .i64 1440,.int .i64 1,.int .i64 ((100:Int)+wbb n (vInt (waf v)) z1 (2:Int))]),(32,.int .i64 ((100:Int)+wbb n (vInt (waf v)) z1 (2:Int))),(31,.int .i64 (wbb n (vInt (waf v)) z1 (2:Int))),(30,.ptr 0 0),(29,.str [UInt8.ofNat z6,UInt8.ofNat z7,UInt8.ofNat z8,UInt8.ofNat z9,UInt8.ofNat z10,UInt8.ofNat z11,UInt8.ofNat z12,UInt8.ofNat z2]),(28,.int .i64 ((43860:Int)+wbb n (vInt (waf v)) z5 (4:Int))),(27,.int .i64 (wbb n (vInt (waf v)) z5 (4:Int))),(26,.ptr 0 0),(25,.int .i64 ((1:Int)+wbb n (vInt (waf v)) (NwS.a i) (3:Int))),(24,.int .i64 (wbb n (vInt (waf v)) (NwS.a i) (3:Int))),(23,.ptr 0 0),(22,.own 1 (NwS.k i)),(21,.bool (decide (z13<N))),(3,.ptr 0 0),(19,.int .i64 N),(20,.int .i64 z13)] [(68,.row 49 7 (NwS.k i+1) (fun (i_1:Nat)=>List.map (frz 66 5 1 (wak (atR [nwr z]))) (apF (NwS.k i) z15 z0 i_1)) false),(1,.dead),(67,.row 49 7 1 z0 false),(0,.cells z4 27)] 69 [])∧(TEq [(3,.ptr 0 0),(4,.own 1 (NwS.k i+1)),(19,.int .i64 N),(20,.int .i64 z13)] [(3,.ptr 0 0),(4,.own 1 (k+1)),(19,.int .i64 N_1),(20,.int .i64 (↑k:Int))]∧wac [(0,.cells z4 27),(1,.row 49 7 (NwS.k i+1) (wab (nwg V R T)) false)] z3)∧k≤100∧∃ (i':NwS),(TEq [(3,.ptr 0 0),(4,.own 1 (k+1)),(19,.int .i64 N_1),(20,.int .i64 ((↑k:Int)+(1:Int)))] [(3,.ptr 0 0),(4,.own 1 (NwS.k i')),(19,.int .i64 N),(20,.int .i64 (↑(NwS.k i'):Int))]∧wac z3 [(0,.cells [.view 1 n (waf v),.int .i64 (NwS.a i')] 27),(1,.row 49 7 (NwS.k i') (wab (nwg (NwS.V i') (NwS.R i') (NwS.T i'))) false)])∧P i') ((∀ (i_1:Nat),i_1<NwS.k i→true=true)∧∃ (O':List (Nat×AObj)),wac [(0,.cells [.view 1 n (waf v),.int .i64 (NwS.a i)] 27),(1,.row 49 7 (NwS.k i) z15 false)] O'∧R (.exit 0) (St.mk [(3,.ptr 0 0),(4,.own 1 (NwS.k i))] O' 2 []))):=by kernel_rfl
theorem nf_nw6 (n:Nat) (v:Nat→Int) (N a:Int) (k:Nat) (V W T:Nat→Int) (Q:Exit→St→Prop):regP ⟨te,[],[],0,134,0⟩ (regC Tryz.f9 6) [3,4,19,20] Q (wkx n v N a k V W T)=(inR .i64 ((↑k:Int)+(1:Int))∧(∀ (i:Nat),i<k+1→true=true)∧∃ (O':List (Nat×AObj)),wac [(0,.cells [.view 1 n (waf v),.int .i64 a] 27),(1,.row 49 7 (k+1) (wab (nwg V W T)) false)] O'∧Q .normal (St.mk [(3,.ptr 0 0),(4,.own 1 (k+1)),(19,.int .i64 N),(20,.int .i64 ((↑k:Int)+(1:Int)))] O' 2 [])):=by kernel_rfl
theorem wwt (n:Nat) (V W T:Nat→Int) (d b t v:Int) (k:Nat) (P:Nat→Prop) (R:Exit→St→Prop):wa2 ⟨te,[],[],0,134,0⟩ (wa4 Tryz.f9 14) [4,5,6,7,8,9,10,46,47,48] [4,5,6,7,8,9,10] [] (wkz n V W T d b t v) P R (wkz n V W T d b t v k)=(letI z5:=Prod.snd (nwI V W T d v k);letI z4:=(nwg V W T (Int.toNat (↑k:Int)));letI z3:=((0:Int)≤(0:Int)∧(0:Int)<(↑1:Int)∧5=5:Prop);letI z2:=(atR (FL.rs z4) (Int.toNat (0:Int)));letI z1:=([(0,.row 49 7 n (wab (nwg V W T)) false)]:List (Nat×AObj));letI z0:=(inR .i64 ((↑k:Int)+(1:Int))∧∃ (i':Nat),(TEq [(4,.own 0 n),(5,.int .i64 d),(6,.int .i64 b),(7,.int .i64 t),(8,.int .i64 v),(9,.int .i64 (Prod.fst (nwI V W T d v k))),(10,.bool z5),(46,.own 0 n),(47,.int .i64 (↑n:Int)),(48,.int .i64 ((↑k:Int)+(1:Int)))] [(4,.own 0 n),(5,.int .i64 d),(6,.int .i64 b),(7,.int .i64 t),(8,.int .i64 v),(9,.int .i64 (Prod.fst (nwI V W T d v i'))),(10,.bool (Prod.snd (nwI V W T d v i'))),(46,.own 0 n),(47,.int .i64 (↑n:Int)),(48,.int .i64 (↑i':Int))]∧wac z1 z1)∧P i');waa (decide ((↑k:Int)<(↑n:Int))) (((0:Int)≤(↑k:Int)∧(↑k:Int)<(↑n:Int))∧(Int.toNat (↑k:Int)<n∧7=7)∧waa (!decide (FL.ver z4=v)) z0 (waa (decide (d<FL.day z4)) z0 (waa z5 (z3∧inR .i64 ((↑k:Int)+(1:Int))∧∃ (i':Nat),(TEq [(4,.own 0 n),(5,.int .i64 d),(6,.int .i64 b),(7,.int .i64 t),(8,.int .i64 v),(9,.int .i64 (RW.tv z2)),(10,.bool true),(46,.own 0 n),(47,.int .i64 (↑n:Int)),(48,.int .i64 ((↑k:Int)+(1:Int)))] [(4,.own 0 n),(5,.int .i64 d),(6,.int .i64 b),(7,.int .i64 t),(8,.int .i64 v),(9,.int .i64 (Prod.fst (nwI V W T d v i'))),(10,.bool (Prod.snd (nwI V W T d v i'))),(46,.own 0 n),(47,.int .i64 (↑n:Int)),(48,.int .i64 (↑i':Int))]∧wac z1 z1)∧P i') (waa (!decide (Prod.fst (nwI V W T d v k)=(0:Int))) (z3∧z3∧inR .i64 ((↑k:Int)+(1:Int))∧∃ (i':Nat),(TEq [(4,.own 0 n),(5,.int .i64 d),(6,.int .i64 b),(7,.int .i64 t),(8,.int .i64 v),(9,.int .i64 (RW.tv z2)),(10,.bool !decide (Prod.fst (nwI V W T d v k)=RW.tv z2)),(46,.own 0 n),(47,.int .i64 (↑n:Int)),(48,.int .i64 ((↑k:Int)+(1:Int)))] [(4,.own 0 n),(5,.int .i64 d),(6,.int .i64 b),(7,.int .i64 t),(8,.int .i64 v),(9,.int .i64 (Prod.fst (nwI V W T d v i'))),(10,.bool (Prod.snd (nwI V W T d v i'))),(46,.own 0 n),(47,.int .i64 (↑n:Int)),(48,.int .i64 (↑i':Int))]∧wac z1 z1)∧P i') (z3∧inR .i64 ((↑k:Int)+(1:Int))∧∃ (i':Nat),(TEq [(4,.own 0 n),(5,.int .i64 d),(6,.int .i64 b),(7,.int .i64 t),(8,.int .i64 v),(9,.int .i64 (RW.tv z2)),(10,.bool false),(46,.own 0 n),(47,.int .i64 (↑n:Int)),(48,.int .i64 ((↑k:Int)+(1:Int)))] [(4,.own 0 n),(5,.int .i64 d),(6,.int .i64 b),(7,.int .i64 t),(8,.int .i64 v),(9,.int .i64 (Prod.fst (nwI V W T d v i'))),(10,.bool (Prod.snd (nwI V W T d v i'))),(46,.own 0 n),(47,.int .i64 (↑n:Int)),(48,.int .i64 (↑i':Int))]∧wac z1 z1)∧P i'))))) ((∀ (i:Nat),i<n→true=true)∧∃ (O':List (Nat×AObj)),wac z1 O'∧R (.exit 4) (St.mk [(4,.own 0 n),(5,.int .i64 d),(6,.int .i64 b),(7,.int .i64 t),(8,.int .i64 v),(9,.int .i64 (Prod.fst (nwI V W T d v k))),(10,.bool z5)] O' 1 []))):=by kernel_rfl
theorem wwu (n:Nat) (V W T:Nat→Int) (d:Int) (j:Nat) (P:Nat→Prop) (R:Exit→St→Prop):wa2 ⟨te,[],[(14,wmh)],0,134,0⟩ (wa4 Tryz.f9 10) [4,5,6,7,8] [4,5,6,7] [] (wk0 n V W T d) P R (wk0 n V W T d j)=(letI z1:=([(0,.row 49 7 n (wab (nwg V W T)) false)]:List (Nat×AObj));waa (decide ((↑j:Int)+(1:Int)≤(3:Int))) (∃ (n_1:Nat),∃ (V_1:Nat→Int),∃ (R:Nat→Int),∃ (T_1:Nat→Int),letI z2:=([(0,.row 49 7 n_1 (wab (nwg V_1 R T_1)) false)]:List (Nat×AObj));∃ (d_1:Int),∃ (b:Int),∃ (t:Int),∃ (v:Int),letI z3:=nwI V_1 R T_1 d_1 v n_1;letI z0:=(inR .i64 (v+(1:Int))∧∃ (i':Nat),(TEq [(4,.own 0 n_1),(5,.int .i64 d_1),(6,.int .i64 b),(7,.int .i64 t),(8,.int .i64 (v+(1:Int)))] [(4,.own 0 n),(5,.int .i64 d),(6,.int .i64 (Prod.fst (nwO V W T n d i'))),(7,.int .i64 (Prod.snd (nwO V W T n d i'))),(8,.int .i64 ((↑i':Int)+(1:Int)))]∧wac z2 z1)∧P i');(TEq [(4,.own 0 n),(5,.int .i64 d),(6,.int .i64 (Prod.fst (nwO V W T n d j))),(7,.int .i64 (Prod.snd (nwO V W T n d j))),(8,.int .i64 ((↑j:Int)+(1:Int))),(9,.int .i64 0),(10,.bool false),(46,.own 0 n),(47,.int .i64 (↑n:Int)),(48,.int .i64 0)] [(4,.own 0 n_1),(5,.int .i64 d_1),(6,.int .i64 b),(7,.int .i64 t),(8,.int .i64 v),(9,.int .i64 (Prod.fst (nwI V_1 R T_1 d_1 v 0))),(10,.bool (Prod.snd (nwI V_1 R T_1 d_1 v 0))),(46,.own 0 n_1),(47,.int .i64 (↑n_1:Int)),(48,.int .i64 (↑0:Int))]∧wac z1 z2)∧n_1≤100∧waa (!decide (Prod.fst z3=(0:Int))) (waa (!Prod.snd z3) (inR .i64 (v+(1:Int))∧∃ (i':Nat),(TEq [(4,.own 0 n_1),(5,.int .i64 d_1),(6,.int .i64 v),(7,.int .i64 (Prod.fst z3)),(8,.int .i64 (v+(1:Int)))] [(4,.own 0 n),(5,.int .i64 d),(6,.int .i64 (Prod.fst (nwO V W T n d i'))),(7,.int .i64 (Prod.snd (nwO V W T n d i'))),(8,.int .i64 ((↑i':Int)+(1:Int)))]∧wac z2 z1)∧P i') z0) z0) ((∀ (i:Nat),i<n→true=true)∧∃ (O':List (Nat×AObj)),wac z1 O'∧R (.exit 2) (St.mk [(4,.own 0 n),(5,.int .i64 d),(6,.int .i64 (Prod.fst (nwO V W T n d j))),(7,.int .i64 (Prod.snd (nwO V W T n d j)))] O' 1 []))):=by kernel_rfl
theorem nf_nw (n:Nat) (v:Nat→Int) (R:AV→List (Nat×AObj)→Prop):wpFn te [(42,.det wgm),(44,.det wgj),(31,.det wl3)] [(4,wmg n v),(10,wmi)] 0 Tryz.f9 [.view 1 n (waf v)] [] R=(letI z4:=R (.bool false) [];(27=27∧1=1∧waf v=waf (vInt (waf v))∧((1:Int)≤(5:Int)∧(5:Int)≤(1000000:Int))∧(0:Int)≤(0:Int)∧(0:Int)≤(4611686018427387904:Int))∧inR .i64 ((1:Int)+wbb n (vInt (waf v)) (0:Int) (5:Int))∧∃ (N:Int),∃ (a:Int),letI z0:=(NwS.mk 0 a (fun (_x:Nat)=>(0:Int)) (fun (_x:Nat)=>(0:Int)) fun (_x:Nat)=>(0:Int));(TEq [(3,.ptr 0 0),(4,.own 1 0),(19,.int .i64 ((1:Int)+wbb n (vInt (waf v)) (0:Int) (5:Int))),(20,.int .i64 0)] [(3,.ptr 0 0),(4,.own 1 0),(19,.int .i64 N),(20,.int .i64 (↑(NwS.k z0):Int))]∧wac [(0,.cells [.view 1 n (waf v),.int .i64 ((0:Int)+(1:Int))] 27),(1,.row 49 7 0 (fun (_x:Nat)=>[]) false)] [(0,.cells [.view 1 n (waf v),.int .i64 (NwS.a z0)] 27),(1,.row 49 7 0 (wab (nwg (NwS.V z0) (NwS.R z0) (NwS.T z0))) false)])∧((1:Int)≤N∧N≤(5:Int))∧((0:Int)≤a∧a≤(4611686018427300000:Int))∧∀ (i:NwS),NwS.k i≤5→a≤NwS.a i∧NwS.a i≤a+(20:Int)→(∀ (j:Nat),j<NwS.k i→((1:Int)≤NwS.V i j∧NwS.V i j≤(3:Int))∧((43860:Int)≤NwS.R i j∧NwS.R i j≤(43863:Int))∧(100:Int)≤NwS.T i j∧NwS.T i j≤(101:Int))→(27=27∧1=1∧waf v=waf (vInt (waf v))∧((1:Int)≤(6:Int)∧(6:Int)≤(1000000:Int))∧(0:Int)≤NwS.a i∧NwS.a i≤(4611686018427387904:Int))∧inR .i64 ((43859:Int)+wbb n (vInt (waf v)) (NwS.a i) (6:Int))∧∃ (n_1:Nat),∃ (V:Nat→Int),∃ (R_1:Nat→Int),∃ (T:Nat→Int),∃ (d:Int),letI z1:=vwL okV (flOf (wab (nwg V R_1 T))) n_1 d;letI z5:=(↑(List.length z1):Int);letI z3:=(atF z1 (Int.toNat (0:Int)));letI z2:=((0:Int)≤(0:Int)∧(0:Int)<z5∧7=7:Prop);(TEq [(4,.own 0 (NwS.k i)),(5,.int .i64 ((43859:Int)+wbb n (vInt (waf v)) (NwS.a i) (6:Int))),(6,.int .i64 0),(7,.int .i64 0),(8,.int .i64 1)] [(4,.own 0 n_1),(5,.int .i64 d),(6,.int .i64 (Prod.fst (nwO V R_1 T n_1 d 0))),(7,.int .i64 (Prod.snd (nwO V R_1 T n_1 d 0))),(8,.int .i64 ((↑0:Int)+(1:Int)))]∧wac [(0,.row 49 7 (NwS.k i) (wab (nwg (NwS.V i) (NwS.R i) (NwS.T i))) false)] [(0,.row 49 7 n_1 (wab (nwg V R_1 T)) false)])∧n_1≤100∧(∀ (i:Nat),i<n_1→true=true)∧(n_1=n_1∧n_1≤1000∧FM (wab (nwg V R_1 T)) n_1)∧waa (decide (Prod.fst (nwO V R_1 T n_1 d 3)=(0:Int))) (waa (decide (z5=(0:Int))) (True∧R (.bool true) []) z4) (waa (decide (z5=(1:Int))) (z2∧waa (decide (FL.ver z3=Prod.fst (nwO V R_1 T n_1 d 3))) (z2∧waa (decide ((↑(List.length (FL.rs z3)):Int)=(1:Int))) (z2∧((0:Int)≤(0:Int)∧(0:Int)<(↑(List.length (FL.rs z3)):Int)∧5=5)∧waa (decide (RW.tv (atR (FL.rs z3) (Int.toNat (0:Int)))=Prod.snd (nwO V R_1 T n_1 d 3))) (True∧R (.bool true) []) z4) z4) z4) z4)):=by kernel_rfl
theorem nw_up {V W T:Nat→Int} {k:Nat} {x y z:Int} {c:Nat→List AV} (hc:c 0=[.str [102],.int .i64 x,.int .i64 y,.int .i64 2,.nil,.own 66 1,.nil]) (j:Nat) (hj:j<k+1):
  UpL (List.map (frz 66 5 1 (wak (atR [nwr z]))) (apF k (wab (nwg V W T)) c j)) (wab (nwg (snI V k x) (snI W k y) (snI T k z)) j):=by
 unfold apF
 by_cases h:j<k
 ·have hne:¬ j=k:=by omega
  have e:nwg (snI V k x) (snI W k y) (snI T k z) j=nwg V W T j:=by
   unfold nwg snI
   rw [if_neg hne,if_neg hne,if_neg hne]
  rw [if_pos h]
  unfold wab
  rw [e]
  exact UpL.refl _
 ·obtain rfl:j=k:=by omega
  have e:nwg (snI V j x) (snI W j y) (snI T j z) j=nwf x y z:=by
   unfold nwg snI
   rw [if_pos rfl,if_pos rfl,if_pos rfl]
  rw [if_neg h,Nat.sub_self,hc]
  unfold wab
  rw [e]
  exact ⟨.inl rfl,.inl rfl,.inl rfl,.inl rfl,.inr ⟨rfl,_,_,rfl⟩,.inl rfl,.inr ⟨rfl,_,_,rfl⟩,trivial⟩
theorem nw6_reg (hP:C.P=Tryz.prog):wae C 0 134 (regC Tryz.f9 6) wmf:=by
 have _:C.Loose:=inferInstance
 rintro st Q ⟨n,v,N,a,k,V,W,T,z,h1,h2,h3,h4,hk,hQ⟩
 refine AWP.rowFn 66 _ h1 (AWP.frzX 66 [68] h2 (AWP.rowUp 68 _ h3 ?_))
 refine wae.reg (S:=wkx n v N a k V W T) (prg hP) [] 0 .nil [3,4,19,20] [3,4,19,20] h4 ?_ ⟨fun _ _=>rfl,trivial⟩
 rw [nf_nw6]
 exact ⟨by simp only [inR];omega,fun _ _=>rfl,_,wam _,hQ⟩
theorem wvw (hP:C.P=Tryz.prog) (n:Nat) (v:Nat→Int):wae C 0 134 (wan Tryz.f9 4) (wmg n v):=by
 rintro st Q ⟨N,a,h0,hN,ha,hQ⟩
 refine AWP.ownNil 4 49 7 ?_
 refine wae.mkL (prg hP) [(42,.det wgm),(43,.det S_id)] [(1006,wmf)] 0 (.cons (wrl hP) (.cons (id_ok hP) .nil)) [(regC Tryz.f9 6,wmf)] (by kernel_rfl) ⟨nw6_reg hP,trivial⟩ [3,4,19,20] [3,4] [] (wky n v N)
  (fun i=>(i.k:Int)≤N∧(a≤i.a∧i.a≤a+3 * i.k)∧∀ j,j<i.k→(1≤i.V j∧i.V j≤3)∧(43860≤i.R j∧i.R j≤43863)∧(100≤i.T j∧i.T j≤101)) (fun i=>(N - i.k).toNat) ⟨0,a,fun _=>0,fun _=>0,fun _=>0⟩ ⟨by show (0:Int)≤N;omega,by show a≤a∧a≤a+3 * 0;omega,fun j hj=>absurd hj (Nat.not_lt_zero j)⟩ h0 (fun i hi=>?_) (fun i=>⟨fun _ _=>rfl,trivial⟩)
 obtain ⟨hk,hia,hr⟩:=hi
 rw [wws,show vInt (waf v)=v from rfl]
 have r1:=whg (show (1:Int)≤3 by omega) n v i.a
 have r2:=whg (show (1:Int)≤4 by omega) n v (i.a+1)
 have r3:=whg (show (1:Int)≤2 by omega) n v (i.a+1+1)
 refine war (fun h1=>?_) (fun h1=>⟨fun _ _=>rfl,_,wam _,hQ i (by omega) (by omega) hr⟩)
 have sn:∀ (X:Nat→Int) (x lo hi:Int),(∀ j,j<i.k→lo≤X j∧X j≤hi)→lo≤x→x≤hi→∀ j,j<i.k+1→lo≤snI X i.k x j∧snI X i.k x j≤hi:=fun X x lo hi hX a1 a2 j hj=>by
  unfold snI
  by_cases q:j=i.k
  ·rw [if_pos q];exact ⟨a1,a2⟩
  ·rw [if_neg q];exact hX j (by omega)
 refine ⟨⟨rfl,rfl,rfl,⟨by omega,by omega⟩,by omega,by omega⟩,by simp only [inR];omega,⟨rfl,rfl,rfl,⟨by omega,by omega⟩,by omega,by omega⟩,by simp only [inR];omega,trivial,⟨rfl,rfl,rfl,⟨by omega,by omega⟩,by omega,by omega⟩,by simp only [inR];omega,
  ⟨by omega,rfl,by omega⟩,⟨by omega,rfl,by omega⟩,⟨⟨by omega,rfl⟩,Nat.le_refl _,rfl,rfl,rfl,by omega,?_⟩,
  n,v,N,i.a+1+1+1,i.k,snI i.V i.k (1+wbb n v i.a 3),snI i.R i.k (43860+wbb n v (i.a+1) 4),snI i.T i.k (100+wbb n v (i.a+1+1) 2),100+wbb n v (i.a+1+1) 2,fun j hj=>?_,fun _ _=>rfl,nw_up rfl,
  ⟨rfl,rfl,⟨rfl,rfl,rfl,rfl,rfl,fun _ _=>rfl⟩,trivial⟩,by omega,⟨i.k+1,i.a+1+1+1,snI i.V i.k (1+wbb n v i.a 3),snI i.R i.k (43860+wbb n v (i.a+1) 4),snI i.T i.k (100+wbb n v (i.a+1+1) 2)⟩,⟨rfl,rfl,⟨rfl,rfl,rfl,rfl,rfl,fun _ _=>rfl⟩,trivial⟩,
  ⟨by show ((i.k+1:Nat):Int)≤N;omega,by show a≤i.a+1+1+1∧i.a+1+1+1≤a+3 * ((i.k+1:Nat):Int);omega,fun j hj=>⟨sn _ _ 1 3 (fun j hj=>(hr j hj).1) (by omega) (by omega) j hj,sn _ _ 43860 43863 (fun j hj=>(hr j hj).2.1) (by omega) (by omega) j hj,sn _ _ 100 101 (fun j hj=>(hr j hj).2.2) (by omega) (by omega) j hj⟩⟩,by show (N - ((i.k+1:Nat):Int)).toNat<(N - (i.k:Int)).toNat;omega⟩
 ·show (i.k+1) * 112≤_
  omega
 ·obtain rfl:j=0:=by omega
  rfl
theorem wvx (hP:C.P=Tryz.prog):wae C 0 134 (wan Tryz.f9 14) wmh:=by
 have _:C.Loose:=inferInstance
 rintro st Q ⟨n,V,W,T,d,b,t,v,h0,hn,hQ⟩
 refine wae.mk (prg hP) [] 0 .nil [4,5,6,7,8,9,10,46,47,48] [4,5,6,7,8,9,10] [] (wkz n V W T d b t v) (fun k=>k≤n) (fun k=>n - k) 0 (Nat.zero_le _) h0 (fun k hk=>?_) (fun i=>⟨fun _ _=>rfl,trivial⟩)
 rw [wwt,Int.toNat_natCast]
 refine war (fun h1=>⟨⟨by omega,by omega⟩,⟨by omega,rfl⟩,?_⟩) (fun h1=>?_)
 ·show waa (!decide (V k=v)) _ (waa (decide (d<W k)) _ _)
  have e0:(!decide (V k=v) || decide (d<W k))=true→nwI V W T d v (k+1)=nwI V W T d v k:=fun h=>by
   show (bif !decide (V k=v) || decide (d<W k) then _ else _)=_
   rw [h];rfl
  have e1:(!decide (V k=v) || decide (d<W k))=false→nwI V W T d v (k+1)=(T k,(nwI V W T d v k).2 || (!decide ((nwI V W T d v k).1=0) && !decide ((nwI V W T d v k).1=T k))):=fun h=>by
   show (bif !decide (V k=v) || decide (d<W k) then _ else _)=_
   rw [h];rfl
  have fin:∀ (x:Int) (c:Bool),nwI V W T d v (k+1)=(x,c)→∀ {p:Prop},((∃ i':Nat,(TEq [(4,.own 0 n),(5,.int .i64 d),(6,.int .i64 b),(7,.int .i64 t),(8,.int .i64 v),(9,.int .i64 x),(10,.bool c),(46,.own 0 n),(47,.int .i64 (n:Int)),(48,.int .i64 ((k:Int)+1))] [(4,.own 0 n),(5,.int .i64 d),(6,.int .i64 b),(7,.int .i64 t),(8,.int .i64 v),(9,.int .i64 (nwI V W T d v i').1),(10,.bool (nwI V W T d v i').2),(46,.own 0 n),(47,.int .i64 (n:Int)),(48,.int .i64 (i':Int))]∧wac [(0,.row 49 7 n (wab (nwg V W T)) false)] [(0,.row 49 7 n (wab (nwg V W T)) false)])∧i'≤n∧n - i'<n - k)→p)→p:=fun x c e _ h=>
   h ⟨k+1,⟨by rw [e];rfl,⟨rfl,rfl,rfl,rfl,rfl,fun _ _=>rfl⟩,trivial⟩,by omega,by omega⟩
  have rk:inR .i64 ((k:Int)+1):=by simp only [inR];omega
  refine wat (fun q=>fin _ _ (e0 (by rw [q];rfl)) fun h=>⟨rk,h⟩) (fun q=>wat (fun q2=>fin _ _ (e0 (by rw [q,q2];rfl)) fun h=>⟨rk,h⟩) (fun q2=>?_))
  have e2:=e1 (by rw [q,q2];rfl)
  refine wat (fun q3=>?_) (fun q3=>wat (fun q4=>?_) (fun q4=>?_))
  ·rw [q3,Bool.true_or] at e2
   exact fin _ _ e2 fun h=>⟨⟨by omega,by omega,rfl⟩,rk,h⟩
  ·rw [q3,q4,Bool.false_or,Bool.true_and] at e2
   exact fin _ _ e2 fun h=>⟨⟨by omega,by omega,rfl⟩,⟨by omega,by omega,rfl⟩,rk,h⟩
  ·rw [q3,q4,Bool.false_or,Bool.false_and] at e2
   exact fin _ _ e2 fun h=>⟨⟨by omega,by omega,rfl⟩,rk,h⟩
 ·obtain rfl:k=n:=by omega
  exact ⟨fun _ _=>rfl,_,wam _,hQ⟩
theorem wvy (hP:C.P=Tryz.prog):wae C 0 134 (wan Tryz.f9 10) wmi:=by
 rintro st Q ⟨n,V,W,T,d,h0,hn,hQ⟩
 refine wae.mkL (prg hP) [] [(14,wmh)] 0 .nil [(wan Tryz.f9 14,wmh)] (by kernel_rfl) ⟨wvx hP,trivial⟩ [4,5,6,7,8] [4,5,6,7] [] (wk0 n V W T d) (fun j=>j≤3) (fun j=>3 - j) 0 (Nat.zero_le _) h0 (fun j hj=>?_) (fun i=>⟨fun _ _=>rfl,trivial⟩)
 rw [wwu]
 refine war (fun h1=>⟨n,V,W,T,d,_,_,_,⟨rfl,⟨rfl,rfl,rfl,rfl,rfl,fun _ _=>rfl⟩,trivial⟩,hn,?_⟩) (fun h1=>?_)
 ·have rk:inR .i64 ((j:Int)+1+1):=by simp only [inR];omega
  have e0:(!decide ((nwI V W T d ((j:Int)+1) n).1=0) && !(nwI V W T d ((j:Int)+1) n).2)=true→nwO V W T n d (j+1)=((j:Int)+1,(nwI V W T d ((j:Int)+1) n).1):=fun h=>by
   show (bif !decide ((nwI V W T d ((j:Int)+1) n).1=0) && !(nwI V W T d ((j:Int)+1) n).2 then _ else _)=_
   rw [h];rfl
  have e1:(!decide ((nwI V W T d ((j:Int)+1) n).1=0) && !(nwI V W T d ((j:Int)+1) n).2)=false→nwO V W T n d (j+1)=nwO V W T n d j:=fun h=>by
   show (bif !decide ((nwI V W T d ((j:Int)+1) n).1=0) && !(nwI V W T d ((j:Int)+1) n).2 then _ else _)=_
   rw [h];rfl
  have r0:(((0,AObj.row 49 7 n (wab (nwg V W T)) false):Nat×AObj)::[])=[(0,.row 49 7 n (wab (nwg V W T)) false)]:=rfl
  refine wat (fun q=>wat (fun q2=>?_) (fun q2=>?_)) (fun q=>?_)
  ·have e:=e0 (by rw [q,q2];rfl)
   exact ⟨rk,j+1,⟨by rw [e];rfl,⟨rfl,rfl,rfl,rfl,rfl,fun _ _=>rfl⟩,trivial⟩,by omega,by omega⟩
  ·have e:=e1 (by rw [q,q2];rfl)
   exact ⟨rk,j+1,⟨by rw [e];rfl,⟨rfl,rfl,rfl,rfl,rfl,fun _ _=>rfl⟩,trivial⟩,by omega,by omega⟩
  ·have e:=e1 (by rw [q];rfl)
   exact ⟨rk,j+1,⟨by rw [e];rfl,⟨rfl,rfl,rfl,rfl,rfl,fun _ _=>rfl⟩,trivial⟩,by omega,by omega⟩
 ·obtain rfl:j=3:=by omega
  exact ⟨fun _ _=>rfl,_,wam _,hQ⟩
theorem nw_ok (hP:C.P=Tryz.prog) (hL:∀ w,C.laid w→LaidW w) (n:Nat) (v:Nat→Int):ADet C 9 [.view 1 n (waf v)] [] (.bool true) []:=by
 refine wad.wpL (prg hP) [(42,.det wgm),(44,.det wgj),(31,.det wl3)] [(4,wmg n v),(10,wmi)] 0 (.cons (wrl hP) (.cons (wpx hP hL) (.cons (w0n hP hL) .nil))) (hP ▸ Tryz.func9) rfl rfl rfl [(wan Tryz.f9 4,wmg n v),(wan Tryz.f9 10,wmi)] (by kernel_rfl) ⟨wvw hP n v,wvy hP,trivial⟩ ?_
 rw [nf_nw,show vInt (waf v)=v from rfl]
 have r0:=whg (show (1:Int)≤5 by omega) n v 0
 refine ⟨⟨rfl,rfl,rfl,⟨by omega,by omega⟩,by omega,by omega⟩,by simp only [inR];omega,_,0+1,⟨rfl,rfl,⟨rfl,rfl,rfl,rfl,rfl,fun i hi=>absurd hi (Nat.not_lt_zero i)⟩,trivial⟩,⟨by omega,by omega⟩,⟨by omega,by omega⟩,fun ⟨k,a,V,W,T⟩ hk ha hr=>?_⟩
 dsimp only at hk ha hr ⊢
 have r1:=whg (show (1:Int)≤6 by omega) n v a
 generalize hd:43859+wbb n v a 6=d at *
 refine ⟨⟨rfl,rfl,rfl,⟨by omega,by omega⟩,by omega,by omega⟩,by simp only [inR];omega,k,V,W,T,d,⟨rfl,⟨rfl,rfl,rfl,rfl,rfl,fun _ _=>rfl⟩,trivial⟩,by omega,fun _ _=>rfl,⟨rfl,by omega,fun i hi=>by rw [wcx],fun i hi=>?_⟩,?_⟩
 ·rw [wcx]
  exact (nwf_tn (hr i hi).1 (by have:=(hr i hi).2.2;omega)).gd
 ·rw [wcx]
  have hok:∀ i,i<k→okV (nwf (V i) (W i) (T i))=true:=fun i hi=>nwf_ok (hr i hi).1 (by have:=(hr i hi).2.1;omega) (by have:=(hr i hi).2.2;omega)
  have hT:∀ i,i<k→T i≠0:=fun i hi=>by have:=(hr i hi).2.2;omega
  obtain ⟨h1,h2⟩:=wrc (V:=V) (R:=W) (d:=d) hT 3
  generalize nwO V W T k d 3=bt at *
  have far:∀ v,nwP V W T k d v→1≤v∧v≤3:=fun v ⟨⟨i,hi,e,_⟩,_⟩=>by have:=(hr i hi).1;omega
  refine war (fun q=>?_) (fun q=>?_)
  ·have e:vwL okV (nwg V W T) k d=[]:=nw_none hok fun v hp=>h1 q v (far v hp).1 (far v hp).2 hp
   rw [e]
   exact ⟨trivial,rfl,rfl⟩
  ·obtain ⟨b1,b2,b3,b4⟩:=h2 q
   obtain ⟨i,hi,ev,er,e⟩:=nw_one hok b2 (fun v hv hp=>b3 v hv (far v hp).2 hp)
   have e:vwL okV (nwg V W T) k d=[nwf (V i) (W i) (T i)]:=e
   have et:=b4 i hi ev er
   rw [e]
   refine ⟨⟨by omega,by show (0:Int)<1;omega,rfl⟩,?_⟩
   show waa (decide (V i=bt.1)) _ _
   rw [decide_eq_true ev]
   refine ⟨⟨by omega,by show (0:Int)<1;omega,rfl⟩,⟨by omega,by show (0:Int)<1;omega,rfl⟩,⟨by omega,by show (0:Int)<1;omega,rfl⟩,?_⟩
   show waa (decide (T i=bt.2)) _ _
   rw [decide_eq_true et]
   exact ⟨trivial,rfl,rfl⟩
end Go.Eng
namespace Go.Eng
open Go.Proofs Go.RowKit Go.ChangeShapes Go.WideShapes Go.ChangeAt
theorem params_Nn:Tryz.f9.params=#[23]:=by kernel_rfl
set_option maxRecDepth 100000 in
theorem wyb (os:Os) (started:os.Started) (H:Type) (enc:TypeId×Value→H):
  ReturnsInHanded {} Tryz.checked os 9 .any (fun w args=>(Go.Proofs.YtgcboligphndhaaGreatDoor.Rows.vintageNewestSpec.pre enc Tryz.prog Tryz.f9 [] false w args∧laidMetH Tryz.prog Go.Proofs.YtgcboligphndhaaGreatDoor.Rows.vintageNewestRow.laid w)∧sizedMet enc Tryz.prog Tryz.f9 (OpenSpec.ofChange Go.Proofs.YtgcboligphndhaaGreatDoor.Rows.vintageNewestSpec) false w args)
   (Go.Proofs.YtgcboligphndhaaGreatDoor.Rows.vintageNewestSpec.post enc Tryz.prog Tryz.f9 false true false false):=by
 refine wy4 (C:=Tryz.checked) (X:=fun w _=>laidMetH Tryz.prog Go.Proofs.YtgcboligphndhaaGreatDoor.Rows.vintageNewestRow.laid w) (fun _ _ _ hh h=>h.of_heap hh) ownK started (by kernel_rfl) Tryz.func9
  (ChangeSpec.witness_at (enc:=enc) (C:=Tryz.checked) (os:=os) (X:=fun w _=>laidMetH Tryz.prog Go.Proofs.YtgcboligphndhaaGreatDoor.Rows.vintageNewestRow.laid w) false (wr7 os) #[.slice none 0 0] 8 rfl (by kernel_rfl) (by kernel_rfl) (by kernel_rfl) (by kernel_rfl) (by kernel_rfl) (wyg os _)) ?_
 intro W base args ds gs before hval0 hW hL hsh
 have hval:∀ (j:Nat) t v,Tryz.f9.params[j]?=some t→args[j]?=some v→Value.okWide Tryz.prog W .any base t v:=hval0
 have hW':=hW
 obtain ⟨p,q,hA0,hV,rfl,hfz,hnd⟩:=hW
 have hA:DataW.TrodAll enc Tryz.prog W 0 (fun _=>true) true Tryz.f9.params.toList args.toList ds p:=hA0
 rw [params_Nn] at hA hval
 obtain ⟨v0,vs0,d0,ds0,p0,q0,hargs,rfl,rfl,h0,r0⟩:=trodAll_cons hA
 obtain ⟨rfl,rfl,rfl⟩:=trodAll_nil r0
 obtain rfl:args=#[v0]:=by cases args;simp_all
 obtain ⟨rfl,rfl⟩:=trodVars_none hV
 obtain ⟨a0,len0,cap0,rfl⟩:=okWide_slice undIs (hval 0 23 v0 rfl rfl)
 have k0:=h0
 have lt0:∀ x∈p0,x.block<W.heap.size:=by obtain ⟨m,hm⟩:=k0;exact DataW.trod_lt m _ _ _ hm
 obtain ⟨m0,hm0⟩:=h0
 obtain ⟨A0,n0,c0,w0,e0,V0⟩:=wvi hm0
 have e0:[Value.slice a0 len0 cap0]=[Value.slice A0 n0 c0]:=e0
 simp only [List.cons.injEq,and_true] at e0
 rw [← e0] at V0
 have lw:=wyh hL hsh
 refine (ADet.top (C:=cx) (nw_ok rfl (fun _ h=>h) n0 w0) lw (gsz_le lw) (cargs:=[.slice a0 len0 cap0]) rfl (fun j x u hx hu=>?_)).mono fun e W' ⟨he,bel⟩=>?_
 ·match j with
  |0=>obtain rfl:=Option.some.inj hx;obtain rfl:=Option.some.inj hu;exact V0
  |j+1=>simp at hx
 ·subst he
  exact ⟨_,rfl,_,_,_,[],_,[],hW',trodAll_mk1 (shut_bool (show Tryz.prog.underlying 4=some .bool by kernel_rfl) _),(trodAll_cons_mk (Below.trod wr8 (by kernel_rfl) (of_decide_eq_true (by kernel_rfl)) k0 bel lt0) trodAll_mk0),rfl,bel.frame _,fun h=>by cases h⟩
set_option maxRecDepth 100000 in
theorem over_Nn:Go.Proofs.YtgcboligphndhaaGreatDoor.Rows.vintageNewestRow.holds Go.Proofs.YtgcboligphndhaaGreatDoor.Tryz.pinned (OpenSpec.ofChange Go.Proofs.YtgcboligphndhaaGreatDoor.Rows.vintageNewestSpec):=
 OpenClaim.holds_of_wide 9 Tryz.f9 rfl rfl rfl rfl rfl rfl rfl ⟨rfl,rfl,rfl,rfl,rfl⟩ rfl rfl rfl rfl rfl (by kernel_rfl) Tryz.func9 wz1
  inst_Nn (by unfold Func.isWrapper;rw [if_neg (of_decide_eq_false (by kernel_rfl))];exact ⟨rfl,rfl⟩)
  (fun os started H enc _=>wyb os started H enc)
end Go.Eng
namespace Go.Proofs.YtgcboligphndhaaGreatDoor
open Go
def harB : Bool × String := (true, "40fb3bd35b79f194dc6e91eb15eecf1db62dc7e1bded180275d4dc3755fccfaf")
set_option maxRecDepth 100000 in
theorem mainB:Tryz.prog.mainIs=some (harB.1,harB.2.toList):=by kernel_rfl
set_option maxRecDepth 100000 in
theorem looksB:true=Tryz.prog.looks []:=by kernel_rfl
end Go.Proofs.YtgcboligphndhaaGreatDoor
namespace Go.Proofs.YtgcboligphndhaaGreatDoor
open Go
set_option maxRecDepth 100000 in
theorem wf_Nn:Rows.vintageNewestRow.wfByText (OpenSpec.ofChange Rows.vintageNewestSpec)=true:=by kernel_rfl
set_option maxRecDepth 100000 in
theorem goes_Nn:false=Rows.vintageNewestRow.goesBy Tryz.prog:=by kernel_rfl
theorem wxu : Tryz.prog.funcNamed "priceoffice/priceofficelaw15.VintageNewest" = some 9 := by kernel_rfl
theorem wu2:Tryz.prog.wantsStandIn 23=false:=by kernel_rfl
theorem card_Nn:Rows.VintageNewestCardSaid:=
 Claim7.holds_tied_plain_at .later [] [.data,.data,.data,.data,.sentinel,.sentinel,.pinned] true harB true
  Go.Eng.over_Nn (fun _ h=>by cases h) wf_Nn (fun _ h=>by cases h) vintageNewest_row_tie rfl ⟨rfl,rfl⟩ mainB rfl
  (fun f fn hf hfn=>by
   obtain rfl:f=9:=Option.some.inj (wxu.symm.trans hf) |>.symm
   obtain rfl:fn=Tryz.f9:=(Option.some.inj (Tryz.func9.symm.trans hfn)).symm
   exact ⟨looksB,fun j t ht=>by
    rw [Go.Eng.params_Nn] at ht
    have h3:t=23:=by
     rcases j with _ | j
     ·exact by simpa using ht.symm
     ·simp at ht
    rcases h3 with rfl
    ·exact wu2⟩)
  goes_Nn
end Go.Proofs.YtgcboligphndhaaGreatDoor
