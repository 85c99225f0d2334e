/- The laws of files: lists of files. -/
import Derived.Test.YtgcboligphndhaaGreatDoorYv
import Derived.Test.YtgcboligphndhaaGreatDoorYzd
import Derived.Test.YtgcboligphndhaaGreatDoorYz
namespace Go.Eng
open Go.Proofs Go.RowKit
variable {C:Ctx} [C.Loose]
set_option maxRecDepth 20000
theorem wz0 (n:Nat) (v:Nat→Int) (a most:Int) (R:AV→List (Nat×AObj)→Prop):wpFn te [(32,.rel whk),(42,.det wba)] [(3,L_fs n v (a+1) (wab n v a (most+1)))] 0 Tryz.f90 [.ptr 0 0,.int .i64 most] [.cells [.view 1 n (waa v),.int .i64 a] 27] R=(letI z1:=(FsS.mk [] (a+(1:Int)));letI z0:=(most+(1:Int));inR .i64 z0∧(27=27∧1=1∧waa v=waa (vInt (waa v))∧((1:Int)≤most+(1:Int)∧most+(1:Int)≤(1000000:Int))∧(0:Int)≤a∧a≤(4611686018427387904:Int))∧(TEq [(0,.ptr 0 0),(5,.own 1 0),(9,.int .i64 (wab n (vInt (waa v)) a z0)),(10,.int .i64 0)] [(0,.ptr 0 0),(5,.own 1 0),(9,.int .i64 (wab n v a z0)),(10,.int .i64 (↑(List.length (FsS.L z1)):Int))]∧wae [(0,.cells [.view 1 n (waa v),.int .i64 (a+(1:Int))] 27),(1,.row 49 7 0 (fun (_x:Nat)=>[]) false)] [(0,.cells [.view 1 n (waa v),.int .i64 (FsS.a z1)] 27),(1,.row 49 7 0 (wac (atF (FsS.L z1))) false)])∧((0:Int)≤wab n v a z0∧wab n v a z0≤(20:Int))∧((0:Int)≤a+(1:Int)∧a+(1:Int)≤(4611686018427330000:Int))∧∀ (i:FsS),List.length (FsS.L i)=Int.toNat (wab n v a z0)→a+(1:Int)≤FsS.a i∧FsS.a i≤a+(1:Int)+(1100:Int) * wab n v a z0→(∀ (F:FL),F∈FsS.L i→FL.Tn F)→(∀ (i_1:Nat),i_1<List.length (FsS.L i)→true=true)∧∃ (O':List (Nat×AObj)),wae [(0,.cells [.view 1 n (waa v),.int .i64 (FsS.a i)] 27),(1,.row 49 7 (List.length (FsS.L i)) (wac (atF (FsS.L i))) false)] O'∧R (.own 1 (List.length (FsS.L i))) O'):=by kernel_rfl
theorem wzw (n:Nat) (v:Nat→Int) (N:Int) (i:FsS) (P:FsS→Prop) (R:Exit→St→Prop):wa2 ⟨te,[(32,.rel whk)],[],1,19,0⟩ (wa3 Tryz.f90 3) [0,5,9,10] [5] [] (S_fs n v N) P R (S_fs n v N i)=(letI z1:=List.length (FsS.L i)+1;letI z0:=List.length (FsS.L i);wad (decide ((↑z0:Int)<N)) (27=27∧1=1∧waa v=waa (vInt (waa v))∧((0:Int)≤FsS.a i∧FsS.a i≤(4611686018427360000:Int))∧∀ (F:FL) (a':Int),FL.Tn F→FL.Low F→FsS.a i≤a'∧a'≤FsS.a i+(1100:Int)→(7≤16777216∧7=7∧1≤9223372036854775807)∧((1≤1∧7=7)∧List.length (FsS.L i)≤List.length (FsS.L i)∧7=7∧49=49∧7=7∧List.length (FsS.L i)+1≤9223372036854775807∧z1 * TI.bytes wb5≤140737488355328)∧inR .i64 ((↑z0:Int)+(1:Int))∧∃ (i':FsS),letI z2:=List.length (FsS.L i');(TEq [(0,.ptr 0 0),(5,.own 1 z1),(9,.int .i64 N),(10,.int .i64 ((↑z0:Int)+(1:Int)))] [(0,.ptr 0 0),(5,.own 1 z2),(9,.int .i64 N),(10,.int .i64 (↑z2:Int))]∧wae [(0,.cells [.view 1 n (waa v),.int .i64 a'] 27),(1,.row 49 7 z1 (apF z0 (wac (atF (FsS.L i))) (waq (TI.sz wb5) (.str (FL.id F):: .int .i64 (FL.ver F):: .int .i64 (FL.day F):: .int .i64 (FL.kind F):: .view 15 (List.length (FL.ms F)) (wag (atM (FL.ms F))):: .view 5 (List.length (FL.rs F)) (wai (atR (FL.rs F))):: .view 5 (List.length (FL.ts F)) (wah (atT (FL.ts F)))::List.append [] (List.flatten (List.replicate (nat_lit 0) [.str ([]),.int .i64 0,.int .i64 0,.int .i64 0,.nil,.nil,.nil]))))) false)] [(0,.cells [.view 1 n (waa v),.int .i64 (FsS.a i')] 27),(1,.row 49 7 z2 (wac (atF (FsS.L i'))) false)])∧P i') ((∀ (i_1:Nat),i_1<List.length (FsS.L i)→true=true)∧∃ (O':List (Nat×AObj)),wae [(0,.cells [.view 1 n (waa v),.int .i64 (FsS.a i)] 27),(1,.row 49 7 z0 (wac (atF (FsS.L i))) false)] O'∧R (.exit 0) (St.mk [(5,.own 1 z0)] O' 2 []))):=by kernel_rfl
theorem wzi (n:Nat) (v:Nat→Int) (a:Int) (R:AV→List (Nat×AObj)→Prop):wpFn te [(90,.rel wnl),(42,.det wba),(27,.rel wnf)] [(1004,L_l4 n v)] 0 Tryz.f38 [.ptr 0 0] [.cells [.view 1 n (waa v),.int .i64 a] 27] R=(letI z3:=((1:Int)≤(9:Int)∧(9:Int)≤(1000000:Int):Prop);letI z2:=(4611686018427387904:Int);letI z1:=(7≤16777216∧7=7∧1≤9223372036854775807:Prop);letI z0:=(List.flatten (List.replicate (nat_lit 0) [.str ([]),.int .i64 0,.int .i64 0,.int .i64 0,.nil,.nil,.nil]):List AV);27=27∧1=1∧waa v=waa (vInt (waa v))∧((0:Int)≤a∧a≤(4611686018427320000:Int))∧((0:Int)≤(6:Int)∧(6:Int)≤(20:Int))∧∀ (L:List FL) (a':Int),(↑(List.length L):Int)≤(6:Int)→a≤a'∧a'≤a+(23000:Int)→(∀ (F:FL),F∈L→FL.Tn F)→(∀ (i:Nat),i<List.length L→true=true)∧(27=27∧1=1∧waa v=waa (vInt (waa v))∧((1:Int)≤(3:Int)∧(3:Int)≤(1000000:Int))∧(0:Int)≤a'∧a'≤z2)∧wad (decide (wab n (vInt (waa v)) a' (3:Int)=(0:Int))) (27=27∧1=1∧waa v=waa (vInt (waa v))∧((0:Int)≤a'+(1:Int)∧a'+(1:Int)≤(4611686018427350000:Int))∧∀ (F:FL) (a'_1:Int),FL.Tn F→a'+(1:Int)≤a'_1∧a'_1≤a'+(1:Int)+(1200:Int)→z1∧((1≤1∧7=7)∧List.length L≤List.length L∧7=7∧49=49∧7=7∧List.length L+1≤9223372036854775807∧(List.length L+1) * TI.bytes wb5≤140737488355328)∧∃ (L_1:List FL),∃ (a:Int),(TEq [(0,.ptr 0 0),(3,.own 1 (List.length L+1))] [(0,.ptr 0 0),(3,.own 1 (List.length L_1))]∧wae [(0,.cells [.view 1 n (waa v),.int .i64 a'_1] 27),(1,.row 49 7 (List.length L+1) (apF (List.length L) (wac (atF L)) (waq (TI.sz wb5) (.str (FL.id F):: .int .i64 (FL.ver F):: .int .i64 (FL.day F):: .int .i64 (FL.kind F):: .view 15 (List.length (FL.ms F)) (wag (atM (FL.ms F))):: .view 5 (List.length (FL.rs F)) (wai (atR (FL.rs F))):: .view 5 (List.length (FL.ts F)) (wah (atT (FL.ts F)))::List.append [] z0))) false)] [(0,.cells [.view 1 n (waa v),.int .i64 a] 27),(1,.row 49 7 (List.length L_1) (wac (atF L_1)) false)])∧((0:Int)≤a∧a≤(4611686018427365000:Int))∧List.length L_1≤7∧(∀ (F:FL),F∈L_1→FL.Tn F)∧∀ (b:Bool) (a':Int),a≤a'∧a'≤a+(1:Int)→(b=true→0<List.length L_1)→wad b ((27=27∧1=1∧waa v=waa (vInt (waa v))∧((1:Int)≤(↑(List.length L_1):Int)∧(↑(List.length L_1):Int)≤(1000000:Int))∧(0:Int)≤a'∧a'≤z2)∧((0:Int)≤wab n (vInt (waa v)) a' (↑(List.length L_1):Int)∧wab n (vInt (waa v)) a' (↑(List.length L_1):Int)<(↑(List.length L_1):Int))∧(Int.toNat (wab n (vInt (waa v)) a' (↑(List.length L_1):Int))<List.length L_1∧7=7)∧(27=27∧1=1∧waa v=waa (vInt (waa v))∧z3∧(0:Int)≤a'+(1:Int)∧a'+(1:Int)≤z2)∧inR .i64 ((43858:Int)+wab n (vInt (waa v)) (a'+(1:Int)) (9:Int))∧z1∧((1≤1∧7=7)∧List.length L_1≤List.length L_1∧7=7∧49=49∧7=7∧List.length L_1+1≤9223372036854775807∧(List.length L_1+1) * TI.bytes wb5≤140737488355328)∧(∀ (i:Nat),i<List.length L_1+1→nrefL (apF (List.length L_1) (wac (atF L_1)) (waq (TI.sz wb5) (.str (FL.id (atF L_1 (Int.toNat (wab n (vInt (waa v)) a' (↑(List.length L_1):Int))))):: .int .i64 (FL.ver (atF L_1 (Int.toNat (wab n (vInt (waa v)) a' (↑(List.length L_1):Int))))):: .int .i64 ((43858:Int)+wab n (vInt (waa v)) (a'+(1:Int)) (9:Int)):: .int .i64 (FL.kind (atF L_1 (Int.toNat (wab n (vInt (waa v)) a' (↑(List.length L_1):Int))))):: .view 15 (List.length (FL.ms (atF L_1 (Int.toNat (wab n (vInt (waa v)) a' (↑(List.length L_1):Int)))))) (wag (atM (FL.ms (atF L_1 (Int.toNat (wab n (vInt (waa v)) a' (↑(List.length L_1):Int))))))):: .view 5 (List.length (FL.rs (atF L_1 (Int.toNat (wab n (vInt (waa v)) a' (↑(List.length L_1):Int)))))) (wai (atR (FL.rs (atF L_1 (Int.toNat (wab n (vInt (waa v)) a' (↑(List.length L_1):Int))))))):: .view 5 (List.length (FL.ts (atF L_1 (Int.toNat (wab n (vInt (waa v)) a' (↑(List.length L_1):Int)))))) (wah (atT (FL.ts (atF L_1 (Int.toNat (wab n (vInt (waa v)) a' (↑(List.length L_1):Int)))))))::List.append [] z0)) i)=true)∧∃ (O':List (Nat×AObj)),wae [(0,.cells [.view 1 n (waa v),.int .i64 (a'+(1:Int)+(1:Int))] 27),(1,.row 49 7 (List.length L_1+1) (apF (List.length L_1) (wac (atF L_1)) (waq (TI.sz wb5) (.str (FL.id (atF L_1 (Int.toNat (wab n (vInt (waa v)) a' (↑(List.length L_1):Int))))):: .int .i64 (FL.ver (atF L_1 (Int.toNat (wab n (vInt (waa v)) a' (↑(List.length L_1):Int))))):: .int .i64 ((43858:Int)+wab n (vInt (waa v)) (a'+(1:Int)) (9:Int)):: .int .i64 (FL.kind (atF L_1 (Int.toNat (wab n (vInt (waa v)) a' (↑(List.length L_1):Int))))):: .view 15 (List.length (FL.ms (atF L_1 (Int.toNat (wab n (vInt (waa v)) a' (↑(List.length L_1):Int)))))) (wag (atM (FL.ms (atF L_1 (Int.toNat (wab n (vInt (waa v)) a' (↑(List.length L_1):Int))))))):: .view 5 (List.length (FL.rs (atF L_1 (Int.toNat (wab n (vInt (waa v)) a' (↑(List.length L_1):Int)))))) (wai (atR (FL.rs (atF L_1 (Int.toNat (wab n (vInt (waa v)) a' (↑(List.length L_1):Int))))))):: .view 5 (List.length (FL.ts (atF L_1 (Int.toNat (wab n (vInt (waa v)) a' (↑(List.length L_1):Int)))))) (wah (atT (FL.ts (atF L_1 (Int.toNat (wab n (vInt (waa v)) a' (↑(List.length L_1):Int)))))))::List.append [] z0))) false)] O'∧R (.own 1 (List.length L_1+1)) O') ((∀ (i:Nat),i<List.length L_1→true=true)∧∃ (O':List (Nat×AObj)),wae [(0,.cells [.view 1 n (waa v),.int .i64 a'] 27),(1,.row 49 7 (List.length L_1) (wac (atF L_1)) false)] O'∧R (.own 1 (List.length L_1)) O')) (∃ (L_1:List FL),∃ (a:Int),(TEq [(0,.ptr 0 0),(3,.own 1 (List.length L))] [(0,.ptr 0 0),(3,.own 1 (List.length L_1))]∧wae [(0,.cells [.view 1 n (waa v),.int .i64 (a'+(1:Int))] 27),(1,.row 49 7 (List.length L) (wac (atF L)) false)] [(0,.cells [.view 1 n (waa v),.int .i64 a] 27),(1,.row 49 7 (List.length L_1) (wac (atF L_1)) false)])∧((0:Int)≤a∧a≤(4611686018427365000:Int))∧List.length L_1≤7∧(∀ (F:FL),F∈L_1→FL.Tn F)∧∀ (b:Bool) (a':Int),a≤a'∧a'≤a+(1:Int)→(b=true→0<List.length L_1)→wad b ((27=27∧1=1∧waa v=waa (vInt (waa v))∧((1:Int)≤(↑(List.length L_1):Int)∧(↑(List.length L_1):Int)≤(1000000:Int))∧(0:Int)≤a'∧a'≤z2)∧((0:Int)≤wab n (vInt (waa v)) a' (↑(List.length L_1):Int)∧wab n (vInt (waa v)) a' (↑(List.length L_1):Int)<(↑(List.length L_1):Int))∧(Int.toNat (wab n (vInt (waa v)) a' (↑(List.length L_1):Int))<List.length L_1∧7=7)∧(27=27∧1=1∧waa v=waa (vInt (waa v))∧z3∧(0:Int)≤a'+(1:Int)∧a'+(1:Int)≤z2)∧inR .i64 ((43858:Int)+wab n (vInt (waa v)) (a'+(1:Int)) (9:Int))∧z1∧((1≤1∧7=7)∧List.length L_1≤List.length L_1∧7=7∧49=49∧7=7∧List.length L_1+1≤9223372036854775807∧(List.length L_1+1) * TI.bytes wb5≤140737488355328)∧(∀ (i:Nat),i<List.length L_1+1→nrefL (apF (List.length L_1) (wac (atF L_1)) (waq (TI.sz wb5) (.str (FL.id (atF L_1 (Int.toNat (wab n (vInt (waa v)) a' (↑(List.length L_1):Int))))):: .int .i64 (FL.ver (atF L_1 (Int.toNat (wab n (vInt (waa v)) a' (↑(List.length L_1):Int))))):: .int .i64 ((43858:Int)+wab n (vInt (waa v)) (a'+(1:Int)) (9:Int)):: .int .i64 (FL.kind (atF L_1 (Int.toNat (wab n (vInt (waa v)) a' (↑(List.length L_1):Int))))):: .view 15 (List.length (FL.ms (atF L_1 (Int.toNat (wab n (vInt (waa v)) a' (↑(List.length L_1):Int)))))) (wag (atM (FL.ms (atF L_1 (Int.toNat (wab n (vInt (waa v)) a' (↑(List.length L_1):Int))))))):: .view 5 (List.length (FL.rs (atF L_1 (Int.toNat (wab n (vInt (waa v)) a' (↑(List.length L_1):Int)))))) (wai (atR (FL.rs (atF L_1 (Int.toNat (wab n (vInt (waa v)) a' (↑(List.length L_1):Int))))))):: .view 5 (List.length (FL.ts (atF L_1 (Int.toNat (wab n (vInt (waa v)) a' (↑(List.length L_1):Int)))))) (wah (atT (FL.ts (atF L_1 (Int.toNat (wab n (vInt (waa v)) a' (↑(List.length L_1):Int)))))))::List.append [] z0)) i)=true)∧∃ (O':List (Nat×AObj)),wae [(0,.cells [.view 1 n (waa v),.int .i64 (a'+(1:Int)+(1:Int))] 27),(1,.row 49 7 (List.length L_1+1) (apF (List.length L_1) (wac (atF L_1)) (waq (TI.sz wb5) (.str (FL.id (atF L_1 (Int.toNat (wab n (vInt (waa v)) a' (↑(List.length L_1):Int))))):: .int .i64 (FL.ver (atF L_1 (Int.toNat (wab n (vInt (waa v)) a' (↑(List.length L_1):Int))))):: .int .i64 ((43858:Int)+wab n (vInt (waa v)) (a'+(1:Int)) (9:Int)):: .int .i64 (FL.kind (atF L_1 (Int.toNat (wab n (vInt (waa v)) a' (↑(List.length L_1):Int))))):: .view 15 (List.length (FL.ms (atF L_1 (Int.toNat (wab n (vInt (waa v)) a' (↑(List.length L_1):Int)))))) (wag (atM (FL.ms (atF L_1 (Int.toNat (wab n (vInt (waa v)) a' (↑(List.length L_1):Int))))))):: .view 5 (List.length (FL.rs (atF L_1 (Int.toNat (wab n (vInt (waa v)) a' (↑(List.length L_1):Int)))))) (wai (atR (FL.rs (atF L_1 (Int.toNat (wab n (vInt (waa v)) a' (↑(List.length L_1):Int))))))):: .view 5 (List.length (FL.ts (atF L_1 (Int.toNat (wab n (vInt (waa v)) a' (↑(List.length L_1):Int)))))) (wah (atT (FL.ts (atF L_1 (Int.toNat (wab n (vInt (waa v)) a' (↑(List.length L_1):Int)))))))::List.append [] z0))) false)] O'∧R (.own 1 (List.length L_1+1)) O') ((∀ (i:Nat),i<List.length L_1→true=true)∧∃ (O':List (Nat×AObj)),wae [(0,.cells [.view 1 n (waa v),.int .i64 a'] 27),(1,.row 49 7 (List.length L_1) (wac (atF L_1)) false)] O'∧R (.own 1 (List.length L_1)) O'))):=by kernel_rfl
theorem wyr (g h:Nat→FL) (n k:Nat) (P:Nat→Prop) (R:Exit→St→Prop):wa2 ⟨te,[(34,.det wee)],[],0,41,0⟩ (wa3 Tryz.f40 4) [0,1,12,13] [] [4] (S_sf g h n) P R (S_sf g h n k)=(letI z4:=R .ret (St.mk [(4,.bool false)] [] 0 []);letI z3:=((0:Int)≤(↑k:Int)∧(↑k:Int)<(↑n:Int)∧7=7:Prop);letI z0:=(Int.toNat (↑k:Int));letI z2:=flV (FL.id (h z0)) (FL.ver (h z0)) (FL.day (h z0)) (FL.kind (h z0)) (List.length (FL.ms (h z0))) (wag (atM (FL.ms (h z0)))) (List.length (FL.rs (h z0))) (wai (atR (FL.rs (h z0)))) (List.length (FL.ts (h z0))) (wah (atT (FL.ts (h z0))));letI z1:=flV (FL.id (g z0)) (FL.ver (g z0)) (FL.day (g z0)) (FL.kind (g z0)) (List.length (FL.ms (g z0))) (wag (atM (FL.ms (g z0)))) (List.length (FL.rs (g z0))) (wai (atR (FL.rs (g z0)))) (List.length (FL.ts (g z0))) (wah (atT (FL.ts (g z0))));wad (decide ((↑k:Int)<(↑n:Int))) (z3∧z3∧wad (!decide (FL.day (g z0)=FL.day (h z0))) z4 (z3∧(FlC (List.length (FL.ms (g z0))) (wag (atM (FL.ms (g z0)))) (List.length (FL.rs (g z0))) (wai (atR (FL.rs (g z0)))) (List.length (FL.ts (g z0))) (wah (atT (FL.ts (g z0))))∧FL.Rg z1)∧z3∧(FlC (List.length (FL.ms (h z0))) (wag (atM (FL.ms (h z0)))) (List.length (FL.rs (h z0))) (wai (atR (FL.rs (h z0)))) (List.length (FL.ts (h z0))) (wah (atT (FL.ts (h z0))))∧FL.Rg z2)∧wad (!decide (encF z1=encF z2)) z4 (inR .i64 ((↑k:Int)+(1:Int))∧∃ (i':Nat),some (St.mk [(0,.view 7 n (wac g)),(1,.view 7 n (wac h)),(12,.int .i64 (↑n:Int)),(13,.int .i64 ((↑k:Int)+(1:Int)))] [] 0 [])=some (St.mk [(0,.view 7 n (wac g)),(1,.view 7 n (wac h)),(12,.int .i64 (↑n:Int)),(13,.int .i64 (↑i':Int))] [] 0 [])∧P i'))) (R (.exit 0) (St.mk [] [] 0 []))):=by kernel_rfl
theorem nf_sfF (g h:Nat→FL) (n m:Nat) (R:AV→List (Nat×AObj)→Prop):wpFn te [] [(4,L_sf g h n)] 0 Tryz.f40 [.view 7 n (wac g),.view 7 m (wac h)] [] R=(wad (!decide ((↑n:Int)=(↑m:Int))) (R (.bool false) []) (some (St.mk [(0,.view 7 n (wac g)),(1,.view 7 m (wac h)),(12,.int .i64 (↑n:Int)),(13,.int .i64 0)] [] 0 [])=some (St.mk [(0,.view 7 n (wac g)),(1,.view 7 n (wac h)),(12,.int .i64 (↑n:Int)),(13,.int .i64 (↑0:Int))] [] 0 [])∧n≤1000000∧(∀ (i:Nat),i<n→FL.Rg (g i))∧(∀ (i:Nat),i<n→FL.Rg (h i))∧wad (eqFs g h n) (R (.bool true) []) (R (.bool false) []))):=by kernel_rfl
theorem nf_l4 (n:Nat) (v:Nat→Int) (a:Int) (L:List FL) (Q:Exit→St→Prop):regP ⟨te,[(42,.det wba)],[],1,39,0⟩ (regC Tryz.f38 4) [0,3,22] Q (S_l4 n v a L)=(letI z0:=(∀ (i:Nat),i<List.length L→true=true:Prop);wad (decide ((0:Int)<(↑(List.length L):Int))) ((27=27∧1=1∧waa v=waa (vInt (waa v))∧((1:Int)≤(2:Int)∧(2:Int)≤(1000000:Int))∧(0:Int)≤a∧a≤(4611686018427387904:Int))∧z0∧∃ (O':List (Nat×AObj)),wae [(0,.cells [.view 1 n (waa v),.int .i64 (a+(1:Int))] 27),(1,.row 49 7 (List.length L) (wac (atF L)) false)] O'∧Q .normal (St.mk [(0,.ptr 0 0),(3,.own 1 (List.length L)),(22,.bool (decide (wab n (vInt (waa v)) a (2:Int)=(0:Int))))] O' 2 [])) (z0∧∃ (O':List (Nat×AObj)),wae [(0,.cells [.view 1 n (waa v),.int .i64 a] 27),(1,.row 49 7 (List.length L) (wac (atF L)) false)] O'∧Q .normal (St.mk [(0,.ptr 0 0),(3,.own 1 (List.length L)),(22,.bool false)] O' 2 []))):=by kernel_rfl
instance:Inhabited FL:=⟨wdq⟩
theorem wjf (L:List FL) (x:FL) (ch:Nat→List AV) (hch:ch 0=wbd x):∀ i,i<L.length+1→apF L.length (wac (atF L)) ch i=wac (atF (L++[x])) i:=
 wel wbd wdq L x ch hch
theorem fs_loop (hP:C.P=Tryz.prog) (n:Nat) (v:Nat→Int) (a N:Int):waj C 1 19 (wam Tryz.f90 3) (L_fs n v a N):=by
 rintro st Q ⟨h0,hN,ha,hQ⟩
 refine AWP.ownNil 5 49 7 ?_
 refine waj.mk (prg hP) [(32,.rel whk)] 0 (.cons (wuy hP) .nil) [0,5,9,10] [5] [] (S_fs n v N) (fun i=>(i.L.length:Int)≤N∧(a≤i.a∧i.a≤a+1100 * i.L.length)∧∀ F∈i.L,F.Tn) (fun i=>N.toNat - i.L.length) ⟨[],a⟩
  ⟨by show (0:Int)≤N;omega,by show a≤a∧a≤a+1100 * ((0:Nat):Int);omega,fun F hF=>(by cases hF)⟩ h0 (fun i hi=>?_) (fun i=>⟨fun _ _=>rfl,trivial⟩)
 obtain ⟨h1,h2,h3⟩:=hi
 rw [wzw]
 refine wak (fun q=>?_) (fun q=>⟨fun _ _=>rfl,_,wan _,hQ i (by omega) (by omega) h3⟩)
 refine ⟨rfl,rfl,rfl,⟨by omega,by omega⟩,fun F a' hF _ ha'=>⟨⟨by omega,rfl,by omega⟩,⟨⟨Nat.le_refl _,rfl⟩,Nat.le_refl _,rfl,rfl,rfl,by omega,?_⟩,by simp only [inR];omega,⟨i.L++[F],a'⟩,?_,⟨?_,?_,wey h3 hF⟩,?_⟩⟩
 ·show (i.L.length+1) * 112≤_
  omega
 ·dsimp only
  rw [List.length_append]
  exact ⟨rfl,rfl,⟨rfl,rfl,rfl,rfl,rfl,wjf i.L F _ rfl⟩,trivial⟩
 ·show ((i.L++[F]).length:Int)≤N
  rw [List.length_append];simp;omega
 ·show a≤a'∧a'≤a+1100 * ((i.L++[F]).length:Int)
  rw [List.length_append];simp;omega
 ·show N.toNat - (i.L++[F]).length<N.toNat - i.L.length
  rw [List.length_append];simp;omega
theorem w2a (hP:C.P=Tryz.prog):wa7 C 90 wnl:=by
 rintro args objs R h
 unfold wnl at h
 split at h
 ·rename_i most sz n f a t
  obtain ⟨rfl,rfl,hf,ha,hm,hR⟩:=h
  rw [hf] at hR ⊢
  generalize vInt f=v at *
  have hw:vInt (waa v)=v:=rfl
  refine wa7.wpL (prg hP) [(32,.rel whk),(42,.det wba)] [(3,L_fs n v (a+1) (wab n v a (most+1)))] 0 (.cons (wuy hP) (.cons (wb7 hP) .nil)) (hP ▸ Tryz.func90) rfl rfl rfl [(wam Tryz.f90 3,L_fs n v (a+1) (wab n v a (most+1)))] (by kernel_rfl) ⟨fs_loop hP _ _ _ _,trivial⟩ ?_
  rw [wz0,hw]
  have r:=wav (show (1:Int)≤most+1 by omega) n v a
  exact ⟨by simp only [inR];omega,⟨rfl,rfl,rfl,⟨by omega,by omega⟩,by omega,by omega⟩,⟨rfl,rfl,⟨rfl,rfl,rfl,rfl,rfl,fun i hi=>absurd hi (Nat.not_lt_zero i)⟩,trivial⟩,⟨by omega,by omega⟩,⟨by omega,by omega⟩,fun i h1 h2 h3=>⟨fun _ _=>rfl,_,wan _,hR i.L i.a (by omega) ⟨by omega,by omega⟩ h3⟩⟩
 ·exact h.elim
theorem l4_ok (hP:C.P=Tryz.prog) (n:Nat) (v:Nat→Int):waj C 1 39 (regC Tryz.f38 4) (L_l4 n v):=by
 rintro st Q ⟨L,a,h0,ha,hL,hT,hQ⟩
 refine waj.reg (S:=S_l4 n v a L) (prg hP) [(42,.det wba)] 0 (.cons (wb7 hP) .nil) [0,3] [0,3,22] h0 ?_ ⟨fun _ _=>rfl,trivial⟩
 have hw:vInt (waa v)=v:=rfl
 rw [nf_l4,hw]
 exact wak (fun q=>⟨⟨rfl,rfl,rfl,⟨by omega,by omega⟩,by omega,by omega⟩,fun _ _=>rfl,_,wan _,hQ _ (a+1) (by omega) (fun _=>by omega)⟩) (fun q=>⟨fun _ _=>rfl,_,wan _,hQ false a (by omega) (fun h=>by cases h)⟩)
theorem w03 (hP:C.P=Tryz.prog):wa7 C 38 wnk:=by
 rintro args objs R h
 unfold wnk at h
 split at h
 ·rename_i sz n f a t
  obtain ⟨rfl,rfl,hf,ha,hR⟩:=h
  rw [hf] at hR ⊢
  generalize vInt f=v at *
  have hw:vInt (waa v)=v:=rfl
  refine wa7.wpL (prg hP) [(90,.rel wnl),(42,.det wba),(27,.rel wnf)] [(1004,L_l4 n v)] 0 (.cons (w2a hP) (.cons (wb7 hP) (.cons (sp15_ok hP) .nil))) (hP ▸ Tryz.func38) rfl rfl rfl [(regC Tryz.f38 4,L_l4 n v)] (by kernel_rfl) ⟨l4_ok hP n v,trivial⟩ ?_
  rw [wzi,hw]
  refine ⟨rfl,rfl,rfl,⟨by omega,by omega⟩,⟨by omega,by omega⟩,fun L b hL hb hT=>?_⟩
  refine ⟨fun _ _=>rfl,⟨rfl,rfl,rfl,⟨by omega,by omega⟩,by omega,by omega⟩,wak (fun _=>?_) (fun _=>?_)⟩
  ·refine ⟨rfl,rfl,rfl,⟨by omega,by omega⟩,fun F c hF hc=>?_⟩
   have hl:(L++[F]).length=L.length+1:=by rw [List.length_append,List.length_singleton]
   have hT':=wey hT hF
   refine ⟨⟨by omega,rfl,by omega⟩,⟨⟨Nat.le_refl _,rfl⟩,Nat.le_refl _,rfl,rfl,rfl,by omega,?_⟩,L++[F],c,?_,⟨by omega,by omega⟩,by omega,hT',fun q c' hc' hq=>?_⟩
   ·show (L.length+1) * 112≤_
    omega
   ·rw [hl]
    exact ⟨rfl,rfl,⟨rfl,rfl,rfl,rfl,rfl,wjf L F _ rfl⟩,trivial⟩
   have r9:=wav (show (1:Int)≤9 by omega) n v (c'+1)
   cases q with
   |false=>exact ⟨fun _ _=>rfl,_,wan _,hR (L++[F]) c' (by omega) (by omega) hT'⟩
   |true=>
    have hq:=hq rfl
    have r:=wav (show (1:Int)≤(((L++[F]).length:Nat):Int) by omega) n v c'
    let G:FL:=atF (L++[F]) (wab n v c' (((L++[F]).length:Nat):Int)).toNat
    have hG:G.Tn:=hT' _ (wd9 (by omega))
    let H:FL:=⟨G.id,G.ver,43858+wab n v (c'+1) 9,G.kind,G.ms,G.rs,G.ts⟩
    have hH:H.Tn:=⟨hG.id,hG.ver,hG.kind,hG.m,hG.r,hG.t⟩
    have S7:=fun ch hch=>wjf (L++[F]) H ch hch
    refine ⟨⟨rfl,rfl,rfl,⟨by omega,by omega⟩,by omega,by omega⟩,⟨r.1,r.2⟩,⟨by omega,rfl⟩,⟨rfl,rfl,rfl,⟨by omega,by omega⟩,by omega,by omega⟩,by simp only [inR];omega,⟨by omega,rfl,by omega⟩,⟨⟨Nat.le_refl _,rfl⟩,Nat.le_refl _,rfl,rfl,rfl,by omega,?_⟩,fun i hi=>(congrArg nrefL (S7 _ rfl i hi)).trans rfl,[(0,.cells [.view 1 n (waa v),.int .i64 (c'+1+1)] 27),(1,.row 49 7 ((L++[F]).length+1) (wac (atF ((L++[F])++[H]))) false)],⟨rfl,⟨rfl,rfl,rfl,rfl,rfl,S7 _ rfl⟩,trivial⟩,?_⟩
    ·show ((L++[F]).length+1) * 112≤_
     omega
    ·have:=hR ((L++[F])++[H]) (c'+1+1) (by rw [List.length_append,List.length_singleton];omega) (by omega) (wey hT' hH)
     rw [List.length_append,List.length_singleton] at this
     exact this
  ·refine ⟨L,b+1,⟨rfl,rfl,⟨rfl,rfl,rfl,rfl,rfl,fun _ _=>rfl⟩,trivial⟩,⟨by omega,by omega⟩,by omega,hT,fun q c' hc' hq=>?_⟩
   have r9:=wav (show (1:Int)≤9 by omega) n v (c'+1)
   cases q with
   |false=>exact ⟨fun _ _=>rfl,_,wan _,hR L c' (by omega) (by omega) hT⟩
   |true=>
    have hq:=hq rfl
    have r:=wav (show (1:Int)≤((L.length:Nat):Int) by omega) n v c'
    let G:FL:=atF L (wab n v c' ((L.length:Nat):Int)).toNat
    have hG:G.Tn:=hT _ (wd9 (by omega))
    let H:FL:=⟨G.id,G.ver,43858+wab n v (c'+1) 9,G.kind,G.ms,G.rs,G.ts⟩
    have hH:H.Tn:=⟨hG.id,hG.ver,hG.kind,hG.m,hG.r,hG.t⟩
    have S7:=fun ch hch=>wjf L H ch hch
    refine ⟨⟨rfl,rfl,rfl,⟨by omega,by omega⟩,by omega,by omega⟩,⟨r.1,r.2⟩,⟨by omega,rfl⟩,⟨rfl,rfl,rfl,⟨by omega,by omega⟩,by omega,by omega⟩,by simp only [inR];omega,⟨by omega,rfl,by omega⟩,⟨⟨Nat.le_refl _,rfl⟩,Nat.le_refl _,rfl,rfl,rfl,by omega,?_⟩,fun i hi=>(congrArg nrefL (S7 _ rfl i hi)).trans rfl,[(0,.cells [.view 1 n (waa v),.int .i64 (c'+1+1)] 27),(1,.row 49 7 (L.length+1) (wac (atF (L++[H]))) false)],⟨rfl,⟨rfl,rfl,rfl,rfl,rfl,S7 _ rfl⟩,trivial⟩,?_⟩
    ·show (L.length+1) * 112≤_
     omega
    ·have:=hR (L++[H]) (c'+1+1) (by rw [List.length_append,List.length_singleton];omega) (by omega) (wey hT hH)
     rw [List.length_append,List.length_singleton] at this
     exact this
 ·exact h.elim
theorem wvb {g h:Nat→FL} {k:Nat} (e:eqFs g h (k+1)=false):∀ n,k<n→eqFs g h n=false
 |0,hn=>absurd hn (Nat.not_lt_zero k)
 |n+1,hn=>by
  by_cases q:n=k
  ·subst q;exact e
  ·rw [eqFs,wvb e n (by omega),Bool.false_and]
theorem wvc (g:Nat→FL):∀ n,eqFs g g n=true
 |0=>rfl
 |n+1=>by rw [eqFs,wvc g n,eqF,decide_eq_true rfl,decide_eq_true rfl];rfl
theorem rgF (F:FL) (h:F.Rg):FlC F.ms.length (wag (atM F.ms)) F.rs.length (wai (atR F.rs)) F.ts.length (wah (atT F.ts))∧(flV F.id F.ver F.day F.kind F.ms.length (wag (atM F.ms)) F.rs.length (wai (atR F.rs)) F.ts.length (wah (atT F.ts))).Rg:=
 ⟨wer F,by rw [wdn];exact h⟩
theorem sf_loop (hP:C.P=Tryz.prog) (g h:Nat→FL) (n:Nat):waj C 0 41 (wam Tryz.f40 4) (L_sf g h n):=by
 rintro st Q ⟨h0,hn,hg,hh,hQ⟩
 have hR:=wcb hQ
 refine waj.mk (prg hP) [(34,.det wee)] 0 (.cons (encR_ok hP) .nil) [0,1,12,13] [] [4] (S_sf g h n) (fun k=>k≤n∧eqFs g h k=true) (fun k=>n - k) 0 ⟨Nat.zero_le _,rfl⟩ h0 (fun k hk=>?_)
 obtain ⟨hkn,hok⟩:=hk
 rw [wyr,Int.toNat_natCast]
 have stop:eqF (g k) (h k)=false→k<n→eqFs g h n=false:=fun e hk=>wvb (k:=k) (by rw [eqFs,e,Bool.and_false]) n hk
 refine wak (fun q=>?_) (fun q=>hR.1 (by rw [show n=k by omega];exact hok))
 have hk:k<n:=by omega
 have f1:=rgF (g k) (hg k hk)
 have f2:=rgF (h k) (hh k hk)
 have eG:∀ G:FL,flV G.id G.ver G.day G.kind G.ms.length (wag (atM G.ms)) G.rs.length (wai (atR G.rs)) G.ts.length (wah (atT G.ts))=G:=wdn
 refine ⟨⟨by omega,by omega,rfl⟩,⟨by omega,by omega,rfl⟩,wca (fun d=>hR.2 (stop (by unfold eqF;rw [decide_eq_false d,Bool.false_and]) hk)) (fun d=>⟨⟨by omega,by omega,rfl⟩,f1,⟨by omega,by omega,rfl⟩,f2,?_⟩)⟩
 rw [eG (g k),eG (h k)]
 refine wca (fun e=>hR.2 (stop (by unfold eqF;rw [decide_eq_false e,Bool.and_false]) hk)) (fun e=>⟨by simp only [inR];omega,k+1,rfl,⟨by omega,?_⟩,by omega⟩)
 rw [eqFs,hok,eqF,decide_eq_true d,decide_eq_true e];rfl
theorem wxh (hP:C.P=Tryz.prog):waf C 40 wlv:=by
 rintro args objs U Os vc hh hvc
 unfold wlv at hh
 split at hh<;>simp only [Option.some.injEq,Prod.mk.injEq,reduceCtorEq] at hh
 rename_i n f m h
 obtain ⟨rfl,rfl,rfl⟩:=hh
 obtain ⟨hn,hm,hf,hh,hg,hj⟩:=hvc
 generalize flOf f=g at *
 generalize flOf h=g' at *
 subst hf hh
 refine waf.wpL (prg hP) [] [(4,L_sf g g' n)] 0 .nil (hP ▸ Tryz.func40) rfl rfl rfl [(wam Tryz.f40 4,L_sf g g' n)] (by kernel_rfl) ⟨sf_loop hP g g' n,trivial⟩ ?_
 rw [nf_sfF]
 refine wca (fun q=>?_) (fun q=>?_)
 ·rw [decide_eq_false (show ¬ n=m by omega)];exact ⟨rfl,rfl⟩
 ·obtain rfl:n=m:=by omega
  refine ⟨rfl,hn,hg,hj,?_⟩
  rw [decide_eq_true rfl,Bool.true_and]
  cases eqFs g g' n<;>exact ⟨rfl,rfl⟩
end Go.Eng
