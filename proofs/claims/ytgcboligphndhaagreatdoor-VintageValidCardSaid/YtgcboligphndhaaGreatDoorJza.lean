/- The reference of messages: its small functions. -/
import Derived.Test.YtgcboligphndhaaGreatDoorJv
import Derived.Test.YtgcboligphndhaaGreatDoorJx
import Derived.Test.YtgcboligphndhaaGreatDoorJl
import Derived.Lib.Builder
import Derived.WalkKit
import Derived.Test.YtgcboligphndhaaGreatDoorJu
import Derived.Test.YtgcboligphndhaaGreatDoorJm
import Derived.Below
import Derived.Test.YtgcboligphndhaaGreatDoorJt
import Derived.Test.YtgcboligphndhaaGreatDoorJw
import Derived.Test.YtgcboligphndhaaGreatDoorJr
namespace Go.Eng
open Go.Proofs Go.RowKit
variable {C:Ctx} [C.Loose]
set_option maxRecDepth 20000
theorem wy9 (g:Nat→FL) (n k:Nat) (F:FL) (c j:Nat) (P:Nat→Prop) (R:Exit→St→Prop):wa3 ⟨te,[],[],0,221,0⟩ (wa4 Tryz.f28 7) [3,5,6,17,18,19,43,44,45] [3,5,6,17,18,19] [] (wlx g n k F c) P R (wlx g n k F c j)=(letI z11:=wae (atM (FL.ms F));letI z10:=List.take 30 (FL.id F);letI z9:=wae (cutM (atM (FL.ms F)));letI z1:=([.str (FL.id F),.int .i64 (FL.ver F),.int .i64 (FL.day F),.int .i64 (FL.kind F),.view 15 (List.length (FL.ms F)) z11,.view 5 (List.length (FL.rs F)) (wai (atR (FL.rs F))),.view 5 (List.length (FL.ts F)) (wah (atT (FL.ts F)))]:List AV);letI z0:=(atM (FL.ms F) (Int.toNat (↑j:Int)));letI z8:=(↑(List.length (MG.dev z0)):Int);letI z7:=(↑(List.length (DT.p (MG.d z0))):Int);letI z6:=(↑(List.length (VT.p (MG.v z0))):Int);letI z5:=(↑(List.length (DT.o (MG.d z0))):Int);letI z4:=(↑(List.length (VT.o (MG.v z0))):Int);letI z3:=(↑(List.length (DT.dev (MG.d z0))):Int);letI z2:=(↑(List.length (VT.rep (MG.v z0))):Int);wab (decide ((↑j:Int)<(↑c:Int))) (((0:Int)≤(↑j:Int)∧(↑j:Int)<(↑c:Int)∧15=15)∧((0:Int)≤min z8 (30:Int)∧min z8 (30:Int)≤z8)∧((0:Int)≤min z4 (30:Int)∧min z4 (30:Int)≤z4)∧((0:Int)≤min z5 (30:Int)∧min z5 (30:Int)≤z5)∧((0:Int)≤min z6 (30:Int)∧min z6 (30:Int)≤z6)∧((0:Int)≤min z7 (30:Int)∧min z7 (30:Int)≤z7)∧((0:Int)≤min z2 (30:Int)∧min z2 (30:Int)≤z2)∧((0:Int)≤min z3 (30:Int)∧min z3 (30:Int)≤z3)∧(15≤16777216∧15=15∧1≤9223372036854775807)∧((1≤1∧15=15)∧j≤j∧15=15∧40=40∧15=15∧j+1≤9223372036854775807∧(j+1) * TI.bytes wep≤140737488355328)∧inR .i64 ((↑j:Int)+(1:Int))∧∃ (i':Nat),(TEq [(3,.own 0 k),(5,.ptr 1 0),(6,.ptr 2 0),(17,.view 7 n (wad g)),(18,.int .i64 (↑n:Int)),(19,.int .i64 (↑k:Int)),(43,.view 15 c z11),(44,.int .i64 (↑c:Int)),(45,.int .i64 ((↑j:Int)+(1:Int)))] [(3,.own 0 k),(5,.ptr 1 0),(6,.ptr 2 0),(17,.view 7 n (wad g)),(18,.int .i64 (↑n:Int)),(19,.int .i64 (↑k:Int)),(43,.view 15 c z11),(44,.int .i64 (↑c:Int)),(45,.int .i64 (↑i':Int))]∧waf [(0,.row 49 7 k (wad (cutG g)) false),(1,.cells z1 49),(2,.cells [.str z10,.int .i64 (FL.ver F),.int .i64 (FL.day F),.int .i64 (FL.kind F),.own 3 (j+1),.nil,.nil] 49),(3,.row 40 15 (j+1) (apF j z9 (way (TI.sz wep) (.str (List.take (Int.toNat (min z8 (30:Int))) (MG.dev z0)):: .int .i64 (MG.seq z0):: .int .i64 (MG.kind z0):: .str (List.take (Int.toNat (min z4 (30:Int))) (VT.o (MG.v z0))):: .str (List.take (Int.toNat (min z6 (30:Int))) (VT.p (MG.v z0))):: .int .i64 (VT.per (MG.v z0)):: .int .i64 (VT.day (MG.v z0)):: .int .i64 (VT.st (MG.v z0)):: .int .i64 (VT.pr (MG.v z0)):: .str (List.take (Int.toNat (min z2 (30:Int))) (VT.rep (MG.v z0))):: .str (List.take (Int.toNat (min z5 (30:Int))) (DT.o (MG.d z0))):: .str (List.take (Int.toNat (min z7 (30:Int))) (DT.p (MG.d z0))):: .int .i64 (DT.per (MG.d z0)):: .str (List.take (Int.toNat (min z3 (30:Int))) (DT.dev (MG.d z0))):: .int .i64 (DT.num (MG.d z0))::List.append [] (List.flatten (List.replicate (nat_lit 0) [.str ([]),.int .i64 0,.int .i64 0,.str ([]),.str ([]),.int .i64 0,.int .i64 0,.int .i64 0,.int .i64 0,.str ([]),.str ([]),.str ([]),.int .i64 0,.str ([]),.int .i64 0]))))) false)] [(0,.row 49 7 k (wad (cutG g)) false),(1,.cells z1 49),(2,.cells [.str z10,.int .i64 (FL.ver F),.int .i64 (FL.day F),.int .i64 (FL.kind F),.own 3 i',.nil,.nil] 49),(3,.row 40 15 i' z9 false)])∧P i') ((∀ (i:Nat),i<k→true=true)∧(∀ (i:Nat),i<j→true=true)∧∃ (O':List (Nat×AObj)),waf [(0,.row 49 7 k (wad (cutG g)) false),(1,.cells z1 49),(2,.cells [.str z10,.int .i64 (FL.ver F),.int .i64 (FL.day F),.int .i64 (FL.kind F),.own 3 j,.nil,.nil] 49),(3,.row 40 15 j z9 false)] O'∧R (.exit 2) (St.mk [(3,.own 0 k),(5,.ptr 1 0),(6,.ptr 2 0),(17,.view 7 n (wad g)),(18,.int .i64 (↑n:Int)),(19,.int .i64 (↑k:Int))] O' 4 []))):=by kernel_rfl
theorem wy8 (g:Nat→FL) (n k:Nat) (F:FL) (c j:Nat) (P:Nat→Prop) (R:Exit→St→Prop):wa3 ⟨te,[],[],0,221,0⟩ (wa4 Tryz.f28 15) [3,5,6,17,18,19,136,137,138] [3,5,6,17,18,19] [] (wlw g n k F c) P R (wlw g n k F c j)=(letI z8:=wai (atR (FL.rs F));letI z7:=List.take 30 (FL.id F);letI z6:=wai (cutR (atR (FL.rs F)));letI z5:=wae (atM (FL.ms (cutF F)));letI z2:=List.length (FL.ms (cutF F));letI z1:=(atR (FL.rs F) (Int.toNat (↑j:Int)));letI z4:=(↑(List.length (RW.p z1)):Int);letI z3:=(↑(List.length (RW.o z1)):Int);letI z0:=([.str (FL.id F),.int .i64 (FL.ver F),.int .i64 (FL.day F),.int .i64 (FL.kind F),.view 15 (List.length (FL.ms F)) (wae (atM (FL.ms F))),.view 5 (List.length (FL.rs F)) z8,.view 5 (List.length (FL.ts F)) (wah (atT (FL.ts F)))]:List AV);wab (decide ((↑j:Int)<(↑c:Int))) (((0:Int)≤(↑j:Int)∧(↑j:Int)<(↑c:Int)∧5=5)∧((0:Int)≤min z3 (30:Int)∧min z3 (30:Int)≤z3)∧((0:Int)≤min z4 (30:Int)∧min z4 (30:Int)≤z4)∧(5≤16777216∧5=5∧1≤9223372036854775807)∧((1≤1∧5=5)∧j≤j∧5=5∧61=61∧5=5∧j+1≤9223372036854775807∧(j+1) * TI.bytes wcw≤140737488355328)∧inR .i64 ((↑j:Int)+(1:Int))∧∃ (i':Nat),(TEq [(3,.own 0 k),(5,.ptr 1 0),(6,.ptr 2 0),(17,.view 7 n (wad g)),(18,.int .i64 (↑n:Int)),(19,.int .i64 (↑k:Int)),(136,.view 5 c z8),(137,.int .i64 (↑c:Int)),(138,.int .i64 ((↑j:Int)+(1:Int)))] [(3,.own 0 k),(5,.ptr 1 0),(6,.ptr 2 0),(17,.view 7 n (wad g)),(18,.int .i64 (↑n:Int)),(19,.int .i64 (↑k:Int)),(136,.view 5 c z8),(137,.int .i64 (↑c:Int)),(138,.int .i64 (↑i':Int))]∧waf [(0,.row 49 7 k (wad (cutG g)) false),(1,.cells z0 49),(2,.cells [.str z7,.int .i64 (FL.ver F),.int .i64 (FL.day F),.int .i64 (FL.kind F),.own 3 z2,.own 4 (j+1),.nil] 49),(3,.row 40 15 z2 z5 false),(4,.row 61 5 (j+1) (apF j z6 (way (TI.sz wcw) (.str (List.take (Int.toNat (min z3 (30:Int))) (RW.o z1)):: .str (List.take (Int.toNat (min z4 (30:Int))) (RW.p z1)):: .int .i64 (RW.per z1):: .int .i64 (RW.u z1):: .int .i64 (RW.tv z1)::List.append [] we6))) false)] [(0,.row 49 7 k (wad (cutG g)) false),(1,.cells z0 49),(2,.cells [.str z7,.int .i64 (FL.ver F),.int .i64 (FL.day F),.int .i64 (FL.kind F),.own 3 z2,.own 4 i',.nil] 49),(3,.row 40 15 z2 z5 false),(4,.row 61 5 i' z6 false)])∧P i') ((∀ (i:Nat),i<k→true=true)∧(∀ (i:Nat),i<List.length (FL.ms (cutF F))→true=true)∧(∀ (i:Nat),i<j→true=true)∧∃ (O':List (Nat×AObj)),waf [(0,.row 49 7 k (wad (cutG g)) false),(1,.cells z0 49),(2,.cells [.str z7,.int .i64 (FL.ver F),.int .i64 (FL.day F),.int .i64 (FL.kind F),.own 3 z2,.own 4 j,.nil] 49),(3,.row 40 15 z2 z5 false),(4,.row 61 5 j z6 false)] O'∧R (.exit 4) (St.mk [(3,.own 0 k),(5,.ptr 1 0),(6,.ptr 2 0),(17,.view 7 n (wad g)),(18,.int .i64 (↑n:Int)),(19,.int .i64 (↑k:Int))] O' 5 []))):=by kernel_rfl
theorem wy6 (g:Nat→FL) (n k:Nat) (F:FL) (c j:Nat) (P:Nat→Prop) (R:Exit→St→Prop):wa3 ⟨te,[],[(1024,wnz g n k F c j)],0,221,0⟩ (wa4 Tryz.f28 21) [3,6,17,18,19,171,172,173] [3,6,17,18,19] [] (whc g n k F c) P R (whc g n k F c j)=(letI z15:=wah (atT (FL.ts F));letI z14:=List.take 30 (FL.id F);letI z13:=RT.bs (wb7 (atT (FL.ts F) j));letI z11:=wah (cutT (atT (FL.ts F)));letI z10:=wai (atR (FL.rs (cutF F)));letI z9:=wae (atM (FL.ms (cutF F)));letI z5:=List.length (FL.rs (cutF F));letI z4:=List.length (FL.ms (cutF F));letI z6:=([.str z14,.int .i64 (FL.ver F),.int .i64 (FL.day F),.int .i64 (FL.kind F),.own 2 z4,.own 3 z5,.own 4 (j+1)]:List AV);letI z3:=([(3,.own 0 k),(6,.ptr 1 0),(17,.view 7 n (wad g)),(18,.int .i64 (↑n:Int)),(19,.int .i64 (↑k:Int)),(171,.view 5 c z15),(172,.int .i64 (↑c:Int)),(173,.int .i64 (↑j:Int))]:List (Nat×AV));letI z1:=([(0,.row 49 7 k (wad (cutG g)) false),(1,.cells z6 49),(2,.row 40 15 z4 z9 false),(3,.row 61 5 z5 z10 false),(4,.row 97 5 (j+1) z11 false)]:List (Nat×AObj));letI z0:=(atT (FL.ts F) (Int.toNat (↑j:Int)));letI z8:=(↑(List.length (RT.p z0)):Int);letI z7:=(↑(List.length (RT.o z0)):Int);letI z2:=(↑(List.length (RT.bs z0)):Int);letI z12:=(min z2 (9:Int));wab (decide ((↑j:Int)<(↑c:Int))) (((0:Int)≤(↑j:Int)∧(↑j:Int)<(↑c:Int)∧5=5)∧((0:Int)≤min z7 (30:Int)∧min z7 (30:Int)≤z7)∧((0:Int)≤min z8 (30:Int)∧min z8 (30:Int)≤z8)∧(0≤16777216∧2=2∧0≤9223372036854775807)∧((0:Int)≤min z2 (9:Int)∧min z2 (9:Int)≤z2)∧(2=2∧0≤0∧2=2∧115=115∧2=2∧0+Int.toNat z12≤9223372036854775807∧(0+Int.toNat z12) * TI.bytes wfz≤140737488355328)∧(5≤16777216∧5=5∧1≤9223372036854775807)∧((1≤1∧5=5)∧j≤j∧5=5∧97=97∧5=5∧j+1≤9223372036854775807∧(j+1) * TI.bytes weo≤140737488355328)∧(∀ (i:Nat),i<0+Int.toNat z12→[AV.int .i64 (BK.up (atB z13 i)),.int .i64 (BK.pr (atB z13 i))]=[.int .i64 (BK.up (atB (RT.bs z0) (i - 0))),.int .i64 (BK.pr (atB (RT.bs z0) (i - 0)))])∧(∀ (i:Nat),i<0+Int.toNat z12→true=true)∧(TEq z3 z3∧waf [(0,.row 49 7 k (wad (cutG g)) false),(1,.cells z6 49),(2,.row 40 15 z4 z9 false),(3,.row 61 5 z5 z10 false),(4,.row 97 5 (j+1) (fun (i:Nat)=>List.map (frz 503 2 (0+Int.toNat z12) (waq (atB z13))) (apF j z11 (way (TI.sz weo) (.str (List.take (Int.toNat (min z7 (30:Int))) (RT.o z0)):: .str (List.take (Int.toNat (min z8 (30:Int))) (RT.p z0)):: .int .i64 (RT.per z0):: .int .i64 (RT.st z0):: .own 503 (0+Int.toNat z12)::List.append [] (List.flatten (List.replicate (nat_lit 0) [.str ([]),.str ([]),.int .i64 0,.int .i64 0,.nil])))) i)) false)] z1)∧j≤100∧∃ (i':Nat),(TEq [(3,.own 0 k),(6,.ptr 1 0),(17,.view 7 n (wad g)),(18,.int .i64 (↑n:Int)),(19,.int .i64 (↑k:Int)),(171,.view 5 c z15),(172,.int .i64 (↑c:Int)),(173,.int .i64 (↑(j+1):Int))] [(3,.own 0 k),(6,.ptr 1 0),(17,.view 7 n (wad g)),(18,.int .i64 (↑n:Int)),(19,.int .i64 (↑k:Int)),(171,.view 5 c z15),(172,.int .i64 (↑c:Int)),(173,.int .i64 (↑i':Int))]∧waf z1 [(0,.row 49 7 k (wad (cutG g)) false),(1,.cells [.str z14,.int .i64 (FL.ver F),.int .i64 (FL.day F),.int .i64 (FL.kind F),.own 2 z4,.own 3 z5,.own 4 i'] 49),(2,.row 40 15 z4 z9 false),(3,.row 61 5 z5 z10 false),(4,.row 97 5 i' z11 false)])∧P i') ((∀ (i:Nat),i<k→true=true)∧(∀ (i:Nat),i<List.length (FL.ms (cutF F))→true=true)∧(∀ (i:Nat),i<List.length (FL.rs (cutF F))→true=true)∧(∀ (i:Nat),i<j→true=true)∧∃ (O':List (Nat×AObj)),waf [(0,.row 49 7 k (wad (cutG g)) false),(1,.cells [.str z14,.int .i64 (FL.ver F),.int .i64 (FL.day F),.int .i64 (FL.kind F),.own 2 z4,.own 3 z5,.own 4 j] 49),(2,.row 40 15 z4 z9 false),(3,.row 61 5 z5 z10 false),(4,.row 97 5 j z11 false)] O'∧R (.exit 6) (St.mk [(3,.own 0 k),(6,.ptr 1 0),(17,.view 7 n (wad g)),(18,.int .i64 (↑n:Int)),(19,.int .i64 (↑k:Int))] O' 5 []))):=by kernel_rfl
theorem nf_rw24 (g:Nat→FL) (n k:Nat) (F:FL) (c j:Nat) (Q:Exit→St→Prop):regP ⟨te,[],[],0,221,0⟩ (regC Tryz.f28 24) [3,6,17,18,19,171,172,173] Q (wrk g n k F c j)=(inR .i64 ((↑j:Int)+(1:Int))∧(∀ (i:Nat),i<k→true=true)∧(∀ (i:Nat),i<List.length (FL.ms (cutF F))→true=true)∧(∀ (i:Nat),i<List.length (FL.rs (cutF F))→true=true)∧(∀ (i:Nat),i<j+1→true=true)∧∃ (O':List (Nat×AObj)),waf [(0,.row 49 7 k (wad (cutG g)) false),(1,.cells [.str (List.take 30 (FL.id F)),.int .i64 (FL.ver F),.int .i64 (FL.day F),.int .i64 (FL.kind F),.own 2 (List.length (FL.ms (cutF F))),.own 3 (List.length (FL.rs (cutF F))),.own 4 (j+1)] 49),(2,.row 40 15 (List.length (FL.ms (cutF F))) (wae (atM (FL.ms (cutF F)))) false),(3,.row 61 5 (List.length (FL.rs (cutF F))) (wai (atR (FL.rs (cutF F)))) false),(4,.row 97 5 (j+1) (wah (cutT (atT (FL.ts F)))) false)] O'∧Q .normal (St.mk [(3,.own 0 k),(6,.ptr 1 0),(17,.view 7 n (wad g)),(18,.int .i64 (↑n:Int)),(19,.int .i64 (↑k:Int)),(171,.view 5 c (wah (atT (FL.ts F)))),(172,.int .i64 (↑c:Int)),(173,.int .i64 ((↑j:Int)+(1:Int)))] O' 5 [])):=by kernel_rfl
theorem nf_rw25 (g:Nat→FL) (n k:Nat) (F:FL) (Q:Exit→St→Prop):regP ⟨te,[],[],0,221,0⟩ (regC Tryz.f28 25) [3,17,18,19] Q (wly g n k F)=(letI z0:=way (TI.sz wdh) (.str (FL.id (cutF F)):: .int .i64 (FL.ver (cutF F)):: .int .i64 (FL.day (cutF F)):: .int .i64 (FL.kind (cutF F)):: .view 15 (List.length (FL.ms (cutF F))) (wae (atM (FL.ms (cutF F)))):: .view 5 (List.length (FL.rs (cutF F))) (wai (atR (FL.rs (cutF F)))):: .view 5 (List.length (FL.ts (cutF F))) (wah (atT (FL.ts (cutF F))))::List.append [] (List.flatten (List.replicate (nat_lit 0) [.str ([]),.int .i64 0,.int .i64 0,.int .i64 0,.nil,.nil,.nil])));(7≤16777216∧7=7∧1≤9223372036854775807)∧((1≤1∧7=7)∧k≤k∧7=7∧49=49∧7=7∧k+1≤9223372036854775807∧(k+1) * TI.bytes wdh≤140737488355328)∧(∀ (i:Nat),i<k+1→nrefL (apF k (wad (cutG g)) z0 i)=true)∧∃ (O':List (Nat×AObj)),waf [(0,.row 49 7 (k+1) (apF k (wad (cutG g)) z0) false)] O'∧Q .normal (St.mk [(3,.own 0 (k+1)),(17,.view 7 n (wad g)),(18,.int .i64 (↑n:Int)),(19,.int .i64 (↑k:Int))] O' 1 [])):=by kernel_rfl
theorem wzd (g:Nat→FL) (n k:Nat) (P:Nat→Prop) (R:Exit→St→Prop):wa3 ⟨te,[],[(7,wnx g n k (g k) (min (g k).ms.length 3)),(15,wnw g n k (g k) (min (g k).rs.length 3)),(21,wnu g n k (g k) (min (g k).ts.length 3)),(1025,wny g n k (g k))],0,221,0⟩ (wa4 Tryz.f28 3) [3,17,18,19] [3] [] (wlz g n) P R (wlz g n k)=(letI z17:=atT (FL.ts (g k));letI z16:=atR (FL.rs (g k));letI z15:=wai (atR (FL.rs (cutF (g k))));letI z14:=List.take 30 (FL.id (g k));letI z12:=List.length (FL.ms (g k));letI z11:=([(3,.own 0 k),(6,.ptr 1 0),(17,.view 7 n (wad g)),(18,.int .i64 (↑n:Int)),(19,.int .i64 (↑k:Int))]:List (Nat×AV));letI z10:=wae (atM (FL.ms (cutF (g k))));letI z9:=List.length (FL.rs (cutF (g k)));letI z5:=List.length (FL.ts (g k));letI z19:=(Int.toNat (min (↑z5:Int) (3:Int)));letI z4:=List.length (FL.rs (g k));letI z18:=(Int.toNat (min (↑z4:Int) (3:Int)));letI z3:=List.length (FL.ms (cutF (g k)));letI z7:=([.str z14,.int .i64 (FL.ver (g k)),.int .i64 (FL.day (g k)),.int .i64 (FL.kind (g k)),.own 3 z3,.own 4 0,.nil]:List AV);letI z6:=([.str z14,.int .i64 (FL.ver (g k)),.int .i64 (FL.day (g k)),.int .i64 (FL.kind (g k)),.own 2 z3,.own 3 z9,.own 4 0]:List AV);letI z2:=([(0,.row 49 7 k (wad (cutG g)) false),(1,.cells [.str z14,.int .i64 (FL.ver (g k)),.int .i64 (FL.day (g k)),.int .i64 (FL.kind (g k)),.own 2 z3,.own 3 z9,.own 4 (List.length (FL.ts (cutF (g k))))] 49),(2,.row 40 15 z3 z10 false),(3,.row 61 5 z9 z15 false),(4,.row 97 5 (List.length (FL.ts (cutF (g k)))) (wah (atT (FL.ts (cutF (g k))))) false)]:List (Nat×AObj));letI z1:=(g (Int.toNat (↑k:Int)));letI z13:=(↑(List.length (FL.id z1)):Int);letI z8:=(↑(List.length (FL.ms z1)):Int);letI z0:=([.str (FL.id (g k)),.int .i64 (FL.ver (g k)),.int .i64 (FL.day (g k)),.int .i64 (FL.kind (g k)),.view 15 z12 (wae (atM (FL.ms (g k)))),.view 5 z4 (wai z16),.view 5 z5 (wah z17)]:List AV);wab (decide ((↑k:Int)<(↑n:Int))) (((0:Int)≤(↑k:Int)∧(↑k:Int)<(↑n:Int)∧7=7)∧((0:Int)≤min z13 (30:Int)∧min z13 (30:Int)≤z13)∧((0:Int)≤min z8 (3:Int)∧min z8 (3:Int)≤z8)∧(TEq [(3,.own 0 k),(5,.ptr 1 0),(6,.ptr 2 0),(17,.view 7 n (wad g)),(18,.int .i64 (↑n:Int)),(19,.int .i64 (↑k:Int)),(43,.view 15 (Int.toNat (min z8 (3:Int))) (wae (atM (FL.ms z1)))),(44,.int .i64 (↑(Int.toNat (min z8 (3:Int))):Int)),(45,.int .i64 0)] [(3,.own 0 k),(5,.ptr 1 0),(6,.ptr 2 0),(17,.view 7 n (wad g)),(18,.int .i64 (↑n:Int)),(19,.int .i64 (↑k:Int)),(43,.view 15 (min z12 3) (wae (atM (FL.ms (g k))))),(44,.int .i64 (↑(min z12 3):Int)),(45,.int .i64 (↑0:Int))]∧waf [(0,.row 49 7 k (wad (cutG g)) false),(1,.cells [.str (FL.id z1),.int .i64 (FL.ver z1),.int .i64 (FL.day z1),.int .i64 (FL.kind z1),.view 15 (List.length (FL.ms z1)) (wae (atM (FL.ms z1))),.view 5 (List.length (FL.rs z1)) (wai (atR (FL.rs z1))),.view 5 (List.length (FL.ts z1)) (wah (atT (FL.ts z1)))] 49),(2,.cells [.str (List.take (Int.toNat (min z13 (30:Int))) (FL.id z1)),.int .i64 (FL.ver z1),.int .i64 (FL.day z1),.int .i64 (FL.kind z1),.own 3 0,.nil,.nil] 49),(3,.row 40 15 0 (fun (_x:Nat)=>[]) false)] [(0,.row 49 7 k (wad (cutG g)) false),(1,.cells z0 49),(2,.cells [.str z14,.int .i64 (FL.ver (g k)),.int .i64 (FL.day (g k)),.int .i64 (FL.kind (g k)),.own 3 0,.nil,.nil] 49),(3,.row 40 15 0 (wae (cutM (atM (FL.ms (g k))))) false)])∧min z12 3=min z12 3∧((0:Int)≤min (↑z4:Int) (3:Int)∧min (↑z4:Int) (3:Int)≤(↑z4:Int))∧(TEq [(3,.own 0 k),(5,.ptr 1 0),(6,.ptr 2 0),(17,.view 7 n (wad g)),(18,.int .i64 (↑n:Int)),(19,.int .i64 (↑k:Int)),(136,.view 5 z18 (wai z16)),(137,.int .i64 (↑z18:Int)),(138,.int .i64 0)] [(3,.own 0 k),(5,.ptr 1 0),(6,.ptr 2 0),(17,.view 7 n (wad g)),(18,.int .i64 (↑n:Int)),(19,.int .i64 (↑k:Int)),(136,.view 5 (min z4 3) (wai z16)),(137,.int .i64 (↑(min z4 3):Int)),(138,.int .i64 (↑0:Int))]∧waf [(0,.row 49 7 k (wad (cutG g)) false),(1,.cells z0 49),(2,.cells z7 49),(3,.row 40 15 z3 z10 false),(4,.row 61 5 0 (fun (_x:Nat)=>[]) false)] [(0,.row 49 7 k (wad (cutG g)) false),(1,.cells z0 49),(2,.cells z7 49),(3,.row 40 15 z3 z10 false),(4,.row 61 5 0 (wai (cutR z16)) false)])∧min z4 3=min z4 3∧((0:Int)≤min (↑z5:Int) (3:Int)∧min (↑z5:Int) (3:Int)≤(↑z5:Int))∧(TEq [(3,.own 0 k),(6,.ptr 1 0),(17,.view 7 n (wad g)),(18,.int .i64 (↑n:Int)),(19,.int .i64 (↑k:Int)),(171,.view 5 z19 (wah z17)),(172,.int .i64 (↑z19:Int)),(173,.int .i64 0)] [(3,.own 0 k),(6,.ptr 1 0),(17,.view 7 n (wad g)),(18,.int .i64 (↑n:Int)),(19,.int .i64 (↑k:Int)),(171,.view 5 (min z5 3) (wah z17)),(172,.int .i64 (↑(min z5 3):Int)),(173,.int .i64 (↑0:Int))]∧waf [(0,.row 49 7 k (wad (cutG g)) false),(1,.cells z6 49),(2,.row 40 15 z3 z10 false),(3,.row 61 5 z9 z15 false),(4,.row 97 5 0 (fun (_x:Nat)=>[]) false)] [(0,.row 49 7 k (wad (cutG g)) false),(1,.cells z6 49),(2,.row 40 15 z3 z10 false),(3,.row 61 5 z9 z15 false),(4,.row 97 5 0 (wah (cutT z17)) false)])∧min z5 3=min z5 3∧(TEq z11 z11∧waf z2 z2)∧k≤100∧g k=g k∧inR .i64 ((↑k:Int)+(1:Int))∧∃ (i':Nat),(TEq [(3,.own 0 (k+1)),(17,.view 7 n (wad g)),(18,.int .i64 (↑n:Int)),(19,.int .i64 ((↑k:Int)+(1:Int)))] [(3,.own 0 i'),(17,.view 7 n (wad g)),(18,.int .i64 (↑n:Int)),(19,.int .i64 (↑i':Int))]∧waf [(0,.row 49 7 (k+1) (wad (cutG g)) false)] [(0,.row 49 7 i' (wad (cutG g)) false)])∧P i') ((∀ (i:Nat),i<k→true=true)∧∃ (O':List (Nat×AObj)),waf [(0,.row 49 7 k (wad (cutG g)) false)] O'∧R (.exit 0) (St.mk [(3,.own 0 k)] O' 1 []))):=by kernel_rfl
theorem wza (g:Nat→FL) (n:Nat) (R:AV→List (Nat×AObj)→Prop):wpFn te [] [(3,wn0 g (min n 6))] 0 Tryz.f28 [.view 7 n (wad g)] [] R=(((0:Int)≤min (↑n:Int) (6:Int)∧min (↑n:Int) (6:Int)≤(↑n:Int))∧(TEq [(3,.own 0 0),(17,.view 7 (Int.toNat (min (↑n:Int) (6:Int))) (wad g)),(18,.int .i64 (↑(Int.toNat (min (↑n:Int) (6:Int))):Int)),(19,.int .i64 0)] [(3,.own 0 0),(17,.view 7 (min n 6) (wad g)),(18,.int .i64 (↑(min n 6):Int)),(19,.int .i64 (↑0:Int))]∧waf [(0,.row 49 7 0 (fun (_x:Nat)=>[]) false)] [(0,.row 49 7 0 (wad (cutG g)) false)])∧min n 6≤6∧(∀ (i:Nat),i<min n 6→true=true)∧∃ (O':List (Nat×AObj)),waf [(0,.row 49 7 (min n 6) (wad (cutG g)) false)] O'∧R (.own 0 (min n 6)) O'):=by kernel_rfl
theorem cut_ms (F:FL):(cutF F).ms.length=min F.ms.length 3:=by
 show ((F.ms.take 3).map wge).length=_
 rw [List.length_map,List.length_take];omega
theorem cut_rs (F:FL):(cutF F).rs.length=min F.rs.length 3:=by
 show ((F.rs.take 3).map wg2).length=_
 rw [List.length_map,List.length_take];omega
theorem cut_ts (F:FL):(cutF F).ts.length=min F.ts.length 3:=by
 show ((F.ts.take 3).map wb7).length=_
 rw [List.length_map,List.length_take];omega
theorem cut_m (F:FL) {i:Nat} (h:i<(cutF F).ms.length):wae (cutM (atM F.ms)) i=wae (atM (cutF F).ms) i:=by
 rw [cut_ms] at h
 have e:atM (cutF F).ms i=wge (atM F.ms i):=wq1 _ _ wge F.ms 3 i (by omega)
 show mgC (wge (atM F.ms i))=mgC (atM (cutF F).ms i)
 rw [e]
theorem cut_r (F:FL) {i:Nat} (h:i<(cutF F).rs.length):wai (cutR (atR F.rs)) i=wai (atR (cutF F).rs) i:=by
 rw [cut_rs] at h
 have e:atR (cutF F).rs i=wg2 (atR F.rs i):=wq1 _ _ wg2 F.rs 3 i (by omega)
 unfold wai
 rw [e];rfl
theorem cut_t (F:FL) {i:Nat} (h:i<(cutF F).ts.length):wah (cutT (atT F.ts)) i=wah (atT (cutF F).ts) i:=by
 rw [cut_ts] at h
 have e:atT (cutF F).ts i=wb7 (atT F.ts i):=wq1 _ _ wb7 F.ts 3 i (by omega)
 unfold wah
 rw [e];rfl
theorem wxl (hP:C.P=Tryz.prog) (g:Nat→FL) (n k:Nat) (F:FL) (c:Nat):wak C 0 221 (wam Tryz.f28 7) (wnx g n k F c):=by
 have _:C.Loose:=inferInstance
 rintro st Q ⟨h0,hc,hQ⟩
 refine AWP.ownNilP 6 4 40 15 ?_
 refine wak.mk (prg hP) [] 0 .nil [3,5,6,17,18,19,43,44,45] [3,5,6,17,18,19] [] (wlx g n k F c) (fun j=>j≤c) (fun j=>c - j) 0 (Nat.zero_le _) h0 (fun j hj=>?_) (fun i=>⟨fun _ _=>rfl,fun _ _=>rfl,trivial⟩)
 rw [wy9,Int.toNat_natCast,wc6,wc6,wc6,wc6,wc6,wc6,wc6]
 refine waj (fun h1=>⟨⟨by omega,by omega,rfl⟩,⟨by omega,by omega⟩,⟨by omega,by omega⟩,⟨by omega,by omega⟩,⟨by omega,by omega⟩,⟨by omega,by omega⟩,⟨by omega,by omega⟩,⟨by omega,by omega⟩,⟨by omega,rfl,by omega⟩,⟨⟨Nat.le_refl _,rfl⟩,Nat.le_refl _,rfl,rfl,rfl,by omega,?_⟩,by simp only [inR];omega,j+1,⟨rfl,⟨rfl,rfl,rfl,rfl,rfl,fun _ _=>rfl⟩,rfl,rfl,⟨rfl,rfl,rfl,rfl,rfl,fun i hi=>?_⟩,trivial⟩,by omega,by omega⟩) (fun h1=>?_)
 ·show (j+1) * 176≤_
  omega
 ·unfold apF
  by_cases h:i<j
  ·rw [if_pos h]
  ·have:i=j:=by omega
   rw [if_neg h,this,Nat.sub_self];rfl
 ·have:j=(cutF F).ms.length:=by rw [cut_ms];omega
  subst this
  refine ⟨fun _ _=>rfl,fun _ _=>rfl,_,?_,hQ⟩
  exact ⟨⟨rfl,rfl,rfl,rfl,rfl,fun _ _=>rfl⟩,rfl,rfl,⟨rfl,rfl,rfl,rfl,rfl,fun i hi=>cut_m F hi⟩,trivial⟩
theorem wxk (hP:C.P=Tryz.prog) (g:Nat→FL) (n k:Nat) (F:FL) (c:Nat):wak C 0 221 (wam Tryz.f28 15) (wnw g n k F c):=by
 have _:C.Loose:=inferInstance
 rintro st Q ⟨h0,hc,hQ⟩
 refine AWP.ownNilP 6 5 61 5 ?_
 refine wak.mk (prg hP) [] 0 .nil [3,5,6,17,18,19,136,137,138] [3,5,6,17,18,19] [] (wlw g n k F c) (fun j=>j≤c) (fun j=>c - j) 0 (Nat.zero_le _) h0 (fun j hj=>?_) (fun i=>⟨fun _ _=>rfl,fun _ _=>rfl,fun _ _=>rfl,trivial⟩)
 rw [wy8,Int.toNat_natCast,wc6,wc6]
 refine waj (fun h1=>⟨⟨by omega,by omega,rfl⟩,⟨by omega,by omega⟩,⟨by omega,by omega⟩,⟨by omega,rfl,by omega⟩,⟨⟨Nat.le_refl _,rfl⟩,Nat.le_refl _,rfl,rfl,rfl,by omega,?_⟩,by simp only [inR];omega,j+1,⟨rfl,⟨rfl,rfl,rfl,rfl,rfl,fun _ _=>rfl⟩,rfl,rfl,⟨rfl,rfl,rfl,rfl,rfl,fun _ _=>rfl⟩,⟨rfl,rfl,rfl,rfl,rfl,fun i hi=>?_⟩,trivial⟩,by omega,by omega⟩) (fun h1=>?_)
 ·show (j+1) * 56≤_
  omega
 ·unfold apF
  by_cases h:i<j
  ·rw [if_pos h]
  ·have:i=j:=by omega
   rw [if_neg h,this,Nat.sub_self];rfl
 ·have:j=(cutF F).rs.length:=by rw [cut_rs];omega
  subst this
  refine ⟨fun _ _=>rfl,fun _ _=>rfl,fun _ _=>rfl,_,?_,hQ⟩
  exact ⟨⟨rfl,rfl,rfl,rfl,rfl,fun _ _=>rfl⟩,rfl,rfl,⟨rfl,rfl,rfl,rfl,rfl,fun _ _=>rfl⟩,⟨rfl,rfl,rfl,rfl,rfl,fun i hi=>cut_r F hi⟩,trivial⟩
theorem rw24_ok (hP:C.P=Tryz.prog) (g:Nat→FL) (n k:Nat) (F:FL) (c j:Nat):wak C 0 221 (regC Tryz.f28 24) (wnz g n k F c j):=by
 have _:C.Loose:=inferInstance
 rintro st Q ⟨h1,h2,h3,hj,hQ⟩
 refine AWP.rowFn 503 _ h1 (AWP.frzX 503 [567] h2 ?_)
 refine wak.reg (S:=wrk g n k F c j) (prg hP) [] 0 .nil [3,6,17,18,19,171,172,173] [3,6,17,18,19,171,172,173] h3 ?_ ⟨fun _ _=>rfl,fun _ _=>rfl,fun _ _=>rfl,fun _ _=>rfl,trivial⟩
 rw [nf_rw24]
 exact ⟨by simp only [inR];omega,fun _ _=>rfl,fun _ _=>rfl,fun _ _=>rfl,fun _ _=>rfl,_,wap _,hQ⟩
theorem cut_b (t:RT) {i:Nat} (h:i<(wb7 t).bs.length):atB (wb7 t).bs i=atB t.bs i:=by
 have h:i<(t.bs.take 9).length:=h
 rw [List.length_take] at h
 show (t.bs.take 9).getD i _=t.bs.getD i _
 have h1:i<t.bs.length:=by omega
 have h2:i<9:=by omega
 simp [List.getD_eq_getElem?_getD,h1,h2]
theorem wxi (hP:C.P=Tryz.prog) (g:Nat→FL) (n k:Nat) (F:FL) (c:Nat):wak C 0 221 (wam Tryz.f28 21) (wnu g n k F c):=by
 rintro st Q ⟨h0,hc,hQ⟩
 refine AWP.ownNilP 6 6 97 5 ?_
 refine wak.mkI (prg hP) [] (fun j=>[(1024,wnz g n k F c j)]) 0 .nil (fun j=>[(regC Tryz.f28 24,wnz g n k F c j)]) (fun j=>by kernel_rfl) (fun j=>⟨rw24_ok hP g n k F c j,trivial⟩) [3,6,17,18,19,171,172,173] [3,6,17,18,19] [] (whc g n k F c) (fun j=>j≤c) (fun j=>c - j) 0 (Nat.zero_le _) h0 (fun j hj=>?_) (fun i=>⟨fun _ _=>rfl,fun _ _=>rfl,fun _ _=>rfl,fun _ _=>rfl,trivial⟩)
 rw [wy6,Int.toNat_natCast,wc6,wc6]
 have eb:0+Int.toNat (min (((atT F.ts j).bs.length:Nat):Int) 9)=(wb7 (atT F.ts j)).bs.length:=by
  show _=((atT F.ts j).bs.take 9).length
  rw [List.length_take];omega
 rw [eb]
 have lb:(wb7 (atT F.ts j)).bs.length≤9:=by
  show ((atT F.ts j).bs.take 9).length≤9
  rw [List.length_take];omega
 refine waj (fun h1=>⟨⟨by omega,by omega,rfl⟩,⟨by omega,by omega⟩,⟨by omega,by omega⟩,⟨by omega,rfl,by omega⟩,⟨by omega,by omega⟩,⟨rfl,Nat.le_refl _,rfl,rfl,rfl,by omega,?_⟩,⟨by omega,rfl,by omega⟩,⟨⟨Nat.le_refl _,rfl⟩,Nat.le_refl _,rfl,rfl,rfl,by omega,?_⟩,fun i hi=>?_,fun _ _=>rfl,⟨rfl,⟨rfl,rfl,rfl,rfl,rfl,fun _ _=>rfl⟩,rfl,⟨rfl,rfl,rfl,rfl,rfl,fun _ _=>rfl⟩,⟨rfl,rfl,rfl,rfl,rfl,fun _ _=>rfl⟩,⟨rfl,rfl,rfl,rfl,rfl,fun i hi=>?_⟩,trivial⟩,by omega,j+1,⟨rfl,⟨rfl,rfl,rfl,rfl,rfl,fun _ _=>rfl⟩,rfl,⟨rfl,rfl,rfl,rfl,rfl,fun _ _=>rfl⟩,⟨rfl,rfl,rfl,rfl,rfl,fun _ _=>rfl⟩,⟨rfl,rfl,rfl,rfl,rfl,fun _ _=>rfl⟩,trivial⟩,by omega,by omega⟩) (fun h1=>?_)
 ·show _ * 16≤_
  omega
 ·show (j+1) * 72≤_
  omega
 ·rw [Nat.sub_zero,cut_b _ hi]
 ·have bb:Nat.ble (wb7 (atT F.ts j)).bs.length (wb7 (atT F.ts j)).bs.length=true:=Nat.ble_eq_true_of_le (Nat.le_refl _)
  show List.map _ (apF j _ _ i)=_
  unfold apF
  by_cases h:i<j
  ·rw [if_pos h];rfl
  ·have:i=j:=by omega
   subst this
   rw [if_neg h,Nat.sub_self]
   show [AV.str _,.str _,.int .i64 _,.int .i64 _,frz 503 2 (wb7 (atT F.ts i)).bs.length (waq (atB (wb7 (atT F.ts i)).bs)) (.own 503 (wb7 (atT F.ts i)).bs.length)]=_
   simp only [frz,bb]
   rfl
 ·have:j=(cutF F).ts.length:=by rw [cut_ts];omega
  subst this
  refine ⟨fun _ _=>rfl,fun _ _=>rfl,fun _ _=>rfl,fun _ _=>rfl,_,?_,hQ⟩
  exact ⟨⟨rfl,rfl,rfl,rfl,rfl,fun _ _=>rfl⟩,rfl,⟨rfl,rfl,rfl,rfl,rfl,fun _ _=>rfl⟩,⟨rfl,rfl,rfl,rfl,rfl,fun _ _=>rfl⟩,⟨rfl,rfl,rfl,rfl,rfl,fun i hi=>cut_t F hi⟩,trivial⟩
theorem rwb_frz (g:Nat→FL) (n k:Nat) (F:FL):frzX 2 [] (frzX 3 [] (frzX 4 [] (wfp g n k F)))=⟨(wly g n k F).T,(wly g n k F).O,5,[]⟩:=by
 have b1:Nat.ble (cutF F).ms.length (cutF F).ms.length=true:=Nat.ble_eq_true_of_le (Nat.le_refl _)
 have b2:Nat.ble (cutF F).rs.length (cutF F).rs.length=true:=Nat.ble_eq_true_of_le (Nat.le_refl _)
 have b3:Nat.ble (cutF F).ts.length (cutF F).ts.length=true:=Nat.ble_eq_true_of_le (Nat.le_refl _)
 have e4:frzX 4 [] (wfp g n k F)=⟨(wfp g n k F).T,[(0,.row 49 7 k (wad (cutG g)) false),
  (1,.cells [.str (F.id.take 30),.int .i64 F.ver,.int .i64 F.day,.int .i64 F.kind,.own 2 (cutF F).ms.length,.own 3 (cutF F).rs.length,.view 5 (cutF F).ts.length (wah (atT (cutF F).ts))] 49),
  (2,.row 40 15 (cutF F).ms.length (wae (atM (cutF F).ms)) false),(3,.row 61 5 (cutF F).rs.length (wai (atR (cutF F).rs)) false)],5,[]⟩:=by
   have:frzX 4 [] (wfp g n k F)=⟨(wfp g n k F).T,[(0,.row 49 7 k (wad (cutG g)) false),
    (1,.cells [.str (F.id.take 30),.int .i64 F.ver,.int .i64 F.day,.int .i64 F.kind,.own 2 (cutF F).ms.length,.own 3 (cutF F).rs.length,frz 4 5 (cutF F).ts.length (wah (atT (cutF F).ts)) (.own 4 (cutF F).ts.length)] 49),
    (2,.row 40 15 (cutF F).ms.length (wae (atM (cutF F).ms)) false),(3,.row 61 5 (cutF F).rs.length (wai (atR (cutF F).rs)) false)],5,[]⟩:=rfl
   rw [this]
   simp only [frz,b3]
   rfl
 rw [e4]
 have e3:frzX 3 [] ⟨(wfp g n k F).T,[(0,.row 49 7 k (wad (cutG g)) false),
  (1,.cells [.str (F.id.take 30),.int .i64 F.ver,.int .i64 F.day,.int .i64 F.kind,.own 2 (cutF F).ms.length,.own 3 (cutF F).rs.length,.view 5 (cutF F).ts.length (wah (atT (cutF F).ts))] 49),
  (2,.row 40 15 (cutF F).ms.length (wae (atM (cutF F).ms)) false),(3,.row 61 5 (cutF F).rs.length (wai (atR (cutF F).rs)) false)],5,[]⟩=⟨(wfp g n k F).T,[(0,.row 49 7 k (wad (cutG g)) false),
  (1,.cells [.str (F.id.take 30),.int .i64 F.ver,.int .i64 F.day,.int .i64 F.kind,.own 2 (cutF F).ms.length,.view 5 (cutF F).rs.length (wai (atR (cutF F).rs)),.view 5 (cutF F).ts.length (wah (atT (cutF F).ts))] 49),
  (2,.row 40 15 (cutF F).ms.length (wae (atM (cutF F).ms)) false)],5,[]⟩:=by
   show (⟨_,[_,(1,.cells [.str (F.id.take 30),.int .i64 F.ver,.int .i64 F.day,.int .i64 F.kind,.own 2 (cutF F).ms.length,frz 3 5 (cutF F).rs.length (wai (atR (cutF F).rs)) (.own 3 (cutF F).rs.length),.view 5 (cutF F).ts.length (wah (atT (cutF F).ts))] 49),_],5,[]⟩:St)=_
   simp only [frz,b2]
   rfl
 rw [e3]
 show (⟨_,[_,(1,.cells [.str (F.id.take 30),.int .i64 F.ver,.int .i64 F.day,.int .i64 F.kind,frz 2 15 (cutF F).ms.length (wae (atM (cutF F).ms)) (.own 2 (cutF F).ms.length),.view 5 (cutF F).rs.length (wai (atR (cutF F).rs)),.view 5 (cutF F).ts.length (wah (atT (cutF F).ts))] 49)],5,[]⟩:St)=_
 simp only [frz,b1]
 rfl
theorem rw25_ok (hP:C.P=Tryz.prog) (g:Nat→FL) (n k:Nat) (F:FL):wak C 0 221 (regC Tryz.f28 25) (wny g n k F):=by
 have _:C.Loose:=inferInstance
 rintro st Q ⟨h0,hk,hF,hQ⟩
 refine AWP.canonIs (te:=te) [3,6,17,18,19] h0 (AWP.frzX 4 [] (fun _ _=>rfl) (AWP.frzX 3 [] (fun _ _=>rfl) (AWP.frzX 2 [] (fun _ _=>rfl) ?_))) ⟨fun _ _=>rfl,fun _ _=>rfl,fun _ _=>rfl,fun _ _=>rfl,trivial⟩
 rw [rwb_frz]
 refine wak.reg (S:=wly g n k F) (prg hP) [] 0 .nil [3,6,17,18,19] [3,17,18,19] ⟨rfl,⟨rfl,rfl,rfl,rfl,rfl,fun _ _=>rfl⟩,rfl,trivial⟩ ?_ ⟨fun _ _=>rfl,trivial⟩
 rw [nf_rw25]
 subst hF
 have H:∀ ch:Nat→List AV,ch 0=wad (cutG g) k→∀ i,i<k+1→apF k (wad (cutG g)) ch i=wad (cutG g) i:=fun ch hc i hi=>by
  unfold apF
  by_cases h:i<k
  ·rw [if_pos h]
  ·have:i=k:=by omega
   rw [if_neg h,this,Nat.sub_self,hc]
 refine ⟨⟨by omega,rfl,by omega⟩,⟨⟨Nat.le_refl _,rfl⟩,Nat.le_refl _,rfl,rfl,rfl,by omega,?_⟩,fun i hi=>(congrArg nrefL (H _ rfl i hi)).trans rfl,_,?_,hQ⟩
 ·show (k+1) * 112≤_
  omega
 ·exact ⟨⟨rfl,rfl,rfl,rfl,rfl,H _ rfl⟩,trivial⟩
theorem wxw (hP:C.P=Tryz.prog) (g:Nat→FL) (n:Nat):wak C 0 221 (wam Tryz.f28 3) (wn0 g n):=by
 rintro st Q ⟨h0,hn,hQ⟩
 refine AWP.ownNil 3 49 7 ?_
 refine wak.mkI (prg hP) [] (fun k=>[(7,wnx g n k (g k) (min (g k).ms.length 3)),(15,wnw g n k (g k) (min (g k).rs.length 3)),(21,wnu g n k (g k) (min (g k).ts.length 3)),(1025,wny g n k (g k))]) 0 .nil
  (fun k=>[(wam Tryz.f28 7,wnx g n k (g k) (min (g k).ms.length 3)),(wam Tryz.f28 15,wnw g n k (g k) (min (g k).rs.length 3)),(wam Tryz.f28 21,wnu g n k (g k) (min (g k).ts.length 3)),(regC Tryz.f28 25,wny g n k (g k))]) (fun k=>by kernel_rfl)
  (fun k=>⟨wxl hP _ _ _ _ _,wxk hP _ _ _ _ _,wxi hP _ _ _ _ _,rw25_ok hP _ _ _ _,trivial⟩) [3,17,18,19] [3] [] (wlz g n) (fun k=>k≤n) (fun k=>n - k) 0 (Nat.zero_le _) h0 (fun k hk=>?_) (fun i=>⟨fun _ _=>rfl,trivial⟩)
 have mn:∀ a:Nat,(min (a:Int) 3).toNat=min a 3:=fun a=>by omega
 rw [wzd,Int.toNat_natCast,wc6,mn,mn,mn]
 refine waj (fun h1=>⟨⟨by omega,by omega,rfl⟩,⟨by omega,by omega⟩,⟨by omega,by omega⟩,⟨rfl,⟨rfl,rfl,rfl,rfl,rfl,fun _ _=>rfl⟩,rfl,rfl,⟨rfl,rfl,rfl,rfl,rfl,fun i hi=>absurd hi (Nat.not_lt_zero i)⟩,trivial⟩,rfl,⟨by omega,by omega⟩,
  ⟨rfl,⟨rfl,rfl,rfl,rfl,rfl,fun _ _=>rfl⟩,rfl,rfl,⟨rfl,rfl,rfl,rfl,rfl,fun _ _=>rfl⟩,⟨rfl,rfl,rfl,rfl,rfl,fun i hi=>absurd hi (Nat.not_lt_zero i)⟩,trivial⟩,rfl,⟨by omega,by omega⟩,
  ⟨rfl,⟨rfl,rfl,rfl,rfl,rfl,fun _ _=>rfl⟩,rfl,⟨rfl,rfl,rfl,rfl,rfl,fun _ _=>rfl⟩,⟨rfl,rfl,rfl,rfl,rfl,fun _ _=>rfl⟩,⟨rfl,rfl,rfl,rfl,rfl,fun i hi=>absurd hi (Nat.not_lt_zero i)⟩,trivial⟩,rfl,
  ⟨rfl,⟨rfl,rfl,rfl,rfl,rfl,fun _ _=>rfl⟩,rfl,⟨rfl,rfl,rfl,rfl,rfl,fun _ _=>rfl⟩,⟨rfl,rfl,rfl,rfl,rfl,fun _ _=>rfl⟩,⟨rfl,rfl,rfl,rfl,rfl,fun _ _=>rfl⟩,trivial⟩,by omega,rfl,by simp only [inR];omega,k+1,⟨rfl,⟨rfl,rfl,rfl,rfl,rfl,fun _ _=>rfl⟩,trivial⟩,by omega,by omega⟩) (fun h1=>?_)
 have:k=n:=by omega
 subst this
 exact ⟨fun _ _=>rfl,_,wap _,hQ⟩
theorem wxt (hP:C.P=Tryz.prog):wag C 28 wwc:=by
 rintro args objs U Os vc h hvc
 unfold wwc at h
 split at h<;>simp only [Option.some.injEq,Prod.mk.injEq,reduceCtorEq] at h
 rename_i n f
 obtain ⟨rfl,rfl,rfl⟩:=h
 have hf:=hvc
 generalize flOf f=g at *
 subst hf
 refine wal.frzO 0 ?_
 refine wbd.wpL (prg hP) [] [(3,wn0 g (min n 6))] 0 .nil (hP ▸ Tryz.func28) rfl rfl rfl [(wam Tryz.f28 3,wn0 g (min n 6))] (by kernel_rfl) ⟨wxw hP g _,trivial⟩ ?_
 rw [wza]
 have hm:(min (n:Int) (6:Int)).toNat=min n 6:=by omega
 rw [hm]
 refine ⟨⟨by omega,by omega⟩,⟨rfl,⟨rfl,rfl,rfl,rfl,rfl,fun i hi=>absurd hi (Nat.not_lt_zero i)⟩,trivial⟩,by omega,fun _ _=>rfl,_,wap _,fun _ _=>rfl,?_⟩
 have hb:Nat.ble (min n 6) (min n 6)=true:=Nat.ble_eq_true_of_le (Nat.le_refl _)
 constructor
 ·simp [frzC,frzA,frz,hb]
 ·rfl
theorem raw1_ok (hP:C.P=Tryz.prog):wbd C 28 wnj:=by
 rintro args objs R h
 unfold wnj at h
 split at h
 ·rename_i n t m f fr
  obtain ⟨rfl,rfl,G,hf,hR⟩:=h
  have hh:ADet C 28 [.own 0 1] [.row t 7 1 f fr] (.view 7 1 (wad fun _=>cutF G)) []:=by
   refine wal.rowEq 0 (f':=wad fun _=>G) rfl (fun i hi=>?_) ?_
   ·obtain rfl:i=0:=by omega
    exact (show f 0=wbb G from hf).symm
   ·have hh:=wxt hP [.view 7 1 (wad fun _=>G)] [] _ _ _ rfl (by rw [wdl])
    rw [wdl] at hh
    exact ADet.give hh (by simp [frzC,frzA,frz]) rfl rfl (fun _ _=>rfl)
  exact wal.mono hh fun u O h=>by obtain ⟨rfl,rfl⟩:=h;exact hR
 ·exact h.elim
end Go.Eng
namespace Go.Proofs
open Go.RowKit
theorem Tryz.sizeBuilder:(Tryz.prog.info? 109).map (·.size)=some 2:=by kernel_rfl
theorem Tryz.liesWords:liesAt Tryz.prog Tryz.prog.depth 111 1 0 109 1=true:=by kernel_rfl
theorem Tryz.cellsWords:Tryz.prog.cellsOf 111=2:=by kernel_rfl
theorem Tryz.und106:Tryz.prog.underlying 106=some (.pointer 109):=by kernel_rfl
theorem Tryz.und220:Tryz.prog.underlying 220=some .unsafePointer:=by kernel_rfl
set_option maxHeartbeats 1000000 in
set_option maxRecDepth 100000 in
theorem Tryz.copyCheck_used (b:Nat) (w:World) (h0:w.cell? ⟨b,0,none⟩=some (.pointer (some ⟨b,0,none⟩))):
  Calls Tryz.prog 164 #[.pointer (some ⟨b,0,none⟩)] w fun e w'=>e= .returned (.tuple #[])∧w'=w:=by
 obtain ⟨j,hj,_⟩:=Option.map_eq_some_iff.1 Tryz.sizeBuilder
 go_enter Tryz.func164,Tryz.ntmps164
 go_wp2
 rw [Lib.run_neq_ptr_same w _ Tryz.und106 hj]
 go_wp2
 go_end0
 exact ⟨rfl,rfl⟩
set_option maxHeartbeats 1000000 in
set_option maxRecDepth 100000 in
theorem Tryz.copyCheck_fresh (b:Nat) (w:World) (h0:w.cell? ⟨b,0,none⟩=some (.pointer none)) (hsh:w.shape? b=some (111,2)) (hfz:w.frozen? ⟨b,0,none⟩=false):
  Calls Tryz.prog 164 #[.pointer (some ⟨b,0,none⟩)] w fun e w'=>e= .returned (.tuple #[])∧w'=w.setCell ⟨b,0,none⟩ (.pointer (some ⟨b,0,none⟩)):=by
 obtain ⟨j,hj,hjs⟩:=Option.map_eq_some_iff.1 Tryz.sizeBuilder
 go_enter Tryz.func164,Tryz.ntmps164
 go_wp2
 rw [Lib.run_to_unsafe w ⟨b,0,none⟩ Tryz.und106 Tryz.und220 hj (by rw [hjs];decide) hsh (Nat.zero_lt_succ 1)]
 simp only [Result.andThen]
 rw [Oper.upon_value]
 go_wp2
 rw [run_callFunc_extern Tryz.func203 (by kernel_rfl) (by kernel_rfl) (by kernel_rfl) (e:=Extern.AbiNoEscape.same) (by kernel_rfl)]
 rw [Lib.run_noEscape]
 simp only [Result.andThen]
 rw [Oper.upon_value]
 go_wp2
 rw [Lib.run_from_unsafe w ⟨b,0,none⟩ Tryz.und220 Tryz.und106 hj hsh (by rw [Tryz.cellsWords];exact Tryz.liesWords)]
 simp only [Result.andThen]
 rw [Oper.upon_value]
 go_wp2
 go_end0
 exact ⟨rfl,rfl⟩
end Go.Proofs
namespace Go.Eng
open Go.Proofs Go.RowKit Go.Sort
variable {C:Ctx} [C.Loose]
set_option maxRecDepth 20000
theorem wvy (w:World) (k:Nat) (os:Array Obj):Below w.heap.size w (grow (w.drewN k) os):=
 ⟨rfl,rfl,rfl,by simp [grow,World.drewN],fun i hi=>by
  show (w.heap++os)[i]?=_
  rw [Array.getElem?_append_left hi]⟩
theorem wpj {w:World} {M:Nat→Prop} {bs:Nat→Option Hd} {v:Value} {r off:Nat} (h:V w M bs v (.ptr r off)):∃ b c,v= .pointer (some ⟨b,off,none⟩)∧bs r=some (.blk b c):=by
 cases h with | ptr hb=>exact ⟨_,_,rfl,hb⟩
theorem ccUsed (hP:C.P=Tryz.prog) {args:List AV} {objs:List AObj} {cs:List AV} {t:TypeId} (ha:args=[.ptr 0 0]) (ho:objs[0]?=some (.cells (.ptr 0 0::cs) t)):wal C 164 args objs fun u O=>u= .tuple []∧O=enum 0 objs:=by
 have _:C.Loose:=inferInstance
 subst ha
 refine wal.quiet ⟨_,hP ▸ Tryz.func164,rfl,by decide⟩ fun E bs w cargs hW hl hv=>?_
 obtain ⟨a,rfl⟩:=mem1 hl
 have V0:=hv 0 _ _ rfl rfl
 obtain ⟨b,x,rfl,hx,hxV⟩:=WRep.cell hW (r:=0) (by simpa [lkL] using ho) V0 (j:=0) (u:=.ptr 0 0) rfl
 obtain ⟨b1,c1,rfl,hb1⟩:=wpj hxV
 obtain ⟨b2,c2,e2,hb2⟩:=wpj V0
 rw [hb1] at hb2
 injection hb2 with hb2
 injection hb2 with e3 e4
 subst e3
 injection e2 with e2
 injection e2 with e2
 injection e2 with e2
 subst e2
 rw [hP]
 refine (Tryz.copyCheck_used b w hx).mono ?_
 rintro e w' ⟨rfl,rfl⟩
 exact ⟨_,rfl,rfl,.tuple rfl (fun j v u hv hu=>by simp at hu)⟩
theorem ccFresh (hP:C.P=Tryz.prog):wal C 164 [.ptr 0 0] [.cells [.nilptr,.nil] 111] fun u O=>u= .tuple []∧O=[(0,.cells [.ptr 0 0,.nil] 111)]:=by
 have _:C.Loose:=inferInstance
 refine ⟨⟨_,hP ▸ Tryz.func164,rfl,by decide⟩,fun E bs w cargs h1 h2 h3 hW h5 h6 h7=>?_⟩
 obtain ⟨a,rfl⟩:=mem1 h6
 have V0:=h7 0 _ _ rfl rfl
 obtain ⟨b,c,vs,k1,k2,k3,k4,k5⟩:=hW.obj 0 _ rfl
 obtain ⟨x,y,rfl⟩:∃ x y,vs=#[x,y]:=by
  have k3:vs.size=2:=k3
  exact ⟨vs[0],vs[1],by
   apply Array.ext
   ·simpa using k3
   ·intro i hi1 hi2
    match i,hi2 with
    |0,_=>rfl
    |1,_=>rfl⟩
 have hx:=k5 0 x .nilptr rfl rfl
 have hy:=k5 1 y .nil rfl rfl
 cases hx
 cases hy
 obtain ⟨b',c',rfl,hb⟩:=wpj V0
 rw [k1] at hb
 injection hb with hb
 injection hb with e1 e2
 subst e1;subst e2
 ·rw [hP]
  refine (Tryz.copyCheck_fresh b w (by rw [cell_of_row w b 0 _ _ (0,0) k2];rfl) (by simp [World.shape?,k2]) (by simp [World.frozen?,k2])).mono ?_
  rintro e w' ⟨rfl,rfl⟩
  have hm:(AObj.cells [.nilptr,.nil] 111).mut=true:=rfl
  have hheap:(w.setCell ⟨b,0,none⟩ (.pointer (some ⟨b,0,none⟩))).heap[b]?=some (.cells #[.pointer (some ⟨b,0,none⟩),.slice none 0 0] 111 (0,0)):=by
   simp [World.setCell,Array.getElem?_modify,k2]
  obtain ⟨g1,g2⟩:=hW.modify (x:=0) rfl hm k1 (w':=w.setCell ⟨b,0,none⟩ (.pointer (some ⟨b,0,none⟩))) (fun k hk=>by simp [World.setCell,Array.getElem?_modify,Ne.symm hk]) (by simp [World.setCell]) rfl ⟨rfl,fun _=>Nat.le_refl _⟩ rfl (o:=.cells [.ptr 0 0,.nil] 111) rfl
   (fun hS=>⟨b,c,_,k1,hheap,rfl,fun j v hv=>by
    match j with
    |0=>obtain rfl:=Option.some.inj hv;rfl
    |1=>obtain rfl:=Option.some.inj hv;rfl
    |j+2=>simp at hv,fun j v u hv hu=>by
    match j with
    |0=>obtain rfl:=Option.some.inj hv;obtain rfl:=Option.some.inj hu;exact .ptr k1
    |1=>obtain rfl:=Option.some.inj hv;obtain rfl:=Option.some.inj hu;exact .nil
    |j+2=>simp at hv⟩)
  have e2:up (lkL [AObj.cells [.nilptr,.nil] 111]) 0 (.cells [.ptr 0 0,.nil] 111)=lk [(0,.cells [.ptr 0 0,.nil] 111)]:=by
   funext i
   rw [wa1]
   by_cases h:(0:Nat)=i
   ·subst h;rw [wau,if_pos rfl]
   ·rw [was _ _ _ h,if_neg h]
    cases i with
    |zero=>exact absurd rfl h
    |succ i=>simp [lkL,lk]
  rw [e2] at g2
  refine ⟨_,.tuple [],[(0,.cells [.ptr 0 0,.nil] 111)],bs,rfl,⟨rfl,rfl⟩,g2,.tuple rfl (fun j v u hv hu=>by simp at hu),fun r hr=>⟨?_,h5 r (by show 1≤r;have:1+16≤r:=hr;omega)⟩⟩
  have:1+16≤r:=hr
  rw [wa1,if_neg (by show ¬ 0=r;omega)];rfl
theorem cc_ok (hP:C.P=Tryz.prog):wag C 164 S_cc:=by
 rintro args objs U Os vc h hvc
 unfold S_cc at h
 split at h<;>simp only [Option.some.injEq,Prod.mk.injEq,reduceCtorEq] at h
 ·rename_i t
  obtain ⟨rfl,rfl,rfl⟩:=h
  have hvc:t=_:=hvc
  subst hvc
  exact ccFresh hP
 ·rename_i n t t8 m f
  obtain ⟨rfl,rfl,rfl⟩:=h
  have hvc:t=_:=hvc
  subst hvc
  exact ccUsed hP rfl rfl
theorem wkp (hP:C.P=Tryz.prog) (hL:∀ w,C.laid w→LaidW w):wag C 134 wef:=by
 rintro args objs U Os vc h hvc
 unfold wef at h
 split at h<;>simp only [Option.some.injEq,Prod.mk.injEq,reduceCtorEq] at h
 rename_i n
 obtain ⟨rfl,rfl,rfl⟩:=h
 have hr:inR .i64 n:=hvc
 simp only [inR] at hr
 refine wal.below ⟨_,hP ▸ Tryz.func134,rfl,by decide⟩ fun w M cargs hlaid _ hM hl hv=>?_
 obtain ⟨a,b,rfl⟩:∃ a b,cargs=[a,b]:=by
  match cargs,hl with
  |[a,b],_=>exact ⟨a,b,rfl⟩
 have e1:=(hv 0 _ _ rfl rfl).int_iff
 have e2:=(hv 1 _ _ rfl rfl).int_iff
 subst e1;subst e2
 rw [hP]
 refine (Tryz.strconv_FormatInt_10 n (by omega) (by omega) w (hL w hlaid).pow).mono ?_
 rintro e w' ⟨rfl,k,os,rfl⟩
 exact ⟨_,rfl,wvy _ _ _,.str (by simp)⟩
theorem wkg (hP:C.P=Tryz.prog) (hL:∀ w,C.laid w→LaidW w):wag C 133 wee:=by
 rintro args objs U Os vc h hvc
 unfold wee at h
 split at h<;>simp only [Option.some.injEq,Prod.mk.injEq,reduceCtorEq] at h
 rename_i n
 obtain ⟨rfl,rfl,rfl⟩:=h
 have hr:inR .i64 n:=hvc
 simp only [inR] at hr
 refine wal.below ⟨_,hP ▸ Tryz.func133,rfl,by decide⟩ fun w M cargs hlaid _ hM hl hv=>?_
 obtain ⟨a,rfl⟩:=mem1 hl
 have e1:=(hv 0 _ _ rfl rfl).int_iff
 subst e1
 rw [hP]
 refine (Tryz.strconv_Itoa n (by omega) (by omega) w (hL w hlaid).pow).mono ?_
 rintro e w' ⟨rfl,k,os,rfl⟩
 exact ⟨_,rfl,wvy _ _ _,.str (by simp)⟩
end Go.Eng
namespace Go.Eng
open Go.Proofs Go.RowKit
variable {C:Ctx} [C.Loose]
set_option maxRecDepth 20000
theorem wh7 {α:Type} (g:Nat→α) (n:Nat):lst g (n+1)=lst g n++[g n]:=by simp [lst,List.range_succ]
theorem lst_at {α:Type} {g:Nat→α} {L:List α} {n:Nat} (h:lst g n=L) (d:α):n=L.length∧∀ i,i<n→g i=L.getD i d:=by
 subst h
 refine ⟨by simp [lst],fun i hi=>?_⟩
 simp [lst,hi]
theorem wzf (p:Int) (R:AV→List (Nat×AObj)→Prop):wpFn te [] [] 0 Tryz.f163 [.int .i64 p] [] R=(wab (decide ((0:Int)≤p)) (R (.bool (decide (p≤(5999:Int)))) []) (R (.bool false) [])):=by kernel_rfl
theorem wy3 (o p:List UInt8) (per:Int) (R:AV→List (Nat×AObj)→Prop):wpFn te [(75,.det wed),(162,.det wcl),(163,.det wl1)] [] 0 Tryz.f130 [.str o,.str p,.int .i64 per] [] R=(List.length o≤9223372036854775806∧wab (wa0 o) (True∧wab (wa9 p) (True∧R (.bool (decide ((0:Int)≤per) && decide (per≤(5999:Int)))) []) (R (.bool false) [])) (R (.bool false) [])):=by kernel_rfl
theorem nf_rowR (o p:List UInt8) (per u tv:Int) (R:AV→List (Nat×AObj)→Prop):wpFn te [(130,.det web)] [] 0 Tryz.f77 [.agg [.str o,.str p,.int .i64 per,.int .i64 u,.int .i64 tv]] [] R=(letI z0:=R (.bool false) [];List.length o<4294967281∧wab (wbg o p per) (wab (decide ((1:Int)≤u)) (wab (decide (u≤(1099511627776:Int))) (wab (decide ((1:Int)≤tv)) (R (.bool (decide (tv≤(1099511627776:Int)))) []) z0) z0) z0) z0):=by kernel_rfl
theorem wx2 (hP:C.P=Tryz.prog):wag C 163 wl1:=by
 have _:C.Loose:=inferInstance
 rintro args objs U Os vc h hvc
 unfold wl1 at h
 split at h<;>simp only [Option.some.injEq,Prod.mk.injEq,reduceCtorEq] at h
 obtain ⟨rfl,rfl,rfl⟩:=h
 refine wag.wp0 (prg hP) [] 0 .nil (hP ▸ Tryz.func163) rfl rfl rfl ?_
 rw [wzf]
 exact waw (fun h=>by rw [h];exact ⟨rfl,rfl⟩) (fun h=>by rw [h];exact ⟨rfl,rfl⟩)
theorem wjk (hP:C.P=Tryz.prog):wag C 130 web:=by
 rintro args objs U Os vc h hvc
 unfold web at h
 split at h<;>simp only [Option.some.injEq,Prod.mk.injEq,reduceCtorEq] at h
 rename_i o p per
 obtain ⟨rfl,rfl,rfl⟩:=h
 refine wag.wp0 (prg hP) [(75,.det wed),(162,.det wcl),(163,.det wl1)] 0 (.cons (wj5 hP) (.cons (wry hP) (.cons (wx2 hP) .nil))) (hP ▸ Tryz.func130) rfl rfl rfl ?_
 rw [wy3]
 unfold wbg
 exact ⟨by omega,waw (fun h1=>⟨trivial,waw (fun h2=>⟨trivial,by rw [h1,h2,Bool.true_and,Bool.true_and];exact ⟨rfl,rfl⟩⟩) (fun h2=>by rw [h1,h2];exact ⟨rfl,rfl⟩)⟩) (fun h1=>by rw [h1];exact ⟨rfl,rfl⟩)⟩
theorem rowR_ok (hP:C.P=Tryz.prog):wag C 77 wd9:=by
 rintro args objs U Os vc h hvc
 unfold wd9 at h
 split at h<;>simp only [Option.some.injEq,Prod.mk.injEq,reduceCtorEq] at h
 rename_i o p per u tv
 obtain ⟨rfl,rfl,rfl⟩:=h
 refine wag.wp0 (prg hP) [(130,.det web)] 0 (.cons (wjk hP) .nil) (hP ▸ Tryz.func77) rfl rfl rfl ?_
 rw [nf_rowR]
 have e:rowF ⟨o,p,per,u,tv⟩=(wbg o p per && (decide (1≤u) && (decide (u≤1099511627776) && (decide (1≤tv) && decide (tv≤1099511627776))))):=by
  unfold rowF
  dsimp only
  rw [Bool.and_assoc]
  congr 1
  rw [Bool.eq_iff_iff]
  simp only [Bool.and_eq_true,decide_eq_true_eq]
  omega
 rw [e]
 generalize wbg o p per=b1,decide (1≤u)=b2,decide (u≤1099511627776)=b3,decide (1≤tv)=b4,decide (tv≤1099511627776)=b5
 refine ⟨hvc,?_⟩
 cases b1<;>cases b2<;>cases b3<;>cases b4<;>exact ⟨rfl,rfl⟩
theorem wyj (o p:List UInt8) (per day st pr:Int) (rep:List UInt8) (R:AV→List (Nat×AObj)→Prop):wpFn te [(130,.det web),(162,.det wcl)] [] 0 Tryz.f128 [.agg [.str o,.str p,.int .i64 per,.int .i64 day,.int .i64 st,.int .i64 pr,.str rep]] [] R=(letI z1:=R (.bool false) [];letI z4:=(wab (decide (pr=(0:Int))) (R (.bool (decide (rep=[]))) []) z1);letI z3:=(wab (decide ((1:Int)≤pr)) (wab (decide (pr≤(1099511627776:Int))) (R (.bool (decide (rep=[]))) []) z1) z1);letI z2:=(wab (decide (st=(5:Int))) (wab (decide ((1:Int)≤pr)) (wab (decide (pr≤(1099511627776:Int))) (True∧wab (wa9 rep) (R (.bool !decide (rep=p)) []) z1) z1) z1) z1);letI z0:=(wab (decide (st=(3:Int))) (wab (decide (st=(3:Int))) z4 z2) (wab (decide (st=(4:Int))) z4 z2));List.length o<4294967281∧wab (!wbg o p per) z1 (wab (decide (day<(0:Int))) z1 (wab (decide ((182621:Int)≤day)) z1 (wab (decide (st=(1:Int))) (wab (decide (st=(1:Int))) z3 z0) (wab (decide (st=(2:Int))) z3 z0))))):=by kernel_rfl
theorem nf_decR (o p:List UInt8) (per:Int) (dev:List UInt8) (num:Int) (R:AV→List (Nat×AObj)→Prop):wpFn te [(130,.det web),(75,.det wed)] [] 0 Tryz.f129 [.agg [.str o,.str p,.int .i64 per,.str dev,.int .i64 num]] [] R=(List.length o<4294967281∧wab (wbg o p per) (List.length dev≤9223372036854775806∧wab (wa0 dev) (wab (decide ((1:Int)≤num)) (R (.bool (decide (num≤(1048576:Int)))) []) (R (.bool false) [])) (R (.bool false) [])) (R (.bool false) [])):=by kernel_rfl
theorem nf_msgR (m:MG) (R:AV→List (Nat×AObj)→Prop):wpFn te [(75,.det wed),(128,.det wfm),(129,.det wm1)] [] 0 Tryz.f76 [.agg [.str m.dev,.int .i64 m.seq,.int .i64 m.kind,.str m.v.o,.str m.v.p,.int .i64 m.v.per,.int .i64 m.v.day,.int .i64 m.v.st,.int .i64 m.v.pr,.str m.v.rep,.str m.d.o,.str m.d.p,.int .i64 m.d.per,.str m.d.dev,.int .i64 m.d.num]] [] R=(letI z5:=(MG.kind m=(2:Int));letI z4:=(MG.kind m=(1:Int));letI z1:=(wab (decide z4) (wab (!(decide (DT.o (MG.d m)=[]) && (decide (DT.p (MG.d m)=[]) && (decide (DT.per (MG.d m)=(0:Int)) && (decide (DT.dev (MG.d m)=[]) && decide (DT.num (MG.d m)=(0:Int))))))) (R (.int .i64 114) []) (R (.int .i64 0) [])) (R (.int .i64 0) []));letI z2:=(wab (decide z5) ((List.length (DT.o (MG.d m))<4294967281∧List.length (DT.dev (MG.d m))<4294967281)∧wab (!(wbg (DT.o (MG.d m)) (DT.p (MG.d m)) (DT.per (MG.d m)) && (wa0 (DT.dev (MG.d m)) && numF (DT.num (MG.d m))))) (R (.int .i64 114) []) z1) z1);letI z0:=(wab (decide z5) (wab (!(decide (VT.o (MG.v m)=[]) && (decide (VT.p (MG.v m)=[]) && (decide (VT.per (MG.v m)=(0:Int)) && (decide (VT.day (MG.v m)=(0:Int)) && (decide (VT.st (MG.v m)=(0:Int)) && (decide (VT.pr (MG.v m)=(0:Int)) && decide (VT.rep (MG.v m)=[])))))))) (R (.int .i64 113) []) z2) z2);letI z3:=(wab (decide z4) (List.length (VT.o (MG.v m))<4294967281∧wab (!visF (VT.mk (VT.o (MG.v m)) (VT.p (MG.v m)) (VT.per (MG.v m)) (VT.day (MG.v m)) (VT.st (MG.v m)) (VT.pr (MG.v m)) (VT.rep (MG.v m)))) (R (.int .i64 113) []) z0) z0);List.length (MG.dev m)≤9223372036854775806∧wab (!wa0 (MG.dev m)) (R (.int .i64 110) []) (wab (decide (MG.seq m<(1:Int))) (R (.int .i64 111) []) (wab (decide ((1048576:Int)<MG.seq m)) (R (.int .i64 111) []) (wab (!decide z4) (wab (!decide z5) (R (.int .i64 112) []) z3) z3)))):=by kernel_rfl
theorem wwn (hP:C.P=Tryz.prog):wag C 128 wfm:=by
 rintro args objs U Os vc h hvc
 unfold wfm at h
 split at h<;>simp only [Option.some.injEq,Prod.mk.injEq,reduceCtorEq] at h
 rename_i o p per day st pr rep
 obtain ⟨rfl,rfl,rfl⟩:=h
 refine wag.wp0 (prg hP) [(130,.det web),(162,.det wcl)] 0 (.cons (wjk hP) (.cons (wry hP) .nil)) (hP ▸ Tryz.func128) rfl rfl rfl ?_
 rw [wyj]
 refine ⟨hvc,wcd (fun h1=>?_) (fun h1=>waj (fun h2=>?_) (fun h2=>waj (fun h3=>?_) (fun h3=>?_)))⟩
 ·unfold visF;simp [h1]
 ·unfold visF;simp [show ¬ 0≤day by omega]
 ·unfold visF;simp [show ¬ day≤182620 by omega]
 have hv:visF ⟨o,p,per,day,st,pr,rep⟩=(bif decide (st=1) || decide (st=2) then decide (1≤pr) && decide (pr≤1099511627776) && decide (rep=[])
  else bif decide (st=3) || decide (st=4) then decide (pr=0) && decide (rep=[])
  else bif decide (st=5) then decide (1≤pr) && decide (pr≤1099511627776) && wa9 rep && !decide (rep=p) else false):=by
  unfold visF;simp only [h1,Bool.true_and,decide_eq_true (show 0≤day by omega),decide_eq_true (show day≤182620 by omega)]
 rw [hv]
 clear hv h1 h2 h3
 by_cases s1:st=1
 ·subst s1
  generalize decide (1≤pr)=b1,decide (pr≤1099511627776)=b2,decide (pr=0)=b3,decide (rep=p)=b4,decide (rep=[])=b5,wa9 rep=b6
  cases b1<;>cases b2<;>exact ⟨rfl,rfl⟩
 by_cases s2:st=2
 ·subst s2
  generalize decide (1≤pr)=b1,decide (pr≤1099511627776)=b2,decide (pr=0)=b3,decide (rep=p)=b4,decide (rep=[])=b5,wa9 rep=b6
  cases b1<;>cases b2<;>exact ⟨rfl,rfl⟩
 by_cases s3:st=3
 ·subst s3
  generalize decide (1≤pr)=b1,decide (pr≤1099511627776)=b2,decide (pr=0)=b3,decide (rep=p)=b4,decide (rep=[])=b5,wa9 rep=b6
  cases b3<;>exact ⟨rfl,rfl⟩
 by_cases s4:st=4
 ·subst s4
  generalize decide (1≤pr)=b1,decide (pr≤1099511627776)=b2,decide (pr=0)=b3,decide (rep=p)=b4,decide (rep=[])=b5,wa9 rep=b6
  cases b3<;>exact ⟨rfl,rfl⟩
 by_cases s5:st=5
 ·subst s5
  generalize decide (1≤pr)=b1,decide (pr≤1099511627776)=b2,decide (pr=0)=b3,decide (rep=p)=b4,decide (rep=[])=b5,wa9 rep=b6
  cases b1<;>cases b2<;>cases b6<;>first | exact ⟨rfl,rfl⟩ | exact ⟨trivial,rfl,rfl⟩
 rw [decide_eq_false s1,decide_eq_false s2,decide_eq_false s3,decide_eq_false s4,decide_eq_false s5]
 exact ⟨rfl,rfl⟩
theorem decR_ok (hP:C.P=Tryz.prog):wag C 129 wm1:=by
 rintro args objs U Os vc h hvc
 unfold wm1 at h
 split at h<;>simp only [Option.some.injEq,Prod.mk.injEq,reduceCtorEq] at h
 rename_i o p per dev num
 obtain ⟨rfl,rfl,rfl⟩:=h
 refine wag.wp0 (prg hP) [(130,.det web),(75,.det wed)] 0 (.cons (wjk hP) (.cons (wj5 hP) .nil)) (hP ▸ Tryz.func129) rfl rfl rfl ?_
 rw [nf_decR]
 unfold numF
 generalize wbg o p per=b1,wa0 dev=b2,decide (1≤num)=b3,decide (num≤1048576)=b4
 refine ⟨hvc.1,?_⟩
 cases b1
 ·exact ⟨rfl,rfl⟩
 refine ⟨by omega,?_⟩
 cases b2<;>cases b3<;>exact ⟨rfl,rfl⟩
theorem msgR_ok (hP:C.P=Tryz.prog):wag C 76 wde:=by
 rintro args objs U Os vc h hvc
 unfold wde at h
 split at h<;>simp only [Option.some.injEq,Prod.mk.injEq,reduceCtorEq] at h
 rename_i dev seq kind o p per day st pr rep o2 p2 per2 dev2 num
 obtain ⟨rfl,rfl,rfl⟩:=h
 refine wag.wp0 (prg hP) [(75,.det wed),(128,.det wfm),(129,.det wm1)] 0 (.cons (wj5 hP) (.cons (wwn hP) (.cons (decR_ok hP) .nil))) (hP ▸ Tryz.func76) rfl rfl rfl ?_
 have nf:=fun R=>nf_msgR ⟨dev,seq,kind,⟨o,p,per,day,st,pr,rep⟩,⟨o2,p2,per2,dev2,num⟩⟩ R
 refine (nf _).mpr ?_
 clear nf
 obtain ⟨l1,l2,l3,l4⟩:=hvc
 unfold msgF VT.nil DT.nil
 dsimp only
 generalize (decide (o=[]) && (decide (p=[]) && (decide (per=0) && (decide (day=0) && (decide (st=0) && (decide (pr=0) && decide (rep=[])))))))=vn
 generalize (decide (o2=[]) && (decide (p2=[]) && (decide (per2=0) && (decide (dev2=[]) && decide (num=0)))))=dn
 generalize wa0 dev=b1,visF ⟨o,p,per,day,st,pr,rep⟩=b3,wbg o2 p2 per2=b4,wa0 dev2=b5,numF num=b6
 refine ⟨by omega,?_⟩
 cases b1
 ·exact ⟨rfl,rfl⟩
 by_cases s1:seq<1
 ·rw [show numF seq=false by unfold numF;rw [decide_eq_false (show ¬ 1≤seq by omega)];rfl,decide_eq_true s1];exact ⟨rfl,rfl⟩
 by_cases s2:1048576<seq
 ·rw [show numF seq=false by unfold numF;rw [decide_eq_false (show ¬ seq≤1048576 by omega),Bool.and_false],decide_eq_false s1,decide_eq_true s2];exact ⟨rfl,rfl⟩
 rw [show numF seq=true by unfold numF;rw [decide_eq_true (show 1≤seq by omega),decide_eq_true (show seq≤1048576 by omega)];rfl,decide_eq_false s1,decide_eq_false s2]
 by_cases k1:kind=1
 ·subst k1
  refine ⟨l2,?_⟩
  cases b3<;>cases dn<;>exact ⟨rfl,rfl⟩
 by_cases k2:kind=2
 ·subst k2
  cases vn
  ·exact ⟨rfl,rfl⟩
  refine ⟨⟨l3,l4⟩,?_⟩
  cases b4<;>cases b5<;>cases b6<;>exact ⟨rfl,rfl⟩
 rw [decide_eq_false k1,decide_eq_false k2]
 exact ⟨rfl,rfl⟩
end Go.Eng
