/- Tariffs and rates: what is right of them. -/
import Derived.Test.YtgcboligphndhaaGreatDoorUv
import Derived.Test.YtgcboligphndhaaGreatDoorUx
import Derived.Test.YtgcboligphndhaaGreatDoorUl
import Derived.Lib.Builder
import Derived.WalkKit
import Derived.Test.YtgcboligphndhaaGreatDoorUu
import Derived.Test.YtgcboligphndhaaGreatDoorUm
import Derived.Below
import Derived.Test.YtgcboligphndhaaGreatDoorUt
import Derived.Test.YtgcboligphndhaaGreatDoorUw
import Derived.Test.YtgcboligphndhaaGreatDoorUr
namespace Go.Eng
open Go.Proofs Go.RowKit
variable {C:Ctx} [C.Loose]
set_option maxRecDepth 20000
theorem wyf (g:Nat→FL) (n k:Nat) (F:FL) (c j:Nat) (P:Nat→Prop) (R:Exit→St→Prop):wa1 ⟨te,[],[],0,221,0⟩ (wa2 Tryz.f28 7) [3,5,6,17,18,19,43,44,45] [3,5,6,17,18,19] [] (wlj g n k F c) P R (wlj g n k F c j)=(letI z11:=waf (atM (FL.ms F));letI z10:=List.take 30 (FL.id F);letI z9:=waf (cutM (atM (FL.ms F)));letI z1:=([.str (FL.id F),.int .i64 (FL.ver F),.int .i64 (FL.day F),.int .i64 (FL.kind F),.view 15 (List.length (FL.ms F)) z11,.view 5 (List.length (FL.rs F)) (wai (atR (FL.rs F))),.view 5 (List.length (FL.ts F)) (wah (atT (FL.ts F)))]:List AV);letI z0:=(atM (FL.ms F) (Int.toNat (↑j:Int)));letI z8:=(↑(List.length (MG.dev z0)):Int);letI z7:=(↑(List.length (DT.p (MG.d z0))):Int);letI z6:=(↑(List.length (VT.p (MG.v z0))):Int);letI z5:=(↑(List.length (DT.o (MG.d z0))):Int);letI z4:=(↑(List.length (VT.o (MG.v z0))):Int);letI z3:=(↑(List.length (DT.dev (MG.d z0))):Int);letI z2:=(↑(List.length (VT.rep (MG.v z0))):Int);wad (decide ((↑j:Int)<(↑c:Int))) (((0:Int)≤(↑j:Int)∧(↑j:Int)<(↑c:Int)∧15=15)∧((0:Int)≤min z8 (30:Int)∧min z8 (30:Int)≤z8)∧((0:Int)≤min z4 (30:Int)∧min z4 (30:Int)≤z4)∧((0:Int)≤min z5 (30:Int)∧min z5 (30:Int)≤z5)∧((0:Int)≤min z6 (30:Int)∧min z6 (30:Int)≤z6)∧((0:Int)≤min z7 (30:Int)∧min z7 (30:Int)≤z7)∧((0:Int)≤min z2 (30:Int)∧min z2 (30:Int)≤z2)∧((0:Int)≤min z3 (30:Int)∧min z3 (30:Int)≤z3)∧(15≤16777216∧15=15∧1≤9223372036854775807)∧((1≤1∧15=15)∧j≤j∧15=15∧40=40∧15=15∧j+1≤9223372036854775807∧(j+1) * TI.bytes wf9≤140737488355328)∧inR .i64 ((↑j:Int)+(1:Int))∧∃ (i':Nat),(TEq [(3,.own 0 k),(5,.ptr 1 0),(6,.ptr 2 0),(17,.view 7 n (wab g)),(18,.int .i64 (↑n:Int)),(19,.int .i64 (↑k:Int)),(43,.view 15 c z11),(44,.int .i64 (↑c:Int)),(45,.int .i64 ((↑j:Int)+(1:Int)))] [(3,.own 0 k),(5,.ptr 1 0),(6,.ptr 2 0),(17,.view 7 n (wab g)),(18,.int .i64 (↑n:Int)),(19,.int .i64 (↑k:Int)),(43,.view 15 c z11),(44,.int .i64 (↑c:Int)),(45,.int .i64 (↑i':Int))]∧wae [(0,.row 49 7 k (wab (cutG g)) false),(1,.cells z1 49),(2,.cells [.str z10,.int .i64 (FL.ver F),.int .i64 (FL.day F),.int .i64 (FL.kind F),.own 3 (j+1),.nil,.nil] 49),(3,.row 40 15 (j+1) (apF j z9 (wap (TI.sz wf9) (.str (List.take (Int.toNat (min z8 (30:Int))) (MG.dev z0)):: .int .i64 (MG.seq z0):: .int .i64 (MG.kind z0):: .str (List.take (Int.toNat (min z4 (30:Int))) (VT.o (MG.v z0))):: .str (List.take (Int.toNat (min z6 (30:Int))) (VT.p (MG.v z0))):: .int .i64 (VT.per (MG.v z0)):: .int .i64 (VT.day (MG.v z0)):: .int .i64 (VT.st (MG.v z0)):: .int .i64 (VT.pr (MG.v z0)):: .str (List.take (Int.toNat (min z2 (30:Int))) (VT.rep (MG.v z0))):: .str (List.take (Int.toNat (min z5 (30:Int))) (DT.o (MG.d z0))):: .str (List.take (Int.toNat (min z7 (30:Int))) (DT.p (MG.d z0))):: .int .i64 (DT.per (MG.d z0)):: .str (List.take (Int.toNat (min z3 (30:Int))) (DT.dev (MG.d z0))):: .int .i64 (DT.num (MG.d z0))::List.append [] (List.flatten (List.replicate (nat_lit 0) [.str ([]),.int .i64 0,.int .i64 0,.str ([]),.str ([]),.int .i64 0,.int .i64 0,.int .i64 0,.int .i64 0,.str ([]),.str ([]),.str ([]),.int .i64 0,.str ([]),.int .i64 0]))))) false)] [(0,.row 49 7 k (wab (cutG g)) false),(1,.cells z1 49),(2,.cells [.str z10,.int .i64 (FL.ver F),.int .i64 (FL.day F),.int .i64 (FL.kind F),.own 3 i',.nil,.nil] 49),(3,.row 40 15 i' z9 false)])∧P i') ((∀ (i:Nat),i<k→true=true)∧(∀ (i:Nat),i<j→true=true)∧∃ (O':List (Nat×AObj)),wae [(0,.row 49 7 k (wab (cutG g)) false),(1,.cells z1 49),(2,.cells [.str z10,.int .i64 (FL.ver F),.int .i64 (FL.day F),.int .i64 (FL.kind F),.own 3 j,.nil,.nil] 49),(3,.row 40 15 j z9 false)] O'∧R (.exit 2) (St.mk [(3,.own 0 k),(5,.ptr 1 0),(6,.ptr 2 0),(17,.view 7 n (wab g)),(18,.int .i64 (↑n:Int)),(19,.int .i64 (↑k:Int))] O' 4 []))):=by kernel_rfl
theorem wye (g:Nat→FL) (n k:Nat) (F:FL) (c j:Nat) (P:Nat→Prop) (R:Exit→St→Prop):wa1 ⟨te,[],[],0,221,0⟩ (wa2 Tryz.f28 15) [3,5,6,17,18,19,136,137,138] [3,5,6,17,18,19] [] (wli g n k F c) P R (wli g n k F c j)=(letI z8:=wai (atR (FL.rs F));letI z7:=List.take 30 (FL.id F);letI z6:=wai (cutR (atR (FL.rs F)));letI z5:=waf (atM (FL.ms (cutF F)));letI z2:=List.length (FL.ms (cutF F));letI z1:=(atR (FL.rs F) (Int.toNat (↑j:Int)));letI z4:=(↑(List.length (RW.p z1)):Int);letI z3:=(↑(List.length (RW.o z1)):Int);letI z0:=([.str (FL.id F),.int .i64 (FL.ver F),.int .i64 (FL.day F),.int .i64 (FL.kind F),.view 15 (List.length (FL.ms F)) (waf (atM (FL.ms F))),.view 5 (List.length (FL.rs F)) z8,.view 5 (List.length (FL.ts F)) (wah (atT (FL.ts F)))]:List AV);wad (decide ((↑j:Int)<(↑c:Int))) (((0:Int)≤(↑j:Int)∧(↑j:Int)<(↑c:Int)∧5=5)∧((0:Int)≤min z3 (30:Int)∧min z3 (30:Int)≤z3)∧((0:Int)≤min z4 (30:Int)∧min z4 (30:Int)≤z4)∧(5≤16777216∧5=5∧1≤9223372036854775807)∧((1≤1∧5=5)∧j≤j∧5=5∧61=61∧5=5∧j+1≤9223372036854775807∧(j+1) * TI.bytes wdq≤140737488355328)∧inR .i64 ((↑j:Int)+(1:Int))∧∃ (i':Nat),(TEq [(3,.own 0 k),(5,.ptr 1 0),(6,.ptr 2 0),(17,.view 7 n (wab g)),(18,.int .i64 (↑n:Int)),(19,.int .i64 (↑k:Int)),(136,.view 5 c z8),(137,.int .i64 (↑c:Int)),(138,.int .i64 ((↑j:Int)+(1:Int)))] [(3,.own 0 k),(5,.ptr 1 0),(6,.ptr 2 0),(17,.view 7 n (wab g)),(18,.int .i64 (↑n:Int)),(19,.int .i64 (↑k:Int)),(136,.view 5 c z8),(137,.int .i64 (↑c:Int)),(138,.int .i64 (↑i':Int))]∧wae [(0,.row 49 7 k (wab (cutG g)) false),(1,.cells z0 49),(2,.cells [.str z7,.int .i64 (FL.ver F),.int .i64 (FL.day F),.int .i64 (FL.kind F),.own 3 z2,.own 4 (j+1),.nil] 49),(3,.row 40 15 z2 z5 false),(4,.row 61 5 (j+1) (apF j z6 (wap (TI.sz wdq) (.str (List.take (Int.toNat (min z3 (30:Int))) (RW.o z1)):: .str (List.take (Int.toNat (min z4 (30:Int))) (RW.p z1)):: .int .i64 (RW.per z1):: .int .i64 (RW.u z1):: .int .i64 (RW.tv z1)::List.append [] (List.flatten (List.replicate (nat_lit 0) [.str ([]),.str ([]),.int .i64 0,.int .i64 0,.int .i64 0]))))) false)] [(0,.row 49 7 k (wab (cutG g)) false),(1,.cells z0 49),(2,.cells [.str z7,.int .i64 (FL.ver F),.int .i64 (FL.day F),.int .i64 (FL.kind F),.own 3 z2,.own 4 i',.nil] 49),(3,.row 40 15 z2 z5 false),(4,.row 61 5 i' z6 false)])∧P i') ((∀ (i:Nat),i<k→true=true)∧(∀ (i:Nat),i<List.length (FL.ms (cutF F))→true=true)∧(∀ (i:Nat),i<j→true=true)∧∃ (O':List (Nat×AObj)),wae [(0,.row 49 7 k (wab (cutG g)) false),(1,.cells z0 49),(2,.cells [.str z7,.int .i64 (FL.ver F),.int .i64 (FL.day F),.int .i64 (FL.kind F),.own 3 z2,.own 4 j,.nil] 49),(3,.row 40 15 z2 z5 false),(4,.row 61 5 j z6 false)] O'∧R (.exit 4) (St.mk [(3,.own 0 k),(5,.ptr 1 0),(6,.ptr 2 0),(17,.view 7 n (wab g)),(18,.int .i64 (↑n:Int)),(19,.int .i64 (↑k:Int))] O' 5 []))):=by kernel_rfl
theorem wyc (g:Nat→FL) (n k:Nat) (F:FL) (c j:Nat) (P:Nat→Prop) (R:Exit→St→Prop):wa1 ⟨te,[],[(1024,wnj g n k F c j)],0,221,0⟩ (wa2 Tryz.f28 21) [3,6,17,18,19,171,172,173] [3,6,17,18,19] [] (wgz g n k F c) P R (wgz g n k F c j)=(letI z15:=wah (atT (FL.ts F));letI z14:=List.take 30 (FL.id F);letI z13:=RT.bs (wb7 (atT (FL.ts F) j));letI z11:=wah (cutT (atT (FL.ts F)));letI z10:=wai (atR (FL.rs (cutF F)));letI z9:=waf (atM (FL.ms (cutF F)));letI z5:=List.length (FL.rs (cutF F));letI z4:=List.length (FL.ms (cutF F));letI z6:=([.str z14,.int .i64 (FL.ver F),.int .i64 (FL.day F),.int .i64 (FL.kind F),.own 2 z4,.own 3 z5,.own 4 (j+1)]:List AV);letI z3:=([(3,.own 0 k),(6,.ptr 1 0),(17,.view 7 n (wab g)),(18,.int .i64 (↑n:Int)),(19,.int .i64 (↑k:Int)),(171,.view 5 c z15),(172,.int .i64 (↑c:Int)),(173,.int .i64 (↑j:Int))]:List (Nat×AV));letI z1:=([(0,.row 49 7 k (wab (cutG g)) false),(1,.cells z6 49),(2,.row 40 15 z4 z9 false),(3,.row 61 5 z5 z10 false),(4,.row 97 5 (j+1) z11 false)]:List (Nat×AObj));letI z0:=(atT (FL.ts F) (Int.toNat (↑j:Int)));letI z8:=(↑(List.length (RT.p z0)):Int);letI z7:=(↑(List.length (RT.o z0)):Int);letI z2:=(↑(List.length (RT.bs z0)):Int);letI z12:=(min z2 (9:Int));wad (decide ((↑j:Int)<(↑c:Int))) (((0:Int)≤(↑j:Int)∧(↑j:Int)<(↑c:Int)∧5=5)∧((0:Int)≤min z7 (30:Int)∧min z7 (30:Int)≤z7)∧((0:Int)≤min z8 (30:Int)∧min z8 (30:Int)≤z8)∧(0≤16777216∧2=2∧0≤9223372036854775807)∧((0:Int)≤min z2 (9:Int)∧min z2 (9:Int)≤z2)∧(2=2∧0≤0∧2=2∧115=115∧2=2∧0+Int.toNat z12≤9223372036854775807∧(0+Int.toNat z12) * TI.bytes wfj≤140737488355328)∧(5≤16777216∧5=5∧1≤9223372036854775807)∧((1≤1∧5=5)∧j≤j∧5=5∧97=97∧5=5∧j+1≤9223372036854775807∧(j+1) * TI.bytes wf8≤140737488355328)∧(∀ (i:Nat),i<0+Int.toNat z12→[AV.int .i64 (BK.up (atB z13 i)),.int .i64 (BK.pr (atB z13 i))]=[.int .i64 (BK.up (atB (RT.bs z0) (i - 0))),.int .i64 (BK.pr (atB (RT.bs z0) (i - 0)))])∧(∀ (i:Nat),i<0+Int.toNat z12→true=true)∧(TEq z3 z3∧wae [(0,.row 49 7 k (wab (cutG g)) false),(1,.cells z6 49),(2,.row 40 15 z4 z9 false),(3,.row 61 5 z5 z10 false),(4,.row 97 5 (j+1) (fun (i:Nat)=>List.map (frz 503 2 (0+Int.toNat z12) (waw (atB z13))) (apF j z11 (wap (TI.sz wf8) (.str (List.take (Int.toNat (min z7 (30:Int))) (RT.o z0)):: .str (List.take (Int.toNat (min z8 (30:Int))) (RT.p z0)):: .int .i64 (RT.per z0):: .int .i64 (RT.st z0):: .own 503 (0+Int.toNat z12)::List.append [] (List.flatten (List.replicate (nat_lit 0) [.str ([]),.str ([]),.int .i64 0,.int .i64 0,.nil])))) i)) false)] z1)∧j≤100∧∃ (i':Nat),(TEq [(3,.own 0 k),(6,.ptr 1 0),(17,.view 7 n (wab g)),(18,.int .i64 (↑n:Int)),(19,.int .i64 (↑k:Int)),(171,.view 5 c z15),(172,.int .i64 (↑c:Int)),(173,.int .i64 (↑(j+1):Int))] [(3,.own 0 k),(6,.ptr 1 0),(17,.view 7 n (wab g)),(18,.int .i64 (↑n:Int)),(19,.int .i64 (↑k:Int)),(171,.view 5 c z15),(172,.int .i64 (↑c:Int)),(173,.int .i64 (↑i':Int))]∧wae z1 [(0,.row 49 7 k (wab (cutG g)) false),(1,.cells [.str z14,.int .i64 (FL.ver F),.int .i64 (FL.day F),.int .i64 (FL.kind F),.own 2 z4,.own 3 z5,.own 4 i'] 49),(2,.row 40 15 z4 z9 false),(3,.row 61 5 z5 z10 false),(4,.row 97 5 i' z11 false)])∧P i') ((∀ (i:Nat),i<k→true=true)∧(∀ (i:Nat),i<List.length (FL.ms (cutF F))→true=true)∧(∀ (i:Nat),i<List.length (FL.rs (cutF F))→true=true)∧(∀ (i:Nat),i<j→true=true)∧∃ (O':List (Nat×AObj)),wae [(0,.row 49 7 k (wab (cutG g)) false),(1,.cells [.str z14,.int .i64 (FL.ver F),.int .i64 (FL.day F),.int .i64 (FL.kind F),.own 2 z4,.own 3 z5,.own 4 j] 49),(2,.row 40 15 z4 z9 false),(3,.row 61 5 z5 z10 false),(4,.row 97 5 j z11 false)] O'∧R (.exit 6) (St.mk [(3,.own 0 k),(6,.ptr 1 0),(17,.view 7 n (wab g)),(18,.int .i64 (↑n:Int)),(19,.int .i64 (↑k:Int))] O' 5 []))):=by kernel_rfl
theorem nf_rw24 (g:Nat→FL) (n k:Nat) (F:FL) (c j:Nat) (Q:Exit→St→Prop):regP ⟨te,[],[],0,221,0⟩ (regC Tryz.f28 24) [3,6,17,18,19,171,172,173] Q (wqz g n k F c j)=(inR .i64 ((↑j:Int)+(1:Int))∧(∀ (i:Nat),i<k→true=true)∧(∀ (i:Nat),i<List.length (FL.ms (cutF F))→true=true)∧(∀ (i:Nat),i<List.length (FL.rs (cutF F))→true=true)∧(∀ (i:Nat),i<j+1→true=true)∧∃ (O':List (Nat×AObj)),wae [(0,.row 49 7 k (wab (cutG g)) false),(1,.cells [.str (List.take 30 (FL.id F)),.int .i64 (FL.ver F),.int .i64 (FL.day F),.int .i64 (FL.kind F),.own 2 (List.length (FL.ms (cutF F))),.own 3 (List.length (FL.rs (cutF F))),.own 4 (j+1)] 49),(2,.row 40 15 (List.length (FL.ms (cutF F))) (waf (atM (FL.ms (cutF F)))) false),(3,.row 61 5 (List.length (FL.rs (cutF F))) (wai (atR (FL.rs (cutF F)))) false),(4,.row 97 5 (j+1) (wah (cutT (atT (FL.ts F)))) false)] O'∧Q .normal (St.mk [(3,.own 0 k),(6,.ptr 1 0),(17,.view 7 n (wab g)),(18,.int .i64 (↑n:Int)),(19,.int .i64 (↑k:Int)),(171,.view 5 c (wah (atT (FL.ts F)))),(172,.int .i64 (↑c:Int)),(173,.int .i64 ((↑j:Int)+(1:Int)))] O' 5 [])):=by kernel_rfl
theorem nf_rw25 (g:Nat→FL) (n k:Nat) (F:FL) (Q:Exit→St→Prop):regP ⟨te,[],[],0,221,0⟩ (regC Tryz.f28 25) [3,17,18,19] Q (wlk g n k F)=(letI z0:=wap (TI.sz wdh) (.str (FL.id (cutF F)):: .int .i64 (FL.ver (cutF F)):: .int .i64 (FL.day (cutF F)):: .int .i64 (FL.kind (cutF F)):: .view 15 (List.length (FL.ms (cutF F))) (waf (atM (FL.ms (cutF F)))):: .view 5 (List.length (FL.rs (cutF F))) (wai (atR (FL.rs (cutF F)))):: .view 5 (List.length (FL.ts (cutF F))) (wah (atT (FL.ts (cutF F))))::List.append [] (List.flatten (List.replicate (nat_lit 0) [.str ([]),.int .i64 0,.int .i64 0,.int .i64 0,.nil,.nil,.nil])));(7≤16777216∧7=7∧1≤9223372036854775807)∧((1≤1∧7=7)∧k≤k∧7=7∧49=49∧7=7∧k+1≤9223372036854775807∧(k+1) * TI.bytes wdh≤140737488355328)∧(∀ (i:Nat),i<k+1→nrefL (apF k (wab (cutG g)) z0 i)=true)∧∃ (O':List (Nat×AObj)),wae [(0,.row 49 7 (k+1) (apF k (wab (cutG g)) z0) false)] O'∧Q .normal (St.mk [(3,.own 0 (k+1)),(17,.view 7 n (wab g)),(18,.int .i64 (↑n:Int)),(19,.int .i64 (↑k:Int))] O' 1 [])):=by kernel_rfl
theorem wyi (g:Nat→FL) (n k:Nat) (P:Nat→Prop) (R:Exit→St→Prop):wa1 ⟨te,[],[(7,wnh g n k (g k) (min (g k).ms.length 3)),(15,wng g n k (g k) (min (g k).rs.length 3)),(21,wne g n k (g k) (min (g k).ts.length 3)),(1025,wni g n k (g k))],0,221,0⟩ (wa2 Tryz.f28 3) [3,17,18,19] [3] [] (wlm g n) P R (wlm g n k)=(letI z17:=atT (FL.ts (g k));letI z16:=atR (FL.rs (g k));letI z15:=wai (atR (FL.rs (cutF (g k))));letI z14:=List.take 30 (FL.id (g k));letI z12:=List.length (FL.ms (g k));letI z11:=([(3,.own 0 k),(6,.ptr 1 0),(17,.view 7 n (wab g)),(18,.int .i64 (↑n:Int)),(19,.int .i64 (↑k:Int))]:List (Nat×AV));letI z10:=waf (atM (FL.ms (cutF (g k))));letI z9:=List.length (FL.rs (cutF (g k)));letI z5:=List.length (FL.ts (g k));letI z19:=(Int.toNat (min (↑z5:Int) (3:Int)));letI z4:=List.length (FL.rs (g k));letI z18:=(Int.toNat (min (↑z4:Int) (3:Int)));letI z3:=List.length (FL.ms (cutF (g k)));letI z7:=([.str z14,.int .i64 (FL.ver (g k)),.int .i64 (FL.day (g k)),.int .i64 (FL.kind (g k)),.own 3 z3,.own 4 0,.nil]:List AV);letI z6:=([.str z14,.int .i64 (FL.ver (g k)),.int .i64 (FL.day (g k)),.int .i64 (FL.kind (g k)),.own 2 z3,.own 3 z9,.own 4 0]:List AV);letI z2:=([(0,.row 49 7 k (wab (cutG g)) false),(1,.cells [.str z14,.int .i64 (FL.ver (g k)),.int .i64 (FL.day (g k)),.int .i64 (FL.kind (g k)),.own 2 z3,.own 3 z9,.own 4 (List.length (FL.ts (cutF (g k))))] 49),(2,.row 40 15 z3 z10 false),(3,.row 61 5 z9 z15 false),(4,.row 97 5 (List.length (FL.ts (cutF (g k)))) (wah (atT (FL.ts (cutF (g k))))) false)]:List (Nat×AObj));letI z1:=(g (Int.toNat (↑k:Int)));letI z13:=(↑(List.length (FL.id z1)):Int);letI z8:=(↑(List.length (FL.ms z1)):Int);letI z0:=([.str (FL.id (g k)),.int .i64 (FL.ver (g k)),.int .i64 (FL.day (g k)),.int .i64 (FL.kind (g k)),.view 15 z12 (waf (atM (FL.ms (g k)))),.view 5 z4 (wai z16),.view 5 z5 (wah z17)]:List AV);wad (decide ((↑k:Int)<(↑n:Int))) (((0:Int)≤(↑k:Int)∧(↑k:Int)<(↑n:Int)∧7=7)∧((0:Int)≤min z13 (30:Int)∧min z13 (30:Int)≤z13)∧((0:Int)≤min z8 (3:Int)∧min z8 (3:Int)≤z8)∧(TEq [(3,.own 0 k),(5,.ptr 1 0),(6,.ptr 2 0),(17,.view 7 n (wab g)),(18,.int .i64 (↑n:Int)),(19,.int .i64 (↑k:Int)),(43,.view 15 (Int.toNat (min z8 (3:Int))) (waf (atM (FL.ms z1)))),(44,.int .i64 (↑(Int.toNat (min z8 (3:Int))):Int)),(45,.int .i64 0)] [(3,.own 0 k),(5,.ptr 1 0),(6,.ptr 2 0),(17,.view 7 n (wab g)),(18,.int .i64 (↑n:Int)),(19,.int .i64 (↑k:Int)),(43,.view 15 (min z12 3) (waf (atM (FL.ms (g k))))),(44,.int .i64 (↑(min z12 3):Int)),(45,.int .i64 (↑0:Int))]∧wae [(0,.row 49 7 k (wab (cutG g)) false),(1,.cells [.str (FL.id z1),.int .i64 (FL.ver z1),.int .i64 (FL.day z1),.int .i64 (FL.kind z1),.view 15 (List.length (FL.ms z1)) (waf (atM (FL.ms z1))),.view 5 (List.length (FL.rs z1)) (wai (atR (FL.rs z1))),.view 5 (List.length (FL.ts z1)) (wah (atT (FL.ts z1)))] 49),(2,.cells [.str (List.take (Int.toNat (min z13 (30:Int))) (FL.id z1)),.int .i64 (FL.ver z1),.int .i64 (FL.day z1),.int .i64 (FL.kind z1),.own 3 0,.nil,.nil] 49),(3,.row 40 15 0 (fun (_x:Nat)=>[]) false)] [(0,.row 49 7 k (wab (cutG g)) false),(1,.cells z0 49),(2,.cells [.str z14,.int .i64 (FL.ver (g k)),.int .i64 (FL.day (g k)),.int .i64 (FL.kind (g k)),.own 3 0,.nil,.nil] 49),(3,.row 40 15 0 (waf (cutM (atM (FL.ms (g k))))) false)])∧min z12 3=min z12 3∧((0:Int)≤min (↑z4:Int) (3:Int)∧min (↑z4:Int) (3:Int)≤(↑z4:Int))∧(TEq [(3,.own 0 k),(5,.ptr 1 0),(6,.ptr 2 0),(17,.view 7 n (wab g)),(18,.int .i64 (↑n:Int)),(19,.int .i64 (↑k:Int)),(136,.view 5 z18 (wai z16)),(137,.int .i64 (↑z18:Int)),(138,.int .i64 0)] [(3,.own 0 k),(5,.ptr 1 0),(6,.ptr 2 0),(17,.view 7 n (wab g)),(18,.int .i64 (↑n:Int)),(19,.int .i64 (↑k:Int)),(136,.view 5 (min z4 3) (wai z16)),(137,.int .i64 (↑(min z4 3):Int)),(138,.int .i64 (↑0:Int))]∧wae [(0,.row 49 7 k (wab (cutG g)) false),(1,.cells z0 49),(2,.cells z7 49),(3,.row 40 15 z3 z10 false),(4,.row 61 5 0 (fun (_x:Nat)=>[]) false)] [(0,.row 49 7 k (wab (cutG g)) false),(1,.cells z0 49),(2,.cells z7 49),(3,.row 40 15 z3 z10 false),(4,.row 61 5 0 (wai (cutR z16)) false)])∧min z4 3=min z4 3∧((0:Int)≤min (↑z5:Int) (3:Int)∧min (↑z5:Int) (3:Int)≤(↑z5:Int))∧(TEq [(3,.own 0 k),(6,.ptr 1 0),(17,.view 7 n (wab g)),(18,.int .i64 (↑n:Int)),(19,.int .i64 (↑k:Int)),(171,.view 5 z19 (wah z17)),(172,.int .i64 (↑z19:Int)),(173,.int .i64 0)] [(3,.own 0 k),(6,.ptr 1 0),(17,.view 7 n (wab g)),(18,.int .i64 (↑n:Int)),(19,.int .i64 (↑k:Int)),(171,.view 5 (min z5 3) (wah z17)),(172,.int .i64 (↑(min z5 3):Int)),(173,.int .i64 (↑0:Int))]∧wae [(0,.row 49 7 k (wab (cutG g)) false),(1,.cells z6 49),(2,.row 40 15 z3 z10 false),(3,.row 61 5 z9 z15 false),(4,.row 97 5 0 (fun (_x:Nat)=>[]) false)] [(0,.row 49 7 k (wab (cutG g)) false),(1,.cells z6 49),(2,.row 40 15 z3 z10 false),(3,.row 61 5 z9 z15 false),(4,.row 97 5 0 (wah (cutT z17)) false)])∧min z5 3=min z5 3∧(TEq z11 z11∧wae z2 z2)∧k≤100∧g k=g k∧inR .i64 ((↑k:Int)+(1:Int))∧∃ (i':Nat),(TEq [(3,.own 0 (k+1)),(17,.view 7 n (wab g)),(18,.int .i64 (↑n:Int)),(19,.int .i64 ((↑k:Int)+(1:Int)))] [(3,.own 0 i'),(17,.view 7 n (wab g)),(18,.int .i64 (↑n:Int)),(19,.int .i64 (↑i':Int))]∧wae [(0,.row 49 7 (k+1) (wab (cutG g)) false)] [(0,.row 49 7 i' (wab (cutG g)) false)])∧P i') ((∀ (i:Nat),i<k→true=true)∧∃ (O':List (Nat×AObj)),wae [(0,.row 49 7 k (wab (cutG g)) false)] O'∧R (.exit 0) (St.mk [(3,.own 0 k)] O' 1 []))):=by kernel_rfl
theorem wyg (g:Nat→FL) (n:Nat) (R:AV→List (Nat×AObj)→Prop):wpFn te [] [(3,wnk g (min n 6))] 0 Tryz.f28 [.view 7 n (wab g)] [] R=(((0:Int)≤min (↑n:Int) (6:Int)∧min (↑n:Int) (6:Int)≤(↑n:Int))∧(TEq [(3,.own 0 0),(17,.view 7 (Int.toNat (min (↑n:Int) (6:Int))) (wab g)),(18,.int .i64 (↑(Int.toNat (min (↑n:Int) (6:Int))):Int)),(19,.int .i64 0)] [(3,.own 0 0),(17,.view 7 (min n 6) (wab g)),(18,.int .i64 (↑(min n 6):Int)),(19,.int .i64 (↑0:Int))]∧wae [(0,.row 49 7 0 (fun (_x:Nat)=>[]) false)] [(0,.row 49 7 0 (wab (cutG g)) false)])∧min n 6≤6∧(∀ (i:Nat),i<min n 6→true=true)∧∃ (O':List (Nat×AObj)),wae [(0,.row 49 7 (min n 6) (wab (cutG g)) false)] O'∧R (.own 0 (min n 6)) O'):=by kernel_rfl
theorem cut_ms (F:FL):(cutF F).ms.length=min F.ms.length 3:=by
 show ((F.ms.take 3).map wf0).length=_
 rw [List.length_map,List.length_take];omega
theorem cut_rs (F:FL):(cutF F).rs.length=min F.rs.length 3:=by
 show ((F.rs.take 3).map wgn).length=_
 rw [List.length_map,List.length_take];omega
theorem cut_ts (F:FL):(cutF F).ts.length=min F.ts.length 3:=by
 show ((F.ts.take 3).map wb7).length=_
 rw [List.length_map,List.length_take];omega
theorem cut_m (F:FL) {i:Nat} (h:i<(cutF F).ms.length):waf (cutM (atM F.ms)) i=waf (atM (cutF F).ms) i:=by
 rw [cut_ms] at h
 have e:atM (cutF F).ms i=wf0 (atM F.ms i):=wqj _ _ wf0 F.ms 3 i (by omega)
 show mgC (wf0 (atM F.ms i))=mgC (atM (cutF F).ms i)
 rw [e]
theorem cut_r (F:FL) {i:Nat} (h:i<(cutF F).rs.length):wai (cutR (atR F.rs)) i=wai (atR (cutF F).rs) i:=by
 rw [cut_rs] at h
 have e:atR (cutF F).rs i=wgn (atR F.rs i):=wqj _ _ wgn F.rs 3 i (by omega)
 unfold wai
 rw [e];rfl
theorem cut_t (F:FL) {i:Nat} (h:i<(cutF F).ts.length):wah (cutT (atT F.ts)) i=wah (atT (cutF F).ts) i:=by
 rw [cut_ts] at h
 have e:atT (cutF F).ts i=wb7 (atT F.ts i):=wqj _ _ wb7 F.ts 3 i (by omega)
 unfold wah
 rw [e];rfl
theorem wwz (hP:C.P=Tryz.prog) (g:Nat→FL) (n k:Nat) (F:FL) (c:Nat):waj C 0 221 (wal Tryz.f28 7) (wnh g n k F c):=by
 have _:C.Loose:=inferInstance
 rintro st Q ⟨h0,hc,hQ⟩
 refine AWP.ownNilP 6 4 40 15 ?_
 refine waj.mk (prg hP) [] 0 .nil [3,5,6,17,18,19,43,44,45] [3,5,6,17,18,19] [] (wlj g n k F c) (fun j=>j≤c) (fun j=>c - j) 0 (Nat.zero_le _) h0 (fun j hj=>?_) (fun i=>⟨fun _ _=>rfl,fun _ _=>rfl,trivial⟩)
 rw [wyf,Int.toNat_natCast,wc5,wc5,wc5,wc5,wc5,wc5,wc5]
 refine wam (fun h1=>⟨⟨by omega,by omega,rfl⟩,⟨by omega,by omega⟩,⟨by omega,by omega⟩,⟨by omega,by omega⟩,⟨by omega,by omega⟩,⟨by omega,by omega⟩,⟨by omega,by omega⟩,⟨by omega,by omega⟩,⟨by omega,rfl,by omega⟩,⟨⟨Nat.le_refl _,rfl⟩,Nat.le_refl _,rfl,rfl,rfl,by omega,?_⟩,by simp only [inR];omega,j+1,⟨rfl,⟨rfl,rfl,rfl,rfl,rfl,fun _ _=>rfl⟩,rfl,rfl,⟨rfl,rfl,rfl,rfl,rfl,fun i hi=>?_⟩,trivial⟩,by omega,by omega⟩) (fun h1=>?_)
 ·show (j+1) * 176≤_
  omega
 ·unfold apF
  by_cases h:i<j
  ·rw [if_pos h]
  ·have:i=j:=by omega
   rw [if_neg h,this,Nat.sub_self];rfl
 ·have:j=(cutF F).ms.length:=by rw [cut_ms];omega
  subst this
  refine ⟨fun _ _=>rfl,fun _ _=>rfl,_,?_,hQ⟩
  exact ⟨⟨rfl,rfl,rfl,rfl,rfl,fun _ _=>rfl⟩,rfl,rfl,⟨rfl,rfl,rfl,rfl,rfl,fun i hi=>cut_m F hi⟩,trivial⟩
theorem wwy (hP:C.P=Tryz.prog) (g:Nat→FL) (n k:Nat) (F:FL) (c:Nat):waj C 0 221 (wal Tryz.f28 15) (wng g n k F c):=by
 have _:C.Loose:=inferInstance
 rintro st Q ⟨h0,hc,hQ⟩
 refine AWP.ownNilP 6 5 61 5 ?_
 refine waj.mk (prg hP) [] 0 .nil [3,5,6,17,18,19,136,137,138] [3,5,6,17,18,19] [] (wli g n k F c) (fun j=>j≤c) (fun j=>c - j) 0 (Nat.zero_le _) h0 (fun j hj=>?_) (fun i=>⟨fun _ _=>rfl,fun _ _=>rfl,fun _ _=>rfl,trivial⟩)
 rw [wye,Int.toNat_natCast,wc5,wc5]
 refine wam (fun h1=>⟨⟨by omega,by omega,rfl⟩,⟨by omega,by omega⟩,⟨by omega,by omega⟩,⟨by omega,rfl,by omega⟩,⟨⟨Nat.le_refl _,rfl⟩,Nat.le_refl _,rfl,rfl,rfl,by omega,?_⟩,by simp only [inR];omega,j+1,⟨rfl,⟨rfl,rfl,rfl,rfl,rfl,fun _ _=>rfl⟩,rfl,rfl,⟨rfl,rfl,rfl,rfl,rfl,fun _ _=>rfl⟩,⟨rfl,rfl,rfl,rfl,rfl,fun i hi=>?_⟩,trivial⟩,by omega,by omega⟩) (fun h1=>?_)
 ·show (j+1) * 56≤_
  omega
 ·unfold apF
  by_cases h:i<j
  ·rw [if_pos h]
  ·have:i=j:=by omega
   rw [if_neg h,this,Nat.sub_self];rfl
 ·have:j=(cutF F).rs.length:=by rw [cut_rs];omega
  subst this
  refine ⟨fun _ _=>rfl,fun _ _=>rfl,fun _ _=>rfl,_,?_,hQ⟩
  exact ⟨⟨rfl,rfl,rfl,rfl,rfl,fun _ _=>rfl⟩,rfl,rfl,⟨rfl,rfl,rfl,rfl,rfl,fun _ _=>rfl⟩,⟨rfl,rfl,rfl,rfl,rfl,fun i hi=>cut_r F hi⟩,trivial⟩
theorem rw24_ok (hP:C.P=Tryz.prog) (g:Nat→FL) (n k:Nat) (F:FL) (c j:Nat):waj C 0 221 (regC Tryz.f28 24) (wnj g n k F c j):=by
 have _:C.Loose:=inferInstance
 rintro st Q ⟨h1,h2,h3,hj,hQ⟩
 refine AWP.rowFn 503 _ h1 (AWP.frzX 503 [567] h2 ?_)
 refine waj.reg (S:=wqz g n k F c j) (prg hP) [] 0 .nil [3,6,17,18,19,171,172,173] [3,6,17,18,19,171,172,173] h3 ?_ ⟨fun _ _=>rfl,fun _ _=>rfl,fun _ _=>rfl,fun _ _=>rfl,trivial⟩
 rw [nf_rw24]
 exact ⟨by simp only [inR];omega,fun _ _=>rfl,fun _ _=>rfl,fun _ _=>rfl,fun _ _=>rfl,_,wao _,hQ⟩
theorem cut_b (t:RT) {i:Nat} (h:i<(wb7 t).bs.length):atB (wb7 t).bs i=atB t.bs i:=by
 have h:i<(t.bs.take 9).length:=h
 rw [List.length_take] at h
 show (t.bs.take 9).getD i _=t.bs.getD i _
 have h1:i<t.bs.length:=by omega
 have h2:i<9:=by omega
 simp [List.getD_eq_getElem?_getD,h1,h2]
theorem www (hP:C.P=Tryz.prog) (g:Nat→FL) (n k:Nat) (F:FL) (c:Nat):waj C 0 221 (wal Tryz.f28 21) (wne g n k F c):=by
 rintro st Q ⟨h0,hc,hQ⟩
 refine AWP.ownNilP 6 6 97 5 ?_
 refine waj.mkI (prg hP) [] (fun j=>[(1024,wnj g n k F c j)]) 0 .nil (fun j=>[(regC Tryz.f28 24,wnj g n k F c j)]) (fun j=>by kernel_rfl) (fun j=>⟨rw24_ok hP g n k F c j,trivial⟩) [3,6,17,18,19,171,172,173] [3,6,17,18,19] [] (wgz g n k F c) (fun j=>j≤c) (fun j=>c - j) 0 (Nat.zero_le _) h0 (fun j hj=>?_) (fun i=>⟨fun _ _=>rfl,fun _ _=>rfl,fun _ _=>rfl,fun _ _=>rfl,trivial⟩)
 rw [wyc,Int.toNat_natCast,wc5,wc5]
 have eb:0+Int.toNat (min (((atT F.ts j).bs.length:Nat):Int) 9)=(wb7 (atT F.ts j)).bs.length:=by
  show _=((atT F.ts j).bs.take 9).length
  rw [List.length_take];omega
 rw [eb]
 have lb:(wb7 (atT F.ts j)).bs.length≤9:=by
  show ((atT F.ts j).bs.take 9).length≤9
  rw [List.length_take];omega
 refine wam (fun h1=>⟨⟨by omega,by omega,rfl⟩,⟨by omega,by omega⟩,⟨by omega,by omega⟩,⟨by omega,rfl,by omega⟩,⟨by omega,by omega⟩,⟨rfl,Nat.le_refl _,rfl,rfl,rfl,by omega,?_⟩,⟨by omega,rfl,by omega⟩,⟨⟨Nat.le_refl _,rfl⟩,Nat.le_refl _,rfl,rfl,rfl,by omega,?_⟩,fun i hi=>?_,fun _ _=>rfl,⟨rfl,⟨rfl,rfl,rfl,rfl,rfl,fun _ _=>rfl⟩,rfl,⟨rfl,rfl,rfl,rfl,rfl,fun _ _=>rfl⟩,⟨rfl,rfl,rfl,rfl,rfl,fun _ _=>rfl⟩,⟨rfl,rfl,rfl,rfl,rfl,fun i hi=>?_⟩,trivial⟩,by omega,j+1,⟨rfl,⟨rfl,rfl,rfl,rfl,rfl,fun _ _=>rfl⟩,rfl,⟨rfl,rfl,rfl,rfl,rfl,fun _ _=>rfl⟩,⟨rfl,rfl,rfl,rfl,rfl,fun _ _=>rfl⟩,⟨rfl,rfl,rfl,rfl,rfl,fun _ _=>rfl⟩,trivial⟩,by omega,by omega⟩) (fun h1=>?_)
 ·show _ * 16≤_
  omega
 ·show (j+1) * 72≤_
  omega
 ·rw [Nat.sub_zero,cut_b _ hi]
 ·have bb:Nat.ble (wb7 (atT F.ts j)).bs.length (wb7 (atT F.ts j)).bs.length=true:=Nat.ble_eq_true_of_le (Nat.le_refl _)
  show List.map _ (apF j _ _ i)=_
  unfold apF
  by_cases h:i<j
  ·rw [if_pos h];rfl
  ·have:i=j:=by omega
   subst this
   rw [if_neg h,Nat.sub_self]
   show [AV.str _,.str _,.int .i64 _,.int .i64 _,frz 503 2 (wb7 (atT F.ts i)).bs.length (waw (atB (wb7 (atT F.ts i)).bs)) (.own 503 (wb7 (atT F.ts i)).bs.length)]=_
   simp only [frz,bb]
   rfl
 ·have:j=(cutF F).ts.length:=by rw [cut_ts];omega
  subst this
  refine ⟨fun _ _=>rfl,fun _ _=>rfl,fun _ _=>rfl,fun _ _=>rfl,_,?_,hQ⟩
  exact ⟨⟨rfl,rfl,rfl,rfl,rfl,fun _ _=>rfl⟩,rfl,⟨rfl,rfl,rfl,rfl,rfl,fun _ _=>rfl⟩,⟨rfl,rfl,rfl,rfl,rfl,fun _ _=>rfl⟩,⟨rfl,rfl,rfl,rfl,rfl,fun i hi=>cut_t F hi⟩,trivial⟩
theorem rwb_frz (g:Nat→FL) (n k:Nat) (F:FL):frzX 2 [] (frzX 3 [] (frzX 4 [] (we7 g n k F)))=⟨(wlk g n k F).T,(wlk g n k F).O,5,[]⟩:=by
 have b1:Nat.ble (cutF F).ms.length (cutF F).ms.length=true:=Nat.ble_eq_true_of_le (Nat.le_refl _)
 have b2:Nat.ble (cutF F).rs.length (cutF F).rs.length=true:=Nat.ble_eq_true_of_le (Nat.le_refl _)
 have b3:Nat.ble (cutF F).ts.length (cutF F).ts.length=true:=Nat.ble_eq_true_of_le (Nat.le_refl _)
 have e4:frzX 4 [] (we7 g n k F)=⟨(we7 g n k F).T,[(0,.row 49 7 k (wab (cutG g)) false),
  (1,.cells [.str (F.id.take 30),.int .i64 F.ver,.int .i64 F.day,.int .i64 F.kind,.own 2 (cutF F).ms.length,.own 3 (cutF F).rs.length,.view 5 (cutF F).ts.length (wah (atT (cutF F).ts))] 49),
  (2,.row 40 15 (cutF F).ms.length (waf (atM (cutF F).ms)) false),(3,.row 61 5 (cutF F).rs.length (wai (atR (cutF F).rs)) false)],5,[]⟩:=by
   have:frzX 4 [] (we7 g n k F)=⟨(we7 g n k F).T,[(0,.row 49 7 k (wab (cutG g)) false),
    (1,.cells [.str (F.id.take 30),.int .i64 F.ver,.int .i64 F.day,.int .i64 F.kind,.own 2 (cutF F).ms.length,.own 3 (cutF F).rs.length,frz 4 5 (cutF F).ts.length (wah (atT (cutF F).ts)) (.own 4 (cutF F).ts.length)] 49),
    (2,.row 40 15 (cutF F).ms.length (waf (atM (cutF F).ms)) false),(3,.row 61 5 (cutF F).rs.length (wai (atR (cutF F).rs)) false)],5,[]⟩:=rfl
   rw [this]
   simp only [frz,b3]
   rfl
 rw [e4]
 have e3:frzX 3 [] ⟨(we7 g n k F).T,[(0,.row 49 7 k (wab (cutG g)) false),
  (1,.cells [.str (F.id.take 30),.int .i64 F.ver,.int .i64 F.day,.int .i64 F.kind,.own 2 (cutF F).ms.length,.own 3 (cutF F).rs.length,.view 5 (cutF F).ts.length (wah (atT (cutF F).ts))] 49),
  (2,.row 40 15 (cutF F).ms.length (waf (atM (cutF F).ms)) false),(3,.row 61 5 (cutF F).rs.length (wai (atR (cutF F).rs)) false)],5,[]⟩=⟨(we7 g n k F).T,[(0,.row 49 7 k (wab (cutG g)) false),
  (1,.cells [.str (F.id.take 30),.int .i64 F.ver,.int .i64 F.day,.int .i64 F.kind,.own 2 (cutF F).ms.length,.view 5 (cutF F).rs.length (wai (atR (cutF F).rs)),.view 5 (cutF F).ts.length (wah (atT (cutF F).ts))] 49),
  (2,.row 40 15 (cutF F).ms.length (waf (atM (cutF F).ms)) false)],5,[]⟩:=by
   show (⟨_,[_,(1,.cells [.str (F.id.take 30),.int .i64 F.ver,.int .i64 F.day,.int .i64 F.kind,.own 2 (cutF F).ms.length,frz 3 5 (cutF F).rs.length (wai (atR (cutF F).rs)) (.own 3 (cutF F).rs.length),.view 5 (cutF F).ts.length (wah (atT (cutF F).ts))] 49),_],5,[]⟩:St)=_
   simp only [frz,b2]
   rfl
 rw [e3]
 show (⟨_,[_,(1,.cells [.str (F.id.take 30),.int .i64 F.ver,.int .i64 F.day,.int .i64 F.kind,frz 2 15 (cutF F).ms.length (waf (atM (cutF F).ms)) (.own 2 (cutF F).ms.length),.view 5 (cutF F).rs.length (wai (atR (cutF F).rs)),.view 5 (cutF F).ts.length (wah (atT (cutF F).ts))] 49)],5,[]⟩:St)=_
 simp only [frz,b1]
 rfl
theorem rw25_ok (hP:C.P=Tryz.prog) (g:Nat→FL) (n k:Nat) (F:FL):waj C 0 221 (regC Tryz.f28 25) (wni g n k F):=by
 have _:C.Loose:=inferInstance
 rintro st Q ⟨h0,hk,hF,hQ⟩
 refine AWP.canonIs (te:=te) [3,6,17,18,19] h0 (AWP.frzX 4 [] (fun _ _=>rfl) (AWP.frzX 3 [] (fun _ _=>rfl) (AWP.frzX 2 [] (fun _ _=>rfl) ?_))) ⟨fun _ _=>rfl,fun _ _=>rfl,fun _ _=>rfl,fun _ _=>rfl,trivial⟩
 rw [rwb_frz]
 refine waj.reg (S:=wlk g n k F) (prg hP) [] 0 .nil [3,6,17,18,19] [3,17,18,19] ⟨rfl,⟨rfl,rfl,rfl,rfl,rfl,fun _ _=>rfl⟩,rfl,trivial⟩ ?_ ⟨fun _ _=>rfl,trivial⟩
 rw [nf_rw25]
 subst hF
 have H:∀ ch:Nat→List AV,ch 0=wab (cutG g) k→∀ i,i<k+1→apF k (wab (cutG g)) ch i=wab (cutG g) i:=fun ch hc i hi=>by
  unfold apF
  by_cases h:i<k
  ·rw [if_pos h]
  ·have:i=k:=by omega
   rw [if_neg h,this,Nat.sub_self,hc]
 refine ⟨⟨by omega,rfl,by omega⟩,⟨⟨Nat.le_refl _,rfl⟩,Nat.le_refl _,rfl,rfl,rfl,by omega,?_⟩,fun i hi=>(congrArg nrefL (H _ rfl i hi)).trans rfl,_,?_,hQ⟩
 ·show (k+1) * 112≤_
  omega
 ·exact ⟨⟨rfl,rfl,rfl,rfl,rfl,H _ rfl⟩,trivial⟩
theorem ww9 (hP:C.P=Tryz.prog) (g:Nat→FL) (n:Nat):waj C 0 221 (wal Tryz.f28 3) (wnk g n):=by
 rintro st Q ⟨h0,hn,hQ⟩
 refine AWP.ownNil 3 49 7 ?_
 refine waj.mkI (prg hP) [] (fun k=>[(7,wnh g n k (g k) (min (g k).ms.length 3)),(15,wng g n k (g k) (min (g k).rs.length 3)),(21,wne g n k (g k) (min (g k).ts.length 3)),(1025,wni g n k (g k))]) 0 .nil
  (fun k=>[(wal Tryz.f28 7,wnh g n k (g k) (min (g k).ms.length 3)),(wal Tryz.f28 15,wng g n k (g k) (min (g k).rs.length 3)),(wal Tryz.f28 21,wne g n k (g k) (min (g k).ts.length 3)),(regC Tryz.f28 25,wni g n k (g k))]) (fun k=>by kernel_rfl)
  (fun k=>⟨wwz hP _ _ _ _ _,wwy hP _ _ _ _ _,www hP _ _ _ _ _,rw25_ok hP _ _ _ _,trivial⟩) [3,17,18,19] [3] [] (wlm g n) (fun k=>k≤n) (fun k=>n - k) 0 (Nat.zero_le _) h0 (fun k hk=>?_) (fun i=>⟨fun _ _=>rfl,trivial⟩)
 have mn:∀ a:Nat,(min (a:Int) 3).toNat=min a 3:=fun a=>by omega
 rw [wyi,Int.toNat_natCast,wc5,mn,mn,mn]
 refine wam (fun h1=>⟨⟨by omega,by omega,rfl⟩,⟨by omega,by omega⟩,⟨by omega,by omega⟩,⟨rfl,⟨rfl,rfl,rfl,rfl,rfl,fun _ _=>rfl⟩,rfl,rfl,⟨rfl,rfl,rfl,rfl,rfl,fun i hi=>absurd hi (Nat.not_lt_zero i)⟩,trivial⟩,rfl,⟨by omega,by omega⟩,
  ⟨rfl,⟨rfl,rfl,rfl,rfl,rfl,fun _ _=>rfl⟩,rfl,rfl,⟨rfl,rfl,rfl,rfl,rfl,fun _ _=>rfl⟩,⟨rfl,rfl,rfl,rfl,rfl,fun i hi=>absurd hi (Nat.not_lt_zero i)⟩,trivial⟩,rfl,⟨by omega,by omega⟩,
  ⟨rfl,⟨rfl,rfl,rfl,rfl,rfl,fun _ _=>rfl⟩,rfl,⟨rfl,rfl,rfl,rfl,rfl,fun _ _=>rfl⟩,⟨rfl,rfl,rfl,rfl,rfl,fun _ _=>rfl⟩,⟨rfl,rfl,rfl,rfl,rfl,fun i hi=>absurd hi (Nat.not_lt_zero i)⟩,trivial⟩,rfl,
  ⟨rfl,⟨rfl,rfl,rfl,rfl,rfl,fun _ _=>rfl⟩,rfl,⟨rfl,rfl,rfl,rfl,rfl,fun _ _=>rfl⟩,⟨rfl,rfl,rfl,rfl,rfl,fun _ _=>rfl⟩,⟨rfl,rfl,rfl,rfl,rfl,fun _ _=>rfl⟩,trivial⟩,by omega,rfl,by simp only [inR];omega,k+1,⟨rfl,⟨rfl,rfl,rfl,rfl,rfl,fun _ _=>rfl⟩,trivial⟩,by omega,by omega⟩) (fun h1=>?_)
 have:k=n:=by omega
 subst this
 exact ⟨fun _ _=>rfl,_,wao _,hQ⟩
theorem ww7 (hP:C.P=Tryz.prog):wag C 28 wvq:=by
 rintro args objs U Os vc h hvc
 unfold wvq at h
 split at h<;>simp only [Option.some.injEq,Prod.mk.injEq,reduceCtorEq] at h
 rename_i n f
 obtain ⟨rfl,rfl,rfl⟩:=h
 have hf:=hvc
 generalize flOf f=g at *
 subst hf
 refine wak.frzO 0 ?_
 refine wba.wpL (prg hP) [] [(3,wnk g (min n 6))] 0 .nil (hP ▸ Tryz.func28) rfl rfl rfl [(wal Tryz.f28 3,wnk g (min n 6))] (by kernel_rfl) ⟨ww9 hP g _,trivial⟩ ?_
 rw [wyg]
 have hm:(min (n:Int) (6:Int)).toNat=min n 6:=by omega
 rw [hm]
 refine ⟨⟨by omega,by omega⟩,⟨rfl,⟨rfl,rfl,rfl,rfl,rfl,fun i hi=>absurd hi (Nat.not_lt_zero i)⟩,trivial⟩,by omega,fun _ _=>rfl,_,wao _,fun _ _=>rfl,?_⟩
 have hb:Nat.ble (min n 6) (min n 6)=true:=Nat.ble_eq_true_of_le (Nat.le_refl _)
 constructor
 ·simp [frzC,frzA,frz,hb]
 ·rfl
theorem raw1_ok (hP:C.P=Tryz.prog):wba C 28 wm3:=by
 rintro args objs R h
 unfold wm3 at h
 split at h
 ·rename_i n t m f fr
  obtain ⟨rfl,rfl,G,hf,hR⟩:=h
  have hh:ADet C 28 [.own 0 1] [.row t 7 1 f fr] (.view 7 1 (wab fun _=>cutF G)) []:=by
   refine wak.rowEq 0 (f':=wab fun _=>G) rfl (fun i hi=>?_) ?_
   ·obtain rfl:i=0:=by omega
    exact (show f 0=wa9 G from hf).symm
   ·have hh:=ww7 hP [.view 7 1 (wab fun _=>G)] [] _ _ _ rfl (by rw [wdm])
    rw [wdm] at hh
    exact ADet.give hh (by simp [frzC,frzA,frz]) rfl rfl (fun _ _=>rfl)
  exact wak.mono hh fun u O h=>by obtain ⟨rfl,rfl⟩:=h;exact hR
 ·exact h.elim
end Go.Eng
namespace Go.Proofs
open Go.RowKit
theorem Tryz.sizeBuilder:(Tryz.prog.info? 109).map (·.size)=some 2:=by kernel_rfl
theorem Tryz.liesWords:liesAt Tryz.prog Tryz.prog.depth 111 1 0 109 1=true:=by kernel_rfl
theorem Tryz.cellsWords:Tryz.prog.cellsOf 111=2:=by kernel_rfl
theorem Tryz.und106:Tryz.prog.underlying 106=some (.pointer 109):=by kernel_rfl
theorem Tryz.und220:Tryz.prog.underlying 220=some .unsafePointer:=by kernel_rfl
set_option maxHeartbeats 1000000 in
set_option maxRecDepth 100000 in
theorem Tryz.copyCheck_used (b:Nat) (w:World) (h0:w.cell? ⟨b,0,none⟩=some (.pointer (some ⟨b,0,none⟩))):
  Calls Tryz.prog 164 #[.pointer (some ⟨b,0,none⟩)] w fun e w'=>e= .returned (.tuple #[])∧w'=w:=by
 obtain ⟨j,hj,_⟩:=Option.map_eq_some_iff.1 Tryz.sizeBuilder
 go_enter Tryz.func164,Tryz.ntmps164
 go_wp2
 rw [Lib.run_neq_ptr_same w _ Tryz.und106 hj]
 go_wp2
 go_end0
 exact ⟨rfl,rfl⟩
set_option maxHeartbeats 1000000 in
set_option maxRecDepth 100000 in
theorem Tryz.copyCheck_fresh (b:Nat) (w:World) (h0:w.cell? ⟨b,0,none⟩=some (.pointer none)) (hsh:w.shape? b=some (111,2)) (hfz:w.frozen? ⟨b,0,none⟩=false):
  Calls Tryz.prog 164 #[.pointer (some ⟨b,0,none⟩)] w fun e w'=>e= .returned (.tuple #[])∧w'=w.setCell ⟨b,0,none⟩ (.pointer (some ⟨b,0,none⟩)):=by
 obtain ⟨j,hj,hjs⟩:=Option.map_eq_some_iff.1 Tryz.sizeBuilder
 go_enter Tryz.func164,Tryz.ntmps164
 go_wp2
 rw [Lib.run_to_unsafe w ⟨b,0,none⟩ Tryz.und106 Tryz.und220 hj (by rw [hjs];decide) hsh (Nat.zero_lt_succ 1)]
 simp only [Result.andThen]
 rw [Oper.upon_value]
 go_wp2
 rw [run_callFunc_extern Tryz.func203 (by kernel_rfl) (by kernel_rfl) (by kernel_rfl) (e:=Extern.AbiNoEscape.same) (by kernel_rfl)]
 rw [Lib.run_noEscape]
 simp only [Result.andThen]
 rw [Oper.upon_value]
 go_wp2
 rw [Lib.run_from_unsafe w ⟨b,0,none⟩ Tryz.und220 Tryz.und106 hj hsh (by rw [Tryz.cellsWords];exact Tryz.liesWords)]
 simp only [Result.andThen]
 rw [Oper.upon_value]
 go_wp2
 go_end0
 exact ⟨rfl,rfl⟩
end Go.Proofs
namespace Go.Eng
open Go.Proofs Go.RowKit Go.Sort
variable {C:Ctx} [C.Loose]
set_option maxRecDepth 20000
theorem wvc (w:World) (k:Nat) (os:Array Obj):Below w.heap.size w (grow (w.drewN k) os):=
 ⟨rfl,rfl,rfl,by simp [grow,World.drewN],fun i hi=>by
  show (w.heap++os)[i]?=_
  rw [Array.getElem?_append_left hi]⟩
theorem woz {w:World} {M:Nat→Prop} {bs:Nat→Option Hd} {v:Value} {r off:Nat} (h:V w M bs v (.ptr r off)):∃ b c,v= .pointer (some ⟨b,off,none⟩)∧bs r=some (.blk b c):=by
 cases h with | ptr hb=>exact ⟨_,_,rfl,hb⟩
theorem ccUsed (hP:C.P=Tryz.prog) {args:List AV} {objs:List AObj} {cs:List AV} {t:TypeId} (ha:args=[.ptr 0 0]) (ho:objs[0]?=some (.cells (.ptr 0 0::cs) t)):wak C 164 args objs fun u O=>u= .tuple []∧O=enum 0 objs:=by
 have _:C.Loose:=inferInstance
 subst ha
 refine wak.quiet ⟨_,hP ▸ Tryz.func164,rfl,by decide⟩ fun E bs w cargs hW hl hv=>?_
 obtain ⟨a,rfl⟩:=mem1 hl
 have V0:=hv 0 _ _ rfl rfl
 obtain ⟨b,x,rfl,hx,hxV⟩:=WRep.cell hW (r:=0) (by simpa [lkL] using ho) V0 (j:=0) (u:=.ptr 0 0) rfl
 obtain ⟨b1,c1,rfl,hb1⟩:=woz hxV
 obtain ⟨b2,c2,e2,hb2⟩:=woz V0
 rw [hb1] at hb2
 injection hb2 with hb2
 injection hb2 with e3 e4
 subst e3
 injection e2 with e2
 injection e2 with e2
 injection e2 with e2
 subst e2
 rw [hP]
 refine (Tryz.copyCheck_used b w hx).mono ?_
 rintro e w' ⟨rfl,rfl⟩
 exact ⟨_,rfl,rfl,.tuple rfl (fun j v u hv hu=>by simp at hu)⟩
theorem ccFresh (hP:C.P=Tryz.prog):wak C 164 [.ptr 0 0] [.cells [.nilptr,.nil] 111] fun u O=>u= .tuple []∧O=[(0,.cells [.ptr 0 0,.nil] 111)]:=by
 have _:C.Loose:=inferInstance
 refine ⟨⟨_,hP ▸ Tryz.func164,rfl,by decide⟩,fun E bs w cargs h1 h2 h3 hW h5 h6 h7=>?_⟩
 obtain ⟨a,rfl⟩:=mem1 h6
 have V0:=h7 0 _ _ rfl rfl
 obtain ⟨b,c,vs,k1,k2,k3,k4,k5⟩:=hW.obj 0 _ rfl
 obtain ⟨x,y,rfl⟩:∃ x y,vs=#[x,y]:=by
  have k3:vs.size=2:=k3
  exact ⟨vs[0],vs[1],by
   apply Array.ext
   ·simpa using k3
   ·intro i hi1 hi2
    match i,hi2 with
    |0,_=>rfl
    |1,_=>rfl⟩
 have hx:=k5 0 x .nilptr rfl rfl
 have hy:=k5 1 y .nil rfl rfl
 cases hx
 cases hy
 obtain ⟨b',c',rfl,hb⟩:=woz V0
 rw [k1] at hb
 injection hb with hb
 injection hb with e1 e2
 subst e1;subst e2
 ·rw [hP]
  refine (Tryz.copyCheck_fresh b w (by rw [cell_of_row w b 0 _ _ (0,0) k2];rfl) (by simp [World.shape?,k2]) (by simp [World.frozen?,k2])).mono ?_
  rintro e w' ⟨rfl,rfl⟩
  have hm:(AObj.cells [.nilptr,.nil] 111).mut=true:=rfl
  have hheap:(w.setCell ⟨b,0,none⟩ (.pointer (some ⟨b,0,none⟩))).heap[b]?=some (.cells #[.pointer (some ⟨b,0,none⟩),.slice none 0 0] 111 (0,0)):=by
   simp [World.setCell,Array.getElem?_modify,k2]
  obtain ⟨g1,g2⟩:=hW.modify (x:=0) rfl hm k1 (w':=w.setCell ⟨b,0,none⟩ (.pointer (some ⟨b,0,none⟩))) (fun k hk=>by simp [World.setCell,Array.getElem?_modify,Ne.symm hk]) (by simp [World.setCell]) rfl ⟨rfl,fun _=>Nat.le_refl _⟩ rfl (o:=.cells [.ptr 0 0,.nil] 111) rfl
   (fun hS=>⟨b,c,_,k1,hheap,rfl,fun j v hv=>by
    match j with
    |0=>obtain rfl:=Option.some.inj hv;rfl
    |1=>obtain rfl:=Option.some.inj hv;rfl
    |j+2=>simp at hv,fun j v u hv hu=>by
    match j with
    |0=>obtain rfl:=Option.some.inj hv;obtain rfl:=Option.some.inj hu;exact .ptr k1
    |1=>obtain rfl:=Option.some.inj hv;obtain rfl:=Option.some.inj hu;exact .nil
    |j+2=>simp at hv⟩)
  have e2:up (lkL [AObj.cells [.nilptr,.nil] 111]) 0 (.cells [.ptr 0 0,.nil] 111)=lk [(0,.cells [.ptr 0 0,.nil] 111)]:=by
   funext i
   rw [wa0]
   by_cases h:(0:Nat)=i
   ·subst h;rw [wat,if_pos rfl]
   ·rw [war _ _ _ h,if_neg h]
    cases i with
    |zero=>exact absurd rfl h
    |succ i=>simp [lkL,lk]
  rw [e2] at g2
  refine ⟨_,.tuple [],[(0,.cells [.ptr 0 0,.nil] 111)],bs,rfl,⟨rfl,rfl⟩,g2,.tuple rfl (fun j v u hv hu=>by simp at hu),fun r hr=>⟨?_,h5 r (by show 1≤r;have:1+16≤r:=hr;omega)⟩⟩
  have:1+16≤r:=hr
  rw [wa0,if_neg (by show ¬ 0=r;omega)];rfl
theorem cc_ok (hP:C.P=Tryz.prog):wag C 164 S_cc:=by
 rintro args objs U Os vc h hvc
 unfold S_cc at h
 split at h<;>simp only [Option.some.injEq,Prod.mk.injEq,reduceCtorEq] at h
 ·rename_i t
  obtain ⟨rfl,rfl,rfl⟩:=h
  have hvc:t=_:=hvc
  subst hvc
  exact ccFresh hP
 ·rename_i n t t8 m f
  obtain ⟨rfl,rfl,rfl⟩:=h
  have hvc:t=_:=hvc
  subst hvc
  exact ccUsed hP rfl rfl
theorem wj7 (hP:C.P=Tryz.prog) (hL:∀ w,C.laid w→LaidW w):wag C 134 wea:=by
 rintro args objs U Os vc h hvc
 unfold wea at h
 split at h<;>simp only [Option.some.injEq,Prod.mk.injEq,reduceCtorEq] at h
 rename_i n
 obtain ⟨rfl,rfl,rfl⟩:=h
 have hr:inR .i64 n:=hvc
 simp only [inR] at hr
 refine wak.below ⟨_,hP ▸ Tryz.func134,rfl,by decide⟩ fun w M cargs hlaid _ hM hl hv=>?_
 obtain ⟨a,b,rfl⟩:∃ a b,cargs=[a,b]:=by
  match cargs,hl with
  |[a,b],_=>exact ⟨a,b,rfl⟩
 have e1:=(hv 0 _ _ rfl rfl).int_iff
 have e2:=(hv 1 _ _ rfl rfl).int_iff
 subst e1;subst e2
 rw [hP]
 refine (Tryz.strconv_FormatInt_10 n (by omega) (by omega) w (hL w hlaid).pow).mono ?_
 rintro e w' ⟨rfl,k,os,rfl⟩
 exact ⟨_,rfl,wvc _ _ _,.str (by simp)⟩
theorem wj0 (hP:C.P=Tryz.prog) (hL:∀ w,C.laid w→LaidW w):wag C 133 wcm:=by
 rintro args objs U Os vc h hvc
 unfold wcm at h
 split at h<;>simp only [Option.some.injEq,Prod.mk.injEq,reduceCtorEq] at h
 rename_i n
 obtain ⟨rfl,rfl,rfl⟩:=h
 have hr:inR .i64 n:=hvc
 simp only [inR] at hr
 refine wak.below ⟨_,hP ▸ Tryz.func133,rfl,by decide⟩ fun w M cargs hlaid _ hM hl hv=>?_
 obtain ⟨a,rfl⟩:=mem1 hl
 have e1:=(hv 0 _ _ rfl rfl).int_iff
 subst e1
 rw [hP]
 refine (Tryz.strconv_Itoa n (by omega) (by omega) w (hL w hlaid).pow).mono ?_
 rintro e w' ⟨rfl,k,os,rfl⟩
 exact ⟨_,rfl,wvc _ _ _,.str (by simp)⟩
end Go.Eng
namespace Go.Eng
open Go.Proofs Go.RowKit
variable {C:Ctx} [C.Loose]
set_option maxRecDepth 20000
theorem wht {α:Type} (g:Nat→α) (n:Nat):lst g (n+1)=lst g n++[g n]:=by simp [lst,List.range_succ]
theorem lst_at {α:Type} {g:Nat→α} {L:List α} {n:Nat} (h:lst g n=L) (d:α):n=L.length∧∀ i,i<n→g i=L.getD i d:=by
 subst h
 refine ⟨by simp [lst],fun i hi=>?_⟩
 simp [lst,hi]
theorem wyn (x:Int) (R:AV→List (Nat×AObj)→Prop):wpFn te [] [] 0 Tryz.f180 [.int .i64 x] [] R=(wad (decide ((0:Int)≤x)) (R (.bool (decide (x≤(1099511627776:Int)))) []) (R (.bool false) [])):=by kernel_rfl
theorem nf_tarV (st:Int) (bs:List BK) (R:AV→List (Nat×AObj)→Prop):wpFn te [(180,.det wg0)] [(7,L_tv st bs)] 0 Tryz.f151 [.agg [.int .i64 st,.view 2 bs.length (waw (atB bs))]] [] R=(letI z2:=R (.int .i64 141) [];letI z1:=([(0,.cells [.int .i64 st,.view 2 (List.length bs) (waw (atB bs))] 95)]:List (Nat×AObj));letI z0:=(↑(List.length bs):Int);True∧wad (!(decide ((0:Int)≤st) && decide (st≤(1099511627776:Int)))) (R (.int .i64 140) []) (wad (decide (z0<(1:Int))) z2 (wad (decide ((8:Int)<z0)) z2 (some (St.mk [(1,.ptr 0 0),(3,.int .i64 0),(22,.view 2 (List.length bs) (waw (atB bs))),(23,.int .i64 z0),(24,.int .i64 0)] z1 1 [])=some (St.mk [(1,.ptr 0 0),(3,.int .i64 (lowB bs 0)),(22,.view 2 (List.length bs) (waw (atB bs))),(23,.int .i64 z0),(24,.int .i64 (↑0:Int))] z1 1 [])∧List.length bs≤8∧wad (bksB bs (List.length bs)) (R (.int .i64 0) []) z2)))):=by kernel_rfl
theorem wxx (st:Int) (bs:List BK) (k:Nat) (P:Nat→Prop) (R:Exit→St→Prop):wa1 ⟨te,[(180,.det wg0)],[],0,65,0⟩ (wa2 Tryz.f151 7) [1,3,22,23,24] [] [2] (S_tv st bs) P R (S_tv st bs k)=(letI z5:=([(0,.cells [.int .i64 st,.view 2 (List.length bs) (waw (atB bs))] 95)]:List (Nat×AObj));letI z4:=R .ret (St.mk [(2,.int .i64 141)] [] 0 []);letI z3:=(↑(List.length bs):Int);letI z2:=(atB bs (Int.toNat (↑k:Int)));letI z0:=(inR .i64 ((↑k:Int)+(1:Int))∧∃ (i':Nat),some (St.mk [(1,.ptr 0 0),(3,.int .i64 (BK.up z2)),(22,.view 2 (List.length bs) (waw (atB bs))),(23,.int .i64 z3),(24,.int .i64 ((↑k:Int)+(1:Int)))] z5 1 [])=some (St.mk [(1,.ptr 0 0),(3,.int .i64 (lowB bs i')),(22,.view 2 (List.length bs) (waw (atB bs))),(23,.int .i64 z3),(24,.int .i64 (↑i':Int))] z5 1 [])∧P i');letI z1:=(wad (!decide ((↑k:Int)=z3 - (1:Int))) (wad (decide (BK.up z2≤lowB bs k)) z4 (wad (decide ((1099511627776:Int)<BK.up z2)) z4 z0)) z0);wad (decide ((↑k:Int)<z3)) (((0:Int)≤(↑k:Int)∧(↑k:Int)<z3∧2=2)∧inR .i64 (z3 - (1:Int))∧True∧wad (!(decide ((0:Int)≤BK.pr z2) && decide (BK.pr z2≤(1099511627776:Int)))) z4 (wad (decide ((↑k:Int)=z3 - (1:Int))) (wad (!decide (BK.up z2=(0:Int))) z4 z1) z1)) (R (.exit 0) (St.mk [] [] 0 []))):=by kernel_rfl
theorem wx9 (o p:List UInt8) (per:Int) (R:AV→List (Nat×AObj)→Prop):wpFn te [(105,.det wlb)] [] 0 Tryz.f150 [.str o,.str p,.int .i64 per] [] R=(letI z1:=(List.flatten (List.replicate (nat_lit 0) [.str ([]),.str ([]),.int .i64 0,.int .i64 0,.int .i64 0]):List AV);letI z0:=wap (TI.sz wdq) (.str o:: .str p:: .int .i64 per:: .int .i64 1:: .int .i64 1::List.append [] z1);(5≤16777216∧5=5∧1≤9223372036854775807)∧(∀ (i:Nat),i<1→nrefL (wap (TI.sz wdq) (.str o:: .str p:: .int .i64 per:: .int .i64 1:: .int .i64 1::List.append [] z1) i)=true)∧(1=1∧1≤1000000∧(∀ (i:Nat),i<1→wap (TI.sz wdq) (.str o:: .str p:: .int .i64 per:: .int .i64 1:: .int .i64 1::List.append [] z1) i=[.str (RW.o (rwOf z0 i)),.str (RW.p (rwOf z0 i)),.int .i64 (RW.per (rwOf z0 i)),.int .i64 (RW.u (rwOf z0 i)),.int .i64 (RW.tv (rwOf z0 i))])∧∀ (i:Nat),i<1→List.length (RW.o (rwOf z0 i))<4294967281)∧R (.bool (decide (svF (rwOf z0) 1=(0:Int)))) []):=by kernel_rfl
theorem wyh (t:RT) (R:AV→List (Nat×AObj)→Prop):wpFn te [(150,.det wd7),(151,.det wla)] [] 0 Tryz.f108 [.agg [.str t.o,.str t.p,.int .i64 t.per,.int .i64 t.st,.view 2 t.bs.length (waw (atB t.bs))]] [] R=(letI z0:=lst (bkOf (waw (atB (RT.bs t)))) (List.length (RT.bs t));List.length (RT.o t)<4294967281∧wad (wbz (RT.o t) (RT.p t) (RT.per t)) (waw (atB (RT.bs t))=waw (atB z0)∧R (.bool (decide (tfF (RT.st t) z0=(0:Int)))) []) (R (.bool false) [])):=by kernel_rfl
theorem wgt {bs:List BK} {i:Nat}:bkOK bs i=true↔0≤(atB bs i).pr∧(atB bs i).pr≤1099511627776∧(i+1=bs.length→(atB bs i).up=0)∧(¬ i+1=bs.length→lowB bs i<(atB bs i).up∧(atB bs i).up≤1099511627776):=by
 unfold bkOK
 by_cases h:i+1=bs.length
 ·rw [decide_eq_true h];simp [h]
 ·rw [decide_eq_false h];simp [h]
theorem wu7 {bs:List BK} {k:Nat} (e:bksB bs (k+1)=false):∀ n,k<n→bksB bs n=false
 |0,hn=>by omega
 |n+1,hn=>by
  by_cases q:k=n
  ·subst q;exact e
  ·rw [bksB,wu7 e n (by omega),Bool.false_and]
theorem wsn (hP:C.P=Tryz.prog):wag C 180 wg0:=by
 have _:C.Loose:=inferInstance
 rintro args objs U Os vc h hvc
 unfold wg0 at h
 split at h<;>simp only [Option.some.injEq,Prod.mk.injEq,reduceCtorEq] at h
 rename_i n
 obtain ⟨rfl,rfl,rfl⟩:=h
 refine wag.wp0 (prg hP) [] 0 .nil (hP ▸ Tryz.func180) rfl rfl rfl ?_
 rw [wyn]
 exact wam (fun h=>by rw [decide_eq_true h];exact ⟨rfl,rfl⟩) (fun h=>by rw [decide_eq_false h];exact ⟨rfl,rfl⟩)
theorem tv_loop (hP:C.P=Tryz.prog) (st:Int) (bs:List BK):waj C 0 65 (wal Tryz.f151 7) (L_tv st bs):=by
 rintro s Q ⟨h0,hn,hQ⟩
 have hR:=wb8 hQ
 refine waj.mk (prg hP) [(180,.det wg0)] 0 (.cons (wsn hP) .nil) [1,3,22,23,24] [] [2] (S_tv st bs) (fun k=>k≤bs.length∧bksB bs k=true) (fun k=>bs.length - k) 0 ⟨Nat.zero_le _,rfl⟩ h0 (fun k hk=>?_)
 obtain ⟨hkn,hok⟩:=hk
 rw [wxx,Int.toNat_natCast]
 refine wam (fun h1=>?_) (fun h1=>?_)
 ·have hlt:k<bs.length:=by omega
  have bad:bkOK bs k=false→Q .ret ⟨[(2,.int .i64 141)],[],0,[]⟩:=fun h=>hR.2 (wu7 (k:=k) (by rw [bksB,h,Bool.and_false]) _ hlt)
  have bad':¬ bkOK bs k=true→Q .ret ⟨[(2,.int .i64 141)],[],0,[]⟩:=fun h=>bad (by cases q:bkOK bs k with
   |true=>exact absurd q h
   |false=>rfl)
  have next:bkOK bs k=true→inR .i64 ((k:Int)+1)∧∃ i':Nat,some (St.mk [(1,.ptr 0 0),(3,.int .i64 (atB bs k).up),(22,.view 2 bs.length (waw (atB bs))),(23,.int .i64 (bs.length:Int)),(24,.int .i64 ((k:Int)+1))] [(0,.cells [.int .i64 st,.view 2 bs.length (waw (atB bs))] 95)] 1 [])=
    some (St.mk [(1,.ptr 0 0),(3,.int .i64 (lowB bs i')),(22,.view 2 bs.length (waw (atB bs))),(23,.int .i64 (bs.length:Int)),(24,.int .i64 (i':Int))] [(0,.cells [.int .i64 st,.view 2 bs.length (waw (atB bs))] 95)] 1 [])∧(i'≤bs.length∧bksB bs i'=true)∧bs.length - i'<bs.length - k:=
   fun h=>⟨by simp only [inR];omega,k+1,rfl,⟨by omega,by rw [bksB,hok,h];rfl⟩,by omega⟩
  refine ⟨⟨by omega,by omega,rfl⟩,by simp only [inR];omega,trivial,wc1 (fun h2=>bad' (fun h=>?_)) (fun h2=>?_)⟩
  ·rw [Bool.and_eq_false_iff,decide_eq_false_iff_not,decide_eq_false_iff_not] at h2
   have:=wgt.1 h
   omega
  ·rw [Bool.and_eq_true,decide_eq_true_eq,decide_eq_true_eq] at h2
   refine wam (fun h3=>wcr (fun h4=>bad' (fun h=>h4 ((wgt.1 h).2.2.1 (by omega)))) (fun h4=>wcr (fun h5=>absurd h3 h5) (fun _=>next (wgt.2 ⟨h2.1,h2.2,fun _=>h4,fun h=>absurd (by omega) h⟩))))
    (fun h3=>wcr (fun _=>wam (fun h4=>bad' (fun h=>by have:=(wgt.1 h).2.2.2 (by omega);omega)) (fun h4=>wam (fun h5=>bad' (fun h=>by have:=(wgt.1 h).2.2.2 (by omega);omega)) (fun h5=>next (wgt.2 ⟨h2.1,h2.2,fun h=>absurd h (by omega),fun _=>⟨by omega,by omega⟩⟩)))) (fun h5=>absurd h5 h3))
 ·have:k=bs.length:=by omega
  subst this
  exact hR.1 hok
theorem tarV_ok (hP:C.P=Tryz.prog):wag C 151 wla:=by
 rintro args objs U Os vc h hvc
 unfold wla at h
 split at h<;>simp only [Option.some.injEq,Prod.mk.injEq,reduceCtorEq] at h
 rename_i st n f
 obtain ⟨rfl,rfl,rfl⟩:=h
 have hl:(lst (bkOf f) n).length=n:=by simp [lst]
 generalize lst (bkOf f) n=bs at *
 subst hl
 subst hvc
 refine wag.wpL (prg hP) [(180,.det wg0)] [(7,L_tv st bs)] 0 (.cons (wsn hP) .nil) (hP ▸ Tryz.func151) rfl rfl rfl [(wal Tryz.f151 7,L_tv st bs)] (by kernel_rfl) ⟨tv_loop hP st bs,trivial⟩ ?_
 rw [nf_tarV]
 unfold tfF
 refine ⟨trivial,wc1 (fun h=>by rw [h];exact ⟨rfl,rfl⟩) (fun h=>?_)⟩
 rw [h]
 refine wam (fun h1=>?_) (fun h1=>wam (fun h2=>?_) (fun h2=>⟨rfl,by omega,?_⟩))
 ·rw [decide_eq_true (show bs.length<1 by omega)];exact ⟨rfl,rfl⟩
 ·rw [decide_eq_true (show 8<bs.length by omega),Bool.or_true];exact ⟨rfl,rfl⟩
 ·rw [decide_eq_false (show ¬ bs.length<1 by omega),decide_eq_false (show ¬ 8<bs.length by omega)]
  exact waz (fun q=>by rw [q];exact ⟨rfl,rfl⟩) (fun q=>by rw [q];exact ⟨rfl,rfl⟩)
theorem wwj (hP:C.P=Tryz.prog) (hL:∀ w,C.laid w→LaidW w):wag C 105 wlb:=by
 rintro args objs U Os vc h hvc
 unfold wlb at h
 split at h<;>simp only [Option.some.injEq,Prod.mk.injEq,reduceCtorEq] at h
 rename_i n t m f fr
 obtain ⟨rfl,rfl,rfl⟩:=h
 obtain ⟨rfl,hn,hf,hs⟩:=hvc
 refine wak.rowEq 0 (f':=wai (rwOf f)) rfl (fun i hi=>(hf i hi).symm) ?_
 have hb:Nat.ble n n=true:=Nat.ble_eq_true_of_le (Nat.le_refl _)
 exact ADet.give (wrn hP hL [.view 5 n (wai (rwOf f))] [] _ _ _ rfl ⟨hn,rfl,hs⟩) (by simp [frzC,frzA,frz,hb]) rfl rfl (fun _ _=>rfl)
theorem svF_one (o p:List UInt8) (per:Int) (g:Nat→RW) (h:g 0=⟨o,p,per,1,1⟩):decide (svF g 1=0)=wbz o p per:=by
 unfold svF
 rw [decide_eq_false (show ¬ 24000<1 by omega)]
 simp only [cond_false,wdc,Bool.true_and,h,rowF]
 cases wbz o p per<;>rfl
theorem wwr (hP:C.P=Tryz.prog) (hL:∀ w,C.laid w→LaidW w):wag C 150 wd7:=by
 rintro args objs U Os vc h hvc
 unfold wd7 at h
 split at h<;>simp only [Option.some.injEq,Prod.mk.injEq,reduceCtorEq] at h
 rename_i o p per
 obtain ⟨rfl,rfl,rfl⟩:=h
 refine wag.wp0 (prg hP) [(105,.det wlb)] 0 (.cons (wwj hP hL) .nil) (hP ▸ Tryz.func150) rfl rfl rfl ?_
 rw [wx9]
 have one:∀ {p:Nat→Prop},p 0→∀ i,i<1→p i:=fun h0 i hi=>by
  match i,hi with
  |0,_=>exact h0
 refine ⟨⟨by omega,rfl,by omega⟩,one rfl,⟨rfl,by omega,one rfl,one hvc⟩,?_⟩
 rw [svF_one o p per _ rfl]
 exact ⟨rfl,rfl⟩
theorem ww8 (hP:C.P=Tryz.prog) (hL:∀ w,C.laid w→LaidW w):wag C 108 wll:=by
 rintro args objs U Os vc h hvc
 unfold wll at h
 split at h<;>simp only [Option.some.injEq,Prod.mk.injEq,reduceCtorEq] at h
 rename_i o p per st n f
 obtain ⟨rfl,rfl,rfl⟩:=h
 obtain ⟨ho,hf⟩:=hvc
 have hl:(lst (bkOf f) n).length=n:=by simp [lst]
 generalize hb:lst (bkOf f) n=bs at *
 subst hl
 subst hf
 have hn:=wyh ⟨o,p,per,st,bs⟩
 dsimp only at hn
 refine wag.wp0 (prg hP) [(150,.det wd7),(151,.det wla)] 0 (.cons (wwr hP hL) (.cons (tarV_ok hP) .nil)) (hP ▸ Tryz.func108) rfl rfl rfl ?_
 rw [hn,wks]
 unfold rtOK
 exact ⟨ho,waz (fun q=>⟨rfl,by rw [q];exact ⟨rfl,rfl⟩⟩) (fun q=>by rw [q];exact ⟨rfl,rfl⟩)⟩
end Go.Eng
