/- The tied card of VintageEncodes: its statement is 'VintageEncodesCardSaid' of the given cards. -/
import Derived.Test.YtgcboligphndhaaGreatDoorUv
import Derived.Test.YtgcboligphndhaaGreatDoorUzd
import Derived.Test.YtgcboligphndhaaGreatDoorUx
import Derived.Test.YtgcboligphndhaaGreatDoorUze
import Derived.Test.YtgcboligphndhaaGreatDoorUy
import Derived.Test.YtgcboligphndhaaGreatDoorUz
import Derived.Test.YtgcboligphndhaaGreatDoorUzc
import Derived.Test.YtgcboligphndhaaGreatDoorUo
import Derived.Test.YtgcboligphndhaaGreatDoorUp
import Derived.Test.YtgcboligphndhaaGreatDoorUu
import Derived.Test.YtgcboligphndhaaGreatDoorUn
import Derived.Test.YtgcboligphndhaaGreatDoorCards
import Derived.Test.YtgcboligphndhaaGreatDoorTie
import Derived.SevenTiedAt
namespace Go.Eng
open Go.Proofs Go.RowKit
variable {C:Ctx} [C.Loose]
set_option maxRecDepth 20000
theorem nf_spl (g:Nat→FL) (n:Nat) (d:Int) (R:AV→List (Nat×AObj)→Prop):wpFn te [(39,.det wlr),(100,.rel wm8)] [(4,L_s4 (knwL okV g n d)),(9,L_s9 (knwL okV g n d))] 0 Tryz.f99 [.view 7 n (wab g),.int .i64 d] [] R=(letI z6:=edG (knwL okV g n d);letI z4:=wab (atF (knwL okV g n d));letI z3:=badL (knwL okV g n d);letI z2:=wbp (knwL okV g n d);letI z1:=nrmL okV (flOf (wab g)) n;letI z5:=(∀ (i:Nat),i<List.length z1→true=true:Prop);letI z0:=List.length (knwL okV g n d);(n≤1000∧wab g=wab (flOf (wab g))∧∀ (i:Nat),i<n→FL.Gd (flOf (wab g) i))∧z5∧z5∧49=49∧3=3∧false=false∧List.length z1=List.length z1∧List.length z1≤1000∧wab (atF z1)=wab (flOf (wab (atF z1)))∧(∀ (i:Nat),i<List.length z1→FL.Rg (flOf (wab (atF z1)) i))∧True∧∀ (k:Nat) (h:Nat→FL),k≤List.length z1→lst h k=kfL (qD d) (flOf (wab (atF z1))) (List.length z1)→(∀ (i:Nat),i<k→true=true)∧(TEq [(4,.nil),(5,.nil),(6,.own 0 k),(7,.map 1),(17,.own 0 k),(18,.int .i64 (↑k:Int)),(19,.int .i64 0)] [(4,.nil),(5,.nil),(6,.own 0 z0),(7,.map 1),(17,.own 0 z0),(18,.int .i64 (↑z0:Int)),(19,.int .i64 (↑0:Int))]∧wae [(0,.row 49 7 k (wab h) false),(1,.amap (List.map (fun (p:AV×AV)=>(AV.rn (ren 0 [(1,0),(33,1)]) (Prod.fst p),AV.rn (ren 0 [(1,0),(33,1)]) (Prod.snd p))) []))] [(0,.row 49 7 z0 z4 false),(1,.amap (entM (cntL z6 0)))])∧List.length (knwL okV g n d)≤1000∧(TEq [(4,.own 0 0),(5,.own 1 0),(7,.map 2),(34,.own 3 z0),(35,.int .i64 (↑z0:Int)),(36,.int .i64 0)] [(4,.own 0 0),(5,.own 1 0),(7,.map 2),(34,.own 3 z0),(35,.int .i64 (↑z0:Int)),(36,.int .i64 (↑0:Int))]∧wae [(0,.row 49 7 0 (fun (_x:Nat)=>[]) false),(1,.row 49 7 0 (fun (_x:Nat)=>[]) false),(2,.amap (List.map (fun (p:AV×AV)=>(AV.rn (ren 0 [(3,0),(2,1),(1,2),(0,3)]) (Prod.fst p),AV.rn (ren 0 [(3,0),(2,1),(1,2),(0,3)]) (Prod.snd p))) (entM (cntL z6 z0)))),(3,.row 49 7 z0 z4 false)] [(0,.row 49 7 0 (wab (atF (selG (knwL okV g n d) 0))) false),(1,.row 49 7 0 (wab (atF (selB (knwL okV g n d) 0))) false),(2,.amap (entM (cntL z6 z0))),(3,.row 49 7 z0 z4 false)])∧List.length (knwL okV g n d)≤1000∧(∀ (i:Nat),i<List.length z2→true=true)∧(∀ (i:Nat),i<List.length z3→true=true)∧∃ (O':List (Nat×AObj)),wae [(0,.row 49 7 (List.length z2) (wab (atF z2)) false),(1,.row 49 7 (List.length z3) (wab (atF z3)) false)] O'∧R (.tuple [.own 0 (List.length z2),.own 1 (List.length z3)]) O'):=by kernel_rfl
theorem wyb (L:List FL) (k:Nat) (P:Nat→Prop) (R:Exit→St→Prop):wa1 ⟨te,[],[(1006,L_s6 (cntL (edG L) k) (atF L k) L k)],0,59,0⟩ (wa2 Tryz.f99 4) [4,5,6,7,17,18,19] [4,5,6,7] [] (S_s4 L) P R (S_s4 L k)=(letI z4:=entM (cntL (edG L) k);letI z3:=ren 0 [(0,0),(1,1)];letI z2:=(↑(List.length L):Int);letI z1:=([(4,.nil),(5,.nil),(6,.own 0 (List.length L)),(7,.map 1),(9,.ptr 2 0),(17,.own 0 (List.length L)),(18,.int .i64 z2),(19,.int .i64 (↑k:Int))]:List (Nat×AV));letI z0:=(atF L (Int.toNat (↑k:Int)));wad (decide ((↑k:Int)<z2)) (((0:Int)≤(↑k:Int)∧(↑k:Int)<z2)∧(Int.toNat (↑k:Int)<List.length L∧7=7)∧(TEq z1 z1∧wae [(0,.row 49 7 (List.length L) (wab (atF L)) false),(1,.amap (List.map (fun (p:AV×AV)=>(AV.rn (ren 0 [(0,0),(1,1),(2,2)]) (Prod.fst p),AV.rn (ren 0 [(0,0),(1,1),(2,2)]) (Prod.snd p))) z4)),(2,.cells [.str (FL.id z0),.int .i64 (FL.ver z0),.int .i64 (FL.day z0),.int .i64 (FL.kind z0),.view 15 (List.length (FL.ms z0)) (waf (atM (FL.ms z0))),.view 5 (List.length (FL.rs z0)) (wai (atR (FL.rs z0))),.view 5 (List.length (FL.ts z0)) (wah (atT (FL.ts z0)))] 49)] [(0,.row 49 7 (List.length L) (wab (atF L)) false),(1,.amap z4),(2,.cells [.str (FL.id (atF L k)),.int .i64 (FL.ver (atF L k)),.int .i64 (FL.day (atF L k)),.int .i64 (FL.kind (atF L k)),.view 15 (List.length (FL.ms (atF L k))) (waf (atM (FL.ms (atF L k)))),.view 5 (List.length (FL.rs (atF L k))) (wai (atR (FL.rs (atF L k)))),.view 5 (List.length (FL.ts (atF L k))) (wah (atT (FL.ts (atF L k))))] 49)])∧List.Nodup (List.map Prod.fst (cntL (edG L) k))∧inR .i64 (getC (cntL (edG L) k) (mk2 (edM (atF L k)))+(1:Int))∧inR .i64 ((↑k:Int)+(1:Int))∧∃ (i':Nat),(TEq [(4,.nil),(5,.nil),(6,.own 0 (List.length L)),(7,.map 1),(17,.own 0 (List.length L)),(18,.int .i64 z2),(19,.int .i64 ((↑k:Int)+(1:Int)))] [(4,.nil),(5,.nil),(6,.own 0 (List.length L)),(7,.map 1),(17,.own 0 (List.length L)),(18,.int .i64 z2),(19,.int .i64 (↑i':Int))]∧wae [(0,.row 49 7 (List.length L) (wab (atF L)) false),(1,.amap (List.map (fun (p:AV×AV)=>(AV.rn z3 (Prod.fst p),AV.rn z3 (Prod.snd p))) (entM (addC (cntL (edG L) k) (mk2 (edM (atF L k)))))))] [(0,.row 49 7 (List.length L) (wab (atF L)) false),(1,.amap (entM (cntL (edG L) i')))])∧P i') ((∀ (i:Nat),i<List.length L→true=true)∧∃ (O':List (Nat×AObj)),wae [(0,.row 49 7 (List.length L) (wab (atF L)) false),(1,.amap (List.map (fun (p:AV×AV)=>(AV.rn z3 (Prod.fst p),AV.rn z3 (Prod.snd p))) z4))] O'∧R (.exit 0) (St.mk [(4,.nil),(5,.nil),(6,.own 0 (List.length L)),(7,.map 1)] O' 2 []))):=by kernel_rfl
theorem nf_s6a (u4 u5 u6 u17 u18 u19 c2 c3 c4 c5 c6:AV) (id:List UInt8) (ver:Int) (es:List (AV×AV)) (r:AObj):rgA ⟨te,[],[],0,59,0⟩ (regC Tryz.f99 6) [0,1,2,3,4,5] [4,5,6,7,9,17,18,19,23,28] ⟨[(4,u4),(5,u5),(6,u6),(7,.map 1),(9,.ptr 2 0),(17,u17),(18,u18),(19,u19),(23,.map 1),(28,.agg [.str id,.int .i64 ver])],[(0,r),(1,.amap es),(2,.cells [.str id,.int .i64 ver,c2,c3,c4,c5,c6] 49)],3,[]⟩ ⟨[(4,u4),(5,u5),(6,u6),(7,.map 1),(9,.ptr 2 0),(17,u17),(18,u18),(19,u19)],[(0,r),(1,.amap es),(2,.cells [.str id,.int .i64 ver,c2,c3,c4,c5,c6] 49)],3,[]⟩=(letI z2:=([(0,r),(1,.amap es),(2,.cells [.str id,.int .i64 ver,c2,c3,c4,c5,c6] 49)]:List (Nat×AObj));letI z3:=St.mk [(4,u4),(5,u5),(6,u6),(7,.map 1),(9,.ptr 2 0),(17,u17),(18,u18),(19,u19)] z2 3 [];letI z1:=([(4,u4),(5,u5),(6,u6),(7,.map 1),(9,.ptr 2 0),(17,u17),(18,u18),(19,u19),(23,.map 1),(28,.agg [.str id,.int .i64 ver])]:List (Nat×AV));letI z6:=St.mk z1 z2 3 [];letI z0:=(z1=z1∧z2=z2∧St.nx z3=St.nx z6:Prop);letI z5:=z0∧z1=z1∧z2=z2∧St.nx z3=St.nx z6;letI z4:=z0∧z0∧z1=z1∧z2=z2∧St.nx z3=St.nx z6;(z4∧z5∧z1=z1∧z2=z2∧St.nx z3=St.nx z6)∧(z4∧(z0∧z0∧z0∧z1=z1∧z2=z2∧St.nx z3=St.nx z6)∧z5∧z4∧z0∧z0∧z1=z1∧z2=z2∧St.nx z3=St.nx z6)∧(z5∧z1=z1∧z2=z2∧St.nx z3=St.nx z6)∧(z5∧z4∧z0∧z0∧z1=z1∧z2=z2∧St.nx z3=St.nx z6)∧z0∧z0∧z0∧z1=z1∧z2=z2∧St.nx z3=St.nx z6):=by kernel_rfl
theorem nf_s6 (E:List ((List UInt8×Int)×Int)) (F:FL) (L:List FL) (k:Nat) (Q:Exit→St→Prop):rgB ⟨te,[],[],0,59,0⟩ (regC Tryz.f99 6) [0,1,2,3,4,5] [4,5,6,7,9,17,18,19] Q (S_s6b E F L k)=(letI z16:=Env.te (Env.mk te [] [] 0 59 0);letI z15:=zvA (.int .i64 0);letI z14:=ren 0 [(0,0),(1,1),(2,2)];letI z9:=(∀ (i:Nat),i<List.length L→true=true:Prop);letI z7:=([.str (FL.id F),.int .i64 (FL.ver F),.int .i64 (FL.day F),.int .i64 (FL.kind F),.view 15 (List.length (FL.ms F)) (waf (atM (FL.ms F))),.view 5 (List.length (FL.rs F)) (wai (atR (FL.rs F))),.view 5 (List.length (FL.ts F)) (wah (atT (FL.ts F)))]:List AV);letI z3:=([(4,.nil),(5,.nil),(6,.own 0 (List.length L)),(7,.map 1),(9,.ptr 2 0),(17,.own 0 (List.length L)),(18,.int .i64 (↑(List.length L):Int)),(19,.int .i64 (↑k:Int))]:List (Nat×AV));letI z0:=([.str (FL.id F),.int .i64 (FL.ver F)]:List AV);letI z13:=mget (entM E) (.agg z0);letI z11:=(↑(midx (entM E) (.agg z0)):Int);letI z10:=(wau (Option.getD z13 z15)+(1:Int));letI z6:=wcw z16 173 (entM E)∧.int .i64 (wau (Option.getD z13 (.int .i64 0)))=Option.getD z13 (.int .i64 0);letI z5:=ment (.int .i64 0) (entM E) (.agg z0);letI z18:=List.getD z5 (Int.toNat z11) (.any,.any);letI z8:=Option.getD (mget z5 (.agg z0)) z15;letI z17:=(wau z8+(1:Int));letI z12:=wcw z16 173 z5∧.int .i64 (wau z8)=Option.getD (mget z5 (.agg z0)) z15;letI z4:=((0:Int)≤z11∧z11<(↑(List.length z5):Int):Prop);letI z2:=([(0,.row 49 7 (List.length L) (wab (atF L)) false),(1,.amap (List.map (fun (p:AV×AV)=>(AV.rn z14 (Prod.fst p),AV.rn z14 (Prod.snd p))) (List.set z5 (Int.toNat z11) (Prod.fst z18,.int .i64 z10)))),(2,.cells z7 49)]:List (Nat×AObj));letI z1:=([(0,.row 49 7 (List.length L) (wab (atF L)) false),(1,.amap (List.map (fun (p:AV×AV)=>(AV.rn z14 (Prod.fst p),AV.rn z14 (Prod.snd p))) (List.set z5 (Int.toNat z11) (Prod.fst z18,.int .i64 z17)))),(2,.cells z7 49)]:List (Nat×AObj));((wcw z16 173 (entM E)∧.int .i64 (wau (Option.getD z13 z15))=Option.getD z13 z15)∧(inR .i64 z10∧z6∧z4∧z9∧∃ (O':List (Nat×AObj)),wae z2 O'∧Q .normal (St.mk z3 O' 3 []))∧z6∧(inR .i64 z10∧z4∧z9∧∃ (O':List (Nat×AObj)),wae z2 O'∧Q .normal (St.mk z3 O' 3 []))∧inR .i64 z10∧z4∧z9∧∃ (O':List (Nat×AObj)),wae z2 O'∧Q .normal (St.mk z3 O' 3 []))∧z6∧(z12∧(inR .i64 z17∧z4∧z9∧∃ (O':List (Nat×AObj)),wae z1 O'∧Q .normal (St.mk z3 O' 3 []))∧inR .i64 z17∧z4∧z9∧∃ (O':List (Nat×AObj)),wae z1 O'∧Q .normal (St.mk z3 O' 3 []))∧z12∧inR .i64 z17∧z4∧z9∧∃ (O':List (Nat×AObj)),wae z1 O'∧Q .normal (St.mk z3 O' 3 [])):=by kernel_rfl
theorem wya (L:List FL) (k:Nat) (P:Nat→Prop) (R:Exit→St→Prop):wa1 ⟨te,[],[],0,59,0⟩ (wa2 Tryz.f99 9) [4,5,7,34,35,36] [4,5] [] (S_s9 L) P R (S_s9 L k)=(letI z13:=ren 0 [(23,0),(1,1),(2,2),(3,3)];letI z12:=ren 0 [(0,0),(23,1),(2,2),(3,3)];letI z11:=wab (atF (selB L k));letI z10:=wab (atF (selG L k));letI z9:=List.length (selG L k)+1;letI z8:=List.length (selB L k)+1;letI z7:=(7≤16777216∧7=7∧1≤9223372036854775807:Prop);letI z6:=List.length (selB L k);letI z5:=List.length (selG L k);letI z3:=(↑(List.length L):Int);letI z2:=entM (cntL (edG L) (List.length L));letI z1:=(atF L (Int.toNat (↑k:Int)));letI z4:=mget z2 (.agg [.str (FL.id z1),.int .i64 (FL.ver z1)]);letI z0:=(wap (TI.sz wdh) (.str (FL.id z1):: .int .i64 (FL.ver z1):: .int .i64 (FL.day z1):: .int .i64 (FL.kind z1):: .view 15 (List.length (FL.ms z1)) (waf (atM (FL.ms z1))):: .view 5 (List.length (FL.rs z1)) (wai (atR (FL.rs z1))):: .view 5 (List.length (FL.ts z1)) (wah (atT (FL.ts z1)))::List.append [] (List.flatten (List.replicate (nat_lit 0) [.str ([]),.int .i64 0,.int .i64 0,.int .i64 0,.nil,.nil,.nil]))));wad (decide ((↑k:Int)<z3)) (((0:Int)≤(↑k:Int)∧(↑k:Int)<z3)∧(Int.toNat (↑k:Int)<List.length L∧7=7)∧(wcw (Env.te (Env.mk te [] [] 0 59 0)) 173 z2∧.int .i64 (wau (Option.getD z4 (zvA (.int .i64 0))))=Option.getD z4 (zvA (.int .i64 0)))∧wad (decide ((1:Int)<wau (Option.getD z4 (zvA (.int .i64 0))))) (z7∧((1≤1∧7=7)∧List.length (selB L k)≤List.length (selB L k)∧7=7∧49=49∧7=7∧List.length (selB L k)+1≤9223372036854775807∧z8 * TI.bytes wdh≤140737488355328)∧inR .i64 ((↑k:Int)+(1:Int))∧∃ (i':Nat),(TEq [(4,.own 0 z5),(5,.own 1 z8),(7,.map 2),(34,.own 3 (List.length L)),(35,.int .i64 z3),(36,.int .i64 ((↑k:Int)+(1:Int)))] [(4,.own 0 (List.length (selG L i'))),(5,.own 1 (List.length (selB L i'))),(7,.map 2),(34,.own 3 (List.length L)),(35,.int .i64 z3),(36,.int .i64 (↑i':Int))]∧wae [(0,.row 49 7 z5 z10 false),(1,.row 49 7 z8 (apF z6 z11 z0) false),(2,.amap (List.map (fun (p:AV×AV)=>(AV.rn z12 (Prod.fst p),AV.rn z12 (Prod.snd p))) z2)),(3,.row 49 7 (List.length L) (wab (atF L)) false)] [(0,.row 49 7 (List.length (selG L i')) (wab (atF (selG L i'))) false),(1,.row 49 7 (List.length (selB L i')) (wab (atF (selB L i'))) false),(2,.amap z2),(3,.row 49 7 (List.length L) (wab (atF L)) false)])∧P i') (z7∧((1≤1∧7=7)∧List.length (selG L k)≤List.length (selG L k)∧7=7∧49=49∧7=7∧List.length (selG L k)+1≤9223372036854775807∧z9 * TI.bytes wdh≤140737488355328)∧inR .i64 ((↑k:Int)+(1:Int))∧∃ (i':Nat),(TEq [(4,.own 0 z9),(5,.own 1 z6),(7,.map 2),(34,.own 3 (List.length L)),(35,.int .i64 z3),(36,.int .i64 ((↑k:Int)+(1:Int)))] [(4,.own 0 (List.length (selG L i'))),(5,.own 1 (List.length (selB L i'))),(7,.map 2),(34,.own 3 (List.length L)),(35,.int .i64 z3),(36,.int .i64 (↑i':Int))]∧wae [(0,.row 49 7 z9 (apF z5 z10 z0) false),(1,.row 49 7 z6 z11 false),(2,.amap (List.map (fun (p:AV×AV)=>(AV.rn z13 (Prod.fst p),AV.rn z13 (Prod.snd p))) z2)),(3,.row 49 7 (List.length L) (wab (atF L)) false)] [(0,.row 49 7 (List.length (selG L i')) (wab (atF (selG L i'))) false),(1,.row 49 7 (List.length (selB L i')) (wab (atF (selB L i'))) false),(2,.amap z2),(3,.row 49 7 (List.length L) (wab (atF L)) false)])∧P i')) ((∀ (i:Nat),i<List.length (selG L k)→true=true)∧(∀ (i:Nat),i<List.length (selB L k)→true=true)∧∃ (O':List (Nat×AObj)),wae [(0,.row 49 7 z5 z10 false),(1,.row 49 7 z6 z11 false)] O'∧R (.exit 2) (St.mk [(4,.own 0 z5),(5,.own 1 z6)] O' 2 []))):=by kernel_rfl
theorem wqd {L:List ((List UInt8×Int)×Int)} (h:(L.map Prod.fst).Nodup):wcw te 173 (entM L):=by
 refine ⟨List.all_eq_true.2 fun p hp=>?_,(w1w h).2⟩
 obtain ⟨r,_,rfl⟩:=List.mem_map.1 hp
 have:∀ (a:List UInt8) (b:Int),keyA te 173 (.agg [.str a,.int .i64 b])=true:=fun a b=>by kernel_rfl
 exact this _ _
theorem w0t {ES:List (AV×AV)} {i:Nat} {v:AV} (hi:i<ES.length) (h:wcw te 173 (ES.set i ((ES.getD i (.any,.any)).1,v))):wcw te 173 ES:=by
 have e:(ES.set i ((ES.getD i (.any,.any)).1,v)).map Prod.fst=ES.map Prod.fst:=by
  apply List.ext_getElem
  ·simp
  ·intro j h1 h2
   simp only [List.getElem_map,List.getElem_set]
   split
   ·rename_i e;subst e;simp [hi]
   ·rfl
 obtain ⟨h1,h2⟩:=h
 rw [e] at h2
 refine ⟨?_,h2⟩
 have f:∀ l:List (AV×AV),(l.all fun p=>keyA te 173 p.1)=(l.map Prod.fst).all fun k=>keyA te 173 k:=fun l=>by rw [List.all_map];rfl
 rw [f] at h1 ⊢
 rw [e] at h1
 exact h1
theorem s6_ok (hP:C.P=Tryz.prog) (E:List ((List UInt8×Int)×Int)) (F:FL) (L:List FL) (k:Nat):waj C 0 59 (regC Tryz.f99 6) (L_s6 E F L k):=by
 have _:C.Loose:=inferInstance
 rintro st Q ⟨h0,hnd,hin,hQ⟩
 refine waj.cut (SA:=S_s6b E F L k) (prg hP) [] 0 .nil [4,5,6,7,9,17,18,19] [4,5,6,7,9,17,18,19] [0,1,2,3,4,5] [4,5,6,7,9,17,18,19,23,28] h0 ?_ ?_ ⟨fun _ _=>rfl,trivial⟩
 ·refine (nf_s6a .nil .nil (.own 0 L.length) (.own 0 L.length) (.int .i64 L.length) (.int .i64 k) (.int .i64 F.day) (.int .i64 F.kind) (.view 15 F.ms.length (waf (atM F.ms))) (.view 5 F.rs.length (wai (atR F.rs))) (.view 5 F.ts.length (wah (atT F.ts))) F.id F.ver (entM E) (.row 49 7 L.length (wab (atF L)) false)).mpr ?_
  repeat' first | exact rfl | refine And.intro ?_ ?_
 rw [nf_s6]
 have zz:zvA (.int .i64 0)= .int .i64 0:=rfl
 have F1:Option.getD (mget (entM E) (.agg [.str F.id,.int .i64 F.ver])) (.int .i64 0)= .int .i64 (getC E (mk2 (edM F))):=wpe (mk2 (edM F)) E
 obtain ⟨F3,F4,F5⟩:=ment_K (mk2 (edM F)) E
 have K1:=wqd hnd
 have K2:wcw te 173 (ment (.int .i64 0) (entM E) (keyK (mk2 (edM F)))):=w0t F4 (F5.symm ▸ wqd (wqy (mk2 (edM F)) hnd))
 change Option.getD (mget (ment (.int .i64 0) (entM E) (.agg [.str F.id,.int .i64 F.ver])) (.agg [.str F.id,.int .i64 F.ver])) (.int .i64 0)= .int .i64 (getC E (mk2 (edM F))) at F3
 change midx (entM E) (.agg [.str F.id,.int .i64 F.ver])<(ment (.int .i64 0) (entM E) (.agg [.str F.id,.int .i64 F.ver])).length at F4
 change (ment (.int .i64 0) (entM E) (.agg [.str F.id,.int .i64 F.ver])).set (midx (entM E) (.agg [.str F.id,.int .i64 F.ver])) (((ment (.int .i64 0) (entM E) (.agg [.str F.id,.int .i64 F.ver])).getD (midx (entM E) (.agg [.str F.id,.int .i64 F.ver])) (.any,.any)).1,.int .i64 (getC E (mk2 (edM F))+1))=entM (addC E (mk2 (edM F))) at F5
 change wcw te 173 (ment (.int .i64 0) (entM E) (.agg [.str F.id,.int .i64 F.ver])) at K2
 have F6:(0:Int)≤(midx (entM E) (.agg [.str F.id,.int .i64 F.ver]):Int)∧(midx (entM E) (.agg [.str F.id,.int .i64 F.ver]):Int)<((ment (.int .i64 0) (entM E) (.agg [.str F.id,.int .i64 F.ver])).length:Int):=by omega
 simp only [zz,F1,F3,wau,Int.toNat_natCast,F5,wfx]
 have leaf:∃ O',wae (S_s6 (addC E (mk2 (edM F))) F L k).O O'∧Q .normal ⟨(S_s6 (addC E (mk2 (edM F))) F L k).T,O',3,[]⟩:=⟨_,wao _,hQ⟩
 have all:∀ i,i<L.length→True:=fun _ _=>trivial
 have K1:=(and_true (wcw te 173 (entM E))).symm ▸ K1
 repeat' first | exact leaf | exact trivial | exact K1 | exact K2 | exact ⟨K2,trivial⟩ | exact hin | exact F6 | exact all | refine And.intro ?_ ?_
theorem s4_loop (hP:C.P=Tryz.prog) (L:List FL):waj C 0 59 (wal Tryz.f99 4) (L_s4 L):=by
 rintro st Q ⟨h0,hn,hQ⟩
 refine waj.mkI (prg hP) [] (fun k=>[(1006,L_s6 (cntL (edG L) k) (atF L k) L k)]) 0 .nil (fun k=>[(regC Tryz.f99 6,L_s6 (cntL (edG L) k) (atF L k) L k)]) (fun k=>by kernel_rfl) (fun k=>⟨s6_ok hP _ _ L k,trivial⟩) [4,5,6,7,17,18,19] [4,5,6,7] [] (S_s4 L) (fun k=>k≤L.length) (fun k=>L.length - k) 0 (Nat.zero_le _) h0 (fun k hk=>?_) (fun k=>⟨fun _ _=>rfl,trivial⟩)
 rw [wyb,Int.toNat_natCast,wfx,wfx]
 have hb:=wp7 (edG L) (mk2 (edM (atF L k))) k
 have hc:=wsv (edG L) (mk2 (edM (atF L k))) k
 refine wam (fun h1=>⟨⟨by omega,by omega⟩,⟨by omega,rfl⟩,⟨rfl,wao _⟩,wqk (edG L) k,by simp only [inR];omega,by simp only [inR];omega,k+1,⟨rfl,?_⟩,by omega,by omega⟩) (fun h1=>?_)
 ·exact wao _
 ·have:k=L.length:=by omega
  subst this
  first | exact ⟨fun _ _=>rfl,_,wao _,hQ⟩ | (rw [wfx];exact ⟨fun _ _=>rfl,_,wao _,hQ⟩)
theorem snocF (G:List FL) (x:FL) (ch:Nat→List AV) (hch:ch 0=wa9 x):∀ i,i<G.length+1→apF G.length (wab (atF G)) ch i=wab (atF (G++[x])) i:=fun i hi=>by
 unfold apF
 by_cases h:i<G.length
 ·rw [if_pos h]
  show wa9 (atF G i)=wa9 (atF (G++[x]) i)
  congr 1
  simp [atF,List.getD_eq_getElem?_getD,List.getElem?_append_left h]
 ·have:i=G.length:=by omega
  subst this
  rw [if_neg h,Nat.sub_self,hch]
  show wa9 x=wa9 (atF (G++[x]) G.length)
  congr 1
  simp [atF]
theorem s9_loop (hP:C.P=Tryz.prog) (L:List FL):waj C 0 59 (wal Tryz.f99 9) (L_s9 L):=by
 have _:C.Loose:=inferInstance
 rintro st Q ⟨h0,hn,hQ⟩
 refine AWP.ownNil 5 49 7 (AWP.ownNil 4 49 7 ?_)
 refine waj.mk (prg hP) [] 0 .nil [4,5,7,34,35,36] [4,5] [] (S_s9 L) (fun k=>k≤L.length) (fun k=>L.length - k) 0 (Nat.zero_le _) h0 (fun k hk=>?_) (fun _=>⟨fun _ _=>rfl,fun _ _=>rfl,fun _ _=>rfl,trivial⟩)
 have zz:zvA (.int .i64 0)= .int .i64 0:=rfl
 rw [wya,Int.toNat_natCast]
 have l1:=wi7 (fun i=> !cfB L i) L k
 have l2:=wi7 (cfB L) L k
 have hF:Option.getD (mget (entM (cntL (edG L) L.length)) (.agg [.str (atF L k).id,.int .i64 (atF L k).ver])) (.int .i64 0)= .int .i64 (getC (cntL (edG L) L.length) (mk2 (edM (atF L k)))):=wpe (mk2 (edM (atF L k))) _
 rw [zz,hF,wp7,wfx,wfx]
 have hc:cfB L k=decide (1<numC (edG L) (mk2 (edM (atF L k))) L.length):=rfl
 have sG:selG L (k+1)=bif !cfB L k then selG L k++[atF L k] else selG L k:=rfl
 have sB:selB L (k+1)=bif cfB L k then selB L k++[atF L k] else selB L k:=rfl
 refine wam (fun h1=>⟨⟨by omega,by omega⟩,⟨by omega,rfl⟩,⟨wqd (wqk _ _),rfl⟩,wam (fun h2=>?_) (fun h2=>?_)⟩) (fun h1=>?_)
 ·have hk':cfB L k=true:=decide_eq_true h2
  rw [hk'] at sG sB
  have sG:selG L (k+1)=selG L k:=sG
  have sB:selB L (k+1)=selB L k++[atF L k]:=sB
  have l2:(selB L k).length≤k:=l2
  refine ⟨⟨by omega,rfl,by omega⟩,⟨⟨Nat.le_refl _,rfl⟩,Nat.le_refl _,rfl,rfl,rfl,by omega,?_⟩,by simp only [inR];omega,k+1,?_,by omega,by omega⟩
  ·show ((selB L k).length+1) * 112≤_
   omega
  ·rw [sG,sB,List.length_append]
   exact ⟨rfl,⟨rfl,rfl,rfl,rfl,rfl,fun _ _=>rfl⟩,⟨rfl,rfl,rfl,rfl,rfl,snocF _ _ _ rfl⟩,rfl,⟨rfl,rfl,rfl,rfl,rfl,fun _ _=>rfl⟩,trivial⟩
 ·have hk':cfB L k=false:=decide_eq_false h2
  rw [hk'] at sG sB
  have sG:selG L (k+1)=selG L k++[atF L k]:=sG
  have sB:selB L (k+1)=selB L k:=sB
  have l1:(selG L k).length≤k:=l1
  refine ⟨⟨by omega,rfl,by omega⟩,⟨⟨Nat.le_refl _,rfl⟩,Nat.le_refl _,rfl,rfl,rfl,by omega,?_⟩,by simp only [inR];omega,k+1,?_,by omega,by omega⟩
  ·show ((selG L k).length+1) * 112≤_
   omega
  ·rw [sG,sB,List.length_append]
   exact ⟨rfl,⟨rfl,rfl,rfl,rfl,rfl,snocF _ _ _ rfl⟩,⟨rfl,rfl,rfl,rfl,rfl,fun _ _=>rfl⟩,rfl,⟨rfl,rfl,rfl,rfl,rfl,fun _ _=>rfl⟩,trivial⟩
 ·have:k=L.length:=by omega
  subst this
  exact ⟨fun _ _=>rfl,fun _ _=>rfl,_,wao _,hQ⟩
theorem nrm_gd {g:Nat→FL} {n:Nat} (hg:∀ i,i<n→(g i).Gd):∀ x∈nrmL okV g n,x.Gd:=fun x hx=>by
 obtain ⟨i,b,rfl⟩:=wo4.1 hx
 exact hg i b.lt
theorem wsw (g:Nat→FL) (n:Nat):(nrmL okV g n).length≤n:=by
 have:∀ k,(nrmK okV g n k).length≤k:=fun k=>by
  induction k with
  |zero=>exact Nat.le_refl _
  |succ k ih=>
   rw [nrmK]
   cases kept okV g n k with
   |true=>
    have hp:=wqh (nrmK okV g n k) (g k) (nrmK okV g n k).length
    rw [cond_true,insF,List.length_append,List.length_cons,List.length_take,List.length_drop]
    omega
   |false=>rw [cond_false];omega
 exact this n
theorem kf_day (L:List FL) (d:Int):kfL (qD d) (atF L) L.length=L.filter fun f=>decide (f.day≤d):=by
 unfold kfL
 rw [show lst (atF L) L.length=L from wej L _]
 refine List.filter_congr fun x _=>?_
 unfold qD
 by_cases h:d<x.day
 ·rw [decide_eq_true h,decide_eq_false (by omega)];rfl
 ·rw [decide_eq_false h,decide_eq_true (by omega)];rfl
theorem spl_at (hP:C.P=Tryz.prog) (hL:∀ w,C.laid w→LaidW w) (g:Nat→FL) (n:Nat) (d:Int) (hn:n≤1000) (hg:∀ i,i<n→(g i).Gd):ADet C 99 [.view 7 n (wab g),.int .i64 d] [] (.tuple [.own 0 (wbp (knwL okV g n d)).length,.own 1 (badL (knwL okV g n d)).length])
     [(0,.row 49 7 (wbp (knwL okV g n d)).length (wab (atF (wbp (knwL okV g n d)))) false),(1,.row 49 7 (badL (knwL okV g n d)).length (wab (atF (badL (knwL okV g n d)))) false)]:=by
 refine wba.wpL (prg hP) [(39,.det wlr),(100,.rel wm8)] [(4,L_s4 (knwL okV g n d)),(9,L_s9 (knwL okV g n d))] 0 (.cons (nrmz_ok hP hL) (.cons (delD_ok hP) .nil)) (hP ▸ Tryz.func99) rfl rfl rfl
   [(wal Tryz.f99 4,L_s4 (knwL okV g n d)),(wal Tryz.f99 9,L_s9 (knwL okV g n d))] (by kernel_rfl) ⟨s4_loop hP _,s9_loop hP _,trivial⟩ ?_
 rw [nf_spl,wdm,wdm,wfx]
 have hl:=wsw g n
 have hgd:=nrm_gd hg
 have hk:kfL (qD d) (atF (nrmL okV g n)) (nrmL okV g n).length=knwL okV g n d:=kf_day _ d
 generalize nrmL okV g n=N at *
 rw [hk]
 generalize knwL okV g n d=K at *
 refine ⟨⟨hn,rfl,hg⟩,fun _ _=>rfl,fun _ _=>rfl,rfl,rfl,rfl,rfl,by omega,rfl,fun i hi=>(hgd _ (wkw hi)).rg,trivial,fun k h hkn hlst=>?_⟩
 obtain ⟨e1,e2⟩:=lst_at hlst weq
 subst e1
 refine ⟨fun _ _=>rfl,⟨rfl,⟨rfl,rfl,rfl,rfl,rfl,fun i hi=>?_⟩,rfl,trivial⟩,by omega,⟨rfl,⟨rfl,rfl,rfl,rfl,rfl,fun i hi=>absurd hi (Nat.not_lt_zero i)⟩,⟨rfl,rfl,rfl,rfl,rfl,fun i hi=>absurd hi (Nat.not_lt_zero i)⟩,rfl,⟨rfl,rfl,rfl,rfl,rfl,fun _ _=>rfl⟩,trivial⟩,by omega,fun _ _=>rfl,fun _ _=>rfl,_,wao _,rfl,rfl⟩
 show wa9 (h i)=wa9 (K.getD i weq)
 rw [e2 i hi]
theorem spl_ok (hP:C.P=Tryz.prog) (hL:∀ w,C.laid w→LaidW w):wag C 99 wle:=by
 rintro args objs U Os vc h hvc
 unfold wle at h
 split at h<;>simp only [Option.some.injEq,Prod.mk.injEq,reduceCtorEq] at h
 rename_i n f d
 obtain ⟨rfl,rfl,rfl⟩:=h
 obtain ⟨hn,hf,hg⟩:=hvc
 generalize flOf f=g at *
 subst hf
 exact spl_at hP hL g n d hn hg
theorem nf_vw (g:Nat→FL) (n:Nat) (d:Int) (R:AV→List (Nat×AObj)→Prop):wpFn te [(99,.det wle),(100,.rel wm7)] [(4,L_v4 (wbp (knwL okV g n d)))] 0 Tryz.f44 [.view 7 n (wab g),.int .i64 d] [] R=(letI z1:=wbp (knwL okV (flOf (wab g)) n d);letI z0:=wbp (knwL okV g n d);letI z2:=(List.map (fun (p:AV×AV)=>(AV.rn (idxN [0,1,2]) (Prod.fst p),AV.rn (idxN [0,1,2]) (Prod.snd p))) (nwE z0 (List.length z0)));(n≤1000∧wab g=wab (flOf (wab g))∧∀ (i:Nat),i<n→FL.Gd (flOf (wab g) i))∧(∀ (i:Nat),i<List.length z1→true=true)∧(∀ (i:Nat),i<List.length (badL (knwL okV (flOf (wab g)) n d))→true=true)∧(TEq [(5,.own 0 (List.length z1)),(7,.ptr 1 0),(17,.own 0 (List.length z1)),(18,.int .i64 (↑(List.length z1):Int)),(19,.int .i64 0)] [(5,.own 0 (List.length z0)),(7,.ptr 1 0),(17,.own 0 (List.length z0)),(18,.int .i64 (↑(List.length z0):Int)),(19,.int .i64 (↑0:Int))]∧wae [(0,.row 49 7 (List.length z1) (wab (atF z1)) false),(1,.cells [.map 2] 132),(2,.amap (List.map (fun (p:AV×AV)=>(AV.rn (ren 0 [(0,0),(17,1),(16,2)]) (Prod.fst p),AV.rn (ren 0 [(0,0),(17,1),(16,2)]) (Prod.snd p))) []))] [(0,.row 49 7 (List.length z0) (wab (atF z0)) false),(1,.cells [.map 2] 132),(2,.amap (nwE z0 0))])∧List.length z0≤1000∧(∀ (F:FL),F∈wbp (knwL okV g n d)→(0:Int)≤FL.ver F)∧(∀ (i:Nat),i<List.length z0→true=true)∧49=49∧132=132∧false=false∧List.length z0=List.length z0∧List.length z0≤1000∧wab (atF z0)=wab (flOf (wab (atF z0)))∧(∀ (i:Nat),i<List.length z0→FL.Rg (flOf (wab (atF z0)) i))∧EsV z2∧∀ (k:Nat) (h:Nat→FL),k≤List.length z0→lst h k=kfL (qV z2) (flOf (wab (atF z0))) (List.length z0)→(∀ (i:Nat),i<k→true=true)∧(∀ (i:Nat),i<k→true=true)∧∃ (O':List (Nat×AObj)),wae [(0,.row 49 7 k (wab h) false)] O'∧R (.own 0 k) O'):=by kernel_rfl
theorem wxw (G:List FL) (k:Nat) (P:Nat→Prop) (R:Exit→St→Prop):wa1 ⟨te,[],[],0,40,0⟩ (wa2 Tryz.f44 4) [5,7,17,18,19] [5,7] [] (S_v4 G) P R (S_v4 G k)=(letI z5:=TI.desc (TI.mk TypeDesc.string 1 16 (Value.string (ByteArray.mk #[])) false);letI z4:=ren 0 [(0,0),(1,1),(2,2)];letI z3:=(↑(List.length G):Int);letI z2:=(atF G (Int.toNat (↑k:Int)));letI z6:=wau (Option.getD (mget (nwE G k) (.str (FL.id z2))) (zvA (.int .i64 0)));letI z1:=([(5,.own 0 (List.length G)),(7,.ptr 1 0),(17,.own 0 (List.length G)),(18,.int .i64 z3),(19,.int .i64 ((↑k:Int)+(1:Int)))]:List (Nat×AV));letI z0:=([(0,.row 49 7 (List.length G) (wab (atF G)) false),(1,.cells [.map 2] 132),(2,.amap (List.map (fun (p:AV×AV)=>(AV.rn z4 (Prod.fst p),AV.rn z4 (Prod.snd p))) (nwE G k)))]:List (Nat×AObj));wad (decide ((↑k:Int)<z3)) (((0:Int)≤(↑k:Int)∧(↑k:Int)<z3)∧(Int.toNat (↑k:Int)<List.length G∧7=7)∧wad (!decide (FL.kind z2=(1:Int))) ((wbq z5 (nwE G k)∧.int .i64 z6=Option.getD (mget (nwE G k) (.str (FL.id z2))) (zvA (.int .i64 0)))∧wbq z5 (nwE G k)∧inR .i64 ((↑k:Int)+(1:Int))∧∃ (i':Nat),(TEq z1 [(5,.own 0 (List.length G)),(7,.ptr 1 0),(17,.own 0 (List.length G)),(18,.int .i64 z3),(19,.int .i64 (↑i':Int))]∧wae [(0,.row 49 7 (List.length G) (wab (atF G)) false),(1,.cells [.map 2] 132),(2,.amap (List.map (fun (p:AV×AV)=>(AV.rn z4 (Prod.fst p),AV.rn z4 (Prod.snd p))) (mset (nwE G k) (.str (FL.id z2)) (.int .i64 (max z6 (FL.ver z2))))))] [(0,.row 49 7 (List.length G) (wab (atF G)) false),(1,.cells [.map 2] 132),(2,.amap (nwE G i'))])∧P i') (inR .i64 ((↑k:Int)+(1:Int))∧∃ (i':Nat),(TEq z1 [(5,.own 0 (List.length G)),(7,.ptr 1 0),(17,.own 0 (List.length G)),(18,.int .i64 z3),(19,.int .i64 (↑i':Int))]∧wae z0 [(0,.row 49 7 (List.length G) (wab (atF G)) false),(1,.cells [.map 2] 132),(2,.amap (nwE G i'))])∧P i')) ((∀ (i:Nat),i<List.length G→true=true)∧∃ (O':List (Nat×AObj)),wae z0 O'∧R (.exit 0) (St.mk [(5,.own 0 (List.length G)),(7,.ptr 1 0)] O' 3 []))):=by kernel_rfl
theorem ws6 (v:List UInt8→Int) (x:List UInt8) (y:Int):∀ K,x ∉ K→mset (entI K v) (.str x) (.int .i64 y)=entI (K++[x]) (fun t=>if t=x then y else v t)
 |[],_=>by simp [entI,mset]
 |t::K,h=>by
  have h1:¬ t=x:=fun e=>h (by simp [e])
  have ih:=ws6 v x y K (fun e=>h (by simp [e]))
  show (match keq (.str t) (.str x) with | true=>(AV.str x,AV.int .i64 y)::entI K v | false=>(AV.str t,AV.int .i64 (v t))::mset (entI K v) (.str x) (.int .i64 y))=_
  rw [wgh,decide_eq_false h1,ih]
  show _=(AV.str t,AV.int .i64 (if t=x then y else v t))::entI (K++[x]) _
  rw [if_neg h1]
theorem wkf {K:List (List UInt8)} {v v':List UInt8→Int} (h:∀ t∈K,v t=v' t):entI K v=entI K v':=List.map_congr_left fun t ht=>by rw [h t ht]
theorem ws4 (v:List UInt8→Int) (x:List UInt8) (y:Int):∀ K,K.Nodup→x∈K→mset (entI K v) (.str x) (.int .i64 y)=entI K (fun t=>if t=x then y else v t)
 |[],_,h=>by cases h
 |t::K,hd,h=>by
  rw [List.nodup_cons] at hd
  show (match keq (.str t) (.str x) with | true=>(AV.str x,AV.int .i64 y)::entI K v | false=>(AV.str t,AV.int .i64 (v t))::mset (entI K v) (.str x) (.int .i64 y))=(AV.str t,AV.int .i64 (if t=x then y else v t))::entI K (fun t=>if t=x then y else v t)
  rw [wgh]
  by_cases e:t=x
  ·subst e
   rw [decide_eq_true rfl,if_pos rfl]
   show _::_=_::_
   rw [wkf (v:=v) (v':=fun s=>if s=t then y else v s) fun s hs=>by
    rw [if_neg]
    intro q;subst q;exact hd.1 hs]
  ·rw [decide_eq_false e,if_neg e]
   have hx:x∈K:=by
    rcases List.mem_cons.1 h with q | q
    ·exact absurd q.symm e
    ·exact q
   show _::_=_::_
   rw [ws4 v x y K hd.2 hx]
theorem wh2 (G:List FL):∀ k,(idK G k).Nodup
 |0=>List.nodup_nil
 |k+1=>by
  rw [idK]
  cases q: !decide ((atF G k).kind=1) && !decide ((atF G k).id∈idK G k) with
  |false=>exact wh2 G k
  |true=>
   rw [Bool.and_eq_true,Bool.not_eq_true',Bool.not_eq_true',decide_eq_false_iff_not,decide_eq_false_iff_not] at q
   show (idK G k++[(atF G k).id]).Nodup
   rw [List.nodup_append]
   refine ⟨wh2 G k,by simp,fun a ha b hb=>?_⟩
   rw [List.mem_singleton] at hb
   subst hb
   intro e
   subst e
   exact q.2 ha
theorem wjk {G:List FL} {t:List UInt8}:∀ {k},t ∉ idK G k→nwF G t k=0
 |0,_=>rfl
 |k+1,h=>by
  rw [idK] at h
  rw [nwF]
  cases q: !decide ((atF G k).kind=1) with
  |false=>
   rw [q,Bool.false_and,cond_false] at h
   rw [Bool.false_and,cond_false];exact wjk h
  |true=>
   rw [q,Bool.true_and] at h
   by_cases e:(atF G k).id∈idK G k
   ·rw [decide_eq_true e] at h
    have h:t ∉ idK G k:=h
    have ne:¬ (atF G k).id=t:=fun z=>h (z ▸ e)
    rw [decide_eq_false ne];exact wjk h
   ·rw [decide_eq_false e] at h
    have h:t ∉ idK G k++[(atF G k).id]:=h
    rw [List.mem_append,List.mem_singleton,not_or] at h
    rw [decide_eq_false fun z=>h.2 z.symm];exact wjk h.1
theorem wst (G:List FL) (k:Nat) (x:List UInt8):Option.getD (mget (nwE G k) (.str x)) (.int .i64 0)= .int .i64 (nwF G x k):=by
 unfold nwE
 rw [wpf]
 by_cases h:x∈idK G k
 ·rw [if_pos h]
 ·rw [if_neg h,wjk h]
theorem wss (G:List FL) (k:Nat):wbq .string (nwE G k):=wur (wh2 G k)
theorem wo2 (σ:Nat→Option Nat) (G:List FL) (k:Nat):(nwE G k).map (fun p=>(AV.rn σ p.1,AV.rn σ p.2))=nwE G k:=wgm σ _ _
theorem nwE_msg {G:List FL} {k:Nat} (h:(atF G k).kind=1):nwE G (k+1)=nwE G k:=by
 unfold nwE
 rw [idK,decide_eq_true h]
 refine wkf fun t _=>?_
 rw [nwF,decide_eq_true h];rfl
theorem nwE_set {G:List FL} {k:Nat} (h:¬ (atF G k).kind=1):mset (nwE G k) (.str (atF G k).id) (.int .i64 (max (nwF G (atF G k).id k) (atF G k).ver))=nwE G (k+1):=by
 unfold nwE
 have st:∀ t,nwF G t (k+1)=if t=(atF G k).id then max (nwF G (atF G k).id k) (atF G k).ver else nwF G t k:=fun t=>by
  rw [nwF,decide_eq_false h]
  by_cases e:t=(atF G k).id
  ·subst e;rw [if_pos rfl,decide_eq_true rfl];rfl
  ·rw [if_neg e,decide_eq_false fun z=>e z.symm];rfl
 rw [idK,decide_eq_false h]
 by_cases e:(atF G k).id∈idK G k
 ·rw [decide_eq_true e,ws4 _ _ _ _ (wh2 G k) e]
  exact wkf fun t _=>(st t).symm
 ·rw [decide_eq_false e,ws6 _ _ _ _ e]
  exact wkf fun t _=>(st t).symm
theorem v4_loop (hP:C.P=Tryz.prog) (G:List FL):waj C 0 40 (wal Tryz.f44 4) (L_v4 G):=by
 have _:C.Loose:=inferInstance
 rintro st Q ⟨h0,hn,hv,hQ⟩
 refine waj.mk (prg hP) [] 0 .nil [5,7,17,18,19] [5,7] [] (S_v4 G) (fun k=>k≤G.length) (fun k=>G.length - k) 0 (Nat.zero_le _) h0 (fun k hk=>?_) (fun _=>⟨fun _ _=>rfl,trivial⟩)
 have zz:zvA (.int .i64 0)= .int .i64 0:=rfl
 rw [wxw,Int.toNat_natCast,zz,wst,wo2]
 refine wam (fun h1=>⟨⟨by omega,by omega⟩,⟨by omega,rfl⟩,wcr (fun h2=>?_) (fun h2=>?_)⟩) (fun h1=>?_)
 ·have e:=nwE_set (G:=G) (k:=k) h2
  refine ⟨⟨wss G k,rfl⟩,wss G k,by simp only [inR];omega,k+1,⟨rfl,?_⟩,by omega,by omega⟩
  have e':mset (nwE G k) (.str (atF G k).id) (.int .i64 (max (wau (.int .i64 (nwF G (atF G k).id k))) (atF G k).ver))=nwE G (k+1):=e
  rw [e',wo2]
  exact wao _
 ·exact ⟨by simp only [inR];omega,k+1,⟨rfl,by rw [nwE_msg h2];exact wao _⟩,by omega,by omega⟩
 ·have:k=G.length:=by omega
  subst this
  exact ⟨fun _ _=>rfl,_,wao _,hQ⟩
theorem kf_view (G:List FL):kfL (qV (nwE G G.length)) (atF G) G.length=wfh G:=by
 unfold kfL wfh
 rw [show lst (atF G) G.length=G from wej G _]
 refine List.filter_congr fun x _=>?_
 unfold qV vwB
 rw [wst];rfl
theorem knw_len (g:Nat→FL) (n:Nat) (d:Int):(knwL okV g n d).length≤n:=Nat.le_trans (List.length_filter_le _ _) (wsw g n)
theorem w1g (L:List FL):(wbp L).length≤L.length:=wi7 _ L _
theorem knw_gd {g:Nat→FL} {n:Nat} {d:Int} (hg:∀ i,i<n→(g i).Gd):∀ x∈knwL okV g n d,x.Gd:=fun x hx=>nrm_gd hg x (List.mem_filter.1 hx).1
theorem view_at (hP:C.P=Tryz.prog) (hL:∀ w,C.laid w→LaidW w) (g:Nat→FL) (n:Nat) (d:Int) (hn:n≤1000) (hg:∀ i,i<n→(g i).Gd):ADet C 44 [.view 7 n (wab g),.int .i64 d] [] (.own 0 (vwL okV g n d).length) [(0,.row 49 7 (vwL okV g n d).length (wab (atF (vwL okV g n d))) false)]:=by
 refine wba.wpL (prg hP) [(99,.det wle),(100,.rel wm7)] [(4,L_v4 (wbp (knwL okV g n d)))] 0 (.cons (spl_ok hP hL) (.cons (delV_ok hP) .nil)) (hP ▸ Tryz.func44) rfl rfl rfl
  [(wal Tryz.f44 4,L_v4 (wbp (knwL okV g n d)))] (by kernel_rfl) ⟨v4_loop hP _,trivial⟩ ?_
 rw [nf_vw,wdm,wdm,wo2]
 have h1:=knw_len g n d
 have h2:=w1g (knwL okV g n d)
 have hv:∀ F∈wbp (knwL okV g n d),0≤F.ver:=fun F hF=>by
  have:=wxm (nrm_ok (List.mem_filter.1 (wtx hF)).1)
  omega
 have hgd:∀ F∈wbp (knwL okV g n d),F.Gd:=fun F hF=>knw_gd hg F (wtx hF)
 have hk:=kf_view (wbp (knwL okV g n d))
 have hw:vwL okV g n d=wfh (wbp (knwL okV g n d)):=rfl
 rw [hk,hw]
 generalize wbp (knwL okV g n d)=G at *
 refine ⟨⟨hn,rfl,hg⟩,fun _ _=>rfl,fun _ _=>rfl,⟨rfl,wao _⟩,by omega,hv,fun _ _=>rfl,rfl,rfl,rfl,rfl,by omega,rfl,fun i hi=>(hgd _ (wkw hi)).rg,⟨_,_,rfl,wh2 G _⟩,fun k h hkn hlst=>?_⟩
 obtain ⟨e1,e2⟩:=lst_at hlst weq
 subst e1
 refine ⟨fun _ _=>rfl,fun _ _=>rfl,[(0,.row 49 7 (wfh G).length (wab (atF (wfh G))) false)],⟨⟨rfl,rfl,rfl,rfl,rfl,fun i hi=>?_⟩,trivial⟩,rfl,rfl⟩
 show wa9 (h i)=wa9 ((wfh G).getD i weq)
 rw [e2 i hi]
theorem nf_aw15 (R:AV→List (Nat×AObj)→Prop):wpFn te [] [(1002,woa)] 0 Tryz.f31 [] [] R=(letI z0:=([.str [(97:UInt8)],.int .i64 1,.int .i64 10,.int .i64 2,.view 15 0 (waf (atM [])),.own 1 1,.view 5 0 (wah (atT []))]:List AV);(5≤16777216∧5=5∧1≤9223372036854775807)∧(TEq [(0,.bool false),(1,.ptr 0 0)] [(0,.bool false),(1,.ptr 0 0)]∧wae [(0,.cells z0 49),(1,.row 61 5 1 (wap (TI.sz wdq) (.str [(111:UInt8)]:: .str [(57:UInt8),54,51,56,53,48,55,52]:: .int .i64 5:: .int .i64 2:: .int .i64 300::List.append [] (List.flatten (List.replicate (nat_lit 0) [.str ([]),.str ([]),.int .i64 0,.int .i64 0,.int .i64 0])))) false)] [(0,.cells z0 49),(1,.row 61 5 1 (wai (atR [awR])) false)])∧R (.bool true) []):=by kernel_rfl
theorem nf_aw2 (Q:Exit→St→Prop):regP ⟨te,[(33,.det wdf),(44,.det wk3)],[],0,22,0⟩ (regC Tryz.f31 2) [0] Q S_awc=(letI z7:=(7≤16777216∧7=7∧1≤9223372036854775807:Prop);letI z6:=wah (atT (FL.ts awFl));letI z5:=wai (atR (FL.rs awFl));letI z4:=waf (atM (FL.ms awFl));letI z3:=(List.flatten (List.replicate (nat_lit 0) [.str ([]),.int .i64 0,.int .i64 0,.int .i64 0,.nil,.nil,.nil]):List AV);letI z2:=(flV [(97:UInt8)] (FL.ver awFl) (FL.day awFl) (FL.kind awFl) 0 z4 1 z5 0 z6);letI z1:=(1=1∧1≤1000∧FM (wap (TI.sz wdh) (.str [(97:UInt8)]:: .int .i64 (FL.ver awFl):: .int .i64 (FL.day awFl):: .int .i64 (FL.kind awFl):: .view 15 0 z4:: .view 5 1 z5:: .view 5 0 z6::List.append [] z3)) 1:Prop);letI z0:=(∀ (i:Nat),i<1→nrefL (wap (TI.sz wdh) (.str [(97:UInt8)]:: .int .i64 (FL.ver awFl):: .int .i64 (FL.day awFl):: .int .i64 (FL.kind awFl):: .view 15 0 z4:: .view 5 1 z5:: .view 5 0 z6::List.append [] z3) i)=true:Prop);(FlC 0 z4 1 z5 0 z6∧FL.Rg z2)∧wad (decide (encF z2=[(49:UInt8),58,97,44,49,44,50,44,48,44,49,44,49,58,111,44,56,58,57,54,51,56,53,48,55,52,44,53,44,50,44,51,48,48,44,48,44])) (z7∧z0∧z1∧z7∧z0∧z1∧Q .normal (St.mk [(0,.bool true)] [] 0 [])) (Q .normal (St.mk [(0,.bool false)] [] 0 []))):=by kernel_rfl
open Go.Lib in
theorem wvf:encF awFl=[49,58,97,44,49,44,50,44,48,44,49,44,49,58,111,44,56,58,57,54,51,56,53,48,55,52,44,53,44,50,44,51,48,48,44,48,44]:=by
 have d1:∀ u,u<10→decDigits u=[UInt8.ofNat (48+u)]:=fun u h=>by rw [decDigits,dif_pos h]
 have d3:decDigits 300=[51,48,48]:=by
  rw [decDigits,dif_neg (by omega),show 300 / 10=30 from rfl,decDigits,dif_neg (by omega),show 30 / 10=3 from rfl,d1 3 (by omega)];rfl
 have i1:∀ u:Nat,u<10→itoa (u:Int)=[UInt8.ofNat (48+u)]:=fun u h=>by
  unfold itoa
  rw [if_neg (by omega),Int.toNat_natCast,d1 u h]
 have i3:itoa (300:Int)=[51,48,48]:=by
  unfold itoa
  rw [if_neg (by omega)];exact d3
 have e0:=i1 0 (by omega)
 have e1:=i1 1 (by omega)
 have e2:=i1 2 (by omega)
 have e5:=i1 5 (by omega)
 have e8:=i1 8 (by omega)
 show (itoa ((1:Nat):Int)++58::([97]++[44]))++((itoa ((1:Nat):Int)++[44])++((itoa ((2:Nat):Int)++[44])++((itoa ((0:Nat):Int)++[44])++([]++((itoa ((1:Nat):Int)++[44])++(((itoa ((1:Nat):Int)++58::([111]++[44]))++((itoa ((8:Nat):Int)++58::([57,54,51,56,53,48,55,52]++[44]))++((itoa ((5:Nat):Int)++[44])++((itoa ((2:Nat):Int)++[44])++(itoa (300:Int)++[44]))))++[])++((itoa ((0:Nat):Int)++[44])++[])))))))=_
 rw [e0,e1,e2,e5,e8,i3];rfl
theorem wvd:awFl.Rg:=⟨by simp only [inR,awFl];omega,by simp only [inR,awFl];omega,by decide,by decide,by decide,fun m hm=>(by cases hm),fun r hr=>(by
 rw [List.mem_singleton.1 hr]
 exact ⟨by simp only [inR,awR];omega,by simp only [inR,awR];omega,by simp only [inR,awR];omega⟩),fun t ht=>(by cases ht),by rw [wvf];decide⟩
theorem wve:awFl.Gd:=⟨⟨by decide,⟨by decide,fun m hm=>(by cases hm)⟩,⟨by decide,fun r hr=>by
 rw [List.mem_singleton.1 hr]
 decide⟩,⟨by decide,fun t ht=>(by cases ht)⟩⟩,wvd⟩
theorem fm_one {f:Nat→List AV} {F:FL} (h:f 0=wa9 F) (hg:F.Gd):FM f 1:=by
 have e:flOf f 0=F:=by
  unfold flOf
  rw [h];exact wd0 F
 refine ⟨fun i hi=>?_,fun i hi=>?_⟩
 ·obtain rfl:i=0:=by omega
  show f 0=wa9 (flOf f 0)
  rw [e,h]
 ·obtain rfl:i=0:=by omega
  rw [e];exact hg
theorem wv3 (hP:C.P=Tryz.prog) (hL:∀ w,C.laid w→LaidW w):wag C 44 wvp:=by
 rintro args objs U Os vc h hvc
 unfold wvp at h
 split at h<;>simp only [Option.some.injEq,Prod.mk.injEq,reduceCtorEq] at h
 rename_i n f d
 obtain ⟨rfl,rfl,rfl⟩:=h
 obtain ⟨hn,hf,hg⟩:=hvc
 generalize flOf f=g at *
 subst hf
 refine wak.frzO 0 ((view_at hP hL g n d hn hg).mono ?_)
 rintro u O ⟨rfl,rfl⟩
 refine ⟨fun _ _=>rfl,?_⟩
 have hb:Nat.ble (vwL okV g n d).length (vwL okV g n d).length=true:=Nat.ble_eq_true_of_le (Nat.le_refl _)
 constructor
 ·simp [frzC,frzA,frz,hb]
 ·rfl
theorem wv4 (hP:C.P=Tryz.prog) (hL:∀ w,C.laid w→LaidW w):wag C 44 wk3:=by
 rintro args objs U Os vc h hvc
 unfold wk3 at h
 split at h<;>simp only [Option.some.injEq,Prod.mk.injEq,reduceCtorEq] at h
 rename_i n d t m f fr
 obtain ⟨rfl,rfl,rfl⟩:=h
 obtain ⟨rfl,hn,hf,hs⟩:=hvc
 refine wak.rowEq 0 (f':=wab (flOf f)) rfl (fun i hi=>(hf i hi).symm) ?_
 have hb:Nat.ble n n=true:=Nat.ble_eq_true_of_le (Nat.le_refl _)
 have hh:=wv3 hP hL [.view 7 n (wab (flOf f)),.int .i64 d] [] _ _ _ rfl ⟨hn,by rw [wdm],by rw [wdm];exact hs⟩
 rw [wdm] at hh
 exact ADet.give hh (by simp [frzC,frzA,frz,hb]) rfl rfl (fun _ _=>rfl)
theorem aw2_ok (hP:C.P=Tryz.prog) (hL:∀ w,C.laid w→LaidW w):waj C 0 22 (regC Tryz.f31 2) woa:=by
 rintro st Q ⟨h0,hQ⟩
 refine AWP.nilVP 1 6 5 (wah (atT [])) (AWP.nilVP 1 4 15 (waf (atM [])) (AWP.canonIs (te:=te) [0,1] h0 (AWP.frzX 1 [] (fun _ _=>rfl) ?_) ⟨fun _ _=>rfl,trivial⟩))
 refine waj.reg (S:=S_awc) (prg hP) [(33,.det wdf),(44,.det wk3)] 0 (.cons (wqe hP hL) (.cons (wv4 hP hL) .nil)) [0,1] [0] rfl ?_ trivial
 rw [nf_aw2]
 have e:flV [97] awFl.ver awFl.day awFl.kind 0 (waf (atM awFl.ms)) 1 (wai (atR awFl.rs)) 0 (wah (atT awFl.ts))=awFl:=wd0 awFl
 rw [e]
 refine ⟨⟨wem awFl,wvd⟩,wam (fun _=>?_) (fun h=>absurd wvf h)⟩
 have one:∀ {p:Nat→Prop},p 0→∀ i,i<1→p i:=fun h i hi=>by
  obtain rfl:i=0:=by omega
  exact h
 exact ⟨⟨by omega,rfl,by omega⟩,one rfl,⟨rfl,by omega,fm_one (F:=awFl) rfl wve⟩,⟨by omega,rfl,by omega⟩,one rfl,⟨rfl,by omega,fm_one (F:=awFl) rfl wve⟩,hQ⟩
theorem w28 (hP:C.P=Tryz.prog) (hL:∀ w,C.laid w→LaidW w):wag C 31 wmw:=by
 rintro args objs U Os vc h hvc
 unfold wmw at h
 split at h<;>simp only [Option.some.injEq,Prod.mk.injEq,reduceCtorEq] at h
 obtain ⟨rfl,rfl,rfl⟩:=h
 refine wag.wpL (prg hP) [] [(1002,woa)] 0 .nil (hP ▸ Tryz.func31) rfl rfl rfl [(regC Tryz.f31 2,woa)] (by kernel_rfl) ⟨aw2_ok hP hL,trivial⟩ ?_
 rw [nf_aw15]
 exact ⟨⟨by omega,rfl,by omega⟩,⟨rfl,rfl,⟨rfl,rfl,rfl,rfl,rfl,fun i hi=>by
  obtain rfl:i=0:=by omega
  rfl⟩,trivial⟩,rfl,rfl⟩
theorem nf_ve (F:FL) (n:Nat) (v:Nat→Int) (R:AV→List (Nat×AObj)→Prop):wpFn te [(32,.rel wm6),(28,.rel wm3),(33,.det wdf),(34,.det wdf),(31,.det wmw)] [] 0 Tryz.f6 [.agg [.str F.id,.int .i64 F.ver,.int .i64 F.day,.int .i64 F.kind,.view 15 F.ms.length (waf (atM F.ms)),.view 5 F.rs.length (wai (atR F.rs)),.view 5 F.ts.length (wah (atT F.ts))],.view 1 n (waa v)] [] R=(letI z5:=(List.flatten (List.replicate (nat_lit 0) [.str ([]),.int .i64 0,.int .i64 0,.int .i64 0,.nil,.nil,.nil]):List AV);letI z4:=(Int.toNat (0:Int));27=27∧1=1∧waa v=waa (vInt (waa v))∧((0:Int)≤(0:Int)∧(0:Int)≤(4611686018427360000:Int))∧∀ (F_1:FL) (a':Int),letI z1:=flV (FL.id F_1) (FL.ver F_1) (FL.day F_1) (FL.kind F_1) (List.length (FL.ms F_1)) (waf (atM (FL.ms F_1))) (List.length (FL.rs F_1)) (wai (atR (FL.rs F_1))) (List.length (FL.ts F_1)) (wah (atT (FL.ts F_1)));letI z3:=FlC (List.length (FL.ms F_1)) (waf (atM (FL.ms F_1))) (List.length (FL.rs F_1)) (wai (atR (FL.rs F_1))) (List.length (FL.ts F_1)) (wah (atT (FL.ts F_1)))∧FL.Rg z1;FL.Tn F_1→FL.Low F_1→(0:Int)≤a'∧a'≤(0:Int)+(1100:Int)→(7≤16777216∧7=7∧1≤9223372036854775807)∧(∀ (i:Nat),i<1→nrefL (wap (TI.sz wdh) (.str (FL.id F):: .int .i64 (FL.ver F):: .int .i64 (FL.day F):: .int .i64 (FL.kind F):: .view 15 (List.length (FL.ms F)) (waf (atM (FL.ms F))):: .view 5 (List.length (FL.rs F)) (wai (atR (FL.rs F))):: .view 5 (List.length (FL.ts F)) (wah (atT (FL.ts F)))::List.append [] z5) i)=true)∧1=1∧1=1∧∃ (G:FL),letI z2:=FlC (List.length (FL.ms (cutF G))) (waf (atM (FL.ms (cutF G)))) (List.length (FL.rs (cutF G))) (wai (atR (FL.rs (cutF G)))) (List.length (FL.ts (cutF G))) (wah (atT (FL.ts (cutF G))))∧FL.Rg (flV (FL.id (cutF G)) (FL.ver (cutF G)) (FL.day (cutF G)) (FL.kind (cutF G)) (List.length (FL.ms (cutF G))) (waf (atM (FL.ms (cutF G)))) (List.length (FL.rs (cutF G))) (wai (atR (FL.rs (cutF G)))) (List.length (FL.ts (cutF G))) (wah (atT (FL.ts (cutF G)))));letI z0:=(flV (FL.id ((fun (_x:Nat)=>cutF G) z4)) (FL.ver ((fun (_x:Nat)=>cutF G) z4)) (FL.day ((fun (_x:Nat)=>cutF G) z4)) (FL.kind ((fun (_x:Nat)=>cutF G) z4)) (List.length (FL.ms ((fun (_x:Nat)=>cutF G) z4))) (waf (atM (FL.ms ((fun (_x:Nat)=>cutF G) z4)))) (List.length (FL.rs ((fun (_x:Nat)=>cutF G) z4))) (wai (atR (FL.rs ((fun (_x:Nat)=>cutF G) z4)))) (List.length (FL.ts ((fun (_x:Nat)=>cutF G) z4))) (wah (atT (FL.ts ((fun (_x:Nat)=>cutF G) z4)))));IsFl (wap (TI.sz wdh) (.str (FL.id F):: .int .i64 (FL.ver F):: .int .i64 (FL.day F):: .int .i64 (FL.kind F):: .view 15 (List.length (FL.ms F)) (waf (atM (FL.ms F))):: .view 5 (List.length (FL.rs F)) (wai (atR (FL.rs F))):: .view 5 (List.length (FL.ts F)) (wah (atT (FL.ts F)))::List.append [] z5)) G∧((0:Int)≤(0:Int)∧(0:Int)<(↑1:Int)∧7=7)∧z2∧z2∧wad (decide (encF z0=encF z0)) (z3∧z3∧wad (decide (encF z1=encF z1)) (True∧R (.bool true) []) (R (.bool false) [])) (R (.bool false) [])):=by kernel_rfl
theorem encA (F:FL) (h:F.Tn):FlC F.ms.length (waf (atM F.ms)) F.rs.length (wai (atR F.rs)) F.ts.length (wah (atT F.ts))∧(flV F.id F.ver F.day F.kind F.ms.length (waf (atM F.ms)) F.rs.length (wai (atR F.rs)) F.ts.length (wah (atT F.ts))).Rg:=
 ⟨wem F,by rw [wd0];exact h.rg⟩
theorem ve_ok (hP:C.P=Tryz.prog) (hL:∀ w,C.laid w→LaidW w) (F:FL) (hF:F.Ri) (n:Nat) (v:Nat→Int):ADet C 6 [.agg (wa9 F),.view 1 n (waa v)] [] (.bool true) []:=by
 refine wag.wp0 (prg hP) [(32,.rel wm6),(28,.rel wm3),(33,.det wdf),(34,.det wdf),(31,.det wmw)] 0
  (.cons (file_ok hP) (.cons (raw1_ok hP) (.cons (wqe hP hL) (.cons (encR_ok hP) (.cons (w28 hP hL) .nil))))) (hP ▸ Tryz.func6) rfl rfl rfl ?_
 unfold wa9
 rw [nf_ve]
 have one:∀ {p:Nat→Prop},p 0→∀ i,i<1→p i:=fun h i hi=>by
  obtain rfl:i=0:=by omega
  exact h
 have hc:=encA (cutF F) (cutF_tn hF)
 exact ⟨rfl,rfl,rfl,⟨by omega,by omega⟩,fun G a' hG _ _=>⟨⟨by omega,rfl,by omega⟩,one rfl,rfl,rfl,F,rfl,⟨by omega,by omega,rfl⟩,hc,hc,
  wam (fun _=>⟨encA G hG,encA G hG,wam (fun _=>⟨trivial,rfl,rfl⟩) (fun h=>absurd rfl h)⟩) (fun h=>absurd rfl h)⟩⟩
end Go.Eng
namespace Go.Eng
open Go.Proofs Go.RowKit Go.ChangeShapes Go.WideShapes Go.ChangeAt
theorem params_En:Tryz.f6.params=#[49,23]:=by kernel_rfl
set_option maxRecDepth 100000 in
theorem w0m (os:Os) (started:os.Started) (H:Type) (enc:TypeId×Value→H):
  ReturnsInHanded {} Tryz.checked os 6 .any (fun w args=>(Go.Proofs.YtgcboligphndhaaGreatDoor.Rows.vintageEncodesSpec.pre enc Tryz.prog Tryz.f6 [] false w args∧laidMetH Tryz.prog Go.Proofs.YtgcboligphndhaaGreatDoor.Rows.vintageEncodesRow.laid w)∧sizedMet enc Tryz.prog Tryz.f6 (OpenSpec.ofChange Go.Proofs.YtgcboligphndhaaGreatDoor.Rows.vintageEncodesSpec) false w args)
   (Go.Proofs.YtgcboligphndhaaGreatDoor.Rows.vintageEncodesSpec.post enc Tryz.prog Tryz.f6 false true false false):=by
 refine w1f (C:=Tryz.checked) (X:=fun w _=>laidMetH Tryz.prog Go.Proofs.YtgcboligphndhaaGreatDoor.Rows.vintageEncodesRow.laid w) (fun _ _ _ hh h=>h.of_heap hh) ownK started (by kernel_rfl) Tryz.func6
  (ChangeSpec.witness_at (enc:=enc) (C:=Tryz.checked) (os:=os) (X:=fun w _=>laidMetH Tryz.prog Go.Proofs.YtgcboligphndhaaGreatDoor.Rows.vintageEncodesRow.laid w) false (wtl os) #[.agg #[.string ⟨#[]⟩,.int .i64 0,.int .i64 0,.int .i64 0,.slice none 0 0,.slice none 0 0,.slice none 0 0],.slice none 0 0] 8 rfl (by kernel_rfl) (by kernel_rfl) (by kernel_rfl) (by kernel_rfl) (by kernel_rfl) (w0r os _)) ?_
 intro W base args ds gs before hval0 hW hL hsh
 have hval:∀ (j:Nat) t v,Tryz.f6.params[j]?=some t→args[j]?=some v→Value.okWide Tryz.prog W .any base t v:=hval0
 have hW':=hW
 obtain ⟨p,q,hA0,hV,rfl,hfz,hnd⟩:=hW
 have hA:DataW.TrodAll enc Tryz.prog W 0 (fun _=>true) true Tryz.f6.params.toList args.toList ds p:=hA0
 rw [params_En] at hA hval
 obtain ⟨v0,vs0,d0,ds0,p0,q0,hargs,rfl,rfl,h0,r0⟩:=trodAll_cons hA
 obtain ⟨v1,vs1,d1,ds1,p1,q1,rfl,rfl,rfl,h1,r1⟩:=trodAll_cons r0
 obtain ⟨rfl,rfl,rfl⟩:=trodAll_nil r1
 obtain rfl:args=#[v0,v1]:=by cases args;simp_all
 obtain ⟨rfl,rfl⟩:=trodVars_none hV
 obtain ⟨cs0,rfl,hsz0⟩:=okWide_struct undFl (hval 0 _ v0 rfl rfl)
 obtain ⟨a1,len1,cap1,rfl⟩:=okWide_slice undIs (hval 1 23 v1 rfl rfl)
 have k0:=h0
 have k1:=h1
 have lt0:∀ x∈p0,x.block<W.heap.size:=by obtain ⟨m,hm⟩:=k0;exact DataW.trod_lt m _ _ _ hm
 have lt1:∀ x∈p1,x.block<W.heap.size:=by obtain ⟨m,hm⟩:=k1;exact DataW.trod_lt m _ _ _ hm
 obtain ⟨m0,hm0⟩:=h0
 obtain ⟨m1,hm1⟩:=h1
 have hm0:DataW.trod enc Tryz.prog W 0 (fun _=>true) true m0 49 cs0.toList=some (d0,p0):=hm0
 obtain ⟨F0,R0,V0⟩:=ww6 hm0
 obtain ⟨A1,n1,c1,w1,e1,V1⟩:=ww5 hm1
 have e1:[Value.slice a1 len1 cap1]=[Value.slice A1 n1 c1]:=e1
 simp only [List.cons.injEq,and_true] at e1
 rw [← e1] at V1
 have lw:=w0s hL hsh
 refine (ADet.top (C:=cx) (ve_ok rfl (fun _ h=>h) F0 R0 n1 w1) lw (gsz_le lw) (cargs:=[.agg cs0,.slice a1 len1 cap1]) rfl (fun j x u hx hu=>?_)).mono fun e W' ⟨he,bel⟩=>?_
 ·match j with
  |0=>obtain rfl:=Option.some.inj hx;obtain rfl:=Option.some.inj hu;exact V0
  |1=>obtain rfl:=Option.some.inj hx;obtain rfl:=Option.some.inj hu;exact V1
  |j+2=>simp at hx
 ·subst he
  exact ⟨_,rfl,_,_,_,[],_,[],hW',trodAll_mk1 (shut_bool (show Tryz.prog.underlying 4=some .bool by kernel_rfl) _),(trodAll_cons_mk (Below.trod wpr (by kernel_rfl) (of_decide_eq_true (by kernel_rfl)) k0 bel lt0) (trodAll_cons_mk (Below.trod wpr (by kernel_rfl) (of_decide_eq_true (by kernel_rfl)) k1 bel lt1) trodAll_mk0)),rfl,bel.frame _,fun h=>by cases h⟩
set_option maxRecDepth 100000 in
theorem over_En:Go.Proofs.YtgcboligphndhaaGreatDoor.Rows.vintageEncodesRow.holds Go.Proofs.YtgcboligphndhaaGreatDoor.Tryz.pinned (OpenSpec.ofChange Go.Proofs.YtgcboligphndhaaGreatDoor.Rows.vintageEncodesSpec):=
 OpenClaim.holds_of_wide 6 Tryz.f6 rfl rfl rfl rfl rfl rfl rfl ⟨rfl,rfl,rfl,rfl,rfl⟩ rfl rfl rfl rfl rfl (by kernel_rfl) Tryz.func6 w2m
  inst_En (by unfold Func.isWrapper;rw [if_neg (of_decide_eq_false (by kernel_rfl))];exact ⟨rfl,rfl⟩)
  (fun os started H enc _=>w0m os started H enc)
end Go.Eng
namespace Go.Proofs.YtgcboligphndhaaGreatDoor
open Go
def harB : Bool × String := (true, "40fb3bd35b79f194dc6e91eb15eecf1db62dc7e1bded180275d4dc3755fccfaf")
set_option maxRecDepth 100000 in
theorem mainB:Tryz.prog.mainIs=some (harB.1,harB.2.toList):=by kernel_rfl
set_option maxRecDepth 100000 in
theorem looksB:true=Tryz.prog.looks []:=by kernel_rfl
end Go.Proofs.YtgcboligphndhaaGreatDoor
namespace Go.Proofs.YtgcboligphndhaaGreatDoor
open Go
set_option maxRecDepth 100000 in
theorem wf_En:Rows.vintageEncodesRow.wfByText (OpenSpec.ofChange Rows.vintageEncodesSpec)=true:=by kernel_rfl
set_option maxRecDepth 100000 in
theorem goes_En:false=Rows.vintageEncodesRow.goesBy Tryz.prog:=by kernel_rfl
theorem wz1 : Tryz.prog.funcNamed "priceoffice/priceofficelaw15.VintageEncodes" = some 6 := by kernel_rfl
theorem wwl:Tryz.prog.wantsStandIn 49=false:=by kernel_rfl
theorem wwk:Tryz.prog.wantsStandIn 23=false:=by kernel_rfl
theorem card_En:Rows.VintageEncodesCardSaid:=
 Claim7.holds_tied_plain_at .later [] [.data,.data,.data,.data,.sentinel,.sentinel,.pinned] true harB true
  Go.Eng.over_En (fun _ h=>by cases h) wf_En (fun _ h=>by cases h) vintageEncodes_row_tie rfl ⟨rfl,rfl⟩ mainB rfl
  (fun f fn hf hfn=>by
   obtain rfl:f=6:=Option.some.inj (wz1.symm.trans hf) |>.symm
   obtain rfl:fn=Tryz.f6:=(Option.some.inj (Tryz.func6.symm.trans hfn)).symm
   exact ⟨looksB,fun j t ht=>by
    rw [Go.Eng.params_En] at ht
    have h3:t=49∨t=23:=by
     rcases j with _ | _ | j
     ·exact .inl (by simpa using ht.symm)
     ·exact .inr ((by simpa using ht.symm))
     ·simp at ht
    rcases h3 with rfl | rfl
    ·exact wwl
    ·exact wwk⟩)
  goes_En
end Go.Proofs.YtgcboligphndhaaGreatDoor
