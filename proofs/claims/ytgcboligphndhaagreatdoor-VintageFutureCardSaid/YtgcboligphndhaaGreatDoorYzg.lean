/- The laws of normal forms, views, changes and orders. -/
import Derived.Test.YtgcboligphndhaaGreatDoorYv
import Derived.Test.YtgcboligphndhaaGreatDoorYzf
import Derived.Test.YtgcboligphndhaaGreatDoorYw
import Derived.Test.YtgcboligphndhaaGreatDoorYzb
import Derived.Test.YtgcboligphndhaaGreatDoorYze
import Derived.Test.YtgcboligphndhaaGreatDoorYzc
namespace Go.Eng
open Go.Proofs Go.RowKit
variable {C:Ctx} [C.Loose]
set_option maxRecDepth 20000
theorem nf_spl (g:Nat→FL) (n:Nat) (d:Int) (R:AV→List (Nat×AObj)→Prop):wpFn te [(39,.det wl2),(100,.rel wno)] [(4,L_s4 (knwL okV g n d)),(9,L_s9 (knwL okV g n d))] 0 Tryz.f99 [.view 7 n (wac g),.int .i64 d] [] R=(letI z6:=edG (knwL okV g n d);letI z4:=wac (atF (knwL okV g n d));letI z3:=badL (knwL okV g n d);letI z2:=wbm (knwL okV g n d);letI z1:=nrmL okV (flOf (wac g)) n;letI z5:=(∀ (i:Nat),i<List.length z1→true=true:Prop);letI z0:=List.length (knwL okV g n d);(n≤1000∧wac g=wac (flOf (wac g))∧∀ (i:Nat),i<n→FL.Gd (flOf (wac g) i))∧z5∧z5∧49=49∧3=3∧false=false∧List.length z1=List.length z1∧List.length z1≤1000∧wac (atF z1)=wac (flOf (wac (atF z1)))∧(∀ (i:Nat),i<List.length z1→FL.Rg (flOf (wac (atF z1)) i))∧True∧∀ (k:Nat) (h:Nat→FL),k≤List.length z1→lst h k=kfL (qD d) (flOf (wac (atF z1))) (List.length z1)→(∀ (i:Nat),i<k→true=true)∧(TEq [(4,.nil),(5,.nil),(6,.own 0 k),(7,.map 1),(17,.own 0 k),(18,.int .i64 (↑k:Int)),(19,.int .i64 0)] [(4,.nil),(5,.nil),(6,.own 0 z0),(7,.map 1),(17,.own 0 z0),(18,.int .i64 (↑z0:Int)),(19,.int .i64 (↑0:Int))]∧wae [(0,.row 49 7 k (wac h) false),(1,.amap (List.map (fun (p:AV×AV)=>(AV.rn (ren 0 [(1,0),(33,1)]) (Prod.fst p),AV.rn (ren 0 [(1,0),(33,1)]) (Prod.snd p))) []))] [(0,.row 49 7 z0 z4 false),(1,.amap (entM (cntL z6 0)))])∧List.length (knwL okV g n d)≤1000∧(TEq [(4,.own 0 0),(5,.own 1 0),(7,.map 2),(34,.own 3 z0),(35,.int .i64 (↑z0:Int)),(36,.int .i64 0)] [(4,.own 0 0),(5,.own 1 0),(7,.map 2),(34,.own 3 z0),(35,.int .i64 (↑z0:Int)),(36,.int .i64 (↑0:Int))]∧wae [(0,.row 49 7 0 (fun (_x:Nat)=>[]) false),(1,.row 49 7 0 (fun (_x:Nat)=>[]) false),(2,.amap (List.map (fun (p:AV×AV)=>(AV.rn (ren 0 [(3,0),(2,1),(1,2),(0,3)]) (Prod.fst p),AV.rn (ren 0 [(3,0),(2,1),(1,2),(0,3)]) (Prod.snd p))) (entM (cntL z6 z0)))),(3,.row 49 7 z0 z4 false)] [(0,.row 49 7 0 (wac (atF (selG (knwL okV g n d) 0))) false),(1,.row 49 7 0 (wac (atF (selB (knwL okV g n d) 0))) false),(2,.amap (entM (cntL z6 z0))),(3,.row 49 7 z0 z4 false)])∧List.length (knwL okV g n d)≤1000∧(∀ (i:Nat),i<List.length z2→true=true)∧(∀ (i:Nat),i<List.length z3→true=true)∧∃ (O':List (Nat×AObj)),wae [(0,.row 49 7 (List.length z2) (wac (atF z2)) false),(1,.row 49 7 (List.length z3) (wac (atF z3)) false)] O'∧R (.tuple [.own 0 (List.length z2),.own 1 (List.length z3)]) O'):=by kernel_rfl
theorem wyt (L:List FL) (k:Nat) (P:Nat→Prop) (R:Exit→St→Prop):wa2 ⟨te,[],[(1006,L_s6 (cntL (edG L) k) (atF L k) L k)],0,59,0⟩ (wa3 Tryz.f99 4) [4,5,6,7,17,18,19] [4,5,6,7] [] (S_s4 L) P R (S_s4 L k)=(letI z4:=entM (cntL (edG L) k);letI z3:=ren 0 [(0,0),(1,1)];letI z2:=(↑(List.length L):Int);letI z1:=([(4,.nil),(5,.nil),(6,.own 0 (List.length L)),(7,.map 1),(9,.ptr 2 0),(17,.own 0 (List.length L)),(18,.int .i64 z2),(19,.int .i64 (↑k:Int))]:List (Nat×AV));letI z0:=(atF L (Int.toNat (↑k:Int)));wad (decide ((↑k:Int)<z2)) (((0:Int)≤(↑k:Int)∧(↑k:Int)<z2)∧(Int.toNat (↑k:Int)<List.length L∧7=7)∧(TEq z1 z1∧wae [(0,.row 49 7 (List.length L) (wac (atF L)) false),(1,.amap (List.map (fun (p:AV×AV)=>(AV.rn (ren 0 [(0,0),(1,1),(2,2)]) (Prod.fst p),AV.rn (ren 0 [(0,0),(1,1),(2,2)]) (Prod.snd p))) z4)),(2,.cells [.str (FL.id z0),.int .i64 (FL.ver z0),.int .i64 (FL.day z0),.int .i64 (FL.kind z0),.view 15 (List.length (FL.ms z0)) (wag (atM (FL.ms z0))),.view 5 (List.length (FL.rs z0)) (wai (atR (FL.rs z0))),.view 5 (List.length (FL.ts z0)) (wah (atT (FL.ts z0)))] 49)] [(0,.row 49 7 (List.length L) (wac (atF L)) false),(1,.amap z4),(2,.cells [.str (FL.id (atF L k)),.int .i64 (FL.ver (atF L k)),.int .i64 (FL.day (atF L k)),.int .i64 (FL.kind (atF L k)),.view 15 (List.length (FL.ms (atF L k))) (wag (atM (FL.ms (atF L k)))),.view 5 (List.length (FL.rs (atF L k))) (wai (atR (FL.rs (atF L k)))),.view 5 (List.length (FL.ts (atF L k))) (wah (atT (FL.ts (atF L k))))] 49)])∧List.Nodup (List.map Prod.fst (cntL (edG L) k))∧inR .i64 (getC (cntL (edG L) k) (mk2 (edM (atF L k)))+(1:Int))∧inR .i64 ((↑k:Int)+(1:Int))∧∃ (i':Nat),(TEq [(4,.nil),(5,.nil),(6,.own 0 (List.length L)),(7,.map 1),(17,.own 0 (List.length L)),(18,.int .i64 z2),(19,.int .i64 ((↑k:Int)+(1:Int)))] [(4,.nil),(5,.nil),(6,.own 0 (List.length L)),(7,.map 1),(17,.own 0 (List.length L)),(18,.int .i64 z2),(19,.int .i64 (↑i':Int))]∧wae [(0,.row 49 7 (List.length L) (wac (atF L)) false),(1,.amap (List.map (fun (p:AV×AV)=>(AV.rn z3 (Prod.fst p),AV.rn z3 (Prod.snd p))) (entM (addC (cntL (edG L) k) (mk2 (edM (atF L k)))))))] [(0,.row 49 7 (List.length L) (wac (atF L)) false),(1,.amap (entM (cntL (edG L) i')))])∧P i') ((∀ (i:Nat),i<List.length L→true=true)∧∃ (O':List (Nat×AObj)),wae [(0,.row 49 7 (List.length L) (wac (atF L)) false),(1,.amap (List.map (fun (p:AV×AV)=>(AV.rn z3 (Prod.fst p),AV.rn z3 (Prod.snd p))) z4))] O'∧R (.exit 0) (St.mk [(4,.nil),(5,.nil),(6,.own 0 (List.length L)),(7,.map 1)] O' 2 []))):=by kernel_rfl
theorem nf_s6a (u4 u5 u6 u17 u18 u19 c2 c3 c4 c5 c6:AV) (id:List UInt8) (ver:Int) (es:List (AV×AV)) (r:AObj):rgA ⟨te,[],[],0,59,0⟩ (regC Tryz.f99 6) [0,1,2,3,4,5] [4,5,6,7,9,17,18,19,23,28] ⟨[(4,u4),(5,u5),(6,u6),(7,.map 1),(9,.ptr 2 0),(17,u17),(18,u18),(19,u19),(23,.map 1),(28,.agg [.str id,.int .i64 ver])],[(0,r),(1,.amap es),(2,.cells [.str id,.int .i64 ver,c2,c3,c4,c5,c6] 49)],3,[]⟩ ⟨[(4,u4),(5,u5),(6,u6),(7,.map 1),(9,.ptr 2 0),(17,u17),(18,u18),(19,u19)],[(0,r),(1,.amap es),(2,.cells [.str id,.int .i64 ver,c2,c3,c4,c5,c6] 49)],3,[]⟩=(letI z2:=([(0,r),(1,.amap es),(2,.cells [.str id,.int .i64 ver,c2,c3,c4,c5,c6] 49)]:List (Nat×AObj));letI z3:=St.mk [(4,u4),(5,u5),(6,u6),(7,.map 1),(9,.ptr 2 0),(17,u17),(18,u18),(19,u19)] z2 3 [];letI z1:=([(4,u4),(5,u5),(6,u6),(7,.map 1),(9,.ptr 2 0),(17,u17),(18,u18),(19,u19),(23,.map 1),(28,.agg [.str id,.int .i64 ver])]:List (Nat×AV));letI z6:=St.mk z1 z2 3 [];letI z0:=(z1=z1∧z2=z2∧St.nx z3=St.nx z6:Prop);letI z5:=z0∧z1=z1∧z2=z2∧St.nx z3=St.nx z6;letI z4:=z0∧z0∧z1=z1∧z2=z2∧St.nx z3=St.nx z6;(z4∧z5∧z1=z1∧z2=z2∧St.nx z3=St.nx z6)∧(z4∧(z0∧z0∧z0∧z1=z1∧z2=z2∧St.nx z3=St.nx z6)∧z5∧z4∧z0∧z0∧z1=z1∧z2=z2∧St.nx z3=St.nx z6)∧(z5∧z1=z1∧z2=z2∧St.nx z3=St.nx z6)∧(z5∧z4∧z0∧z0∧z1=z1∧z2=z2∧St.nx z3=St.nx z6)∧z0∧z0∧z0∧z1=z1∧z2=z2∧St.nx z3=St.nx z6):=by kernel_rfl
theorem nf_s6 (E:List ((List UInt8×Int)×Int)) (F:FL) (L:List FL) (k:Nat) (Q:Exit→St→Prop):rgB ⟨te,[],[],0,59,0⟩ (regC Tryz.f99 6) [0,1,2,3,4,5] [4,5,6,7,9,17,18,19] Q (S_s6b E F L k)=(letI z16:=Env.te (Env.mk te [] [] 0 59 0);letI z15:=zvA (.int .i64 0);letI z14:=ren 0 [(0,0),(1,1),(2,2)];letI z9:=(∀ (i:Nat),i<List.length L→true=true:Prop);letI z7:=([.str (FL.id F),.int .i64 (FL.ver F),.int .i64 (FL.day F),.int .i64 (FL.kind F),.view 15 (List.length (FL.ms F)) (wag (atM (FL.ms F))),.view 5 (List.length (FL.rs F)) (wai (atR (FL.rs F))),.view 5 (List.length (FL.ts F)) (wah (atT (FL.ts F)))]:List AV);letI z3:=([(4,.nil),(5,.nil),(6,.own 0 (List.length L)),(7,.map 1),(9,.ptr 2 0),(17,.own 0 (List.length L)),(18,.int .i64 (↑(List.length L):Int)),(19,.int .i64 (↑k:Int))]:List (Nat×AV));letI z0:=([.str (FL.id F),.int .i64 (FL.ver F)]:List AV);letI z13:=mget (entM E) (.agg z0);letI z11:=(↑(midx (entM E) (.agg z0)):Int);letI z10:=(wap (Option.getD z13 z15)+(1:Int));letI z6:=wcw z16 173 (entM E)∧.int .i64 (wap (Option.getD z13 (.int .i64 0)))=Option.getD z13 (.int .i64 0);letI z5:=ment (.int .i64 0) (entM E) (.agg z0);letI z18:=List.getD z5 (Int.toNat z11) (.any,.any);letI z8:=Option.getD (mget z5 (.agg z0)) z15;letI z17:=(wap z8+(1:Int));letI z12:=wcw z16 173 z5∧.int .i64 (wap z8)=Option.getD (mget z5 (.agg z0)) z15;letI z4:=((0:Int)≤z11∧z11<(↑(List.length z5):Int):Prop);letI z2:=([(0,.row 49 7 (List.length L) (wac (atF L)) false),(1,.amap (List.map (fun (p:AV×AV)=>(AV.rn z14 (Prod.fst p),AV.rn z14 (Prod.snd p))) (List.set z5 (Int.toNat z11) (Prod.fst z18,.int .i64 z10)))),(2,.cells z7 49)]:List (Nat×AObj));letI z1:=([(0,.row 49 7 (List.length L) (wac (atF L)) false),(1,.amap (List.map (fun (p:AV×AV)=>(AV.rn z14 (Prod.fst p),AV.rn z14 (Prod.snd p))) (List.set z5 (Int.toNat z11) (Prod.fst z18,.int .i64 z17)))),(2,.cells z7 49)]:List (Nat×AObj));((wcw z16 173 (entM E)∧.int .i64 (wap (Option.getD z13 z15))=Option.getD z13 z15)∧(inR .i64 z10∧z6∧z4∧z9∧∃ (O':List (Nat×AObj)),wae z2 O'∧Q .normal (St.mk z3 O' 3 []))∧z6∧(inR .i64 z10∧z4∧z9∧∃ (O':List (Nat×AObj)),wae z2 O'∧Q .normal (St.mk z3 O' 3 []))∧inR .i64 z10∧z4∧z9∧∃ (O':List (Nat×AObj)),wae z2 O'∧Q .normal (St.mk z3 O' 3 []))∧z6∧(z12∧(inR .i64 z17∧z4∧z9∧∃ (O':List (Nat×AObj)),wae z1 O'∧Q .normal (St.mk z3 O' 3 []))∧inR .i64 z17∧z4∧z9∧∃ (O':List (Nat×AObj)),wae z1 O'∧Q .normal (St.mk z3 O' 3 []))∧z12∧inR .i64 z17∧z4∧z9∧∃ (O':List (Nat×AObj)),wae z1 O'∧Q .normal (St.mk z3 O' 3 [])):=by kernel_rfl
theorem wys (L:List FL) (k:Nat) (P:Nat→Prop) (R:Exit→St→Prop):wa2 ⟨te,[],[],0,59,0⟩ (wa3 Tryz.f99 9) [4,5,7,34,35,36] [4,5] [] (S_s9 L) P R (S_s9 L k)=(letI z13:=ren 0 [(23,0),(1,1),(2,2),(3,3)];letI z12:=ren 0 [(0,0),(23,1),(2,2),(3,3)];letI z11:=wac (atF (selB L k));letI z10:=wac (atF (selG L k));letI z9:=List.length (selG L k)+1;letI z8:=List.length (selB L k)+1;letI z7:=(7≤16777216∧7=7∧1≤9223372036854775807:Prop);letI z6:=List.length (selB L k);letI z5:=List.length (selG L k);letI z3:=(↑(List.length L):Int);letI z2:=entM (cntL (edG L) (List.length L));letI z1:=(atF L (Int.toNat (↑k:Int)));letI z4:=mget z2 (.agg [.str (FL.id z1),.int .i64 (FL.ver z1)]);letI z0:=(waq (TI.sz wb5) (.str (FL.id z1):: .int .i64 (FL.ver z1):: .int .i64 (FL.day z1):: .int .i64 (FL.kind z1):: .view 15 (List.length (FL.ms z1)) (wag (atM (FL.ms z1))):: .view 5 (List.length (FL.rs z1)) (wai (atR (FL.rs z1))):: .view 5 (List.length (FL.ts z1)) (wah (atT (FL.ts z1)))::List.append [] (List.flatten (List.replicate (nat_lit 0) [.str ([]),.int .i64 0,.int .i64 0,.int .i64 0,.nil,.nil,.nil]))));wad (decide ((↑k:Int)<z3)) (((0:Int)≤(↑k:Int)∧(↑k:Int)<z3)∧(Int.toNat (↑k:Int)<List.length L∧7=7)∧(wcw (Env.te (Env.mk te [] [] 0 59 0)) 173 z2∧.int .i64 (wap (Option.getD z4 (zvA (.int .i64 0))))=Option.getD z4 (zvA (.int .i64 0)))∧wad (decide ((1:Int)<wap (Option.getD z4 (zvA (.int .i64 0))))) (z7∧((1≤1∧7=7)∧List.length (selB L k)≤List.length (selB L k)∧7=7∧49=49∧7=7∧List.length (selB L k)+1≤9223372036854775807∧z8 * TI.bytes wb5≤140737488355328)∧inR .i64 ((↑k:Int)+(1:Int))∧∃ (i':Nat),(TEq [(4,.own 0 z5),(5,.own 1 z8),(7,.map 2),(34,.own 3 (List.length L)),(35,.int .i64 z3),(36,.int .i64 ((↑k:Int)+(1:Int)))] [(4,.own 0 (List.length (selG L i'))),(5,.own 1 (List.length (selB L i'))),(7,.map 2),(34,.own 3 (List.length L)),(35,.int .i64 z3),(36,.int .i64 (↑i':Int))]∧wae [(0,.row 49 7 z5 z10 false),(1,.row 49 7 z8 (apF z6 z11 z0) false),(2,.amap (List.map (fun (p:AV×AV)=>(AV.rn z12 (Prod.fst p),AV.rn z12 (Prod.snd p))) z2)),(3,.row 49 7 (List.length L) (wac (atF L)) false)] [(0,.row 49 7 (List.length (selG L i')) (wac (atF (selG L i'))) false),(1,.row 49 7 (List.length (selB L i')) (wac (atF (selB L i'))) false),(2,.amap z2),(3,.row 49 7 (List.length L) (wac (atF L)) false)])∧P i') (z7∧((1≤1∧7=7)∧List.length (selG L k)≤List.length (selG L k)∧7=7∧49=49∧7=7∧List.length (selG L k)+1≤9223372036854775807∧z9 * TI.bytes wb5≤140737488355328)∧inR .i64 ((↑k:Int)+(1:Int))∧∃ (i':Nat),(TEq [(4,.own 0 z9),(5,.own 1 z6),(7,.map 2),(34,.own 3 (List.length L)),(35,.int .i64 z3),(36,.int .i64 ((↑k:Int)+(1:Int)))] [(4,.own 0 (List.length (selG L i'))),(5,.own 1 (List.length (selB L i'))),(7,.map 2),(34,.own 3 (List.length L)),(35,.int .i64 z3),(36,.int .i64 (↑i':Int))]∧wae [(0,.row 49 7 z9 (apF z5 z10 z0) false),(1,.row 49 7 z6 z11 false),(2,.amap (List.map (fun (p:AV×AV)=>(AV.rn z13 (Prod.fst p),AV.rn z13 (Prod.snd p))) z2)),(3,.row 49 7 (List.length L) (wac (atF L)) false)] [(0,.row 49 7 (List.length (selG L i')) (wac (atF (selG L i'))) false),(1,.row 49 7 (List.length (selB L i')) (wac (atF (selB L i'))) false),(2,.amap z2),(3,.row 49 7 (List.length L) (wac (atF L)) false)])∧P i')) ((∀ (i:Nat),i<List.length (selG L k)→true=true)∧(∀ (i:Nat),i<List.length (selB L k)→true=true)∧∃ (O':List (Nat×AObj)),wae [(0,.row 49 7 z5 z10 false),(1,.row 49 7 z6 z11 false)] O'∧R (.exit 2) (St.mk [(4,.own 0 z5),(5,.own 1 z6)] O' 2 []))):=by kernel_rfl
theorem wqr {L:List ((List UInt8×Int)×Int)} (h:(L.map Prod.fst).Nodup):wcw te 173 (entM L):=by
 refine ⟨List.all_eq_true.2 fun p hp=>?_,(w2h h).2⟩
 obtain ⟨r,_,rfl⟩:=List.mem_map.1 hp
 have:∀ (a:List UInt8) (b:Int),keyA te 173 (.agg [.str a,.int .i64 b])=true:=fun a b=>by kernel_rfl
 exact this _ _
theorem w1c {ES:List (AV×AV)} {i:Nat} {v:AV} (hi:i<ES.length) (h:wcw te 173 (ES.set i ((ES.getD i (.any,.any)).1,v))):wcw te 173 ES:=by
 have e:(ES.set i ((ES.getD i (.any,.any)).1,v)).map Prod.fst=ES.map Prod.fst:=by
  apply List.ext_getElem
  ·simp
  ·intro j h1 h2
   simp only [List.getElem_map,List.getElem_set]
   split
   ·rename_i e;subst e;simp [hi]
   ·rfl
 obtain ⟨h1,h2⟩:=h
 rw [e] at h2
 refine ⟨?_,h2⟩
 have f:∀ l:List (AV×AV),(l.all fun p=>keyA te 173 p.1)=(l.map Prod.fst).all fun k=>keyA te 173 k:=fun l=>by rw [List.all_map];rfl
 rw [f] at h1 ⊢
 rw [e] at h1
 exact h1
theorem s6_ok (hP:C.P=Tryz.prog) (E:List ((List UInt8×Int)×Int)) (F:FL) (L:List FL) (k:Nat):waj C 0 59 (regC Tryz.f99 6) (L_s6 E F L k):=by
 have _:C.Loose:=inferInstance
 rintro st Q ⟨h0,hnd,hin,hQ⟩
 refine waj.cut (SA:=S_s6b E F L k) (prg hP) [] 0 .nil [4,5,6,7,9,17,18,19] [4,5,6,7,9,17,18,19] [0,1,2,3,4,5] [4,5,6,7,9,17,18,19,23,28] h0 ?_ ?_ ⟨fun _ _=>rfl,trivial⟩
 ·refine (nf_s6a .nil .nil (.own 0 L.length) (.own 0 L.length) (.int .i64 L.length) (.int .i64 k) (.int .i64 F.day) (.int .i64 F.kind) (.view 15 F.ms.length (wag (atM F.ms))) (.view 5 F.rs.length (wai (atR F.rs))) (.view 5 F.ts.length (wah (atT F.ts))) F.id F.ver (entM E) (.row 49 7 L.length (wac (atF L)) false)).mpr ?_
  repeat' first | exact rfl | refine And.intro ?_ ?_
 rw [nf_s6]
 have zz:zvA (.int .i64 0)= .int .i64 0:=rfl
 have F1:Option.getD (mget (entM E) (.agg [.str F.id,.int .i64 F.ver])) (.int .i64 0)= .int .i64 (getC E (mk2 (edM F))):=wpr (mk2 (edM F)) E
 obtain ⟨F3,F4,F5⟩:=ment_K (mk2 (edM F)) E
 have K1:=wqr hnd
 have K2:wcw te 173 (ment (.int .i64 0) (entM E) (keyK (mk2 (edM F)))):=w1c F4 (F5.symm ▸ wqr (wrb (mk2 (edM F)) hnd))
 change Option.getD (mget (ment (.int .i64 0) (entM E) (.agg [.str F.id,.int .i64 F.ver])) (.agg [.str F.id,.int .i64 F.ver])) (.int .i64 0)= .int .i64 (getC E (mk2 (edM F))) at F3
 change midx (entM E) (.agg [.str F.id,.int .i64 F.ver])<(ment (.int .i64 0) (entM E) (.agg [.str F.id,.int .i64 F.ver])).length at F4
 change (ment (.int .i64 0) (entM E) (.agg [.str F.id,.int .i64 F.ver])).set (midx (entM E) (.agg [.str F.id,.int .i64 F.ver])) (((ment (.int .i64 0) (entM E) (.agg [.str F.id,.int .i64 F.ver])).getD (midx (entM E) (.agg [.str F.id,.int .i64 F.ver])) (.any,.any)).1,.int .i64 (getC E (mk2 (edM F))+1))=entM (addC E (mk2 (edM F))) at F5
 change wcw te 173 (ment (.int .i64 0) (entM E) (.agg [.str F.id,.int .i64 F.ver])) at K2
 have F6:(0:Int)≤(midx (entM E) (.agg [.str F.id,.int .i64 F.ver]):Int)∧(midx (entM E) (.agg [.str F.id,.int .i64 F.ver]):Int)<((ment (.int .i64 0) (entM E) (.agg [.str F.id,.int .i64 F.ver])).length:Int):=by omega
 simp only [zz,F1,F3,wap,Int.toNat_natCast,F5,wf4]
 have leaf:∃ O',wae (S_s6 (addC E (mk2 (edM F))) F L k).O O'∧Q .normal ⟨(S_s6 (addC E (mk2 (edM F))) F L k).T,O',3,[]⟩:=⟨_,wan _,hQ⟩
 have all:∀ i,i<L.length→True:=fun _ _=>trivial
 have K1:=(and_true (wcw te 173 (entM E))).symm ▸ K1
 repeat' first | exact leaf | exact trivial | exact K1 | exact K2 | exact ⟨K2,trivial⟩ | exact hin | exact F6 | exact all | refine And.intro ?_ ?_
theorem s4_loop (hP:C.P=Tryz.prog) (L:List FL):waj C 0 59 (wam Tryz.f99 4) (L_s4 L):=by
 rintro st Q ⟨h0,hn,hQ⟩
 refine waj.mkI (prg hP) [] (fun k=>[(1006,L_s6 (cntL (edG L) k) (atF L k) L k)]) 0 .nil (fun k=>[(regC Tryz.f99 6,L_s6 (cntL (edG L) k) (atF L k) L k)]) (fun k=>by kernel_rfl) (fun k=>⟨s6_ok hP _ _ L k,trivial⟩) [4,5,6,7,17,18,19] [4,5,6,7] [] (S_s4 L) (fun k=>k≤L.length) (fun k=>L.length - k) 0 (Nat.zero_le _) h0 (fun k hk=>?_) (fun k=>⟨fun _ _=>rfl,trivial⟩)
 rw [wyt,Int.toNat_natCast,wf4,wf4]
 have hb:=wql (edG L) (mk2 (edM (atF L k))) k
 have hc:=ws7 (edG L) (mk2 (edM (atF L k))) k
 refine wak (fun h1=>⟨⟨by omega,by omega⟩,⟨by omega,rfl⟩,⟨rfl,wan _⟩,wqx (edG L) k,by simp only [inR];omega,by simp only [inR];omega,k+1,⟨rfl,?_⟩,by omega,by omega⟩) (fun h1=>?_)
 ·exact wan _
 ·have:k=L.length:=by omega
  subst this
  first | exact ⟨fun _ _=>rfl,_,wan _,hQ⟩ | (rw [wf4];exact ⟨fun _ _=>rfl,_,wan _,hQ⟩)
theorem snocF (G:List FL) (x:FL) (ch:Nat→List AV) (hch:ch 0=wbd x):∀ i,i<G.length+1→apF G.length (wac (atF G)) ch i=wac (atF (G++[x])) i:=fun i hi=>by
 unfold apF
 by_cases h:i<G.length
 ·rw [if_pos h]
  show wbd (atF G i)=wbd (atF (G++[x]) i)
  congr 1
  simp [atF,List.getD_eq_getElem?_getD,List.getElem?_append_left h]
 ·have:i=G.length:=by omega
  subst this
  rw [if_neg h,Nat.sub_self,hch]
  show wbd x=wbd (atF (G++[x]) G.length)
  congr 1
  simp [atF]
theorem s9_loop (hP:C.P=Tryz.prog) (L:List FL):waj C 0 59 (wam Tryz.f99 9) (L_s9 L):=by
 have _:C.Loose:=inferInstance
 rintro st Q ⟨h0,hn,hQ⟩
 refine AWP.ownNil 5 49 7 (AWP.ownNil 4 49 7 ?_)
 refine waj.mk (prg hP) [] 0 .nil [4,5,7,34,35,36] [4,5] [] (S_s9 L) (fun k=>k≤L.length) (fun k=>L.length - k) 0 (Nat.zero_le _) h0 (fun k hk=>?_) (fun _=>⟨fun _ _=>rfl,fun _ _=>rfl,fun _ _=>rfl,trivial⟩)
 have zz:zvA (.int .i64 0)= .int .i64 0:=rfl
 rw [wys,Int.toNat_natCast]
 have l1:=why (fun i=> !cfB L i) L k
 have l2:=why (cfB L) L k
 have hF:Option.getD (mget (entM (cntL (edG L) L.length)) (.agg [.str (atF L k).id,.int .i64 (atF L k).ver])) (.int .i64 0)= .int .i64 (getC (cntL (edG L) L.length) (mk2 (edM (atF L k)))):=wpr (mk2 (edM (atF L k))) _
 rw [zz,hF,wql,wf4,wf4]
 have hc:cfB L k=decide (1<numC (edG L) (mk2 (edM (atF L k))) L.length):=rfl
 have sG:selG L (k+1)=bif !cfB L k then selG L k++[atF L k] else selG L k:=rfl
 have sB:selB L (k+1)=bif cfB L k then selB L k++[atF L k] else selB L k:=rfl
 refine wak (fun h1=>⟨⟨by omega,by omega⟩,⟨by omega,rfl⟩,⟨wqr (wqx _ _),rfl⟩,wak (fun h2=>?_) (fun h2=>?_)⟩) (fun h1=>?_)
 ·have hk':cfB L k=true:=decide_eq_true h2
  rw [hk'] at sG sB
  have sG:selG L (k+1)=selG L k:=sG
  have sB:selB L (k+1)=selB L k++[atF L k]:=sB
  have l2:(selB L k).length≤k:=l2
  refine ⟨⟨by omega,rfl,by omega⟩,⟨⟨Nat.le_refl _,rfl⟩,Nat.le_refl _,rfl,rfl,rfl,by omega,?_⟩,by simp only [inR];omega,k+1,?_,by omega,by omega⟩
  ·show ((selB L k).length+1) * 112≤_
   omega
  ·rw [sG,sB,List.length_append]
   exact ⟨rfl,⟨rfl,rfl,rfl,rfl,rfl,fun _ _=>rfl⟩,⟨rfl,rfl,rfl,rfl,rfl,snocF _ _ _ rfl⟩,rfl,⟨rfl,rfl,rfl,rfl,rfl,fun _ _=>rfl⟩,trivial⟩
 ·have hk':cfB L k=false:=decide_eq_false h2
  rw [hk'] at sG sB
  have sG:selG L (k+1)=selG L k++[atF L k]:=sG
  have sB:selB L (k+1)=selB L k:=sB
  have l1:(selG L k).length≤k:=l1
  refine ⟨⟨by omega,rfl,by omega⟩,⟨⟨Nat.le_refl _,rfl⟩,Nat.le_refl _,rfl,rfl,rfl,by omega,?_⟩,by simp only [inR];omega,k+1,?_,by omega,by omega⟩
  ·show ((selG L k).length+1) * 112≤_
   omega
  ·rw [sG,sB,List.length_append]
   exact ⟨rfl,⟨rfl,rfl,rfl,rfl,rfl,snocF _ _ _ rfl⟩,⟨rfl,rfl,rfl,rfl,rfl,fun _ _=>rfl⟩,rfl,⟨rfl,rfl,rfl,rfl,rfl,fun _ _=>rfl⟩,trivial⟩
 ·have:k=L.length:=by omega
  subst this
  exact ⟨fun _ _=>rfl,fun _ _=>rfl,_,wan _,hQ⟩
theorem nrm_gd {g:Nat→FL} {n:Nat} (hg:∀ i,i<n→(g i).Gd):∀ x∈nrmL okV g n,x.Gd:=fun x hx=>by
 obtain ⟨i,b,rfl⟩:=wjv.1 hx
 exact hg i b.lt
theorem ws9 (g:Nat→FL) (n:Nat):(nrmL okV g n).length≤n:=by
 have:∀ k,(nrmK okV g n k).length≤k:=fun k=>by
  induction k with
  |zero=>exact Nat.le_refl _
  |succ k ih=>
   rw [nrmK]
   cases kept okV g n k with
   |true=>
    have hp:=wqu (nrmK okV g n k) (g k) (nrmK okV g n k).length
    rw [cond_true,insF,List.length_append,List.length_cons,List.length_take,List.length_drop]
    omega
   |false=>rw [cond_false];omega
 exact this n
theorem kf_day (L:List FL) (d:Int):kfL (qD d) (atF L) L.length=L.filter fun f=>decide (f.day≤d):=by
 unfold kfL
 rw [show lst (atF L) L.length=L from wep L _]
 refine List.filter_congr fun x _=>?_
 unfold qD
 by_cases h:d<x.day
 ·rw [decide_eq_true h,decide_eq_false (by omega)];rfl
 ·rw [decide_eq_false h,decide_eq_true (by omega)];rfl
theorem spl_at (hP:C.P=Tryz.prog) (hL:∀ w,C.laid w→LaidW w) (g:Nat→FL) (n:Nat) (d:Int) (hn:n≤1000) (hg:∀ i,i<n→(g i).Gd):ADet C 99 [.view 7 n (wac g),.int .i64 d] [] (.tuple [.own 0 (wbm (knwL okV g n d)).length,.own 1 (badL (knwL okV g n d)).length])
     [(0,.row 49 7 (wbm (knwL okV g n d)).length (wac (atF (wbm (knwL okV g n d)))) false),(1,.row 49 7 (badL (knwL okV g n d)).length (wac (atF (badL (knwL okV g n d)))) false)]:=by
 refine wa7.wpL (prg hP) [(39,.det wl2),(100,.rel wno)] [(4,L_s4 (knwL okV g n d)),(9,L_s9 (knwL okV g n d))] 0 (.cons (nrmz_ok hP hL) (.cons (delD_ok hP) .nil)) (hP ▸ Tryz.func99) rfl rfl rfl
   [(wam Tryz.f99 4,L_s4 (knwL okV g n d)),(wam Tryz.f99 9,L_s9 (knwL okV g n d))] (by kernel_rfl) ⟨s4_loop hP _,s9_loop hP _,trivial⟩ ?_
 rw [nf_spl,wdo,wdo,wf4]
 have hl:=ws9 g n
 have hgd:=nrm_gd hg
 have hk:kfL (qD d) (atF (nrmL okV g n)) (nrmL okV g n).length=knwL okV g n d:=kf_day _ d
 generalize nrmL okV g n=N at *
 rw [hk]
 generalize knwL okV g n d=K at *
 refine ⟨⟨hn,rfl,hg⟩,fun _ _=>rfl,fun _ _=>rfl,rfl,rfl,rfl,rfl,by omega,rfl,fun i hi=>(hgd _ (wd9 hi)).rg,trivial,fun k h hkn hlst=>?_⟩
 obtain ⟨e1,e2⟩:=lst_at hlst wdq
 subst e1
 refine ⟨fun _ _=>rfl,⟨rfl,⟨rfl,rfl,rfl,rfl,rfl,fun i hi=>?_⟩,rfl,trivial⟩,by omega,⟨rfl,⟨rfl,rfl,rfl,rfl,rfl,fun i hi=>absurd hi (Nat.not_lt_zero i)⟩,⟨rfl,rfl,rfl,rfl,rfl,fun i hi=>absurd hi (Nat.not_lt_zero i)⟩,rfl,⟨rfl,rfl,rfl,rfl,rfl,fun _ _=>rfl⟩,trivial⟩,by omega,fun _ _=>rfl,fun _ _=>rfl,_,wan _,rfl,rfl⟩
 show wbd (h i)=wbd (K.getD i wdq)
 rw [e2 i hi]
theorem spl_ok (hP:C.P=Tryz.prog) (hL:∀ w,C.laid w→LaidW w):waf C 99 wg8:=by
 rintro args objs U Os vc h hvc
 unfold wg8 at h
 split at h<;>simp only [Option.some.injEq,Prod.mk.injEq,reduceCtorEq] at h
 rename_i n f d
 obtain ⟨rfl,rfl,rfl⟩:=h
 obtain ⟨hn,hf,hg⟩:=hvc
 generalize flOf f=g at *
 subst hf
 exact spl_at hP hL g n d hn hg
theorem nf_vw (g:Nat→FL) (n:Nat) (d:Int) (R:AV→List (Nat×AObj)→Prop):wpFn te [(99,.det wg8),(100,.rel wnn)] [(4,L_v4 (wbm (knwL okV g n d)))] 0 Tryz.f44 [.view 7 n (wac g),.int .i64 d] [] R=(letI z1:=wbm (knwL okV (flOf (wac g)) n d);letI z0:=wbm (knwL okV g n d);letI z2:=(List.map (fun (p:AV×AV)=>(AV.rn (idxN [0,1,2]) (Prod.fst p),AV.rn (idxN [0,1,2]) (Prod.snd p))) (nwE z0 (List.length z0)));(n≤1000∧wac g=wac (flOf (wac g))∧∀ (i:Nat),i<n→FL.Gd (flOf (wac g) i))∧(∀ (i:Nat),i<List.length z1→true=true)∧(∀ (i:Nat),i<List.length (badL (knwL okV (flOf (wac g)) n d))→true=true)∧(TEq [(5,.own 0 (List.length z1)),(7,.ptr 1 0),(17,.own 0 (List.length z1)),(18,.int .i64 (↑(List.length z1):Int)),(19,.int .i64 0)] [(5,.own 0 (List.length z0)),(7,.ptr 1 0),(17,.own 0 (List.length z0)),(18,.int .i64 (↑(List.length z0):Int)),(19,.int .i64 (↑0:Int))]∧wae [(0,.row 49 7 (List.length z1) (wac (atF z1)) false),(1,.cells [.map 2] 132),(2,.amap (List.map (fun (p:AV×AV)=>(AV.rn (ren 0 [(0,0),(17,1),(16,2)]) (Prod.fst p),AV.rn (ren 0 [(0,0),(17,1),(16,2)]) (Prod.snd p))) []))] [(0,.row 49 7 (List.length z0) (wac (atF z0)) false),(1,.cells [.map 2] 132),(2,.amap (nwE z0 0))])∧List.length z0≤1000∧(∀ (F:FL),F∈wbm (knwL okV g n d)→(0:Int)≤FL.ver F)∧(∀ (i:Nat),i<List.length z0→true=true)∧49=49∧132=132∧false=false∧List.length z0=List.length z0∧List.length z0≤1000∧wac (atF z0)=wac (flOf (wac (atF z0)))∧(∀ (i:Nat),i<List.length z0→FL.Rg (flOf (wac (atF z0)) i))∧EsV z2∧∀ (k:Nat) (h:Nat→FL),k≤List.length z0→lst h k=kfL (qV z2) (flOf (wac (atF z0))) (List.length z0)→(∀ (i:Nat),i<k→true=true)∧(∀ (i:Nat),i<k→true=true)∧∃ (O':List (Nat×AObj)),wae [(0,.row 49 7 k (wac h) false)] O'∧R (.own 0 k) O'):=by kernel_rfl
theorem wyc (G:List FL) (k:Nat) (P:Nat→Prop) (R:Exit→St→Prop):wa2 ⟨te,[],[],0,40,0⟩ (wa3 Tryz.f44 4) [5,7,17,18,19] [5,7] [] (S_v4 G) P R (S_v4 G k)=(letI z5:=TI.desc (TI.mk TypeDesc.string 1 16 (Value.string (ByteArray.mk #[])) false);letI z4:=ren 0 [(0,0),(1,1),(2,2)];letI z3:=(↑(List.length G):Int);letI z2:=(atF G (Int.toNat (↑k:Int)));letI z6:=wap (Option.getD (mget (nwE G k) (.str (FL.id z2))) (zvA (.int .i64 0)));letI z1:=([(5,.own 0 (List.length G)),(7,.ptr 1 0),(17,.own 0 (List.length G)),(18,.int .i64 z3),(19,.int .i64 ((↑k:Int)+(1:Int)))]:List (Nat×AV));letI z0:=([(0,.row 49 7 (List.length G) (wac (atF G)) false),(1,.cells [.map 2] 132),(2,.amap (List.map (fun (p:AV×AV)=>(AV.rn z4 (Prod.fst p),AV.rn z4 (Prod.snd p))) (nwE G k)))]:List (Nat×AObj));wad (decide ((↑k:Int)<z3)) (((0:Int)≤(↑k:Int)∧(↑k:Int)<z3)∧(Int.toNat (↑k:Int)<List.length G∧7=7)∧wad (!decide (FL.kind z2=(1:Int))) ((wbq z5 (nwE G k)∧.int .i64 z6=Option.getD (mget (nwE G k) (.str (FL.id z2))) (zvA (.int .i64 0)))∧wbq z5 (nwE G k)∧inR .i64 ((↑k:Int)+(1:Int))∧∃ (i':Nat),(TEq z1 [(5,.own 0 (List.length G)),(7,.ptr 1 0),(17,.own 0 (List.length G)),(18,.int .i64 z3),(19,.int .i64 (↑i':Int))]∧wae [(0,.row 49 7 (List.length G) (wac (atF G)) false),(1,.cells [.map 2] 132),(2,.amap (List.map (fun (p:AV×AV)=>(AV.rn z4 (Prod.fst p),AV.rn z4 (Prod.snd p))) (mset (nwE G k) (.str (FL.id z2)) (.int .i64 (max z6 (FL.ver z2))))))] [(0,.row 49 7 (List.length G) (wac (atF G)) false),(1,.cells [.map 2] 132),(2,.amap (nwE G i'))])∧P i') (inR .i64 ((↑k:Int)+(1:Int))∧∃ (i':Nat),(TEq z1 [(5,.own 0 (List.length G)),(7,.ptr 1 0),(17,.own 0 (List.length G)),(18,.int .i64 z3),(19,.int .i64 (↑i':Int))]∧wae z0 [(0,.row 49 7 (List.length G) (wac (atF G)) false),(1,.cells [.map 2] 132),(2,.amap (nwE G i'))])∧P i')) ((∀ (i:Nat),i<List.length G→true=true)∧∃ (O':List (Nat×AObj)),wae z0 O'∧R (.exit 0) (St.mk [(5,.own 0 (List.length G)),(7,.ptr 1 0)] O' 3 []))):=by kernel_rfl
theorem nf_conf (g:Nat→FL) (n:Nat) (d:Int) (R:AV→List (Nat×AObj)→Prop):wpFn te [(99,.det wg8)] [] 0 Tryz.f46 [.view 7 n (wac g),.int .i64 d] [] R=(letI z0:=knwL okV (flOf (wac g)) n d;letI z1:=(∀ (i:Nat),i<List.length (badL z0)→true=true:Prop);(n≤1000∧wac g=wac (flOf (wac g))∧∀ (i:Nat),i<n→FL.Gd (flOf (wac g) i))∧(∀ (i:Nat),i<List.length (wbm z0)→true=true)∧z1∧z1∧∃ (O':List (Nat×AObj)),wae [(0,.row 49 7 (List.length (badL z0)) (wac (atF (badL z0))) false)] O'∧R (.own 0 (List.length (badL z0))) O'):=by kernel_rfl
theorem wtn (v:List UInt8→Int) (x:List UInt8) (y:Int):∀ K,x ∉ K→mset (entI K v) (.str x) (.int .i64 y)=entI (K++[x]) (fun t=>if t=x then y else v t)
 |[],_=>by simp [entI,mset]
 |t::K,h=>by
  have h1:¬ t=x:=fun e=>h (by simp [e])
  have ih:=wtn v x y K (fun e=>h (by simp [e]))
  show (match keq (.str t) (.str x) with | true=>(AV.str x,AV.int .i64 y)::entI K v | false=>(AV.str t,AV.int .i64 (v t))::mset (entI K v) (.str x) (.int .i64 y))=_
  rw [wgp,decide_eq_false h1,ih]
  show _=(AV.str t,AV.int .i64 (if t=x then y else v t))::entI (K++[x]) _
  rw [if_neg h1]
theorem wks {K:List (List UInt8)} {v v':List UInt8→Int} (h:∀ t∈K,v t=v' t):entI K v=entI K v':=List.map_congr_left fun t ht=>by rw [h t ht]
theorem wtl (v:List UInt8→Int) (x:List UInt8) (y:Int):∀ K,K.Nodup→x∈K→mset (entI K v) (.str x) (.int .i64 y)=entI K (fun t=>if t=x then y else v t)
 |[],_,h=>by cases h
 |t::K,hd,h=>by
  rw [List.nodup_cons] at hd
  show (match keq (.str t) (.str x) with | true=>(AV.str x,AV.int .i64 y)::entI K v | false=>(AV.str t,AV.int .i64 (v t))::mset (entI K v) (.str x) (.int .i64 y))=(AV.str t,AV.int .i64 (if t=x then y else v t))::entI K (fun t=>if t=x then y else v t)
  rw [wgp]
  by_cases e:t=x
  ·subst e
   rw [decide_eq_true rfl,if_pos rfl]
   show _::_=_::_
   rw [wks (v:=v) (v':=fun s=>if s=t then y else v s) fun s hs=>by
    rw [if_neg]
    intro q;subst q;exact hd.1 hs]
  ·rw [decide_eq_false e,if_neg e]
   have hx:x∈K:=by
    rcases List.mem_cons.1 h with q | q
    ·exact absurd q.symm e
    ·exact q
   show _::_=_::_
   rw [wtl v x y K hd.2 hx]
theorem wig (G:List FL):∀ k,(idK G k).Nodup
 |0=>List.nodup_nil
 |k+1=>by
  rw [idK]
  cases q: !decide ((atF G k).kind=1) && !decide ((atF G k).id∈idK G k) with
  |false=>exact wig G k
  |true=>
   rw [Bool.and_eq_true,Bool.not_eq_true',Bool.not_eq_true',decide_eq_false_iff_not,decide_eq_false_iff_not] at q
   show (idK G k++[(atF G k).id]).Nodup
   rw [List.nodup_append]
   refine ⟨wig G k,by simp,fun a ha b hb=>?_⟩
   rw [List.mem_singleton] at hb
   subst hb
   intro e
   subst e
   exact q.2 ha
theorem wjs {G:List FL} {t:List UInt8}:∀ {k},t ∉ idK G k→nwF G t k=0
 |0,_=>rfl
 |k+1,h=>by
  rw [idK] at h
  rw [nwF]
  cases q: !decide ((atF G k).kind=1) with
  |false=>
   rw [q,Bool.false_and,cond_false] at h
   rw [Bool.false_and,cond_false];exact wjs h
  |true=>
   rw [q,Bool.true_and] at h
   by_cases e:(atF G k).id∈idK G k
   ·rw [decide_eq_true e] at h
    have h:t ∉ idK G k:=h
    have ne:¬ (atF G k).id=t:=fun z=>h (z ▸ e)
    rw [decide_eq_false ne];exact wjs h
   ·rw [decide_eq_false e] at h
    have h:t ∉ idK G k++[(atF G k).id]:=h
    rw [List.mem_append,List.mem_singleton,not_or] at h
    rw [decide_eq_false fun z=>h.2 z.symm];exact wjs h.1
theorem ws5 (G:List FL) (k:Nat) (x:List UInt8):Option.getD (mget (nwE G k) (.str x)) (.int .i64 0)= .int .i64 (nwF G x k):=by
 unfold nwE
 rw [wps]
 by_cases h:x∈idK G k
 ·rw [if_pos h]
 ·rw [if_neg h,wjs h]
theorem ws4 (G:List FL) (k:Nat):wbq .string (nwE G k):=wvf (wig G k)
theorem wph (σ:Nat→Option Nat) (G:List FL) (k:Nat):(nwE G k).map (fun p=>(AV.rn σ p.1,AV.rn σ p.2))=nwE G k:=wgv σ _ _
theorem nwE_msg {G:List FL} {k:Nat} (h:(atF G k).kind=1):nwE G (k+1)=nwE G k:=by
 unfold nwE
 rw [idK,decide_eq_true h]
 refine wks fun t _=>?_
 rw [nwF,decide_eq_true h];rfl
theorem nwE_set {G:List FL} {k:Nat} (h:¬ (atF G k).kind=1):mset (nwE G k) (.str (atF G k).id) (.int .i64 (max (nwF G (atF G k).id k) (atF G k).ver))=nwE G (k+1):=by
 unfold nwE
 have st:∀ t,nwF G t (k+1)=if t=(atF G k).id then max (nwF G (atF G k).id k) (atF G k).ver else nwF G t k:=fun t=>by
  rw [nwF,decide_eq_false h]
  by_cases e:t=(atF G k).id
  ·subst e;rw [if_pos rfl,decide_eq_true rfl];rfl
  ·rw [if_neg e,decide_eq_false fun z=>e z.symm];rfl
 rw [idK,decide_eq_false h]
 by_cases e:(atF G k).id∈idK G k
 ·rw [decide_eq_true e,wtl _ _ _ _ (wig G k) e]
  exact wks fun t _=>(st t).symm
 ·rw [decide_eq_false e,wtn _ _ _ _ e]
  exact wks fun t _=>(st t).symm
theorem v4_loop (hP:C.P=Tryz.prog) (G:List FL):waj C 0 40 (wam Tryz.f44 4) (L_v4 G):=by
 have _:C.Loose:=inferInstance
 rintro st Q ⟨h0,hn,hv,hQ⟩
 refine waj.mk (prg hP) [] 0 .nil [5,7,17,18,19] [5,7] [] (S_v4 G) (fun k=>k≤G.length) (fun k=>G.length - k) 0 (Nat.zero_le _) h0 (fun k hk=>?_) (fun _=>⟨fun _ _=>rfl,trivial⟩)
 have zz:zvA (.int .i64 0)= .int .i64 0:=rfl
 rw [wyc,Int.toNat_natCast,zz,ws5,wph]
 refine wak (fun h1=>⟨⟨by omega,by omega⟩,⟨by omega,rfl⟩,wca (fun h2=>?_) (fun h2=>?_)⟩) (fun h1=>?_)
 ·have e:=nwE_set (G:=G) (k:=k) h2
  refine ⟨⟨ws4 G k,rfl⟩,ws4 G k,by simp only [inR];omega,k+1,⟨rfl,?_⟩,by omega,by omega⟩
  have e':mset (nwE G k) (.str (atF G k).id) (.int .i64 (max (wap (.int .i64 (nwF G (atF G k).id k))) (atF G k).ver))=nwE G (k+1):=e
  rw [e',wph]
  exact wan _
 ·exact ⟨by simp only [inR];omega,k+1,⟨rfl,by rw [nwE_msg h2];exact wan _⟩,by omega,by omega⟩
 ·have:k=G.length:=by omega
  subst this
  exact ⟨fun _ _=>rfl,_,wan _,hQ⟩
theorem kf_view (G:List FL):kfL (qV (nwE G G.length)) (atF G) G.length=wfn G:=by
 unfold kfL wfn
 rw [show lst (atF G) G.length=G from wep G _]
 refine List.filter_congr fun x _=>?_
 unfold qV vwB
 rw [ws5];rfl
theorem wp5 (g:Nat→FL) (n:Nat) (d:Int):(knwL okV g n d).length≤n:=Nat.le_trans (List.length_filter_le _ _) (ws9 g n)
theorem wuh (L:List FL):(wbm L).length≤L.length:=why _ L _
theorem wp6 {g:Nat→FL} {n:Nat} {d:Int} (hg:∀ i,i<n→(g i).Gd):∀ x∈knwL okV g n d,x.Gd:=fun x hx=>nrm_gd hg x (List.mem_filter.1 hx).1
theorem bad_mem {L:List FL} {x:FL} (h:x∈badL L):x∈L:=by
 obtain ⟨i,hi,_,rfl⟩:=wji.1 h
 exact wd9 hi
theorem vw_gd {g:Nat→FL} {n:Nat} {d:Int} (hg:∀ i,i<n→(g i).Gd):∀ x∈vwL okV g n d,x.Gd:=fun x hx=>wp6 hg x (wqj (List.mem_filter.1 hx).1)
theorem vw_len (g:Nat→FL) (n:Nat) (d:Int):(vwL okV g n d).length≤n:=Nat.le_trans (List.length_filter_le _ _) (Nat.le_trans (wuh _) (wp5 g n d))
theorem view_at (hP:C.P=Tryz.prog) (hL:∀ w,C.laid w→LaidW w) (g:Nat→FL) (n:Nat) (d:Int) (hn:n≤1000) (hg:∀ i,i<n→(g i).Gd):ADet C 44 [.view 7 n (wac g),.int .i64 d] [] (.own 0 (vwL okV g n d).length) [(0,.row 49 7 (vwL okV g n d).length (wac (atF (vwL okV g n d))) false)]:=by
 refine wa7.wpL (prg hP) [(99,.det wg8),(100,.rel wnn)] [(4,L_v4 (wbm (knwL okV g n d)))] 0 (.cons (spl_ok hP hL) (.cons (delV_ok hP) .nil)) (hP ▸ Tryz.func44) rfl rfl rfl
  [(wam Tryz.f44 4,L_v4 (wbm (knwL okV g n d)))] (by kernel_rfl) ⟨v4_loop hP _,trivial⟩ ?_
 rw [nf_vw,wdo,wdo,wph]
 have h1:=wp5 g n d
 have h2:=wuh (knwL okV g n d)
 have hv:∀ F∈wbm (knwL okV g n d),0≤F.ver:=fun F hF=>by
  have:=wx2 (nrm_ok (List.mem_filter.1 (wqj hF)).1)
  omega
 have hgd:∀ F∈wbm (knwL okV g n d),F.Gd:=fun F hF=>wp6 hg F (wqj hF)
 have hk:=kf_view (wbm (knwL okV g n d))
 have hw:vwL okV g n d=wfn (wbm (knwL okV g n d)):=rfl
 rw [hk,hw]
 generalize wbm (knwL okV g n d)=G at *
 refine ⟨⟨hn,rfl,hg⟩,fun _ _=>rfl,fun _ _=>rfl,⟨rfl,wan _⟩,by omega,hv,fun _ _=>rfl,rfl,rfl,rfl,rfl,by omega,rfl,fun i hi=>(hgd _ (wd9 hi)).rg,⟨_,_,rfl,wig G _⟩,fun k h hkn hlst=>?_⟩
 obtain ⟨e1,e2⟩:=lst_at hlst wdq
 subst e1
 refine ⟨fun _ _=>rfl,fun _ _=>rfl,[(0,.row 49 7 (wfn G).length (wac (atF (wfn G))) false)],⟨⟨rfl,rfl,rfl,rfl,rfl,fun i hi=>?_⟩,trivial⟩,rfl,rfl⟩
 show wbd (h i)=wbd ((wfn G).getD i wdq)
 rw [e2 i hi]
theorem conf_ok (hP:C.P=Tryz.prog) (hL:∀ w,C.laid w→LaidW w):waf C 46 S_conf:=by
 rintro args objs U Os vc h hvc
 unfold S_conf at h
 split at h<;>simp only [Option.some.injEq,Prod.mk.injEq,reduceCtorEq] at h
 rename_i n f d
 obtain ⟨rfl,rfl,rfl⟩:=h
 obtain ⟨hn,hf,hg⟩:=hvc
 generalize flOf f=g at *
 subst hf
 refine wa7.wpL (prg hP) [(99,.det wg8)] [] 0 (.cons (spl_ok hP hL) .nil) (hP ▸ Tryz.func46) rfl rfl rfl [] (by kernel_rfl) trivial ?_
 rw [nf_conf,wdo]
 exact ⟨⟨hn,rfl,hg⟩,fun _ _=>rfl,fun _ _=>rfl,fun _ _=>rfl,_,wan _,rfl,rfl⟩
theorem nf_aw15 (R:AV→List (Nat×AObj)→Prop):wpFn te [] [(1002,won)] 0 Tryz.f31 [] [] R=(letI z0:=([.str [(97:UInt8)],.int .i64 1,.int .i64 10,.int .i64 2,.view 15 0 (wag (atM [])),.own 1 1,.view 5 0 (wah (atT []))]:List AV);(5≤16777216∧5=5∧1≤9223372036854775807)∧(TEq [(0,.bool false),(1,.ptr 0 0)] [(0,.bool false),(1,.ptr 0 0)]∧wae [(0,.cells z0 49),(1,.row 61 5 1 (waq (TI.sz wdi) (.str [(111:UInt8)]:: .str [(57:UInt8),54,51,56,53,48,55,52]:: .int .i64 5:: .int .i64 2:: .int .i64 300::List.append [] wfr)) false)] [(0,.cells z0 49),(1,.row 61 5 1 (wai (atR [awR])) false)])∧R (.bool true) []):=by kernel_rfl
theorem nf_aw2 (Q:Exit→St→Prop):regP ⟨te,[(33,.det wee),(44,.det wlh)],[],0,22,0⟩ (regC Tryz.f31 2) [0] Q S_awc=(letI z7:=(7≤16777216∧7=7∧1≤9223372036854775807:Prop);letI z6:=wah (atT (FL.ts awFl));letI z5:=wai (atR (FL.rs awFl));letI z4:=wag (atM (FL.ms awFl));letI z3:=(List.flatten (List.replicate (nat_lit 0) [.str ([]),.int .i64 0,.int .i64 0,.int .i64 0,.nil,.nil,.nil]):List AV);letI z2:=(flV [(97:UInt8)] (FL.ver awFl) (FL.day awFl) (FL.kind awFl) 0 z4 1 z5 0 z6);letI z1:=(1=1∧1≤1000∧FM (waq (TI.sz wb5) (.str [(97:UInt8)]:: .int .i64 (FL.ver awFl):: .int .i64 (FL.day awFl):: .int .i64 (FL.kind awFl):: .view 15 0 z4:: .view 5 1 z5:: .view 5 0 z6::List.append [] z3)) 1:Prop);letI z0:=(∀ (i:Nat),i<1→nrefL (waq (TI.sz wb5) (.str [(97:UInt8)]:: .int .i64 (FL.ver awFl):: .int .i64 (FL.day awFl):: .int .i64 (FL.kind awFl):: .view 15 0 z4:: .view 5 1 z5:: .view 5 0 z6::List.append [] z3) i)=true:Prop);(FlC 0 z4 1 z5 0 z6∧FL.Rg z2)∧wad (decide (encF z2=[(49:UInt8),58,97,44,49,44,50,44,48,44,49,44,49,58,111,44,56,58,57,54,51,56,53,48,55,52,44,53,44,50,44,51,48,48,44,48,44])) (z7∧z0∧z1∧z7∧z0∧z1∧Q .normal (St.mk [(0,.bool true)] [] 0 [])) (Q .normal (St.mk [(0,.bool false)] [] 0 []))):=by kernel_rfl
open Go.Lib in
theorem wv5:encF awFl=[49,58,97,44,49,44,50,44,48,44,49,44,49,58,111,44,56,58,57,54,51,56,53,48,55,52,44,53,44,50,44,51,48,48,44,48,44]:=by
 have d1:∀ u,u<10→decDigits u=[UInt8.ofNat (48+u)]:=fun u h=>by rw [decDigits,dif_pos h]
 have d3:decDigits 300=[51,48,48]:=by
  rw [decDigits,dif_neg (by omega),show 300 / 10=30 from rfl,decDigits,dif_neg (by omega),show 30 / 10=3 from rfl,d1 3 (by omega)];rfl
 have i1:∀ u:Nat,u<10→itoa (u:Int)=[UInt8.ofNat (48+u)]:=fun u h=>by
  unfold itoa
  rw [if_neg (by omega),Int.toNat_natCast,d1 u h]
 have i3:itoa (300:Int)=[51,48,48]:=by
  unfold itoa
  rw [if_neg (by omega)];exact d3
 have e0:=i1 0 (by omega)
 have e1:=i1 1 (by omega)
 have e2:=i1 2 (by omega)
 have e5:=i1 5 (by omega)
 have e8:=i1 8 (by omega)
 show (itoa ((1:Nat):Int)++58::([97]++[44]))++((itoa ((1:Nat):Int)++[44])++((itoa ((2:Nat):Int)++[44])++((itoa ((0:Nat):Int)++[44])++([]++((itoa ((1:Nat):Int)++[44])++(((itoa ((1:Nat):Int)++58::([111]++[44]))++((itoa ((8:Nat):Int)++58::([57,54,51,56,53,48,55,52]++[44]))++((itoa ((5:Nat):Int)++[44])++((itoa ((2:Nat):Int)++[44])++(itoa (300:Int)++[44]))))++[])++((itoa ((0:Nat):Int)++[44])++[])))))))=_
 rw [e0,e1,e2,e5,e8,i3];rfl
theorem wv3:awFl.Rg:=⟨by simp only [inR,awFl];omega,by simp only [inR,awFl];omega,by decide,by decide,by decide,fun m hm=>(by cases hm),fun r hr=>(by
 rw [List.mem_singleton.1 hr]
 exact ⟨by simp only [inR,awR];omega,by simp only [inR,awR];omega,by simp only [inR,awR];omega⟩),fun t ht=>(by cases ht),by rw [wv5];decide⟩
theorem wv4:awFl.Gd:=⟨⟨by decide,⟨by decide,fun m hm=>(by cases hm)⟩,⟨by decide,fun r hr=>by
 rw [List.mem_singleton.1 hr]
 decide⟩,⟨by decide,fun t ht=>(by cases ht)⟩⟩,wv3⟩
theorem fm_one {f:Nat→List AV} {F:FL} (h:f 0=wbd F) (hg:F.Gd):FM f 1:=by
 have e:flOf f 0=F:=by
  unfold flOf
  rw [h];exact wdn F
 refine ⟨fun i hi=>?_,fun i hi=>?_⟩
 ·obtain rfl:i=0:=by omega
  show f 0=wbd (flOf f 0)
  rw [e,h]
 ·obtain rfl:i=0:=by omega
  rw [e];exact hg
theorem wrp (hP:C.P=Tryz.prog) (hL:∀ w,C.laid w→LaidW w):waf C 44 wlg:=by
 rintro args objs U Os vc h hvc
 unfold wlg at h
 split at h<;>simp only [Option.some.injEq,Prod.mk.injEq,reduceCtorEq] at h
 rename_i n f d
 obtain ⟨rfl,rfl,rfl⟩:=h
 obtain ⟨hn,hf,hg⟩:=hvc
 generalize flOf f=g at *
 subst hf
 refine wal.frzO 0 ((view_at hP hL g n d hn hg).mono ?_)
 rintro u O ⟨rfl,rfl⟩
 refine ⟨fun _ _=>rfl,?_⟩
 have hb:Nat.ble (vwL okV g n d).length (vwL okV g n d).length=true:=Nat.ble_eq_true_of_le (Nat.le_refl _)
 constructor
 ·simp [frzC,frzA,frz,hb]
 ·rfl
theorem wwq (hP:C.P=Tryz.prog) (hL:∀ w,C.laid w→LaidW w):waf C 44 wlh:=by
 rintro args objs U Os vc h hvc
 unfold wlh at h
 split at h<;>simp only [Option.some.injEq,Prod.mk.injEq,reduceCtorEq] at h
 rename_i n d t m f fr
 obtain ⟨rfl,rfl,rfl⟩:=h
 obtain ⟨rfl,hn,hf,hs⟩:=hvc
 refine wal.rowEq 0 (f':=wac (flOf f)) rfl (fun i hi=>(hf i hi).symm) ?_
 have hb:Nat.ble n n=true:=Nat.ble_eq_true_of_le (Nat.le_refl _)
 have hh:=wrp hP hL [.view 7 n (wac (flOf f)),.int .i64 d] [] _ _ _ rfl ⟨hn,by rw [wdo],by rw [wdo];exact hs⟩
 rw [wdo] at hh
 exact ADet.give hh (by simp [frzC,frzA,frz,hb]) rfl rfl (fun _ _=>rfl)
theorem aw2_ok (hP:C.P=Tryz.prog) (hL:∀ w,C.laid w→LaidW w):waj C 0 22 (regC Tryz.f31 2) won:=by
 rintro st Q ⟨h0,hQ⟩
 refine AWP.nilVP 1 6 5 (wah (atT [])) (AWP.nilVP 1 4 15 (wag (atM [])) (AWP.canonIs (te:=te) [0,1] h0 (AWP.frzX 1 [] (fun _ _=>rfl) ?_) ⟨fun _ _=>rfl,trivial⟩))
 refine waj.reg (S:=S_awc) (prg hP) [(33,.det wee),(44,.det wlh)] 0 (.cons (enc_ok hP hL) (.cons (wwq hP hL) .nil)) [0,1] [0] rfl ?_ trivial
 rw [nf_aw2]
 have e:flV [97] awFl.ver awFl.day awFl.kind 0 (wag (atM awFl.ms)) 1 (wai (atR awFl.rs)) 0 (wah (atT awFl.ts))=awFl:=wdn awFl
 rw [e]
 refine ⟨⟨wer awFl,wv3⟩,wak (fun _=>?_) (fun h=>absurd wv5 h)⟩
 have one:∀ {p:Nat→Prop},p 0→∀ i,i<1→p i:=fun h i hi=>by
  obtain rfl:i=0:=by omega
  exact h
 exact ⟨⟨by omega,rfl,by omega⟩,one rfl,⟨rfl,by omega,fm_one (F:=awFl) rfl wv4⟩,⟨by omega,rfl,by omega⟩,one rfl,⟨rfl,by omega,fm_one (F:=awFl) rfl wv4⟩,hQ⟩
theorem w3p (hP:C.P=Tryz.prog) (hL:∀ w,C.laid w→LaidW w):waf C 31 wna:=by
 rintro args objs U Os vc h hvc
 unfold wna at h
 split at h<;>simp only [Option.some.injEq,Prod.mk.injEq,reduceCtorEq] at h
 obtain ⟨rfl,rfl,rfl⟩:=h
 refine waf.wpL (prg hP) [] [(1002,won)] 0 .nil (hP ▸ Tryz.func31) rfl rfl rfl [(regC Tryz.f31 2,won)] (by kernel_rfl) ⟨aw2_ok hP hL,trivial⟩ ?_
 rw [nf_aw15]
 exact ⟨⟨by omega,rfl,by omega⟩,⟨rfl,rfl,⟨rfl,rfl,rfl,rfl,rfl,fun i hi=>by
  obtain rfl:i=0:=by omega
  rfl⟩,trivial⟩,rfl,rfl⟩
theorem w2x (hP:C.P=Tryz.prog) (hL:∀ w,C.laid w→LaidW w):waf C 46 wm3:=by
 rintro args objs U Os vc h hvc
 unfold wm3 at h
 split at h<;>simp only [Option.some.injEq,Prod.mk.injEq,reduceCtorEq] at h
 rename_i n f d
 obtain ⟨rfl,rfl,rfl⟩:=h
 refine wal.frzO 0 ((conf_ok hP hL [.view 7 n f,.int .i64 d] [] _ _ _ rfl hvc).mono ?_)
 rintro u O ⟨rfl,rfl⟩
 have hb:Nat.ble (cfL okV (flOf f) n d).length (cfL okV (flOf f) n d).length=true:=Nat.ble_eq_true_of_le (Nat.le_refl _)
 exact ⟨fun _ _=>rfl,by simp [frzC,frzA,frz,hb],rfl⟩
theorem sameFT (X:List FL):(decide (X.length=X.length) && eqFs (atF X) (atF X) X.length)=true:=by rw [decide_eq_true rfl,wvc];rfl
theorem lGd {L:List FL} (h:∀ F∈L,F.Tn):∀ i,i<L.length→(atF L i).Gd:=fun _i hi=>(h _ (wd9 hi)).gd
theorem rgL {X:List FL} (h:∀ x∈X,x.Gd):∀ i,i<X.length→(atF X i).Rg:=fun _i hi=>(h _ (wd9 hi)).rg
theorem cf_gd {g:Nat→FL} {n:Nat} {d:Int} (hg:∀ i,i<n→(g i).Gd):∀ x∈cfL okV g n d,x.Gd:=fun x hx=>wp6 hg x (bad_mem hx)
theorem cf_len (g:Nat→FL) (n:Nat) (d:Int):(cfL okV g n d).length≤n:=Nat.le_trans (why _ _ _) (wp5 g n d)
end Go.Eng
