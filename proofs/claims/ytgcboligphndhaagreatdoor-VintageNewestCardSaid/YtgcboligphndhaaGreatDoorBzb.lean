/- The laws of normal forms, views, changes and orders. -/
import Derived.Test.YtgcboligphndhaaGreatDoorBt
import Derived.Test.YtgcboligphndhaaGreatDoorBza
import Derived.Test.YtgcboligphndhaaGreatDoorBv
import Derived.Test.YtgcboligphndhaaGreatDoorBz
import Derived.Test.YtgcboligphndhaaGreatDoorBu
namespace Go.Eng
open Go.Proofs Go.RowKit
variable {C:Ctx} [C.Loose]
set_option maxRecDepth 20000
theorem nf_spl (g:Nat→FL) (n:Nat) (d:Int) (R:AV→List (Nat×AObj)→Prop):wpFn te [(39,.det wk2),(100,.rel wma)] [(4,L_s4 (knwL okV g n d)),(9,L_s9 (knwL okV g n d))] 0 Tryz.f99 [.view 7 n (wab g),.int .i64 d] [] R=(letI z6:=edG (knwL okV g n d);letI z4:=wab (atF (knwL okV g n d));letI z3:=badL (knwL okV g n d);letI z2:=wbh (knwL okV g n d);letI z1:=nrmL okV (flOf (wab g)) n;letI z5:=(∀ (i:Nat),i<List.length z1→true=true:Prop);letI z0:=List.length (knwL okV g n d);(n≤1000∧wab g=wab (flOf (wab g))∧∀ (i:Nat),i<n→FL.Gd (flOf (wab g) i))∧z5∧z5∧49=49∧3=3∧false=false∧List.length z1=List.length z1∧List.length z1≤1000∧wab (atF z1)=wab (flOf (wab (atF z1)))∧(∀ (i:Nat),i<List.length z1→FL.Rg (flOf (wab (atF z1)) i))∧True∧∀ (k:Nat) (h:Nat→FL),k≤List.length z1→lst h k=kfL (qD d) (flOf (wab (atF z1))) (List.length z1)→(∀ (i:Nat),i<k→true=true)∧(TEq [(4,.nil),(5,.nil),(6,.own 0 k),(7,.map 1),(17,.own 0 k),(18,.int .i64 (↑k:Int)),(19,.int .i64 0)] [(4,.nil),(5,.nil),(6,.own 0 z0),(7,.map 1),(17,.own 0 z0),(18,.int .i64 (↑z0:Int)),(19,.int .i64 (↑0:Int))]∧wac [(0,.row 49 7 k (wab h) false),(1,.amap (List.map (fun (p:AV×AV)=>(AV.rn (ren 0 [(1,0),(33,1)]) (Prod.fst p),AV.rn (ren 0 [(1,0),(33,1)]) (Prod.snd p))) []))] [(0,.row 49 7 z0 z4 false),(1,.amap (entM (cntL z6 0)))])∧List.length (knwL okV g n d)≤1000∧(TEq [(4,.own 0 0),(5,.own 1 0),(7,.map 2),(34,.own 3 z0),(35,.int .i64 (↑z0:Int)),(36,.int .i64 0)] [(4,.own 0 0),(5,.own 1 0),(7,.map 2),(34,.own 3 z0),(35,.int .i64 (↑z0:Int)),(36,.int .i64 (↑0:Int))]∧wac [(0,.row 49 7 0 (fun (_x:Nat)=>[]) false),(1,.row 49 7 0 (fun (_x:Nat)=>[]) false),(2,.amap (List.map (fun (p:AV×AV)=>(AV.rn (ren 0 [(3,0),(2,1),(1,2),(0,3)]) (Prod.fst p),AV.rn (ren 0 [(3,0),(2,1),(1,2),(0,3)]) (Prod.snd p))) (entM (cntL z6 z0)))),(3,.row 49 7 z0 z4 false)] [(0,.row 49 7 0 (wab (atF (selG (knwL okV g n d) 0))) false),(1,.row 49 7 0 (wab (atF (selB (knwL okV g n d) 0))) false),(2,.amap (entM (cntL z6 z0))),(3,.row 49 7 z0 z4 false)])∧List.length (knwL okV g n d)≤1000∧(∀ (i:Nat),i<List.length z2→true=true)∧(∀ (i:Nat),i<List.length z3→true=true)∧∃ (O':List (Nat×AObj)),wac [(0,.row 49 7 (List.length z2) (wab (atF z2)) false),(1,.row 49 7 (List.length z3) (wab (atF z3)) false)] O'∧R (.tuple [.own 0 (List.length z2),.own 1 (List.length z3)]) O'):=by kernel_rfl
theorem wwi (L:List FL) (k:Nat) (P:Nat→Prop) (R:Exit→St→Prop):wa2 ⟨te,[],[(1006,L_s6 (cntL (edG L) k) (atF L k) L k)],0,59,0⟩ (wa4 Tryz.f99 4) [4,5,6,7,17,18,19] [4,5,6,7] [] (S_s4 L) P R (S_s4 L k)=(letI z4:=entM (cntL (edG L) k);letI z3:=ren 0 [(0,0),(1,1)];letI z2:=(↑(List.length L):Int);letI z1:=([(4,.nil),(5,.nil),(6,.own 0 (List.length L)),(7,.map 1),(9,.ptr 2 0),(17,.own 0 (List.length L)),(18,.int .i64 z2),(19,.int .i64 (↑k:Int))]:List (Nat×AV));letI z0:=(atF L (Int.toNat (↑k:Int)));waa (decide ((↑k:Int)<z2)) (((0:Int)≤(↑k:Int)∧(↑k:Int)<z2)∧(Int.toNat (↑k:Int)<List.length L∧7=7)∧(TEq z1 z1∧wac [(0,.row 49 7 (List.length L) (wab (atF L)) false),(1,.amap (List.map (fun (p:AV×AV)=>(AV.rn (ren 0 [(0,0),(1,1),(2,2)]) (Prod.fst p),AV.rn (ren 0 [(0,0),(1,1),(2,2)]) (Prod.snd p))) z4)),(2,.cells [.str (FL.id z0),.int .i64 (FL.ver z0),.int .i64 (FL.day z0),.int .i64 (FL.kind z0),.view 15 (List.length (FL.ms z0)) (wah (atM (FL.ms z0))),.view 5 (List.length (FL.rs z0)) (wak (atR (FL.rs z0))),.view 5 (List.length (FL.ts z0)) (wai (atT (FL.ts z0)))] 49)] [(0,.row 49 7 (List.length L) (wab (atF L)) false),(1,.amap z4),(2,.cells [.str (FL.id (atF L k)),.int .i64 (FL.ver (atF L k)),.int .i64 (FL.day (atF L k)),.int .i64 (FL.kind (atF L k)),.view 15 (List.length (FL.ms (atF L k))) (wah (atM (FL.ms (atF L k)))),.view 5 (List.length (FL.rs (atF L k))) (wak (atR (FL.rs (atF L k)))),.view 5 (List.length (FL.ts (atF L k))) (wai (atT (FL.ts (atF L k))))] 49)])∧List.Nodup (List.map Prod.fst (cntL (edG L) k))∧inR .i64 (getC (cntL (edG L) k) (mk2 (edM (atF L k)))+(1:Int))∧inR .i64 ((↑k:Int)+(1:Int))∧∃ (i':Nat),(TEq [(4,.nil),(5,.nil),(6,.own 0 (List.length L)),(7,.map 1),(17,.own 0 (List.length L)),(18,.int .i64 z2),(19,.int .i64 ((↑k:Int)+(1:Int)))] [(4,.nil),(5,.nil),(6,.own 0 (List.length L)),(7,.map 1),(17,.own 0 (List.length L)),(18,.int .i64 z2),(19,.int .i64 (↑i':Int))]∧wac [(0,.row 49 7 (List.length L) (wab (atF L)) false),(1,.amap (List.map (fun (p:AV×AV)=>(AV.rn z3 (Prod.fst p),AV.rn z3 (Prod.snd p))) (entM (addC (cntL (edG L) k) (mk2 (edM (atF L k)))))))] [(0,.row 49 7 (List.length L) (wab (atF L)) false),(1,.amap (entM (cntL (edG L) i')))])∧P i') ((∀ (i:Nat),i<List.length L→true=true)∧∃ (O':List (Nat×AObj)),wac [(0,.row 49 7 (List.length L) (wab (atF L)) false),(1,.amap (List.map (fun (p:AV×AV)=>(AV.rn z3 (Prod.fst p),AV.rn z3 (Prod.snd p))) z4))] O'∧R (.exit 0) (St.mk [(4,.nil),(5,.nil),(6,.own 0 (List.length L)),(7,.map 1)] O' 2 []))):=by kernel_rfl
theorem nf_s6a (u4 u5 u6 u17 u18 u19 c2 c3 c4 c5 c6:AV) (id:List UInt8) (ver:Int) (es:List (AV×AV)) (r:AObj):rgA ⟨te,[],[],0,59,0⟩ (regC Tryz.f99 6) [0,1,2,3,4,5] [4,5,6,7,9,17,18,19,23,28] ⟨[(4,u4),(5,u5),(6,u6),(7,.map 1),(9,.ptr 2 0),(17,u17),(18,u18),(19,u19),(23,.map 1),(28,.agg [.str id,.int .i64 ver])],[(0,r),(1,.amap es),(2,.cells [.str id,.int .i64 ver,c2,c3,c4,c5,c6] 49)],3,[]⟩ ⟨[(4,u4),(5,u5),(6,u6),(7,.map 1),(9,.ptr 2 0),(17,u17),(18,u18),(19,u19)],[(0,r),(1,.amap es),(2,.cells [.str id,.int .i64 ver,c2,c3,c4,c5,c6] 49)],3,[]⟩=(letI z2:=([(0,r),(1,.amap es),(2,.cells [.str id,.int .i64 ver,c2,c3,c4,c5,c6] 49)]:List (Nat×AObj));letI z3:=St.mk [(4,u4),(5,u5),(6,u6),(7,.map 1),(9,.ptr 2 0),(17,u17),(18,u18),(19,u19)] z2 3 [];letI z1:=([(4,u4),(5,u5),(6,u6),(7,.map 1),(9,.ptr 2 0),(17,u17),(18,u18),(19,u19),(23,.map 1),(28,.agg [.str id,.int .i64 ver])]:List (Nat×AV));letI z6:=St.mk z1 z2 3 [];letI z0:=(z1=z1∧z2=z2∧St.nx z3=St.nx z6:Prop);letI z5:=z0∧z1=z1∧z2=z2∧St.nx z3=St.nx z6;letI z4:=z0∧z0∧z1=z1∧z2=z2∧St.nx z3=St.nx z6;(z4∧z5∧z1=z1∧z2=z2∧St.nx z3=St.nx z6)∧(z4∧(z0∧z0∧z0∧z1=z1∧z2=z2∧St.nx z3=St.nx z6)∧z5∧z4∧z0∧z0∧z1=z1∧z2=z2∧St.nx z3=St.nx z6)∧(z5∧z1=z1∧z2=z2∧St.nx z3=St.nx z6)∧(z5∧z4∧z0∧z0∧z1=z1∧z2=z2∧St.nx z3=St.nx z6)∧z0∧z0∧z0∧z1=z1∧z2=z2∧St.nx z3=St.nx z6):=by kernel_rfl
theorem nf_s6 (E:List ((List UInt8×Int)×Int)) (F:FL) (L:List FL) (k:Nat) (Q:Exit→St→Prop):rgB ⟨te,[],[],0,59,0⟩ (regC Tryz.f99 6) [0,1,2,3,4,5] [4,5,6,7,9,17,18,19] Q (S_s6b E F L k)=(letI z16:=Env.te (Env.mk te [] [] 0 59 0);letI z15:=zvA (.int .i64 0);letI z14:=ren 0 [(0,0),(1,1),(2,2)];letI z9:=(∀ (i:Nat),i<List.length L→true=true:Prop);letI z7:=([.str (FL.id F),.int .i64 (FL.ver F),.int .i64 (FL.day F),.int .i64 (FL.kind F),.view 15 (List.length (FL.ms F)) (wah (atM (FL.ms F))),.view 5 (List.length (FL.rs F)) (wak (atR (FL.rs F))),.view 5 (List.length (FL.ts F)) (wai (atT (FL.ts F)))]:List AV);letI z3:=([(4,.nil),(5,.nil),(6,.own 0 (List.length L)),(7,.map 1),(9,.ptr 2 0),(17,.own 0 (List.length L)),(18,.int .i64 (↑(List.length L):Int)),(19,.int .i64 (↑k:Int))]:List (Nat×AV));letI z0:=([.str (FL.id F),.int .i64 (FL.ver F)]:List AV);letI z13:=mget (entM E) (.agg z0);letI z11:=(↑(midx (entM E) (.agg z0)):Int);letI z10:=(was (Option.getD z13 z15)+(1:Int));letI z6:=wcl z16 173 (entM E)∧.int .i64 (was (Option.getD z13 (.int .i64 0)))=Option.getD z13 (.int .i64 0);letI z5:=ment (.int .i64 0) (entM E) (.agg z0);letI z18:=List.getD z5 (Int.toNat z11) (.any,.any);letI z8:=Option.getD (mget z5 (.agg z0)) z15;letI z17:=(was z8+(1:Int));letI z12:=wcl z16 173 z5∧.int .i64 (was z8)=Option.getD (mget z5 (.agg z0)) z15;letI z4:=((0:Int)≤z11∧z11<(↑(List.length z5):Int):Prop);letI z2:=([(0,.row 49 7 (List.length L) (wab (atF L)) false),(1,.amap (List.map (fun (p:AV×AV)=>(AV.rn z14 (Prod.fst p),AV.rn z14 (Prod.snd p))) (List.set z5 (Int.toNat z11) (Prod.fst z18,.int .i64 z10)))),(2,.cells z7 49)]:List (Nat×AObj));letI z1:=([(0,.row 49 7 (List.length L) (wab (atF L)) false),(1,.amap (List.map (fun (p:AV×AV)=>(AV.rn z14 (Prod.fst p),AV.rn z14 (Prod.snd p))) (List.set z5 (Int.toNat z11) (Prod.fst z18,.int .i64 z17)))),(2,.cells z7 49)]:List (Nat×AObj));((wcl z16 173 (entM E)∧.int .i64 (was (Option.getD z13 z15))=Option.getD z13 z15)∧(inR .i64 z10∧z6∧z4∧z9∧∃ (O':List (Nat×AObj)),wac z2 O'∧Q .normal (St.mk z3 O' 3 []))∧z6∧(inR .i64 z10∧z4∧z9∧∃ (O':List (Nat×AObj)),wac z2 O'∧Q .normal (St.mk z3 O' 3 []))∧inR .i64 z10∧z4∧z9∧∃ (O':List (Nat×AObj)),wac z2 O'∧Q .normal (St.mk z3 O' 3 []))∧z6∧(z12∧(inR .i64 z17∧z4∧z9∧∃ (O':List (Nat×AObj)),wac z1 O'∧Q .normal (St.mk z3 O' 3 []))∧inR .i64 z17∧z4∧z9∧∃ (O':List (Nat×AObj)),wac z1 O'∧Q .normal (St.mk z3 O' 3 []))∧z12∧inR .i64 z17∧z4∧z9∧∃ (O':List (Nat×AObj)),wac z1 O'∧Q .normal (St.mk z3 O' 3 [])):=by kernel_rfl
theorem wwh (L:List FL) (k:Nat) (P:Nat→Prop) (R:Exit→St→Prop):wa2 ⟨te,[],[],0,59,0⟩ (wa4 Tryz.f99 9) [4,5,7,34,35,36] [4,5] [] (S_s9 L) P R (S_s9 L k)=(letI z13:=ren 0 [(23,0),(1,1),(2,2),(3,3)];letI z12:=ren 0 [(0,0),(23,1),(2,2),(3,3)];letI z11:=wab (atF (selB L k));letI z10:=wab (atF (selG L k));letI z9:=List.length (selG L k)+1;letI z8:=List.length (selB L k)+1;letI z7:=(7≤16777216∧7=7∧1≤9223372036854775807:Prop);letI z6:=List.length (selB L k);letI z5:=List.length (selG L k);letI z3:=(↑(List.length L):Int);letI z2:=entM (cntL (edG L) (List.length L));letI z1:=(atF L (Int.toNat (↑k:Int)));letI z4:=mget z2 (.agg [.str (FL.id z1),.int .i64 (FL.ver z1)]);letI z0:=(wa0 (TI.sz wd0) (.str (FL.id z1):: .int .i64 (FL.ver z1):: .int .i64 (FL.day z1):: .int .i64 (FL.kind z1):: .view 15 (List.length (FL.ms z1)) (wah (atM (FL.ms z1))):: .view 5 (List.length (FL.rs z1)) (wak (atR (FL.rs z1))):: .view 5 (List.length (FL.ts z1)) (wai (atT (FL.ts z1)))::List.append [] (List.flatten (List.replicate (nat_lit 0) [.str ([]),.int .i64 0,.int .i64 0,.int .i64 0,.nil,.nil,.nil]))));waa (decide ((↑k:Int)<z3)) (((0:Int)≤(↑k:Int)∧(↑k:Int)<z3)∧(Int.toNat (↑k:Int)<List.length L∧7=7)∧(wcl (Env.te (Env.mk te [] [] 0 59 0)) 173 z2∧.int .i64 (was (Option.getD z4 (zvA (.int .i64 0))))=Option.getD z4 (zvA (.int .i64 0)))∧waa (decide ((1:Int)<was (Option.getD z4 (zvA (.int .i64 0))))) (z7∧((1≤1∧7=7)∧List.length (selB L k)≤List.length (selB L k)∧7=7∧49=49∧7=7∧List.length (selB L k)+1≤9223372036854775807∧z8 * TI.bytes wd0≤140737488355328)∧inR .i64 ((↑k:Int)+(1:Int))∧∃ (i':Nat),(TEq [(4,.own 0 z5),(5,.own 1 z8),(7,.map 2),(34,.own 3 (List.length L)),(35,.int .i64 z3),(36,.int .i64 ((↑k:Int)+(1:Int)))] [(4,.own 0 (List.length (selG L i'))),(5,.own 1 (List.length (selB L i'))),(7,.map 2),(34,.own 3 (List.length L)),(35,.int .i64 z3),(36,.int .i64 (↑i':Int))]∧wac [(0,.row 49 7 z5 z10 false),(1,.row 49 7 z8 (apF z6 z11 z0) false),(2,.amap (List.map (fun (p:AV×AV)=>(AV.rn z12 (Prod.fst p),AV.rn z12 (Prod.snd p))) z2)),(3,.row 49 7 (List.length L) (wab (atF L)) false)] [(0,.row 49 7 (List.length (selG L i')) (wab (atF (selG L i'))) false),(1,.row 49 7 (List.length (selB L i')) (wab (atF (selB L i'))) false),(2,.amap z2),(3,.row 49 7 (List.length L) (wab (atF L)) false)])∧P i') (z7∧((1≤1∧7=7)∧List.length (selG L k)≤List.length (selG L k)∧7=7∧49=49∧7=7∧List.length (selG L k)+1≤9223372036854775807∧z9 * TI.bytes wd0≤140737488355328)∧inR .i64 ((↑k:Int)+(1:Int))∧∃ (i':Nat),(TEq [(4,.own 0 z9),(5,.own 1 z6),(7,.map 2),(34,.own 3 (List.length L)),(35,.int .i64 z3),(36,.int .i64 ((↑k:Int)+(1:Int)))] [(4,.own 0 (List.length (selG L i'))),(5,.own 1 (List.length (selB L i'))),(7,.map 2),(34,.own 3 (List.length L)),(35,.int .i64 z3),(36,.int .i64 (↑i':Int))]∧wac [(0,.row 49 7 z9 (apF z5 z10 z0) false),(1,.row 49 7 z6 z11 false),(2,.amap (List.map (fun (p:AV×AV)=>(AV.rn z13 (Prod.fst p),AV.rn z13 (Prod.snd p))) z2)),(3,.row 49 7 (List.length L) (wab (atF L)) false)] [(0,.row 49 7 (List.length (selG L i')) (wab (atF (selG L i'))) false),(1,.row 49 7 (List.length (selB L i')) (wab (atF (selB L i'))) false),(2,.amap z2),(3,.row 49 7 (List.length L) (wab (atF L)) false)])∧P i')) ((∀ (i:Nat),i<List.length (selG L k)→true=true)∧(∀ (i:Nat),i<List.length (selB L k)→true=true)∧∃ (O':List (Nat×AObj)),wac [(0,.row 49 7 z5 z10 false),(1,.row 49 7 z6 z11 false)] O'∧R (.exit 2) (St.mk [(4,.own 0 z5),(5,.own 1 z6)] O' 2 []))):=by kernel_rfl
theorem wo0 {L:List ((List UInt8×Int)×Int)} (h:(L.map Prod.fst).Nodup):wcl te 173 (entM L):=by
 refine ⟨List.all_eq_true.2 fun p hp=>?_,(wzj h).2⟩
 obtain ⟨r,_,rfl⟩:=List.mem_map.1 hp
 have:∀ (a:List UInt8) (b:Int),keyA te 173 (.agg [.str a,.int .i64 b])=true:=fun a b=>by kernel_rfl
 exact this _ _
theorem wyi {ES:List (AV×AV)} {i:Nat} {v:AV} (hi:i<ES.length) (h:wcl te 173 (ES.set i ((ES.getD i (.any,.any)).1,v))):wcl te 173 ES:=by
 have e:(ES.set i ((ES.getD i (.any,.any)).1,v)).map Prod.fst=ES.map Prod.fst:=by
  apply List.ext_getElem
  ·simp
  ·intro j h1 h2
   simp only [List.getElem_map,List.getElem_set]
   split
   ·rename_i e;subst e;simp [hi]
   ·rfl
 obtain ⟨h1,h2⟩:=h
 rw [e] at h2
 refine ⟨?_,h2⟩
 have f:∀ l:List (AV×AV),(l.all fun p=>keyA te 173 p.1)=(l.map Prod.fst).all fun k=>keyA te 173 k:=fun l=>by rw [List.all_map];rfl
 rw [f] at h1 ⊢
 rw [e] at h1
 exact h1
theorem s6_ok (hP:C.P=Tryz.prog) (E:List ((List UInt8×Int)×Int)) (F:FL) (L:List FL) (k:Nat):wae C 0 59 (regC Tryz.f99 6) (L_s6 E F L k):=by
 have _:C.Loose:=inferInstance
 rintro st Q ⟨h0,hnd,hin,hQ⟩
 refine wae.cut (SA:=S_s6b E F L k) (prg hP) [] 0 .nil [4,5,6,7,9,17,18,19] [4,5,6,7,9,17,18,19] [0,1,2,3,4,5] [4,5,6,7,9,17,18,19,23,28] h0 ?_ ?_ ⟨fun _ _=>rfl,trivial⟩
 ·refine (nf_s6a .nil .nil (.own 0 L.length) (.own 0 L.length) (.int .i64 L.length) (.int .i64 k) (.int .i64 F.day) (.int .i64 F.kind) (.view 15 F.ms.length (wah (atM F.ms))) (.view 5 F.rs.length (wak (atR F.rs))) (.view 5 F.ts.length (wai (atT F.ts))) F.id F.ver (entM E) (.row 49 7 L.length (wab (atF L)) false)).mpr ?_
  repeat' first | exact rfl | refine And.intro ?_ ?_
 rw [nf_s6]
 have zz:zvA (.int .i64 0)= .int .i64 0:=rfl
 have F1:Option.getD (mget (entM E) (.agg [.str F.id,.int .i64 F.ver])) (.int .i64 0)= .int .i64 (getC E (mk2 (edM F))):=wn5 (mk2 (edM F)) E
 obtain ⟨F3,F4,F5⟩:=ment_K (mk2 (edM F)) E
 have K1:=wo0 hnd
 have K2:wcl te 173 (ment (.int .i64 0) (entM E) (keyK (mk2 (edM F)))):=wyi F4 (F5.symm ▸ wo0 (wpl (mk2 (edM F)) hnd))
 change Option.getD (mget (ment (.int .i64 0) (entM E) (.agg [.str F.id,.int .i64 F.ver])) (.agg [.str F.id,.int .i64 F.ver])) (.int .i64 0)= .int .i64 (getC E (mk2 (edM F))) at F3
 change midx (entM E) (.agg [.str F.id,.int .i64 F.ver])<(ment (.int .i64 0) (entM E) (.agg [.str F.id,.int .i64 F.ver])).length at F4
 change (ment (.int .i64 0) (entM E) (.agg [.str F.id,.int .i64 F.ver])).set (midx (entM E) (.agg [.str F.id,.int .i64 F.ver])) (((ment (.int .i64 0) (entM E) (.agg [.str F.id,.int .i64 F.ver])).getD (midx (entM E) (.agg [.str F.id,.int .i64 F.ver])) (.any,.any)).1,.int .i64 (getC E (mk2 (edM F))+1))=entM (addC E (mk2 (edM F))) at F5
 change wcl te 173 (ment (.int .i64 0) (entM E) (.agg [.str F.id,.int .i64 F.ver])) at K2
 have F6:(0:Int)≤(midx (entM E) (.agg [.str F.id,.int .i64 F.ver]):Int)∧(midx (entM E) (.agg [.str F.id,.int .i64 F.ver]):Int)<((ment (.int .i64 0) (entM E) (.agg [.str F.id,.int .i64 F.ver])).length:Int):=by omega
 simp only [zz,F1,F3,was,Int.toNat_natCast,F5,wfn]
 have leaf:∃ O',wac (S_s6 (addC E (mk2 (edM F))) F L k).O O'∧Q .normal ⟨(S_s6 (addC E (mk2 (edM F))) F L k).T,O',3,[]⟩:=⟨_,wam _,hQ⟩
 have all:∀ i,i<L.length→True:=fun _ _=>trivial
 have K1:=(and_true (wcl te 173 (entM E))).symm ▸ K1
 repeat' first | exact leaf | exact trivial | exact K1 | exact K2 | exact ⟨K2,trivial⟩ | exact hin | exact F6 | exact all | refine And.intro ?_ ?_
theorem s4_loop (hP:C.P=Tryz.prog) (L:List FL):wae C 0 59 (wan Tryz.f99 4) (L_s4 L):=by
 rintro st Q ⟨h0,hn,hQ⟩
 refine wae.mkI (prg hP) [] (fun k=>[(1006,L_s6 (cntL (edG L) k) (atF L k) L k)]) 0 .nil (fun k=>[(regC Tryz.f99 6,L_s6 (cntL (edG L) k) (atF L k) L k)]) (fun k=>by kernel_rfl) (fun k=>⟨s6_ok hP _ _ L k,trivial⟩) [4,5,6,7,17,18,19] [4,5,6,7] [] (S_s4 L) (fun k=>k≤L.length) (fun k=>L.length - k) 0 (Nat.zero_le _) h0 (fun k hk=>?_) (fun k=>⟨fun _ _=>rfl,trivial⟩)
 rw [wwi,Int.toNat_natCast,wfn,wfn]
 have hb:=wou (edG L) (mk2 (edM (atF L k))) k
 have hc:=wnx (edG L) (mk2 (edM (atF L k))) k
 refine war (fun h1=>⟨⟨by omega,by omega⟩,⟨by omega,rfl⟩,⟨rfl,wam _⟩,wo7 (edG L) k,by simp only [inR];omega,by simp only [inR];omega,k+1,⟨rfl,?_⟩,by omega,by omega⟩) (fun h1=>?_)
 ·exact wam _
 ·have:k=L.length:=by omega
  subst this
  first | exact ⟨fun _ _=>rfl,_,wam _,hQ⟩ | (rw [wfn];exact ⟨fun _ _=>rfl,_,wam _,hQ⟩)
theorem snocF (G:List FL) (x:FL) (ch:Nat→List AV) (hch:ch 0=wba x):∀ i,i<G.length+1→apF G.length (wab (atF G)) ch i=wab (atF (G++[x])) i:=fun i hi=>by
 unfold apF
 by_cases h:i<G.length
 ·rw [if_pos h]
  show wba (atF G i)=wba (atF (G++[x]) i)
  congr 1
  simp [atF,List.getD_eq_getElem?_getD,List.getElem?_append_left h]
 ·have:i=G.length:=by omega
  subst this
  rw [if_neg h,Nat.sub_self,hch]
  show wba x=wba (atF (G++[x]) G.length)
  congr 1
  simp [atF]
theorem s9_loop (hP:C.P=Tryz.prog) (L:List FL):wae C 0 59 (wan Tryz.f99 9) (L_s9 L):=by
 have _:C.Loose:=inferInstance
 rintro st Q ⟨h0,hn,hQ⟩
 refine AWP.ownNil 5 49 7 (AWP.ownNil 4 49 7 ?_)
 refine wae.mk (prg hP) [] 0 .nil [4,5,7,34,35,36] [4,5] [] (S_s9 L) (fun k=>k≤L.length) (fun k=>L.length - k) 0 (Nat.zero_le _) h0 (fun k hk=>?_) (fun _=>⟨fun _ _=>rfl,fun _ _=>rfl,fun _ _=>rfl,trivial⟩)
 have zz:zvA (.int .i64 0)= .int .i64 0:=rfl
 rw [wwh,Int.toNat_natCast]
 have l1:=wiq (fun i=> !cfB L i) L k
 have l2:=wiq (cfB L) L k
 have hF:Option.getD (mget (entM (cntL (edG L) L.length)) (.agg [.str (atF L k).id,.int .i64 (atF L k).ver])) (.int .i64 0)= .int .i64 (getC (cntL (edG L) L.length) (mk2 (edM (atF L k)))):=wn5 (mk2 (edM (atF L k))) _
 rw [zz,hF,wou,wfn,wfn]
 have hc:cfB L k=decide (1<numC (edG L) (mk2 (edM (atF L k))) L.length):=rfl
 have sG:selG L (k+1)=bif !cfB L k then selG L k++[atF L k] else selG L k:=rfl
 have sB:selB L (k+1)=bif cfB L k then selB L k++[atF L k] else selB L k:=rfl
 refine war (fun h1=>⟨⟨by omega,by omega⟩,⟨by omega,rfl⟩,⟨wo0 (wo7 _ _),rfl⟩,war (fun h2=>?_) (fun h2=>?_)⟩) (fun h1=>?_)
 ·have hk':cfB L k=true:=decide_eq_true h2
  rw [hk'] at sG sB
  have sG:selG L (k+1)=selG L k:=sG
  have sB:selB L (k+1)=selB L k++[atF L k]:=sB
  have l2:(selB L k).length≤k:=l2
  refine ⟨⟨by omega,rfl,by omega⟩,⟨⟨Nat.le_refl _,rfl⟩,Nat.le_refl _,rfl,rfl,rfl,by omega,?_⟩,by simp only [inR];omega,k+1,?_,by omega,by omega⟩
  ·show ((selB L k).length+1) * 112≤_
   omega
  ·rw [sG,sB,List.length_append]
   exact ⟨rfl,⟨rfl,rfl,rfl,rfl,rfl,fun _ _=>rfl⟩,⟨rfl,rfl,rfl,rfl,rfl,snocF _ _ _ rfl⟩,rfl,⟨rfl,rfl,rfl,rfl,rfl,fun _ _=>rfl⟩,trivial⟩
 ·have hk':cfB L k=false:=decide_eq_false h2
  rw [hk'] at sG sB
  have sG:selG L (k+1)=selG L k++[atF L k]:=sG
  have sB:selB L (k+1)=selB L k:=sB
  have l1:(selG L k).length≤k:=l1
  refine ⟨⟨by omega,rfl,by omega⟩,⟨⟨Nat.le_refl _,rfl⟩,Nat.le_refl _,rfl,rfl,rfl,by omega,?_⟩,by simp only [inR];omega,k+1,?_,by omega,by omega⟩
  ·show ((selG L k).length+1) * 112≤_
   omega
  ·rw [sG,sB,List.length_append]
   exact ⟨rfl,⟨rfl,rfl,rfl,rfl,rfl,snocF _ _ _ rfl⟩,⟨rfl,rfl,rfl,rfl,rfl,fun _ _=>rfl⟩,rfl,⟨rfl,rfl,rfl,rfl,rfl,fun _ _=>rfl⟩,trivial⟩
 ·have:k=L.length:=by omega
  subst this
  exact ⟨fun _ _=>rfl,fun _ _=>rfl,_,wam _,hQ⟩
theorem nrm_gd {g:Nat→FL} {n:Nat} (hg:∀ i,i<n→(g i).Gd):∀ x∈nrmL okV g n,x.Gd:=fun x hx=>by
 obtain ⟨i,b,rfl⟩:=wf3.1 hx
 exact hg i b.lt
theorem wri (g:Nat→FL) (n:Nat):(nrmL okV g n).length≤n:=by
 have:∀ k,(nrmK okV g n k).length≤k:=fun k=>by
  induction k with
  |zero=>exact Nat.le_refl _
  |succ k ih=>
   rw [nrmK]
   cases kept okV g n k with
   |true=>
    have hp:=wo4 (nrmK okV g n k) (g k) (nrmK okV g n k).length
    rw [cond_true,insF,List.length_append,List.length_cons,List.length_take,List.length_drop]
    omega
   |false=>rw [cond_false];omega
 exact this n
theorem kf_day (L:List FL) (d:Int):kfL (qD d) (atF L) L.length=L.filter fun f=>decide (f.day≤d):=by
 unfold kfL
 rw [show lst (atF L) L.length=L from wd3 L _]
 refine List.filter_congr fun x _=>?_
 unfold qD
 by_cases h:d<x.day
 ·rw [decide_eq_true h,decide_eq_false (by omega)];rfl
 ·rw [decide_eq_false h,decide_eq_true (by omega)];rfl
theorem spl_at (hP:C.P=Tryz.prog) (hL:∀ w,C.laid w→LaidW w) (g:Nat→FL) (n:Nat) (d:Int) (hn:n≤1000) (hg:∀ i,i<n→(g i).Gd):ADet C 99 [.view 7 n (wab g),.int .i64 d] [] (.tuple [.own 0 (wbh (knwL okV g n d)).length,.own 1 (badL (knwL okV g n d)).length])
     [(0,.row 49 7 (wbh (knwL okV g n d)).length (wab (atF (wbh (knwL okV g n d)))) false),(1,.row 49 7 (badL (knwL okV g n d)).length (wab (atF (badL (knwL okV g n d)))) false)]:=by
 refine wbs.wpL (prg hP) [(39,.det wk2),(100,.rel wma)] [(4,L_s4 (knwL okV g n d)),(9,L_s9 (knwL okV g n d))] 0 (.cons (nrmz_ok hP hL) (.cons (delD_ok hP) .nil)) (hP ▸ Tryz.func99) rfl rfl rfl
   [(wan Tryz.f99 4,L_s4 (knwL okV g n d)),(wan Tryz.f99 9,L_s9 (knwL okV g n d))] (by kernel_rfl) ⟨s4_loop hP _,s9_loop hP _,trivial⟩ ?_
 rw [nf_spl,wcx,wcx,wfn]
 have hl:=wri g n
 have hgd:=nrm_gd hg
 have hk:kfL (qD d) (atF (nrmL okV g n)) (nrmL okV g n).length=knwL okV g n d:=kf_day _ d
 generalize nrmL okV g n=N at *
 rw [hk]
 generalize knwL okV g n d=K at *
 refine ⟨⟨hn,rfl,hg⟩,fun _ _=>rfl,fun _ _=>rfl,rfl,rfl,rfl,rfl,by omega,rfl,fun i hi=>(hgd _ (wev hi)).rg,trivial,fun k h hkn hlst=>?_⟩
 obtain ⟨e1,e2⟩:=lst_at hlst wdv
 subst e1
 refine ⟨fun _ _=>rfl,⟨rfl,⟨rfl,rfl,rfl,rfl,rfl,fun i hi=>?_⟩,rfl,trivial⟩,by omega,⟨rfl,⟨rfl,rfl,rfl,rfl,rfl,fun i hi=>absurd hi (Nat.not_lt_zero i)⟩,⟨rfl,rfl,rfl,rfl,rfl,fun i hi=>absurd hi (Nat.not_lt_zero i)⟩,rfl,⟨rfl,rfl,rfl,rfl,rfl,fun _ _=>rfl⟩,trivial⟩,by omega,fun _ _=>rfl,fun _ _=>rfl,_,wam _,rfl,rfl⟩
 show wba (h i)=wba (K.getD i wdv)
 rw [e2 i hi]
theorem spl_ok (hP:C.P=Tryz.prog) (hL:∀ w,C.laid w→LaidW w):wad C 99 wkq:=by
 rintro args objs U Os vc h hvc
 unfold wkq at h
 split at h<;>simp only [Option.some.injEq,Prod.mk.injEq,reduceCtorEq] at h
 rename_i n f d
 obtain ⟨rfl,rfl,rfl⟩:=h
 obtain ⟨hn,hf,hg⟩:=hvc
 generalize flOf f=g at *
 subst hf
 exact spl_at hP hL g n d hn hg
theorem nf_vw (g:Nat→FL) (n:Nat) (d:Int) (R:AV→List (Nat×AObj)→Prop):wpFn te [(99,.det wkq),(100,.rel wl9)] [(4,L_v4 (wbh (knwL okV g n d)))] 0 Tryz.f44 [.view 7 n (wab g),.int .i64 d] [] R=(letI z1:=wbh (knwL okV (flOf (wab g)) n d);letI z0:=wbh (knwL okV g n d);letI z2:=(List.map (fun (p:AV×AV)=>(AV.rn (idxN [0,1,2]) (Prod.fst p),AV.rn (idxN [0,1,2]) (Prod.snd p))) (nwE z0 (List.length z0)));(n≤1000∧wab g=wab (flOf (wab g))∧∀ (i:Nat),i<n→FL.Gd (flOf (wab g) i))∧(∀ (i:Nat),i<List.length z1→true=true)∧(∀ (i:Nat),i<List.length (badL (knwL okV (flOf (wab g)) n d))→true=true)∧(TEq [(5,.own 0 (List.length z1)),(7,.ptr 1 0),(17,.own 0 (List.length z1)),(18,.int .i64 (↑(List.length z1):Int)),(19,.int .i64 0)] [(5,.own 0 (List.length z0)),(7,.ptr 1 0),(17,.own 0 (List.length z0)),(18,.int .i64 (↑(List.length z0):Int)),(19,.int .i64 (↑0:Int))]∧wac [(0,.row 49 7 (List.length z1) (wab (atF z1)) false),(1,.cells [.map 2] 132),(2,.amap (List.map (fun (p:AV×AV)=>(AV.rn (ren 0 [(0,0),(17,1),(16,2)]) (Prod.fst p),AV.rn (ren 0 [(0,0),(17,1),(16,2)]) (Prod.snd p))) []))] [(0,.row 49 7 (List.length z0) (wab (atF z0)) false),(1,.cells [.map 2] 132),(2,.amap (nwE z0 0))])∧List.length z0≤1000∧(∀ (F:FL),F∈wbh (knwL okV g n d)→(0:Int)≤FL.ver F)∧(∀ (i:Nat),i<List.length z0→true=true)∧49=49∧132=132∧false=false∧List.length z0=List.length z0∧List.length z0≤1000∧wab (atF z0)=wab (flOf (wab (atF z0)))∧(∀ (i:Nat),i<List.length z0→FL.Rg (flOf (wab (atF z0)) i))∧EsV z2∧∀ (k:Nat) (h:Nat→FL),k≤List.length z0→lst h k=kfL (qV z2) (flOf (wab (atF z0))) (List.length z0)→(∀ (i:Nat),i<k→true=true)∧(∀ (i:Nat),i<k→true=true)∧∃ (O':List (Nat×AObj)),wac [(0,.row 49 7 k (wab h) false)] O'∧R (.own 0 k) O'):=by kernel_rfl
theorem wv7 (G:List FL) (k:Nat) (P:Nat→Prop) (R:Exit→St→Prop):wa2 ⟨te,[],[],0,40,0⟩ (wa4 Tryz.f44 4) [5,7,17,18,19] [5,7] [] (S_v4 G) P R (S_v4 G k)=(letI z5:=TI.desc (TI.mk TypeDesc.string 1 16 (Value.string (ByteArray.mk #[])) false);letI z4:=ren 0 [(0,0),(1,1),(2,2)];letI z3:=(↑(List.length G):Int);letI z2:=(atF G (Int.toNat (↑k:Int)));letI z6:=was (Option.getD (mget (nwE G k) (.str (FL.id z2))) (zvA (.int .i64 0)));letI z1:=([(5,.own 0 (List.length G)),(7,.ptr 1 0),(17,.own 0 (List.length G)),(18,.int .i64 z3),(19,.int .i64 ((↑k:Int)+(1:Int)))]:List (Nat×AV));letI z0:=([(0,.row 49 7 (List.length G) (wab (atF G)) false),(1,.cells [.map 2] 132),(2,.amap (List.map (fun (p:AV×AV)=>(AV.rn z4 (Prod.fst p),AV.rn z4 (Prod.snd p))) (nwE G k)))]:List (Nat×AObj));waa (decide ((↑k:Int)<z3)) (((0:Int)≤(↑k:Int)∧(↑k:Int)<z3)∧(Int.toNat (↑k:Int)<List.length G∧7=7)∧waa (!decide (FL.kind z2=(1:Int))) ((wbl z5 (nwE G k)∧.int .i64 z6=Option.getD (mget (nwE G k) (.str (FL.id z2))) (zvA (.int .i64 0)))∧wbl z5 (nwE G k)∧inR .i64 ((↑k:Int)+(1:Int))∧∃ (i':Nat),(TEq z1 [(5,.own 0 (List.length G)),(7,.ptr 1 0),(17,.own 0 (List.length G)),(18,.int .i64 z3),(19,.int .i64 (↑i':Int))]∧wac [(0,.row 49 7 (List.length G) (wab (atF G)) false),(1,.cells [.map 2] 132),(2,.amap (List.map (fun (p:AV×AV)=>(AV.rn z4 (Prod.fst p),AV.rn z4 (Prod.snd p))) (mset (nwE G k) (.str (FL.id z2)) (.int .i64 (max z6 (FL.ver z2))))))] [(0,.row 49 7 (List.length G) (wab (atF G)) false),(1,.cells [.map 2] 132),(2,.amap (nwE G i'))])∧P i') (inR .i64 ((↑k:Int)+(1:Int))∧∃ (i':Nat),(TEq z1 [(5,.own 0 (List.length G)),(7,.ptr 1 0),(17,.own 0 (List.length G)),(18,.int .i64 z3),(19,.int .i64 (↑i':Int))]∧wac z0 [(0,.row 49 7 (List.length G) (wab (atF G)) false),(1,.cells [.map 2] 132),(2,.amap (nwE G i'))])∧P i')) ((∀ (i:Nat),i<List.length G→true=true)∧∃ (O':List (Nat×AObj)),wac z0 O'∧R (.exit 0) (St.mk [(5,.own 0 (List.length G)),(7,.ptr 1 0)] O' 3 []))):=by kernel_rfl
theorem wru (v:List UInt8→Int) (x:List UInt8) (y:Int):∀ K,x ∉ K→mset (entI K v) (.str x) (.int .i64 y)=entI (K++[x]) (fun t=>if t=x then y else v t)
 |[],_=>by simp [entI,mset]
 |t::K,h=>by
  have h1:¬ t=x:=fun e=>h (by simp [e])
  have ih:=wru v x y K (fun e=>h (by simp [e]))
  show (match keq (.str t) (.str x) with | true=>(AV.str x,AV.int .i64 y)::entI K v | false=>(AV.str t,AV.int .i64 (v t))::mset (entI K v) (.str x) (.int .i64 y))=_
  rw [wf4,decide_eq_false h1,ih]
  show _=(AV.str t,AV.int .i64 (if t=x then y else v t))::entI (K++[x]) _
  rw [if_neg h1]
theorem wjx {K:List (List UInt8)} {v v':List UInt8→Int} (h:∀ t∈K,v t=v' t):entI K v=entI K v':=List.map_congr_left fun t ht=>by rw [h t ht]
theorem wrs (v:List UInt8→Int) (x:List UInt8) (y:Int):∀ K,K.Nodup→x∈K→mset (entI K v) (.str x) (.int .i64 y)=entI K (fun t=>if t=x then y else v t)
 |[],_,h=>by cases h
 |t::K,hd,h=>by
  rw [List.nodup_cons] at hd
  show (match keq (.str t) (.str x) with | true=>(AV.str x,AV.int .i64 y)::entI K v | false=>(AV.str t,AV.int .i64 (v t))::mset (entI K v) (.str x) (.int .i64 y))=(AV.str t,AV.int .i64 (if t=x then y else v t))::entI K (fun t=>if t=x then y else v t)
  rw [wf4]
  by_cases e:t=x
  ·subst e
   rw [decide_eq_true rfl,if_pos rfl]
   show _::_=_::_
   rw [wjx (v:=v) (v':=fun s=>if s=t then y else v s) fun s hs=>by
    rw [if_neg]
    intro q;subst q;exact hd.1 hs]
  ·rw [decide_eq_false e,if_neg e]
   have hx:x∈K:=by
    rcases List.mem_cons.1 h with q | q
    ·exact absurd q.symm e
    ·exact q
   show _::_=_::_
   rw [wrs v x y K hd.2 hx]
theorem whr (G:List FL):∀ k,(idK G k).Nodup
 |0=>List.nodup_nil
 |k+1=>by
  rw [idK]
  cases q: !decide ((atF G k).kind=1) && !decide ((atF G k).id∈idK G k) with
  |false=>exact whr G k
  |true=>
   rw [Bool.and_eq_true,Bool.not_eq_true',Bool.not_eq_true',decide_eq_false_iff_not,decide_eq_false_iff_not] at q
   show (idK G k++[(atF G k).id]).Nodup
   rw [List.nodup_append]
   refine ⟨whr G k,by simp,fun a ha b hb=>?_⟩
   rw [List.mem_singleton] at hb
   subst hb
   intro e
   subst e
   exact q.2 ha
theorem wi2 {G:List FL} {t:List UInt8}:∀ {k},t ∉ idK G k→nwF G t k=0
 |0,_=>rfl
 |k+1,h=>by
  rw [idK] at h
  rw [nwF]
  cases q: !decide ((atF G k).kind=1) with
  |false=>
   rw [q,Bool.false_and,cond_false] at h
   rw [Bool.false_and,cond_false];exact wi2 h
  |true=>
   rw [q,Bool.true_and] at h
   by_cases e:(atF G k).id∈idK G k
   ·rw [decide_eq_true e] at h
    have h:t ∉ idK G k:=h
    have ne:¬ (atF G k).id=t:=fun z=>h (z ▸ e)
    rw [decide_eq_false ne];exact wi2 h
   ·rw [decide_eq_false e] at h
    have h:t ∉ idK G k++[(atF G k).id]:=h
    rw [List.mem_append,List.mem_singleton,not_or] at h
    rw [decide_eq_false fun z=>h.2 z.symm];exact wi2 h.1
theorem wrf (G:List FL) (k:Nat) (x:List UInt8):Option.getD (mget (nwE G k) (.str x)) (.int .i64 0)= .int .i64 (nwF G x k):=by
 unfold nwE
 rw [wn6]
 by_cases h:x∈idK G k
 ·rw [if_pos h]
 ·rw [if_neg h,wi2 h]
theorem wre (G:List FL) (k:Nat):wbl .string (nwE G k):=wtf (whr G k)
theorem wnv (σ:Nat→Option Nat) (G:List FL) (k:Nat):(nwE G k).map (fun p=>(AV.rn σ p.1,AV.rn σ p.2))=nwE G k:=wf8 σ _ _
theorem nwE_msg {G:List FL} {k:Nat} (h:(atF G k).kind=1):nwE G (k+1)=nwE G k:=by
 unfold nwE
 rw [idK,decide_eq_true h]
 refine wjx fun t _=>?_
 rw [nwF,decide_eq_true h];rfl
theorem nwE_set {G:List FL} {k:Nat} (h:¬ (atF G k).kind=1):mset (nwE G k) (.str (atF G k).id) (.int .i64 (max (nwF G (atF G k).id k) (atF G k).ver))=nwE G (k+1):=by
 unfold nwE
 have st:∀ t,nwF G t (k+1)=if t=(atF G k).id then max (nwF G (atF G k).id k) (atF G k).ver else nwF G t k:=fun t=>by
  rw [nwF,decide_eq_false h]
  by_cases e:t=(atF G k).id
  ·subst e;rw [if_pos rfl,decide_eq_true rfl];rfl
  ·rw [if_neg e,decide_eq_false fun z=>e z.symm];rfl
 rw [idK,decide_eq_false h]
 by_cases e:(atF G k).id∈idK G k
 ·rw [decide_eq_true e,wrs _ _ _ _ (whr G k) e]
  exact wjx fun t _=>(st t).symm
 ·rw [decide_eq_false e,wru _ _ _ _ e]
  exact wjx fun t _=>(st t).symm
theorem v4_loop (hP:C.P=Tryz.prog) (G:List FL):wae C 0 40 (wan Tryz.f44 4) (L_v4 G):=by
 have _:C.Loose:=inferInstance
 rintro st Q ⟨h0,hn,hv,hQ⟩
 refine wae.mk (prg hP) [] 0 .nil [5,7,17,18,19] [5,7] [] (S_v4 G) (fun k=>k≤G.length) (fun k=>G.length - k) 0 (Nat.zero_le _) h0 (fun k hk=>?_) (fun _=>⟨fun _ _=>rfl,trivial⟩)
 have zz:zvA (.int .i64 0)= .int .i64 0:=rfl
 rw [wv7,Int.toNat_natCast,zz,wrf,wnv]
 refine war (fun h1=>⟨⟨by omega,by omega⟩,⟨by omega,rfl⟩,wc0 (fun h2=>?_) (fun h2=>?_)⟩) (fun h1=>?_)
 ·have e:=nwE_set (G:=G) (k:=k) h2
  refine ⟨⟨wre G k,rfl⟩,wre G k,by simp only [inR];omega,k+1,⟨rfl,?_⟩,by omega,by omega⟩
  have e':mset (nwE G k) (.str (atF G k).id) (.int .i64 (max (was (.int .i64 (nwF G (atF G k).id k))) (atF G k).ver))=nwE G (k+1):=e
  rw [e',wnv]
  exact wam _
 ·exact ⟨by simp only [inR];omega,k+1,⟨rfl,by rw [nwE_msg h2];exact wam _⟩,by omega,by omega⟩
 ·have:k=G.length:=by omega
  subst this
  exact ⟨fun _ _=>rfl,_,wam _,hQ⟩
theorem kf_view (G:List FL):kfL (qV (nwE G G.length)) (atF G) G.length=wec G:=by
 unfold kfL wec
 rw [show lst (atF G) G.length=G from wd3 G _]
 refine List.filter_congr fun x _=>?_
 unfold qV vwB
 rw [wrf];rfl
theorem knw_len (g:Nat→FL) (n:Nat) (d:Int):(knwL okV g n d).length≤n:=Nat.le_trans (List.length_filter_le _ _) (wri g n)
theorem wy5 (L:List FL):(wbh L).length≤L.length:=wiq _ L _
theorem knw_gd {g:Nat→FL} {n:Nat} {d:Int} (hg:∀ i,i<n→(g i).Gd):∀ x∈knwL okV g n d,x.Gd:=fun x hx=>nrm_gd hg x (List.mem_filter.1 hx).1
theorem view_at (hP:C.P=Tryz.prog) (hL:∀ w,C.laid w→LaidW w) (g:Nat→FL) (n:Nat) (d:Int) (hn:n≤1000) (hg:∀ i,i<n→(g i).Gd):ADet C 44 [.view 7 n (wab g),.int .i64 d] [] (.own 0 (vwL okV g n d).length) [(0,.row 49 7 (vwL okV g n d).length (wab (atF (vwL okV g n d))) false)]:=by
 refine wbs.wpL (prg hP) [(99,.det wkq),(100,.rel wl9)] [(4,L_v4 (wbh (knwL okV g n d)))] 0 (.cons (spl_ok hP hL) (.cons (delV_ok hP) .nil)) (hP ▸ Tryz.func44) rfl rfl rfl
  [(wan Tryz.f44 4,L_v4 (wbh (knwL okV g n d)))] (by kernel_rfl) ⟨v4_loop hP _,trivial⟩ ?_
 rw [nf_vw,wcx,wcx,wnv]
 have h1:=knw_len g n d
 have h2:=wy5 (knwL okV g n d)
 have hv:∀ F∈wbh (knwL okV g n d),0≤F.ver:=fun F hF=>by
  have:=wq9 (nrm_ok (List.mem_filter.1 (wsm hF)).1)
  omega
 have hgd:∀ F∈wbh (knwL okV g n d),F.Gd:=fun F hF=>knw_gd hg F (wsm hF)
 have hk:=kf_view (wbh (knwL okV g n d))
 have hw:vwL okV g n d=wec (wbh (knwL okV g n d)):=rfl
 rw [hk,hw]
 generalize wbh (knwL okV g n d)=G at *
 refine ⟨⟨hn,rfl,hg⟩,fun _ _=>rfl,fun _ _=>rfl,⟨rfl,wam _⟩,by omega,hv,fun _ _=>rfl,rfl,rfl,rfl,rfl,by omega,rfl,fun i hi=>(hgd _ (wev hi)).rg,⟨_,_,rfl,whr G _⟩,fun k h hkn hlst=>?_⟩
 obtain ⟨e1,e2⟩:=lst_at hlst wdv
 subst e1
 refine ⟨fun _ _=>rfl,fun _ _=>rfl,[(0,.row 49 7 (wec G).length (wab (atF (wec G))) false)],⟨⟨rfl,rfl,rfl,rfl,rfl,fun i hi=>?_⟩,trivial⟩,rfl,rfl⟩
 show wba (h i)=wba ((wec G).getD i wdv)
 rw [e2 i hi]
theorem nf_aw15 (R:AV→List (Nat×AObj)→Prop):wpFn te [] [(1002,wm3)] 0 Tryz.f31 [] [] R=(letI z0:=([.str [(97:UInt8)],.int .i64 1,.int .i64 10,.int .i64 2,.view 15 0 (wah (atM [])),.own 1 1,.view 5 0 (wai (atT []))]:List AV);(5≤16777216∧5=5∧1≤9223372036854775807)∧(TEq [(0,.bool false),(1,.ptr 0 0)] [(0,.bool false),(1,.ptr 0 0)]∧wac [(0,.cells z0 49),(1,.row 61 5 1 (wa0 (TI.sz we8) (.str [(111:UInt8)]:: .str [(57:UInt8),54,51,56,53,48,55,52]:: .int .i64 5:: .int .i64 2:: .int .i64 300::List.append [] (List.flatten (List.replicate (nat_lit 0) [.str ([]),.str ([]),.int .i64 0,.int .i64 0,.int .i64 0])))) false)] [(0,.cells z0 49),(1,.row 61 5 1 (wak (atR [awR])) false)])∧R (.bool true) []):=by kernel_rfl
theorem nf_aw2 (Q:Exit→St→Prop):regP ⟨te,[(33,.det wgq),(44,.det wgj)],[],0,22,0⟩ (regC Tryz.f31 2) [0] Q S_awc=(letI z7:=(7≤16777216∧7=7∧1≤9223372036854775807:Prop);letI z6:=wai (atT (FL.ts awFl));letI z5:=wak (atR (FL.rs awFl));letI z4:=wah (atM (FL.ms awFl));letI z3:=(List.flatten (List.replicate (nat_lit 0) [.str ([]),.int .i64 0,.int .i64 0,.int .i64 0,.nil,.nil,.nil]):List AV);letI z2:=(flV [(97:UInt8)] (FL.ver awFl) (FL.day awFl) (FL.kind awFl) 0 z4 1 z5 0 z6);letI z1:=(1=1∧1≤1000∧FM (wa0 (TI.sz wd0) (.str [(97:UInt8)]:: .int .i64 (FL.ver awFl):: .int .i64 (FL.day awFl):: .int .i64 (FL.kind awFl):: .view 15 0 z4:: .view 5 1 z5:: .view 5 0 z6::List.append [] z3)) 1:Prop);letI z0:=(∀ (i:Nat),i<1→nrefL (wa0 (TI.sz wd0) (.str [(97:UInt8)]:: .int .i64 (FL.ver awFl):: .int .i64 (FL.day awFl):: .int .i64 (FL.kind awFl):: .view 15 0 z4:: .view 5 1 z5:: .view 5 0 z6::List.append [] z3) i)=true:Prop);(FlC 0 z4 1 z5 0 z6∧FL.Rg z2)∧waa (decide (encF z2=[(49:UInt8),58,97,44,49,44,50,44,48,44,49,44,49,58,111,44,56,58,57,54,51,56,53,48,55,52,44,53,44,50,44,51,48,48,44,48,44])) (z7∧z0∧z1∧z7∧z0∧z1∧Q .normal (St.mk [(0,.bool true)] [] 0 [])) (Q .normal (St.mk [(0,.bool false)] [] 0 []))):=by kernel_rfl
open Go.Lib in
theorem wt6:encF awFl=[49,58,97,44,49,44,50,44,48,44,49,44,49,58,111,44,56,58,57,54,51,56,53,48,55,52,44,53,44,50,44,51,48,48,44,48,44]:=by
 have d1:∀ u,u<10→decDigits u=[UInt8.ofNat (48+u)]:=fun u h=>by rw [decDigits,dif_pos h]
 have d3:decDigits 300=[51,48,48]:=by
  rw [decDigits,dif_neg (by omega),show 300 / 10=30 from rfl,decDigits,dif_neg (by omega),show 30 / 10=3 from rfl,d1 3 (by omega)];rfl
 have i1:∀ u:Nat,u<10→itoa (u:Int)=[UInt8.ofNat (48+u)]:=fun u h=>by
  unfold itoa
  rw [if_neg (by omega),Int.toNat_natCast,d1 u h]
 have i3:itoa (300:Int)=[51,48,48]:=by
  unfold itoa
  rw [if_neg (by omega)];exact d3
 have e0:=i1 0 (by omega)
 have e1:=i1 1 (by omega)
 have e2:=i1 2 (by omega)
 have e5:=i1 5 (by omega)
 have e8:=i1 8 (by omega)
 show (itoa ((1:Nat):Int)++58::([97]++[44]))++((itoa ((1:Nat):Int)++[44])++((itoa ((2:Nat):Int)++[44])++((itoa ((0:Nat):Int)++[44])++([]++((itoa ((1:Nat):Int)++[44])++(((itoa ((1:Nat):Int)++58::([111]++[44]))++((itoa ((8:Nat):Int)++58::([57,54,51,56,53,48,55,52]++[44]))++((itoa ((5:Nat):Int)++[44])++((itoa ((2:Nat):Int)++[44])++(itoa (300:Int)++[44]))))++[])++((itoa ((0:Nat):Int)++[44])++[])))))))=_
 rw [e0,e1,e2,e5,e8,i3];rfl
theorem wt4:awFl.Rg:=⟨by simp only [inR,awFl];omega,by simp only [inR,awFl];omega,by decide,by decide,by decide,fun m hm=>(by cases hm),fun r hr=>(by
 rw [List.mem_singleton.1 hr]
 exact ⟨by simp only [inR,awR];omega,by simp only [inR,awR];omega,by simp only [inR,awR];omega⟩),fun t ht=>(by cases ht),by rw [wt6];decide⟩
theorem wt5:awFl.Gd:=⟨⟨by decide,⟨by decide,fun m hm=>(by cases hm)⟩,⟨by decide,fun r hr=>by
 rw [List.mem_singleton.1 hr]
 decide⟩,⟨by decide,fun t ht=>(by cases ht)⟩⟩,wt4⟩
theorem fm_one {f:Nat→List AV} {F:FL} (h:f 0=wba F) (hg:F.Gd):FM f 1:=by
 have e:flOf f 0=F:=by
  unfold flOf
  rw [h];exact wd7 F
 refine ⟨fun i hi=>?_,fun i hi=>?_⟩
 ·obtain rfl:i=0:=by omega
  show f 0=wba (flOf f 0)
  rw [e,h]
 ·obtain rfl:i=0:=by omega
  rw [e];exact hg
theorem wup (hP:C.P=Tryz.prog) (hL:∀ w,C.laid w→LaidW w):wad C 44 wue:=by
 rintro args objs U Os vc h hvc
 unfold wue at h
 split at h<;>simp only [Option.some.injEq,Prod.mk.injEq,reduceCtorEq] at h
 rename_i n f d
 obtain ⟨rfl,rfl,rfl⟩:=h
 obtain ⟨hn,hf,hg⟩:=hvc
 generalize flOf f=g at *
 subst hf
 refine wag.frzO 0 ((view_at hP hL g n d hn hg).mono ?_)
 rintro u O ⟨rfl,rfl⟩
 refine ⟨fun _ _=>rfl,?_⟩
 have hb:Nat.ble (vwL okV g n d).length (vwL okV g n d).length=true:=Nat.ble_eq_true_of_le (Nat.le_refl _)
 constructor
 ·simp [frzC,frzA,frz,hb]
 ·rfl
theorem wpx (hP:C.P=Tryz.prog) (hL:∀ w,C.laid w→LaidW w):wad C 44 wgj:=by
 rintro args objs U Os vc h hvc
 unfold wgj at h
 split at h<;>simp only [Option.some.injEq,Prod.mk.injEq,reduceCtorEq] at h
 rename_i n d t m f fr
 obtain ⟨rfl,rfl,rfl⟩:=h
 obtain ⟨rfl,hn,hf,hs⟩:=hvc
 refine wag.rowEq 0 (f':=wab (flOf f)) rfl (fun i hi=>(hf i hi).symm) ?_
 have hb:Nat.ble n n=true:=Nat.ble_eq_true_of_le (Nat.le_refl _)
 have hh:=wup hP hL [.view 7 n (wab (flOf f)),.int .i64 d] [] _ _ _ rfl ⟨hn,by rw [wcx],by rw [wcx];exact hs⟩
 rw [wcx] at hh
 exact ADet.give hh (by simp [frzC,frzA,frz,hb]) rfl rfl (fun _ _=>rfl)
theorem aw2_ok (hP:C.P=Tryz.prog) (hL:∀ w,C.laid w→LaidW w):wae C 0 22 (regC Tryz.f31 2) wm3:=by
 rintro st Q ⟨h0,hQ⟩
 refine AWP.nilVP 1 6 5 (wai (atT [])) (AWP.nilVP 1 4 15 (wah (atM [])) (AWP.canonIs (te:=te) [0,1] h0 (AWP.frzX 1 [] (fun _ _=>rfl) ?_) ⟨fun _ _=>rfl,trivial⟩))
 refine wae.reg (S:=S_awc) (prg hP) [(33,.det wgq),(44,.det wgj)] 0 (.cons (enc_ok hP hL) (.cons (wpx hP hL) .nil)) [0,1] [0] rfl ?_ trivial
 rw [nf_aw2]
 have e:flV [97] awFl.ver awFl.day awFl.kind 0 (wah (atM awFl.ms)) 1 (wak (atR awFl.rs)) 0 (wai (atT awFl.ts))=awFl:=wd7 awFl
 rw [e]
 refine ⟨⟨wep awFl,wt4⟩,war (fun _=>?_) (fun h=>absurd wt6 h)⟩
 have one:∀ {p:Nat→Prop},p 0→∀ i,i<1→p i:=fun h i hi=>by
  obtain rfl:i=0:=by omega
  exact h
 exact ⟨⟨by omega,rfl,by omega⟩,one rfl,⟨rfl,by omega,fm_one (F:=awFl) rfl wt5⟩,⟨by omega,rfl,by omega⟩,one rfl,⟨rfl,by omega,fm_one (F:=awFl) rfl wt5⟩,hQ⟩
theorem w0n (hP:C.P=Tryz.prog) (hL:∀ w,C.laid w→LaidW w):wad C 31 wl3:=by
 rintro args objs U Os vc h hvc
 unfold wl3 at h
 split at h<;>simp only [Option.some.injEq,Prod.mk.injEq,reduceCtorEq] at h
 obtain ⟨rfl,rfl,rfl⟩:=h
 refine wad.wpL (prg hP) [] [(1002,wm3)] 0 .nil (hP ▸ Tryz.func31) rfl rfl rfl [(regC Tryz.f31 2,wm3)] (by kernel_rfl) ⟨aw2_ok hP hL,trivial⟩ ?_
 rw [nf_aw15]
 exact ⟨⟨by omega,rfl,by omega⟩,⟨rfl,rfl,⟨rfl,rfl,rfl,rfl,rfl,fun i hi=>by
  obtain rfl:i=0:=by omega
  rfl⟩,trivial⟩,rfl,rfl⟩
end Go.Eng
