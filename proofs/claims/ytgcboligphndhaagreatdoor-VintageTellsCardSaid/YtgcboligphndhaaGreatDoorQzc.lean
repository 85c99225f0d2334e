/- Messages of a tape, exactly. -/
import Derived.Test.YtgcboligphndhaaGreatDoorQu
import Derived.Test.YtgcboligphndhaaGreatDoorQza
import Derived.Test.YtgcboligphndhaaGreatDoorQv
import Derived.Test.YtgcboligphndhaaGreatDoorQzb
import Derived.Test.YtgcboligphndhaaGreatDoorQt
import Derived.Test.YtgcboligphndhaaGreatDoorQw
import Derived.Test.YtgcboligphndhaaGreatDoorQz
namespace Go.Eng
open Go.Proofs Go.RowKit
variable {C:Ctx} [C.Loose]
set_option maxRecDepth 20000
theorem nf_spl (g:Nat→FL) (n:Nat) (d:Int) (R:AV→List (Nat×AObj)→Prop):wpFn te [(39,.det wlh),(100,.rel wmv)] [(4,L_s4 (knwL okV g n d)),(9,L_s9 (knwL okV g n d))] 0 Tryz.f99 [.view 7 n (wad g),.int .i64 d] [] R=(letI z6:=edG (knwL okV g n d);letI z4:=wad (atF (knwL okV g n d));letI z3:=badL (knwL okV g n d);letI z2:=wbq (knwL okV g n d);letI z1:=nrmL okV (flOf (wad g)) n;letI z5:=(∀ (i:Nat),i<List.length z1→true=true:Prop);letI z0:=List.length (knwL okV g n d);(n≤1000∧wad g=wad (flOf (wad g))∧∀ (i:Nat),i<n→FL.Gd (flOf (wad g) i))∧z5∧z5∧49=49∧3=3∧false=false∧List.length z1=List.length z1∧List.length z1≤1000∧wad (atF z1)=wad (flOf (wad (atF z1)))∧(∀ (i:Nat),i<List.length z1→FL.Rg (flOf (wad (atF z1)) i))∧True∧∀ (k:Nat) (h:Nat→FL),k≤List.length z1→lst h k=kfL (qD d) (flOf (wad (atF z1))) (List.length z1)→(∀ (i:Nat),i<k→true=true)∧(TEq [(4,.nil),(5,.nil),(6,.own 0 k),(7,.map 1),(17,.own 0 k),(18,.int .i64 (↑k:Int)),(19,.int .i64 0)] [(4,.nil),(5,.nil),(6,.own 0 z0),(7,.map 1),(17,.own 0 z0),(18,.int .i64 (↑z0:Int)),(19,.int .i64 (↑0:Int))]∧wag [(0,.row 49 7 k (wad h) false),(1,.amap (List.map (fun (p:AV×AV)=>(AV.rn (ren 0 [(1,0),(33,1)]) (Prod.fst p),AV.rn (ren 0 [(1,0),(33,1)]) (Prod.snd p))) []))] [(0,.row 49 7 z0 z4 false),(1,.amap (entM (cntL z6 0)))])∧List.length (knwL okV g n d)≤1000∧(TEq [(4,.own 0 0),(5,.own 1 0),(7,.map 2),(34,.own 3 z0),(35,.int .i64 (↑z0:Int)),(36,.int .i64 0)] [(4,.own 0 0),(5,.own 1 0),(7,.map 2),(34,.own 3 z0),(35,.int .i64 (↑z0:Int)),(36,.int .i64 (↑0:Int))]∧wag [(0,.row 49 7 0 (fun (_x:Nat)=>[]) false),(1,.row 49 7 0 (fun (_x:Nat)=>[]) false),(2,.amap (List.map (fun (p:AV×AV)=>(AV.rn (ren 0 [(3,0),(2,1),(1,2),(0,3)]) (Prod.fst p),AV.rn (ren 0 [(3,0),(2,1),(1,2),(0,3)]) (Prod.snd p))) (entM (cntL z6 z0)))),(3,.row 49 7 z0 z4 false)] [(0,.row 49 7 0 (wad (atF (selG (knwL okV g n d) 0))) false),(1,.row 49 7 0 (wad (atF (selB (knwL okV g n d) 0))) false),(2,.amap (entM (cntL z6 z0))),(3,.row 49 7 z0 z4 false)])∧List.length (knwL okV g n d)≤1000∧(∀ (i:Nat),i<List.length z2→true=true)∧(∀ (i:Nat),i<List.length z3→true=true)∧∃ (O':List (Nat×AObj)),wag [(0,.row 49 7 (List.length z2) (wad (atF z2)) false),(1,.row 49 7 (List.length z3) (wad (atF z3)) false)] O'∧R (.tuple [.own 0 (List.length z2),.own 1 (List.length z3)]) O'):=by kernel_rfl
theorem wxn (L:List FL) (k:Nat) (P:Nat→Prop) (R:Exit→St→Prop):wa6 ⟨te,[],[(1006,L_s6 (cntL (edG L) k) (atF L k) L k)],0,59,0⟩ (wa8 Tryz.f99 4) [4,5,6,7,17,18,19] [4,5,6,7] [] (S_s4 L) P R (S_s4 L k)=(letI z4:=entM (cntL (edG L) k);letI z3:=ren 0 [(0,0),(1,1)];letI z2:=(↑(List.length L):Int);letI z1:=([(4,.nil),(5,.nil),(6,.own 0 (List.length L)),(7,.map 1),(9,.ptr 2 0),(17,.own 0 (List.length L)),(18,.int .i64 z2),(19,.int .i64 (↑k:Int))]:List (Nat×AV));letI z0:=(atF L (Int.toNat (↑k:Int)));wac (decide ((↑k:Int)<z2)) (((0:Int)≤(↑k:Int)∧(↑k:Int)<z2)∧(Int.toNat (↑k:Int)<List.length L∧7=7)∧(TEq z1 z1∧wag [(0,.row 49 7 (List.length L) (wad (atF L)) false),(1,.amap (List.map (fun (p:AV×AV)=>(AV.rn (ren 0 [(0,0),(1,1),(2,2)]) (Prod.fst p),AV.rn (ren 0 [(0,0),(1,1),(2,2)]) (Prod.snd p))) z4)),(2,.cells [.str (FL.id z0),.int .i64 (FL.ver z0),.int .i64 (FL.day z0),.int .i64 (FL.kind z0),.view 15 (List.length (FL.ms z0)) (waf (atM (FL.ms z0))),.view 5 (List.length (FL.rs z0)) (wah (atR (FL.rs z0))),.view 5 (List.length (FL.ts z0)) (wai (atT (FL.ts z0)))] 49)] [(0,.row 49 7 (List.length L) (wad (atF L)) false),(1,.amap z4),(2,.cells [.str (FL.id (atF L k)),.int .i64 (FL.ver (atF L k)),.int .i64 (FL.day (atF L k)),.int .i64 (FL.kind (atF L k)),.view 15 (List.length (FL.ms (atF L k))) (waf (atM (FL.ms (atF L k)))),.view 5 (List.length (FL.rs (atF L k))) (wah (atR (FL.rs (atF L k)))),.view 5 (List.length (FL.ts (atF L k))) (wai (atT (FL.ts (atF L k))))] 49)])∧List.Nodup (List.map Prod.fst (cntL (edG L) k))∧inR .i64 (getC (cntL (edG L) k) (mk2 (edM (atF L k)))+(1:Int))∧inR .i64 ((↑k:Int)+(1:Int))∧∃ (i':Nat),(TEq [(4,.nil),(5,.nil),(6,.own 0 (List.length L)),(7,.map 1),(17,.own 0 (List.length L)),(18,.int .i64 z2),(19,.int .i64 ((↑k:Int)+(1:Int)))] [(4,.nil),(5,.nil),(6,.own 0 (List.length L)),(7,.map 1),(17,.own 0 (List.length L)),(18,.int .i64 z2),(19,.int .i64 (↑i':Int))]∧wag [(0,.row 49 7 (List.length L) (wad (atF L)) false),(1,.amap (List.map (fun (p:AV×AV)=>(AV.rn z3 (Prod.fst p),AV.rn z3 (Prod.snd p))) (entM (addC (cntL (edG L) k) (mk2 (edM (atF L k)))))))] [(0,.row 49 7 (List.length L) (wad (atF L)) false),(1,.amap (entM (cntL (edG L) i')))])∧P i') ((∀ (i:Nat),i<List.length L→true=true)∧∃ (O':List (Nat×AObj)),wag [(0,.row 49 7 (List.length L) (wad (atF L)) false),(1,.amap (List.map (fun (p:AV×AV)=>(AV.rn z3 (Prod.fst p),AV.rn z3 (Prod.snd p))) z4))] O'∧R (.exit 0) (St.mk [(4,.nil),(5,.nil),(6,.own 0 (List.length L)),(7,.map 1)] O' 2 []))):=by kernel_rfl
theorem nf_s6a (u4 u5 u6 u17 u18 u19 c2 c3 c4 c5 c6:AV) (id:List UInt8) (ver:Int) (es:List (AV×AV)) (r:AObj):rgA ⟨te,[],[],0,59,0⟩ (regC Tryz.f99 6) [0,1,2,3,4,5] [4,5,6,7,9,17,18,19,23,28] ⟨[(4,u4),(5,u5),(6,u6),(7,.map 1),(9,.ptr 2 0),(17,u17),(18,u18),(19,u19),(23,.map 1),(28,.agg [.str id,.int .i64 ver])],[(0,r),(1,.amap es),(2,.cells [.str id,.int .i64 ver,c2,c3,c4,c5,c6] 49)],3,[]⟩ ⟨[(4,u4),(5,u5),(6,u6),(7,.map 1),(9,.ptr 2 0),(17,u17),(18,u18),(19,u19)],[(0,r),(1,.amap es),(2,.cells [.str id,.int .i64 ver,c2,c3,c4,c5,c6] 49)],3,[]⟩=(letI z2:=([(0,r),(1,.amap es),(2,.cells [.str id,.int .i64 ver,c2,c3,c4,c5,c6] 49)]:List (Nat×AObj));letI z3:=St.mk [(4,u4),(5,u5),(6,u6),(7,.map 1),(9,.ptr 2 0),(17,u17),(18,u18),(19,u19)] z2 3 [];letI z1:=([(4,u4),(5,u5),(6,u6),(7,.map 1),(9,.ptr 2 0),(17,u17),(18,u18),(19,u19),(23,.map 1),(28,.agg [.str id,.int .i64 ver])]:List (Nat×AV));letI z6:=St.mk z1 z2 3 [];letI z0:=(z1=z1∧z2=z2∧St.nx z3=St.nx z6:Prop);letI z5:=z0∧z1=z1∧z2=z2∧St.nx z3=St.nx z6;letI z4:=z0∧z0∧z1=z1∧z2=z2∧St.nx z3=St.nx z6;(z4∧z5∧z1=z1∧z2=z2∧St.nx z3=St.nx z6)∧(z4∧(z0∧z0∧z0∧z1=z1∧z2=z2∧St.nx z3=St.nx z6)∧z5∧z4∧z0∧z0∧z1=z1∧z2=z2∧St.nx z3=St.nx z6)∧(z5∧z1=z1∧z2=z2∧St.nx z3=St.nx z6)∧(z5∧z4∧z0∧z0∧z1=z1∧z2=z2∧St.nx z3=St.nx z6)∧z0∧z0∧z0∧z1=z1∧z2=z2∧St.nx z3=St.nx z6):=by kernel_rfl
theorem nf_s6 (E:List ((List UInt8×Int)×Int)) (F:FL) (L:List FL) (k:Nat) (Q:Exit→St→Prop):rgB ⟨te,[],[],0,59,0⟩ (regC Tryz.f99 6) [0,1,2,3,4,5] [4,5,6,7,9,17,18,19] Q (S_s6b E F L k)=(letI z16:=Env.te (Env.mk te [] [] 0 59 0);letI z15:=zvA (.int .i64 0);letI z14:=ren 0 [(0,0),(1,1),(2,2)];letI z9:=(∀ (i:Nat),i<List.length L→true=true:Prop);letI z7:=([.str (FL.id F),.int .i64 (FL.ver F),.int .i64 (FL.day F),.int .i64 (FL.kind F),.view 15 (List.length (FL.ms F)) (waf (atM (FL.ms F))),.view 5 (List.length (FL.rs F)) (wah (atR (FL.rs F))),.view 5 (List.length (FL.ts F)) (wai (atT (FL.ts F)))]:List AV);letI z3:=([(4,.nil),(5,.nil),(6,.own 0 (List.length L)),(7,.map 1),(9,.ptr 2 0),(17,.own 0 (List.length L)),(18,.int .i64 (↑(List.length L):Int)),(19,.int .i64 (↑k:Int))]:List (Nat×AV));letI z0:=([.str (FL.id F),.int .i64 (FL.ver F)]:List AV);letI z13:=mget (entM E) (.agg z0);letI z11:=(↑(midx (entM E) (.agg z0)):Int);letI z10:=(was (Option.getD z13 z15)+(1:Int));letI z6:=wcr z16 173 (entM E)∧.int .i64 (was (Option.getD z13 (.int .i64 0)))=Option.getD z13 (.int .i64 0);letI z5:=ment (.int .i64 0) (entM E) (.agg z0);letI z18:=List.getD z5 (Int.toNat z11) (.any,.any);letI z8:=Option.getD (mget z5 (.agg z0)) z15;letI z17:=(was z8+(1:Int));letI z12:=wcr z16 173 z5∧.int .i64 (was z8)=Option.getD (mget z5 (.agg z0)) z15;letI z4:=((0:Int)≤z11∧z11<(↑(List.length z5):Int):Prop);letI z2:=([(0,.row 49 7 (List.length L) (wad (atF L)) false),(1,.amap (List.map (fun (p:AV×AV)=>(AV.rn z14 (Prod.fst p),AV.rn z14 (Prod.snd p))) (List.set z5 (Int.toNat z11) (Prod.fst z18,.int .i64 z10)))),(2,.cells z7 49)]:List (Nat×AObj));letI z1:=([(0,.row 49 7 (List.length L) (wad (atF L)) false),(1,.amap (List.map (fun (p:AV×AV)=>(AV.rn z14 (Prod.fst p),AV.rn z14 (Prod.snd p))) (List.set z5 (Int.toNat z11) (Prod.fst z18,.int .i64 z17)))),(2,.cells z7 49)]:List (Nat×AObj));((wcr z16 173 (entM E)∧.int .i64 (was (Option.getD z13 z15))=Option.getD z13 z15)∧(inR .i64 z10∧z6∧z4∧z9∧∃ (O':List (Nat×AObj)),wag z2 O'∧Q .normal (St.mk z3 O' 3 []))∧z6∧(inR .i64 z10∧z4∧z9∧∃ (O':List (Nat×AObj)),wag z2 O'∧Q .normal (St.mk z3 O' 3 []))∧inR .i64 z10∧z4∧z9∧∃ (O':List (Nat×AObj)),wag z2 O'∧Q .normal (St.mk z3 O' 3 []))∧z6∧(z12∧(inR .i64 z17∧z4∧z9∧∃ (O':List (Nat×AObj)),wag z1 O'∧Q .normal (St.mk z3 O' 3 []))∧inR .i64 z17∧z4∧z9∧∃ (O':List (Nat×AObj)),wag z1 O'∧Q .normal (St.mk z3 O' 3 []))∧z12∧inR .i64 z17∧z4∧z9∧∃ (O':List (Nat×AObj)),wag z1 O'∧Q .normal (St.mk z3 O' 3 [])):=by kernel_rfl
theorem wxm (L:List FL) (k:Nat) (P:Nat→Prop) (R:Exit→St→Prop):wa6 ⟨te,[],[],0,59,0⟩ (wa8 Tryz.f99 9) [4,5,7,34,35,36] [4,5] [] (S_s9 L) P R (S_s9 L k)=(letI z13:=ren 0 [(23,0),(1,1),(2,2),(3,3)];letI z12:=ren 0 [(0,0),(23,1),(2,2),(3,3)];letI z11:=wad (atF (selB L k));letI z10:=wad (atF (selG L k));letI z9:=List.length (selG L k)+1;letI z8:=List.length (selB L k)+1;letI z7:=(7≤16777216∧7=7∧1≤9223372036854775807:Prop);letI z6:=List.length (selB L k);letI z5:=List.length (selG L k);letI z3:=(↑(List.length L):Int);letI z2:=entM (cntL (edG L) (List.length L));letI z1:=(atF L (Int.toNat (↑k:Int)));letI z4:=mget z2 (.agg [.str (FL.id z1),.int .i64 (FL.ver z1)]);letI z0:=(waz (TI.sz wfi) (.str (FL.id z1):: .int .i64 (FL.ver z1):: .int .i64 (FL.day z1):: .int .i64 (FL.kind z1):: .view 15 (List.length (FL.ms z1)) (waf (atM (FL.ms z1))):: .view 5 (List.length (FL.rs z1)) (wah (atR (FL.rs z1))):: .view 5 (List.length (FL.ts z1)) (wai (atT (FL.ts z1)))::List.append [] (List.flatten (List.replicate (nat_lit 0) [.str ([]),.int .i64 0,.int .i64 0,.int .i64 0,.nil,.nil,.nil]))));wac (decide ((↑k:Int)<z3)) (((0:Int)≤(↑k:Int)∧(↑k:Int)<z3)∧(Int.toNat (↑k:Int)<List.length L∧7=7)∧(wcr (Env.te (Env.mk te [] [] 0 59 0)) 173 z2∧.int .i64 (was (Option.getD z4 (zvA (.int .i64 0))))=Option.getD z4 (zvA (.int .i64 0)))∧wac (decide ((1:Int)<was (Option.getD z4 (zvA (.int .i64 0))))) (z7∧((1≤1∧7=7)∧List.length (selB L k)≤List.length (selB L k)∧7=7∧49=49∧7=7∧List.length (selB L k)+1≤9223372036854775807∧z8 * TI.bytes wfi≤140737488355328)∧inR .i64 ((↑k:Int)+(1:Int))∧∃ (i':Nat),(TEq [(4,.own 0 z5),(5,.own 1 z8),(7,.map 2),(34,.own 3 (List.length L)),(35,.int .i64 z3),(36,.int .i64 ((↑k:Int)+(1:Int)))] [(4,.own 0 (List.length (selG L i'))),(5,.own 1 (List.length (selB L i'))),(7,.map 2),(34,.own 3 (List.length L)),(35,.int .i64 z3),(36,.int .i64 (↑i':Int))]∧wag [(0,.row 49 7 z5 z10 false),(1,.row 49 7 z8 (apF z6 z11 z0) false),(2,.amap (List.map (fun (p:AV×AV)=>(AV.rn z12 (Prod.fst p),AV.rn z12 (Prod.snd p))) z2)),(3,.row 49 7 (List.length L) (wad (atF L)) false)] [(0,.row 49 7 (List.length (selG L i')) (wad (atF (selG L i'))) false),(1,.row 49 7 (List.length (selB L i')) (wad (atF (selB L i'))) false),(2,.amap z2),(3,.row 49 7 (List.length L) (wad (atF L)) false)])∧P i') (z7∧((1≤1∧7=7)∧List.length (selG L k)≤List.length (selG L k)∧7=7∧49=49∧7=7∧List.length (selG L k)+1≤9223372036854775807∧z9 * TI.bytes wfi≤140737488355328)∧inR .i64 ((↑k:Int)+(1:Int))∧∃ (i':Nat),(TEq [(4,.own 0 z9),(5,.own 1 z6),(7,.map 2),(34,.own 3 (List.length L)),(35,.int .i64 z3),(36,.int .i64 ((↑k:Int)+(1:Int)))] [(4,.own 0 (List.length (selG L i'))),(5,.own 1 (List.length (selB L i'))),(7,.map 2),(34,.own 3 (List.length L)),(35,.int .i64 z3),(36,.int .i64 (↑i':Int))]∧wag [(0,.row 49 7 z9 (apF z5 z10 z0) false),(1,.row 49 7 z6 z11 false),(2,.amap (List.map (fun (p:AV×AV)=>(AV.rn z13 (Prod.fst p),AV.rn z13 (Prod.snd p))) z2)),(3,.row 49 7 (List.length L) (wad (atF L)) false)] [(0,.row 49 7 (List.length (selG L i')) (wad (atF (selG L i'))) false),(1,.row 49 7 (List.length (selB L i')) (wad (atF (selB L i'))) false),(2,.amap z2),(3,.row 49 7 (List.length L) (wad (atF L)) false)])∧P i')) ((∀ (i:Nat),i<List.length (selG L k)→true=true)∧(∀ (i:Nat),i<List.length (selB L k)→true=true)∧∃ (O':List (Nat×AObj)),wag [(0,.row 49 7 z5 z10 false),(1,.row 49 7 z6 z11 false)] O'∧R (.exit 2) (St.mk [(4,.own 0 z5),(5,.own 1 z6)] O' 2 []))):=by kernel_rfl
theorem wpt {L:List ((List UInt8×Int)×Int)} (h:(L.map Prod.fst).Nodup):wcr te 173 (entM L):=by
 refine ⟨List.all_eq_true.2 fun p hp=>?_,(w0x h).2⟩
 obtain ⟨r,_,rfl⟩:=List.mem_map.1 hp
 have:∀ (a:List UInt8) (b:Int),keyA te 173 (.agg [.str a,.int .i64 b])=true:=fun a b=>by kernel_rfl
 exact this _ _
theorem wzu {ES:List (AV×AV)} {i:Nat} {v:AV} (hi:i<ES.length) (h:wcr te 173 (ES.set i ((ES.getD i (.any,.any)).1,v))):wcr te 173 ES:=by
 have e:(ES.set i ((ES.getD i (.any,.any)).1,v)).map Prod.fst=ES.map Prod.fst:=by
  apply List.ext_getElem
  ·simp
  ·intro j h1 h2
   simp only [List.getElem_map,List.getElem_set]
   split
   ·rename_i e;subst e;simp [hi]
   ·rfl
 obtain ⟨h1,h2⟩:=h
 rw [e] at h2
 refine ⟨?_,h2⟩
 have f:∀ l:List (AV×AV),(l.all fun p=>keyA te 173 p.1)=(l.map Prod.fst).all fun k=>keyA te 173 k:=fun l=>by rw [List.all_map];rfl
 rw [f] at h1 ⊢
 rw [e] at h1
 exact h1
theorem s6_ok (hP:C.P=Tryz.prog) (E:List ((List UInt8×Int)×Int)) (F:FL) (L:List FL) (k:Nat):waj C 0 59 (regC Tryz.f99 6) (L_s6 E F L k):=by
 have _:C.Loose:=inferInstance
 rintro st Q ⟨h0,hnd,hin,hQ⟩
 refine waj.cut (SA:=S_s6b E F L k) (prg hP) [] 0 .nil [4,5,6,7,9,17,18,19] [4,5,6,7,9,17,18,19] [0,1,2,3,4,5] [4,5,6,7,9,17,18,19,23,28] h0 ?_ ?_ ⟨fun _ _=>rfl,trivial⟩
 ·refine (nf_s6a .nil .nil (.own 0 L.length) (.own 0 L.length) (.int .i64 L.length) (.int .i64 k) (.int .i64 F.day) (.int .i64 F.kind) (.view 15 F.ms.length (waf (atM F.ms))) (.view 5 F.rs.length (wah (atR F.rs))) (.view 5 F.ts.length (wai (atT F.ts))) F.id F.ver (entM E) (.row 49 7 L.length (wad (atF L)) false)).mpr ?_
  repeat' first | exact rfl | refine And.intro ?_ ?_
 rw [nf_s6]
 have zz:zvA (.int .i64 0)= .int .i64 0:=rfl
 have F1:Option.getD (mget (entM E) (.agg [.str F.id,.int .i64 F.ver])) (.int .i64 0)= .int .i64 (getC E (mk2 (edM F))):=woy (mk2 (edM F)) E
 obtain ⟨F3,F4,F5⟩:=ment_K (mk2 (edM F)) E
 have K1:=wpt hnd
 have K2:wcr te 173 (ment (.int .i64 0) (entM E) (keyK (mk2 (edM F)))):=wzu F4 (F5.symm ▸ wpt (wqh (mk2 (edM F)) hnd))
 change Option.getD (mget (ment (.int .i64 0) (entM E) (.agg [.str F.id,.int .i64 F.ver])) (.agg [.str F.id,.int .i64 F.ver])) (.int .i64 0)= .int .i64 (getC E (mk2 (edM F))) at F3
 change midx (entM E) (.agg [.str F.id,.int .i64 F.ver])<(ment (.int .i64 0) (entM E) (.agg [.str F.id,.int .i64 F.ver])).length at F4
 change (ment (.int .i64 0) (entM E) (.agg [.str F.id,.int .i64 F.ver])).set (midx (entM E) (.agg [.str F.id,.int .i64 F.ver])) (((ment (.int .i64 0) (entM E) (.agg [.str F.id,.int .i64 F.ver])).getD (midx (entM E) (.agg [.str F.id,.int .i64 F.ver])) (.any,.any)).1,.int .i64 (getC E (mk2 (edM F))+1))=entM (addC E (mk2 (edM F))) at F5
 change wcr te 173 (ment (.int .i64 0) (entM E) (.agg [.str F.id,.int .i64 F.ver])) at K2
 have F6:(0:Int)≤(midx (entM E) (.agg [.str F.id,.int .i64 F.ver]):Int)∧(midx (entM E) (.agg [.str F.id,.int .i64 F.ver]):Int)<((ment (.int .i64 0) (entM E) (.agg [.str F.id,.int .i64 F.ver])).length:Int):=by omega
 simp only [zz,F1,F3,was,Int.toNat_natCast,F5,wfx]
 have leaf:∃ O',wag (S_s6 (addC E (mk2 (edM F))) F L k).O O'∧Q .normal ⟨(S_s6 (addC E (mk2 (edM F))) F L k).T,O',3,[]⟩:=⟨_,wan _,hQ⟩
 have all:∀ i,i<L.length→True:=fun _ _=>trivial
 have K1:=(and_true (wcr te 173 (entM E))).symm ▸ K1
 repeat' first | exact leaf | exact trivial | exact K1 | exact K2 | exact ⟨K2,trivial⟩ | exact hin | exact F6 | exact all | refine And.intro ?_ ?_
theorem s4_loop (hP:C.P=Tryz.prog) (L:List FL):waj C 0 59 (wao Tryz.f99 4) (L_s4 L):=by
 rintro st Q ⟨h0,hn,hQ⟩
 refine waj.mkI (prg hP) [] (fun k=>[(1006,L_s6 (cntL (edG L) k) (atF L k) L k)]) 0 .nil (fun k=>[(regC Tryz.f99 6,L_s6 (cntL (edG L) k) (atF L k) L k)]) (fun k=>by kernel_rfl) (fun k=>⟨s6_ok hP _ _ L k,trivial⟩) [4,5,6,7,17,18,19] [4,5,6,7] [] (S_s4 L) (fun k=>k≤L.length) (fun k=>L.length - k) 0 (Nat.zero_le _) h0 (fun k hk=>?_) (fun k=>⟨fun _ _=>rfl,trivial⟩)
 rw [wxn,Int.toNat_natCast,wfx,wfx]
 have hb:=wpn (edG L) (mk2 (edM (atF L k))) k
 have hc:=wse (edG L) (mk2 (edM (atF L k))) k
 refine wal (fun h1=>⟨⟨by omega,by omega⟩,⟨by omega,rfl⟩,⟨rfl,wan _⟩,wp3 (edG L) k,by simp only [inR];omega,by simp only [inR];omega,k+1,⟨rfl,?_⟩,by omega,by omega⟩) (fun h1=>?_)
 ·exact wan _
 ·have:k=L.length:=by omega
  subst this
  first | exact ⟨fun _ _=>rfl,_,wan _,hQ⟩ | (rw [wfx];exact ⟨fun _ _=>rfl,_,wan _,hQ⟩)
theorem snocF (G:List FL) (x:FL) (ch:Nat→List AV) (hch:ch 0=wbd x):∀ i,i<G.length+1→apF G.length (wad (atF G)) ch i=wad (atF (G++[x])) i:=fun i hi=>by
 unfold apF
 by_cases h:i<G.length
 ·rw [if_pos h]
  show wbd (atF G i)=wbd (atF (G++[x]) i)
  congr 1
  simp [atF,List.getD_eq_getElem?_getD,List.getElem?_append_left h]
 ·have:i=G.length:=by omega
  subst this
  rw [if_neg h,Nat.sub_self,hch]
  show wbd x=wbd (atF (G++[x]) G.length)
  congr 1
  simp [atF]
theorem s9_loop (hP:C.P=Tryz.prog) (L:List FL):waj C 0 59 (wao Tryz.f99 9) (L_s9 L):=by
 have _:C.Loose:=inferInstance
 rintro st Q ⟨h0,hn,hQ⟩
 refine AWP.ownNil 5 49 7 (AWP.ownNil 4 49 7 ?_)
 refine waj.mk (prg hP) [] 0 .nil [4,5,7,34,35,36] [4,5] [] (S_s9 L) (fun k=>k≤L.length) (fun k=>L.length - k) 0 (Nat.zero_le _) h0 (fun k hk=>?_) (fun _=>⟨fun _ _=>rfl,fun _ _=>rfl,fun _ _=>rfl,trivial⟩)
 have zz:zvA (.int .i64 0)= .int .i64 0:=rfl
 rw [wxm,Int.toNat_natCast]
 have l1:=wi4 (fun i=> !cfB L i) L k
 have l2:=wi4 (cfB L) L k
 have hF:Option.getD (mget (entM (cntL (edG L) L.length)) (.agg [.str (atF L k).id,.int .i64 (atF L k).ver])) (.int .i64 0)= .int .i64 (getC (cntL (edG L) L.length) (mk2 (edM (atF L k)))):=woy (mk2 (edM (atF L k))) _
 rw [zz,hF,wpn,wfx,wfx]
 have hc:cfB L k=decide (1<numC (edG L) (mk2 (edM (atF L k))) L.length):=rfl
 have sG:selG L (k+1)=bif !cfB L k then selG L k++[atF L k] else selG L k:=rfl
 have sB:selB L (k+1)=bif cfB L k then selB L k++[atF L k] else selB L k:=rfl
 refine wal (fun h1=>⟨⟨by omega,by omega⟩,⟨by omega,rfl⟩,⟨wpt (wp3 _ _),rfl⟩,wal (fun h2=>?_) (fun h2=>?_)⟩) (fun h1=>?_)
 ·have hk':cfB L k=true:=decide_eq_true h2
  rw [hk'] at sG sB
  have sG:selG L (k+1)=selG L k:=sG
  have sB:selB L (k+1)=selB L k++[atF L k]:=sB
  have l2:(selB L k).length≤k:=l2
  refine ⟨⟨by omega,rfl,by omega⟩,⟨⟨Nat.le_refl _,rfl⟩,Nat.le_refl _,rfl,rfl,rfl,by omega,?_⟩,by simp only [inR];omega,k+1,?_,by omega,by omega⟩
  ·show ((selB L k).length+1) * 112≤_
   omega
  ·rw [sG,sB,List.length_append]
   exact ⟨rfl,⟨rfl,rfl,rfl,rfl,rfl,fun _ _=>rfl⟩,⟨rfl,rfl,rfl,rfl,rfl,snocF _ _ _ rfl⟩,rfl,⟨rfl,rfl,rfl,rfl,rfl,fun _ _=>rfl⟩,trivial⟩
 ·have hk':cfB L k=false:=decide_eq_false h2
  rw [hk'] at sG sB
  have sG:selG L (k+1)=selG L k++[atF L k]:=sG
  have sB:selB L (k+1)=selB L k:=sB
  have l1:(selG L k).length≤k:=l1
  refine ⟨⟨by omega,rfl,by omega⟩,⟨⟨Nat.le_refl _,rfl⟩,Nat.le_refl _,rfl,rfl,rfl,by omega,?_⟩,by simp only [inR];omega,k+1,?_,by omega,by omega⟩
  ·show ((selG L k).length+1) * 112≤_
   omega
  ·rw [sG,sB,List.length_append]
   exact ⟨rfl,⟨rfl,rfl,rfl,rfl,rfl,snocF _ _ _ rfl⟩,⟨rfl,rfl,rfl,rfl,rfl,fun _ _=>rfl⟩,rfl,⟨rfl,rfl,rfl,rfl,rfl,fun _ _=>rfl⟩,trivial⟩
 ·have:k=L.length:=by omega
  subst this
  exact ⟨fun _ _=>rfl,fun _ _=>rfl,_,wan _,hQ⟩
theorem nrm_gd {g:Nat→FL} {n:Nat} (hg:∀ i,i<n→(g i).Gd):∀ x∈nrmL okV g n,x.Gd:=fun x hx=>by
 obtain ⟨i,b,rfl⟩:=won.1 hx
 exact hg i b.lt
theorem wsf (g:Nat→FL) (n:Nat):(nrmL okV g n).length≤n:=by
 have:∀ k,(nrmK okV g n k).length≤k:=fun k=>by
  induction k with
  |zero=>exact Nat.le_refl _
  |succ k ih=>
   rw [nrmK]
   cases kept okV g n k with
   |true=>
    have hp:=wpy (nrmK okV g n k) (g k) (nrmK okV g n k).length
    rw [cond_true,insF,List.length_append,List.length_cons,List.length_take,List.length_drop]
    omega
   |false=>rw [cond_false];omega
 exact this n
theorem kf_day (L:List FL) (d:Int):kfL (qD d) (atF L) L.length=L.filter fun f=>decide (f.day≤d):=by
 unfold kfL
 rw [show lst (atF L) L.length=L from wec L _]
 refine List.filter_congr fun x _=>?_
 unfold qD
 by_cases h:d<x.day
 ·rw [decide_eq_true h,decide_eq_false (by omega)];rfl
 ·rw [decide_eq_false h,decide_eq_true (by omega)];rfl
theorem spl_at (hP:C.P=Tryz.prog) (hL:∀ w,C.laid w→LaidW w) (g:Nat→FL) (n:Nat) (d:Int) (hn:n≤1000) (hg:∀ i,i<n→(g i).Gd):ADet C 99 [.view 7 n (wad g),.int .i64 d] [] (.tuple [.own 0 (wbq (knwL okV g n d)).length,.own 1 (badL (knwL okV g n d)).length])
     [(0,.row 49 7 (wbq (knwL okV g n d)).length (wad (atF (wbq (knwL okV g n d)))) false),(1,.row 49 7 (badL (knwL okV g n d)).length (wad (atF (badL (knwL okV g n d)))) false)]:=by
 refine wbc.wpL (prg hP) [(39,.det wlh),(100,.rel wmv)] [(4,L_s4 (knwL okV g n d)),(9,L_s9 (knwL okV g n d))] 0 (.cons (nrmz_ok hP hL) (.cons (delD_ok hP) .nil)) (hP ▸ Tryz.func99) rfl rfl rfl
   [(wao Tryz.f99 4,L_s4 (knwL okV g n d)),(wao Tryz.f99 9,L_s9 (knwL okV g n d))] (by kernel_rfl) ⟨s4_loop hP _,s9_loop hP _,trivial⟩ ?_
 rw [nf_spl,weg,weg,wfx]
 have hl:=wsf g n
 have hgd:=nrm_gd hg
 have hk:kfL (qD d) (atF (nrmL okV g n)) (nrmL okV g n).length=knwL okV g n d:=kf_day _ d
 generalize nrmL okV g n=N at *
 rw [hk]
 generalize knwL okV g n d=K at *
 refine ⟨⟨hn,rfl,hg⟩,fun _ _=>rfl,fun _ _=>rfl,rfl,rfl,rfl,rfl,by omega,rfl,fun i hi=>(hgd _ (wkr hi)).rg,trivial,fun k h hkn hlst=>?_⟩
 obtain ⟨e1,e2⟩:=lst_at hlst wel
 subst e1
 refine ⟨fun _ _=>rfl,⟨rfl,⟨rfl,rfl,rfl,rfl,rfl,fun i hi=>?_⟩,rfl,trivial⟩,by omega,⟨rfl,⟨rfl,rfl,rfl,rfl,rfl,fun i hi=>absurd hi (Nat.not_lt_zero i)⟩,⟨rfl,rfl,rfl,rfl,rfl,fun i hi=>absurd hi (Nat.not_lt_zero i)⟩,rfl,⟨rfl,rfl,rfl,rfl,rfl,fun _ _=>rfl⟩,trivial⟩,by omega,fun _ _=>rfl,fun _ _=>rfl,_,wan _,rfl,rfl⟩
 show wbd (h i)=wbd (K.getD i wel)
 rw [e2 i hi]
theorem spl_ok (hP:C.P=Tryz.prog) (hL:∀ w,C.laid w→LaidW w):wae C 99 wk8:=by
 rintro args objs U Os vc h hvc
 unfold wk8 at h
 split at h<;>simp only [Option.some.injEq,Prod.mk.injEq,reduceCtorEq] at h
 rename_i n f d
 obtain ⟨rfl,rfl,rfl⟩:=h
 obtain ⟨hn,hf,hg⟩:=hvc
 generalize flOf f=g at *
 subst hf
 exact spl_at hP hL g n d hn hg
theorem nf_vw (g:Nat→FL) (n:Nat) (d:Int) (R:AV→List (Nat×AObj)→Prop):wpFn te [(99,.det wk8),(100,.rel wmu)] [(4,L_v4 (wbq (knwL okV g n d)))] 0 Tryz.f44 [.view 7 n (wad g),.int .i64 d] [] R=(letI z1:=wbq (knwL okV (flOf (wad g)) n d);letI z0:=wbq (knwL okV g n d);letI z2:=(List.map (fun (p:AV×AV)=>(AV.rn (idxN [0,1,2]) (Prod.fst p),AV.rn (idxN [0,1,2]) (Prod.snd p))) (nwE z0 (List.length z0)));(n≤1000∧wad g=wad (flOf (wad g))∧∀ (i:Nat),i<n→FL.Gd (flOf (wad g) i))∧(∀ (i:Nat),i<List.length z1→true=true)∧(∀ (i:Nat),i<List.length (badL (knwL okV (flOf (wad g)) n d))→true=true)∧(TEq [(5,.own 0 (List.length z1)),(7,.ptr 1 0),(17,.own 0 (List.length z1)),(18,.int .i64 (↑(List.length z1):Int)),(19,.int .i64 0)] [(5,.own 0 (List.length z0)),(7,.ptr 1 0),(17,.own 0 (List.length z0)),(18,.int .i64 (↑(List.length z0):Int)),(19,.int .i64 (↑0:Int))]∧wag [(0,.row 49 7 (List.length z1) (wad (atF z1)) false),(1,.cells [.map 2] 132),(2,.amap (List.map (fun (p:AV×AV)=>(AV.rn (ren 0 [(0,0),(17,1),(16,2)]) (Prod.fst p),AV.rn (ren 0 [(0,0),(17,1),(16,2)]) (Prod.snd p))) []))] [(0,.row 49 7 (List.length z0) (wad (atF z0)) false),(1,.cells [.map 2] 132),(2,.amap (nwE z0 0))])∧List.length z0≤1000∧(∀ (F:FL),F∈wbq (knwL okV g n d)→(0:Int)≤FL.ver F)∧(∀ (i:Nat),i<List.length z0→true=true)∧49=49∧132=132∧false=false∧List.length z0=List.length z0∧List.length z0≤1000∧wad (atF z0)=wad (flOf (wad (atF z0)))∧(∀ (i:Nat),i<List.length z0→FL.Rg (flOf (wad (atF z0)) i))∧EsV z2∧∀ (k:Nat) (h:Nat→FL),k≤List.length z0→lst h k=kfL (qV z2) (flOf (wad (atF z0))) (List.length z0)→(∀ (i:Nat),i<k→true=true)∧(∀ (i:Nat),i<k→true=true)∧∃ (O':List (Nat×AObj)),wag [(0,.row 49 7 k (wad h) false)] O'∧R (.own 0 k) O'):=by kernel_rfl
theorem ww9 (G:List FL) (k:Nat) (P:Nat→Prop) (R:Exit→St→Prop):wa6 ⟨te,[],[],0,40,0⟩ (wa8 Tryz.f44 4) [5,7,17,18,19] [5,7] [] (S_v4 G) P R (S_v4 G k)=(letI z5:=TI.desc (TI.mk TypeDesc.string 1 16 (Value.string (ByteArray.mk #[])) false);letI z4:=ren 0 [(0,0),(1,1),(2,2)];letI z3:=(↑(List.length G):Int);letI z2:=(atF G (Int.toNat (↑k:Int)));letI z6:=was (Option.getD (mget (nwE G k) (.str (FL.id z2))) (zvA (.int .i64 0)));letI z1:=([(5,.own 0 (List.length G)),(7,.ptr 1 0),(17,.own 0 (List.length G)),(18,.int .i64 z3),(19,.int .i64 ((↑k:Int)+(1:Int)))]:List (Nat×AV));letI z0:=([(0,.row 49 7 (List.length G) (wad (atF G)) false),(1,.cells [.map 2] 132),(2,.amap (List.map (fun (p:AV×AV)=>(AV.rn z4 (Prod.fst p),AV.rn z4 (Prod.snd p))) (nwE G k)))]:List (Nat×AObj));wac (decide ((↑k:Int)<z3)) (((0:Int)≤(↑k:Int)∧(↑k:Int)<z3)∧(Int.toNat (↑k:Int)<List.length G∧7=7)∧wac (!decide (FL.kind z2=(1:Int))) ((wbr z5 (nwE G k)∧.int .i64 z6=Option.getD (mget (nwE G k) (.str (FL.id z2))) (zvA (.int .i64 0)))∧wbr z5 (nwE G k)∧inR .i64 ((↑k:Int)+(1:Int))∧∃ (i':Nat),(TEq z1 [(5,.own 0 (List.length G)),(7,.ptr 1 0),(17,.own 0 (List.length G)),(18,.int .i64 z3),(19,.int .i64 (↑i':Int))]∧wag [(0,.row 49 7 (List.length G) (wad (atF G)) false),(1,.cells [.map 2] 132),(2,.amap (List.map (fun (p:AV×AV)=>(AV.rn z4 (Prod.fst p),AV.rn z4 (Prod.snd p))) (mset (nwE G k) (.str (FL.id z2)) (.int .i64 (max z6 (FL.ver z2))))))] [(0,.row 49 7 (List.length G) (wad (atF G)) false),(1,.cells [.map 2] 132),(2,.amap (nwE G i'))])∧P i') (inR .i64 ((↑k:Int)+(1:Int))∧∃ (i':Nat),(TEq z1 [(5,.own 0 (List.length G)),(7,.ptr 1 0),(17,.own 0 (List.length G)),(18,.int .i64 z3),(19,.int .i64 (↑i':Int))]∧wag z0 [(0,.row 49 7 (List.length G) (wad (atF G)) false),(1,.cells [.map 2] 132),(2,.amap (nwE G i'))])∧P i')) ((∀ (i:Nat),i<List.length G→true=true)∧∃ (O':List (Nat×AObj)),wag z0 O'∧R (.exit 0) (St.mk [(5,.own 0 (List.length G)),(7,.ptr 1 0)] O' 3 []))):=by kernel_rfl
theorem wst (v:List UInt8→Int) (x:List UInt8) (y:Int):∀ K,x ∉ K→mset (entI K v) (.str x) (.int .i64 y)=entI (K++[x]) (fun t=>if t=x then y else v t)
 |[],_=>by simp [entI,mset]
 |t::K,h=>by
  have h1:¬ t=x:=fun e=>h (by simp [e])
  have ih:=wst v x y K (fun e=>h (by simp [e]))
  show (match keq (.str t) (.str x) with | true=>(AV.str x,AV.int .i64 y)::entI K v | false=>(AV.str t,AV.int .i64 (v t))::mset (entI K v) (.str x) (.int .i64 y))=_
  rw [wgf,decide_eq_false h1,ih]
  show _=(AV.str t,AV.int .i64 (if t=x then y else v t))::entI (K++[x]) _
  rw [if_neg h1]
theorem wkc {K:List (List UInt8)} {v v':List UInt8→Int} (h:∀ t∈K,v t=v' t):entI K v=entI K v':=List.map_congr_left fun t ht=>by rw [h t ht]
theorem wsr (v:List UInt8→Int) (x:List UInt8) (y:Int):∀ K,K.Nodup→x∈K→mset (entI K v) (.str x) (.int .i64 y)=entI K (fun t=>if t=x then y else v t)
 |[],_,h=>by cases h
 |t::K,hd,h=>by
  rw [List.nodup_cons] at hd
  show (match keq (.str t) (.str x) with | true=>(AV.str x,AV.int .i64 y)::entI K v | false=>(AV.str t,AV.int .i64 (v t))::mset (entI K v) (.str x) (.int .i64 y))=(AV.str t,AV.int .i64 (if t=x then y else v t))::entI K (fun t=>if t=x then y else v t)
  rw [wgf]
  by_cases e:t=x
  ·subst e
   rw [decide_eq_true rfl,if_pos rfl]
   show _::_=_::_
   rw [wkc (v:=v) (v':=fun s=>if s=t then y else v s) fun s hs=>by
    rw [if_neg]
    intro q;subst q;exact hd.1 hs]
  ·rw [decide_eq_false e,if_neg e]
   have hx:x∈K:=by
    rcases List.mem_cons.1 h with q | q
    ·exact absurd q.symm e
    ·exact q
   show _::_=_::_
   rw [wsr v x y K hd.2 hx]
theorem wh2 (G:List FL):∀ k,(idK G k).Nodup
 |0=>List.nodup_nil
 |k+1=>by
  rw [idK]
  cases q: !decide ((atF G k).kind=1) && !decide ((atF G k).id∈idK G k) with
  |false=>exact wh2 G k
  |true=>
   rw [Bool.and_eq_true,Bool.not_eq_true',Bool.not_eq_true',decide_eq_false_iff_not,decide_eq_false_iff_not] at q
   show (idK G k++[(atF G k).id]).Nodup
   rw [List.nodup_append]
   refine ⟨wh2 G k,by simp,fun a ha b hb=>?_⟩
   rw [List.mem_singleton] at hb
   subst hb
   intro e
   subst e
   exact q.2 ha
theorem wje {G:List FL} {t:List UInt8}:∀ {k},t ∉ idK G k→nwF G t k=0
 |0,_=>rfl
 |k+1,h=>by
  rw [idK] at h
  rw [nwF]
  cases q: !decide ((atF G k).kind=1) with
  |false=>
   rw [q,Bool.false_and,cond_false] at h
   rw [Bool.false_and,cond_false];exact wje h
  |true=>
   rw [q,Bool.true_and] at h
   by_cases e:(atF G k).id∈idK G k
   ·rw [decide_eq_true e] at h
    have h:t ∉ idK G k:=h
    have ne:¬ (atF G k).id=t:=fun z=>h (z ▸ e)
    rw [decide_eq_false ne];exact wje h
   ·rw [decide_eq_false e] at h
    have h:t ∉ idK G k++[(atF G k).id]:=h
    rw [List.mem_append,List.mem_singleton,not_or] at h
    rw [decide_eq_false fun z=>h.2 z.symm];exact wje h.1
theorem wsc (G:List FL) (k:Nat) (x:List UInt8):Option.getD (mget (nwE G k) (.str x)) (.int .i64 0)= .int .i64 (nwF G x k):=by
 unfold nwE
 rw [woz]
 by_cases h:x∈idK G k
 ·rw [if_pos h]
 ·rw [if_neg h,wje h]
theorem wsb (G:List FL) (k:Nat):wbr .string (nwE G k):=wuf (wh2 G k)
theorem wol (σ:Nat→Option Nat) (G:List FL) (k:Nat):(nwE G k).map (fun p=>(AV.rn σ p.1,AV.rn σ p.2))=nwE G k:=wgk σ _ _
theorem nwE_msg {G:List FL} {k:Nat} (h:(atF G k).kind=1):nwE G (k+1)=nwE G k:=by
 unfold nwE
 rw [idK,decide_eq_true h]
 refine wkc fun t _=>?_
 rw [nwF,decide_eq_true h];rfl
theorem nwE_set {G:List FL} {k:Nat} (h:¬ (atF G k).kind=1):mset (nwE G k) (.str (atF G k).id) (.int .i64 (max (nwF G (atF G k).id k) (atF G k).ver))=nwE G (k+1):=by
 unfold nwE
 have st:∀ t,nwF G t (k+1)=if t=(atF G k).id then max (nwF G (atF G k).id k) (atF G k).ver else nwF G t k:=fun t=>by
  rw [nwF,decide_eq_false h]
  by_cases e:t=(atF G k).id
  ·subst e;rw [if_pos rfl,decide_eq_true rfl];rfl
  ·rw [if_neg e,decide_eq_false fun z=>e z.symm];rfl
 rw [idK,decide_eq_false h]
 by_cases e:(atF G k).id∈idK G k
 ·rw [decide_eq_true e,wsr _ _ _ _ (wh2 G k) e]
  exact wkc fun t _=>(st t).symm
 ·rw [decide_eq_false e,wst _ _ _ _ e]
  exact wkc fun t _=>(st t).symm
theorem v4_loop (hP:C.P=Tryz.prog) (G:List FL):waj C 0 40 (wao Tryz.f44 4) (L_v4 G):=by
 have _:C.Loose:=inferInstance
 rintro st Q ⟨h0,hn,hv,hQ⟩
 refine waj.mk (prg hP) [] 0 .nil [5,7,17,18,19] [5,7] [] (S_v4 G) (fun k=>k≤G.length) (fun k=>G.length - k) 0 (Nat.zero_le _) h0 (fun k hk=>?_) (fun _=>⟨fun _ _=>rfl,trivial⟩)
 have zz:zvA (.int .i64 0)= .int .i64 0:=rfl
 rw [ww9,Int.toNat_natCast,zz,wsc,wol]
 refine wal (fun h1=>⟨⟨by omega,by omega⟩,⟨by omega,rfl⟩,wcc (fun h2=>?_) (fun h2=>?_)⟩) (fun h1=>?_)
 ·have e:=nwE_set (G:=G) (k:=k) h2
  refine ⟨⟨wsb G k,rfl⟩,wsb G k,by simp only [inR];omega,k+1,⟨rfl,?_⟩,by omega,by omega⟩
  have e':mset (nwE G k) (.str (atF G k).id) (.int .i64 (max (was (.int .i64 (nwF G (atF G k).id k))) (atF G k).ver))=nwE G (k+1):=e
  rw [e',wol]
  exact wan _
 ·exact ⟨by simp only [inR];omega,k+1,⟨rfl,by rw [nwE_msg h2];exact wan _⟩,by omega,by omega⟩
 ·have:k=G.length:=by omega
  subst this
  exact ⟨fun _ _=>rfl,_,wan _,hQ⟩
theorem kf_view (G:List FL):kfL (qV (nwE G G.length)) (atF G) G.length=wfg G:=by
 unfold kfL wfg
 rw [show lst (atF G) G.length=G from wec G _]
 refine List.filter_congr fun x _=>?_
 unfold qV vwB
 rw [wsc];rfl
theorem knw_len (g:Nat→FL) (n:Nat) (d:Int):(knwL okV g n d).length≤n:=Nat.le_trans (List.length_filter_le _ _) (wsf g n)
theorem w0h (L:List FL):(wbq L).length≤L.length:=wi4 _ L _
theorem knw_gd {g:Nat→FL} {n:Nat} {d:Int} (hg:∀ i,i<n→(g i).Gd):∀ x∈knwL okV g n d,x.Gd:=fun x hx=>nrm_gd hg x (List.mem_filter.1 hx).1
theorem view_at (hP:C.P=Tryz.prog) (hL:∀ w,C.laid w→LaidW w) (g:Nat→FL) (n:Nat) (d:Int) (hn:n≤1000) (hg:∀ i,i<n→(g i).Gd):ADet C 44 [.view 7 n (wad g),.int .i64 d] [] (.own 0 (vwL okV g n d).length) [(0,.row 49 7 (vwL okV g n d).length (wad (atF (vwL okV g n d))) false)]:=by
 refine wbc.wpL (prg hP) [(99,.det wk8),(100,.rel wmu)] [(4,L_v4 (wbq (knwL okV g n d)))] 0 (.cons (spl_ok hP hL) (.cons (delV_ok hP) .nil)) (hP ▸ Tryz.func44) rfl rfl rfl
  [(wao Tryz.f44 4,L_v4 (wbq (knwL okV g n d)))] (by kernel_rfl) ⟨v4_loop hP _,trivial⟩ ?_
 rw [nf_vw,weg,weg,wol]
 have h1:=knw_len g n d
 have h2:=w0h (knwL okV g n d)
 have hv:∀ F∈wbq (knwL okV g n d),0≤F.ver:=fun F hF=>by
  have:=ww0 (nrm_ok (List.mem_filter.1 (wtk hF)).1)
  omega
 have hgd:∀ F∈wbq (knwL okV g n d),F.Gd:=fun F hF=>knw_gd hg F (wtk hF)
 have hk:=kf_view (wbq (knwL okV g n d))
 have hw:vwL okV g n d=wfg (wbq (knwL okV g n d)):=rfl
 rw [hk,hw]
 generalize wbq (knwL okV g n d)=G at *
 refine ⟨⟨hn,rfl,hg⟩,fun _ _=>rfl,fun _ _=>rfl,⟨rfl,wan _⟩,by omega,hv,fun _ _=>rfl,rfl,rfl,rfl,rfl,by omega,rfl,fun i hi=>(hgd _ (wkr hi)).rg,⟨_,_,rfl,wh2 G _⟩,fun k h hkn hlst=>?_⟩
 obtain ⟨e1,e2⟩:=lst_at hlst wel
 subst e1
 refine ⟨fun _ _=>rfl,fun _ _=>rfl,[(0,.row 49 7 (wfg G).length (wad (atF (wfg G))) false)],⟨⟨rfl,rfl,rfl,rfl,rfl,fun i hi=>?_⟩,trivial⟩,rfl,rfl⟩
 show wbd (h i)=wbd ((wfg G).getD i wel)
 rw [e2 i hi]
theorem nf_aw15 (R:AV→List (Nat×AObj)→Prop):wpFn te [] [(1002,wnr)] 0 Tryz.f31 [] [] R=(letI z0:=([.str [(97:UInt8)],.int .i64 1,.int .i64 10,.int .i64 2,.view 15 0 (waf (atM [])),.own 1 1,.view 5 0 (wai (atT []))]:List AV);(5≤16777216∧5=5∧1≤9223372036854775807)∧(TEq [(0,.bool false),(1,.ptr 0 0)] [(0,.bool false),(1,.ptr 0 0)]∧wag [(0,.cells z0 49),(1,.row 61 5 1 (waz (TI.sz wc3) (.str [(111:UInt8)]:: .str [(57:UInt8),54,51,56,53,48,55,52]:: .int .i64 5:: .int .i64 2:: .int .i64 300::List.append [] (List.flatten (List.replicate (nat_lit 0) [.str ([]),.str ([]),.int .i64 0,.int .i64 0,.int .i64 0])))) false)] [(0,.cells z0 49),(1,.row 61 5 1 (wah (atR [awR])) false)])∧R (.bool true) []):=by kernel_rfl
theorem nf_aw2 (Q:Exit→St→Prop):regP ⟨te,[(33,.det we8),(44,.det wky)],[],0,22,0⟩ (regC Tryz.f31 2) [0] Q S_awc=(letI z7:=(7≤16777216∧7=7∧1≤9223372036854775807:Prop);letI z6:=wai (atT (FL.ts awFl));letI z5:=wah (atR (FL.rs awFl));letI z4:=waf (atM (FL.ms awFl));letI z3:=(List.flatten (List.replicate (nat_lit 0) [.str ([]),.int .i64 0,.int .i64 0,.int .i64 0,.nil,.nil,.nil]):List AV);letI z2:=(flV [(97:UInt8)] (FL.ver awFl) (FL.day awFl) (FL.kind awFl) 0 z4 1 z5 0 z6);letI z1:=(1=1∧1≤1000∧FM (waz (TI.sz wfi) (.str [(97:UInt8)]:: .int .i64 (FL.ver awFl):: .int .i64 (FL.day awFl):: .int .i64 (FL.kind awFl):: .view 15 0 z4:: .view 5 1 z5:: .view 5 0 z6::List.append [] z3)) 1:Prop);letI z0:=(∀ (i:Nat),i<1→nrefL (waz (TI.sz wfi) (.str [(97:UInt8)]:: .int .i64 (FL.ver awFl):: .int .i64 (FL.day awFl):: .int .i64 (FL.kind awFl):: .view 15 0 z4:: .view 5 1 z5:: .view 5 0 z6::List.append [] z3) i)=true:Prop);(FlC 0 z4 1 z5 0 z6∧FL.Rg z2)∧wac (decide (encF z2=[(49:UInt8),58,97,44,49,44,50,44,48,44,49,44,49,58,111,44,56,58,57,54,51,56,53,48,55,52,44,53,44,50,44,51,48,48,44,48,44])) (z7∧z0∧z1∧z7∧z0∧z1∧Q .normal (St.mk [(0,.bool true)] [] 0 [])) (Q .normal (St.mk [(0,.bool false)] [] 0 []))):=by kernel_rfl
open Go.Lib in
theorem wu5:encF awFl=[49,58,97,44,49,44,50,44,48,44,49,44,49,58,111,44,56,58,57,54,51,56,53,48,55,52,44,53,44,50,44,51,48,48,44,48,44]:=by
 have d1:∀ u,u<10→decDigits u=[UInt8.ofNat (48+u)]:=fun u h=>by rw [decDigits,dif_pos h]
 have d3:decDigits 300=[51,48,48]:=by
  rw [decDigits,dif_neg (by omega),show 300 / 10=30 from rfl,decDigits,dif_neg (by omega),show 30 / 10=3 from rfl,d1 3 (by omega)];rfl
 have i1:∀ u:Nat,u<10→itoa (u:Int)=[UInt8.ofNat (48+u)]:=fun u h=>by
  unfold itoa
  rw [if_neg (by omega),Int.toNat_natCast,d1 u h]
 have i3:itoa (300:Int)=[51,48,48]:=by
  unfold itoa
  rw [if_neg (by omega)];exact d3
 have e0:=i1 0 (by omega)
 have e1:=i1 1 (by omega)
 have e2:=i1 2 (by omega)
 have e5:=i1 5 (by omega)
 have e8:=i1 8 (by omega)
 show (itoa ((1:Nat):Int)++58::([97]++[44]))++((itoa ((1:Nat):Int)++[44])++((itoa ((2:Nat):Int)++[44])++((itoa ((0:Nat):Int)++[44])++([]++((itoa ((1:Nat):Int)++[44])++(((itoa ((1:Nat):Int)++58::([111]++[44]))++((itoa ((8:Nat):Int)++58::([57,54,51,56,53,48,55,52]++[44]))++((itoa ((5:Nat):Int)++[44])++((itoa ((2:Nat):Int)++[44])++(itoa (300:Int)++[44]))))++[])++((itoa ((0:Nat):Int)++[44])++[])))))))=_
 rw [e0,e1,e2,e5,e8,i3];rfl
theorem wu3:awFl.Rg:=⟨by simp only [inR,awFl];omega,by simp only [inR,awFl];omega,by decide,by decide,by decide,fun m hm=>(by cases hm),fun r hr=>(by
 rw [List.mem_singleton.1 hr]
 exact ⟨by simp only [inR,awR];omega,by simp only [inR,awR];omega,by simp only [inR,awR];omega⟩),fun t ht=>(by cases ht),by rw [wu5];decide⟩
theorem wu4:awFl.Gd:=⟨⟨by decide,⟨by decide,fun m hm=>(by cases hm)⟩,⟨by decide,fun r hr=>by
 rw [List.mem_singleton.1 hr]
 decide⟩,⟨by decide,fun t ht=>(by cases ht)⟩⟩,wu3⟩
theorem fm_one {f:Nat→List AV} {F:FL} (h:f 0=wbd F) (hg:F.Gd):FM f 1:=by
 have e:flOf f 0=F:=by
  unfold flOf
  rw [h];exact wdg F
 refine ⟨fun i hi=>?_,fun i hi=>?_⟩
 ·obtain rfl:i=0:=by omega
  show f 0=wbd (flOf f 0)
  rw [e,h]
 ·obtain rfl:i=0:=by omega
  rw [e];exact hg
theorem wvq (hP:C.P=Tryz.prog) (hL:∀ w,C.laid w→LaidW w):wae C 44 wvd:=by
 rintro args objs U Os vc h hvc
 unfold wvd at h
 split at h<;>simp only [Option.some.injEq,Prod.mk.injEq,reduceCtorEq] at h
 rename_i n f d
 obtain ⟨rfl,rfl,rfl⟩:=h
 obtain ⟨hn,hf,hg⟩:=hvc
 generalize flOf f=g at *
 subst hf
 refine wak.frzO 0 ((view_at hP hL g n d hn hg).mono ?_)
 rintro u O ⟨rfl,rfl⟩
 refine ⟨fun _ _=>rfl,?_⟩
 have hb:Nat.ble (vwL okV g n d).length (vwL okV g n d).length=true:=Nat.ble_eq_true_of_le (Nat.le_refl _)
 constructor
 ·simp [frzC,frzA,frz,hb]
 ·rfl
theorem wvr (hP:C.P=Tryz.prog) (hL:∀ w,C.laid w→LaidW w):wae C 44 wky:=by
 rintro args objs U Os vc h hvc
 unfold wky at h
 split at h<;>simp only [Option.some.injEq,Prod.mk.injEq,reduceCtorEq] at h
 rename_i n d t m f fr
 obtain ⟨rfl,rfl,rfl⟩:=h
 obtain ⟨rfl,hn,hf,hs⟩:=hvc
 refine wak.rowEq 0 (f':=wad (flOf f)) rfl (fun i hi=>(hf i hi).symm) ?_
 have hb:Nat.ble n n=true:=Nat.ble_eq_true_of_le (Nat.le_refl _)
 have hh:=wvq hP hL [.view 7 n (wad (flOf f)),.int .i64 d] [] _ _ _ rfl ⟨hn,by rw [weg],by rw [weg];exact hs⟩
 rw [weg] at hh
 exact ADet.give hh (by simp [frzC,frzA,frz,hb]) rfl rfl (fun _ _=>rfl)
theorem aw2_ok (hP:C.P=Tryz.prog) (hL:∀ w,C.laid w→LaidW w):waj C 0 22 (regC Tryz.f31 2) wnr:=by
 rintro st Q ⟨h0,hQ⟩
 refine AWP.nilVP 1 6 5 (wai (atT [])) (AWP.nilVP 1 4 15 (waf (atM [])) (AWP.canonIs (te:=te) [0,1] h0 (AWP.frzX 1 [] (fun _ _=>rfl) ?_) ⟨fun _ _=>rfl,trivial⟩))
 refine waj.reg (S:=S_awc) (prg hP) [(33,.det we8),(44,.det wky)] 0 (.cons (wpu hP hL) (.cons (wvr hP hL) .nil)) [0,1] [0] rfl ?_ trivial
 rw [nf_aw2]
 have e:flV [97] awFl.ver awFl.day awFl.kind 0 (waf (atM awFl.ms)) 1 (wah (atR awFl.rs)) 0 (wai (atT awFl.ts))=awFl:=wdg awFl
 rw [e]
 refine ⟨⟨weh awFl,wu3⟩,wal (fun _=>?_) (fun h=>absurd wu5 h)⟩
 have one:∀ {p:Nat→Prop},p 0→∀ i,i<1→p i:=fun h i hi=>by
  obtain rfl:i=0:=by omega
  exact h
 exact ⟨⟨by omega,rfl,by omega⟩,one rfl,⟨rfl,by omega,fm_one (F:=awFl) rfl wu4⟩,⟨by omega,rfl,by omega⟩,one rfl,⟨rfl,by omega,fm_one (F:=awFl) rfl wu4⟩,hQ⟩
theorem w12 (hP:C.P=Tryz.prog) (hL:∀ w,C.laid w→LaidW w):wae C 31 wmk:=by
 rintro args objs U Os vc h hvc
 unfold wmk at h
 split at h<;>simp only [Option.some.injEq,Prod.mk.injEq,reduceCtorEq] at h
 obtain ⟨rfl,rfl,rfl⟩:=h
 refine wae.wpL (prg hP) [] [(1002,wnr)] 0 .nil (hP ▸ Tryz.func31) rfl rfl rfl [(regC Tryz.f31 2,wnr)] (by kernel_rfl) ⟨aw2_ok hP hL,trivial⟩ ?_
 rw [nf_aw15]
 exact ⟨⟨by omega,rfl,by omega⟩,⟨rfl,rfl,⟨rfl,rfl,rfl,rfl,rfl,fun i hi=>by
  obtain rfl:i=0:=by omega
  rfl⟩,trivial⟩,rfl,rfl⟩
theorem encA (F:FL) (h:F.Tn):FlC F.ms.length (waf (atM F.ms)) F.rs.length (wah (atR F.rs)) F.ts.length (wai (atT F.ts))∧(flV F.id F.ver F.day F.kind F.ms.length (waf (atM F.ms)) F.rs.length (wah (atR F.rs)) F.ts.length (wai (atT F.ts))).Rg:=
 ⟨weh F,by rw [wdg];exact h.rg⟩
theorem wx4 (n:Nat) (v:Nat→Int) (a:Int) (R:AV→List (Nat×AObj)→Prop):wpFn te [(42,.det wbf),(80,.det wcy),(81,.det wcx),(88,.det wg2),(89,.det wkw)] [] 0 Tryz.f36 [.ptr 0 0] [.cells [.view 1 n (waa v),.int .i64 a] 27] R=(letI z7:=(devF (wab n (vInt (waa v)) a (3:Int)));letI z6:=((1:Int)≤(9:Int)∧(9:Int)≤(1000000:Int):Prop);letI z5:=(a+(1:Int)+(1:Int)+(1:Int)+(1:Int)+(1:Int));letI z4:=(4611686018427387904:Int);letI z3:=(4611686018427387000:Int);letI z2:=(a+(1:Int)+(1:Int)+(1:Int));letI z1:=(a+(1:Int)+(1:Int)+(1:Int)+(1:Int)+(1:Int)+(1:Int)+(1:Int));letI z0:=(visV n (vInt (waa v)) z2);(27=27∧1=1∧waa v=waa (vInt (waa v))∧(0:Int)≤a∧a≤z3)∧(27=27∧1=1∧waa v=waa (vInt (waa v))∧z6∧(0:Int)≤a+(1:Int)∧a+(1:Int)≤z4)∧inR .i64 ((1:Int)+wab n (vInt (waa v)) (a+(1:Int)) (9:Int))∧(27=27∧1=1∧waa v=waa (vInt (waa v))∧((1:Int)≤(5:Int)∧(5:Int)≤(1000000:Int))∧(0:Int)≤a+(1:Int)+(1:Int)∧a+(1:Int)+(1:Int)≤z4)∧wac (decide (wab n (vInt (waa v)) (a+(1:Int)+(1:Int)) (5:Int)=(0:Int))) ((27=27∧1=1∧waa v=waa (vInt (waa v))∧(0:Int)≤a+(1:Int)+(1:Int)+(1:Int)∧a+(1:Int)+(1:Int)+(1:Int)≤z3)∧(27=27∧1=1∧waa v=waa (vInt (waa v))∧(0:Int)≤a+(1:Int)+(1:Int)+(1:Int)+(1:Int)∧a+(1:Int)+(1:Int)+(1:Int)+(1:Int)≤z3)∧(27=27∧1=1∧waa v=waa (vInt (waa v))∧((1:Int)≤(4:Int)∧(4:Int)≤(1000000:Int))∧(0:Int)≤a+(1:Int)+(1:Int)+(1:Int)+(1:Int)+(1:Int)∧a+(1:Int)+(1:Int)+(1:Int)+(1:Int)+(1:Int)≤z4)∧inR .i64 ((1440:Int)+wab n (vInt (waa v)) z5 (4:Int))∧(27=27∧1=1∧waa v=waa (vInt (waa v))∧(0:Int)≤a+(1:Int)+(1:Int)+(1:Int)+(1:Int)+(1:Int)+(1:Int)∧a+(1:Int)+(1:Int)+(1:Int)+(1:Int)+(1:Int)+(1:Int)≤z3)∧(27=27∧1=1∧waa v=waa (vInt (waa v))∧z6∧(0:Int)≤a+(1:Int)+(1:Int)+(1:Int)+(1:Int)+(1:Int)+(1:Int)+(1:Int)∧a+(1:Int)+(1:Int)+(1:Int)+(1:Int)+(1:Int)+(1:Int)+(1:Int)≤z4)∧inR .i64 ((1:Int)+wab n (vInt (waa v)) z1 (9:Int))∧(True∧True)∧R (.agg [.str z7,.int .i64 ((1:Int)+wab n (vInt (waa v)) (a+(1:Int)) (9:Int)),.int .i64 2,.str [],.str [],.int .i64 0,.int .i64 0,.int .i64 0,.int .i64 0,.str [],.str (outF (wab n (vInt (waa v)) z2 (3:Int))),.str (idF (wab n (vInt (waa v)) (a+(1:Int)+(1:Int)+(1:Int)+(1:Int)) (4:Int))),.int .i64 ((1440:Int)+wab n (vInt (waa v)) z5 (4:Int)),.str (devF (wab n (vInt (waa v)) (a+(1:Int)+(1:Int)+(1:Int)+(1:Int)+(1:Int)+(1:Int)) (3:Int))),.int .i64 ((1:Int)+wab n (vInt (waa v)) z1 (9:Int))]) [(0,.cells [.view 1 n (waa v),.int .i64 (a+(1:Int)+(1:Int)+(1:Int)+(1:Int)+(1:Int)+(1:Int)+(1:Int)+(1:Int))] 27)]) ((27=27∧1=1∧waa v=waa (vInt (waa v))∧(0:Int)≤a+(1:Int)+(1:Int)+(1:Int)∧a+(1:Int)+(1:Int)+(1:Int)≤(4611686018427386000:Int))∧(True∧True)∧R (.agg [.str z7,.int .i64 ((1:Int)+wab n (vInt (waa v)) (a+(1:Int)) (9:Int)),.int .i64 1,.str (VT.o z0),.str (VT.p z0),.int .i64 (VT.per z0),.int .i64 (VT.day z0),.int .i64 (VT.st z0),.int .i64 (VT.pr z0),.str (VT.rep z0),.str [],.str [],.int .i64 0,.str [],.int .i64 0]) [(0,.cells [.view 1 n (waa v),.int .i64 (visA n (vInt (waa v)) z2)] 27)])):=by kernel_rfl
theorem wvp (n:Nat) (v:Nat→Int) (a:Int):(visV n v a).Made∧(a≤visA n v a∧visA n v a≤a+7):=by
 have r1:=wav (show (1:Int)≤3 by omega) n v a
 have r2:=wav (show (1:Int)≤4 by omega) n v (a+1)
 have r3:=wav (show (1:Int)≤4 by omega) n v (a+1+1)
 have r4:=wav (show (1:Int)≤100 by omega) n v (a+1+1+1)
 have r5:=wav (show (1:Int)≤7 by omega) n v (a+1+1+1+1)
 have r6:=wav (show (1:Int)≤4 by omega) n v (a+1+1+1+1+1)
 have hst:=stF (wab n v (a+1+1+1+1) 7).toNat (by omega)
 have ho:=whp (wab n v a 3).toNat (by omega)
 unfold visV visA
 have hs:1≤wen n v a∧wen n v a≤5:=hst
 generalize wen n v a=st at hs ⊢
 refine ⟨⟨wqt ho.1 (wee _) (by omega) (by omega) ?_,ho.2⟩,?_⟩
 ·by_cases s5:st=5
  ·subst s5
   refine .inr (.inr ⟨rfl,by show (1:Int)≤100+_∧(100:Int)+_≤_;omega,?_⟩)
   show wbg (bif decide _ then idF 4 else _)=true∧¬ (bif decide _ then idF 4 else _)=_
   by_cases q:idF (wab n v (a+1+1+1+1+1+1) 4)=idF (wab n v (a+1) 4)
   ·rw [decide_eq_true q];exact ⟨wee _,wjz r2⟩
   ·rw [decide_eq_false q];exact ⟨wee _,q⟩
  ·have e5:wdj st (idF (wab n v (a+1) 4)) (idF (wab n v (a+1+1+1+1+1+1) 4))=[]:=by unfold wdj;rw [decide_eq_false s5];rfl
   rw [e5]
   by_cases s3:st=3∨st=4
   ·refine .inr (.inl ⟨s3,?_,rfl⟩)
    unfold wdc
    rcases s3 with s3 | s3<;>simp [s3]
   ·refine .inl ⟨by omega,?_,rfl⟩
    have:wdc st (100+wab n v (a+1+1+1+1+1) 4 * 5)=100+wab n v (a+1+1+1+1+1) 4 * 5:=by
     unfold wdc
     rw [decide_eq_false (show ¬ st=3 by omega),decide_eq_false (show ¬ st=4 by omega)];rfl
    rw [this];omega
 ·unfold wd7
  cases decide (st=3) || decide (st=4)<;>cases decide (st=5)<;>simp only [cond_true,cond_false]<;>omega
theorem visX_ok (hP:C.P=Tryz.prog):wae C 89 wkw:=by
 rintro args objs U Os vc h hvc
 unfold wkw at h
 split at h<;>simp only [Option.some.injEq,Prod.mk.injEq,reduceCtorEq] at h
 rename_i sz n f a t
 obtain ⟨rfl,rfl,rfl⟩:=h
 obtain ⟨rfl,rfl,hf,ha⟩:=hvc
 rw [hf]
 generalize vInt f=v
 have hw:vInt (waa v)=v:=rfl
 refine wae.wp0 (prg hP) [(42,.det wbf),(80,.det wcy),(81,.det wcx),(43,.det S_id)] 3 (.cons (wco hP) (.cons (wgd hP) (.cons (wf4 hP) (.cons (id_ok hP) .nil)))) (hP ▸ Tryz.func89) rfl rfl rfl ?_
 rw [wsh,hw]
 have r1:=wav (show (1:Int)≤3 by omega) n v a
 have r2:=wav (show (1:Int)≤4 by omega) n v (a+1)
 have r3:=wav (show (1:Int)≤4 by omega) n v (a+1+1)
 have r4:=wav (show (1:Int)≤100 by omega) n v (a+1+1+1)
 have r5:=wav (show (1:Int)≤7 by omega) n v (a+1+1+1+1)
 have r6:=wav (show (1:Int)≤4 by omega) n v (a+1+1+1+1+1)
 have hst:=stF (wab n v (a+1+1+1+1) 7).toNat (by omega)
 unfold visV visA wen
 refine ⟨⟨rfl,rfl,rfl,by omega,by omega⟩,⟨rfl,rfl,rfl,by omega,by omega⟩,⟨rfl,rfl,rfl,⟨by omega,by omega⟩,by omega,by omega⟩,by simp only [inR];omega,⟨rfl,rfl,rfl,⟨by omega,by omega⟩,by omega,by omega⟩,by simp only [inR];omega,⟨by omega,rfl,by omega⟩,⟨rfl,rfl,rfl,⟨by omega,by omega⟩,by omega,by omega⟩,⟨by omega,by omega⟩,⟨by omega,rfl⟩,?_⟩
 generalize 1+List.getD [(0:Int),0,0,1,2,3,4] (wab n v (a+1+1+1+1) 7).toNat 0=st at *
 have key:∀ (pr:Int) (rep:List UInt8) (a':Int),pr=wdc st (100+wab n v (a+1+1+1+1+1) 4 * 5)→rep=wdj st (idF (wab n v (a+1) 4)) (idF (wab n v (a+1+1+1+1+1+1) 4))→a'=wd7 st (a+1+1+1+1+1)→
   (AV.agg [.str (outF (wab n v a 3)),.str (idF (wab n v (a+1) 4)),.int .i64 (1440+wab n v (a+1+1) 4),.int .i64 (43830+wab n v (a+1+1+1) 100),.int .i64 st,.int .i64 pr,.str rep]=AV.agg [.str (outF (wab n v a 3)),.str (idF (wab n v (a+1) 4)),.int .i64 (1440+wab n v (a+1+1) 4),.int .i64 (43830+wab n v (a+1+1+1) 100),.int .i64 st,.int .i64 (wdc st (100+wab n v (a+1+1+1+1+1) 4 * 5)),.str (wdj st (idF (wab n v (a+1) 4)) (idF (wab n v (a+1+1+1+1+1+1) 4)))]∧
   ([(0,.cells [.view 1 n (waa v),.int .i64 a'] 27)]:List (Nat×AObj))=[(0,.cells [.view 1 n (waa v),.int .i64 (wd7 st (a+1+1+1+1+1))] 27)]):=fun pr rep a' h1 h2 h3=>by rw [h1,h2,h3];exact ⟨rfl,rfl⟩
 refine ⟨by simp only [inR];omega,wcc (fun s3=>wcc (fun s4=>⟨⟨rfl,rfl,rfl,⟨by omega,by omega⟩,by omega,by omega⟩,by simp only [inR];omega,by simp only [inR];omega,wal (fun s5=>⟨⟨rfl,rfl,rfl,by omega,by omega⟩,wal (fun q=>⟨trivial,wal (fun q'=>absurd q' (wjz r2)) (fun q'=>⟨⟨trivial,trivial⟩,?_⟩)⟩) (fun q=>⟨⟨trivial,trivial⟩,?_⟩)⟩) (fun s5=>⟨⟨trivial,trivial⟩,?_⟩)⟩)
  (fun s4=>wal (fun s5=>absurd s5 (by omega)) (fun s5=>⟨⟨trivial,trivial⟩,?_⟩))) (fun s3=>wal (fun s5=>absurd s5 (by omega)) (fun s5=>⟨⟨trivial,trivial⟩,?_⟩))⟩
 ·refine key _ (idF 4) _ ?_ ?_ ?_
  ·simp [wdc,s3,s4]
  ·unfold wdj
   rw [decide_eq_true s5,decide_eq_true q];rfl
  ·simp [wd7,s5]
 ·refine key _ _ _ ?_ ?_ ?_
  ·simp [wdc,s3,s4]
  ·unfold wdj
   rw [decide_eq_true s5,decide_eq_false q];rfl
  ·simp [wd7,s5]
 ·refine key _ _ _ ?_ ?_ ?_
  ·simp [wdc,s3,s4]
  ·unfold wdj
   rw [decide_eq_false s5];rfl
  ·simp [wd7,s3,s4,s5]
 ·refine key _ _ _ ?_ ?_ ?_
  ·simp [wdc,s4]
  ·unfold wdj
   rw [decide_eq_false s5];rfl
  ·simp [wd7,s4]
 ·refine key _ _ _ ?_ ?_ ?_
  ·simp [wdc,s3]
  ·unfold wdj
   rw [decide_eq_false s5];rfl
  ·simp [wd7,s3]
theorem wzc (n:Nat) (v:Nat→Int) (a:Int):(msgV n v a).Made∧(a≤msgA n v a∧msgA n v a≤a+10):=by
 have r1:=wav (show (1:Int)≤3 by omega) n v a
 have r2:=wav (show (1:Int)≤9 by omega) n v (a+1)
 have r4:=wav (show (1:Int)≤3 by omega) n v (a+1+1+1)
 have r6:=wav (show (1:Int)≤4 by omega) n v (a+1+1+1+1+1)
 have r7:=wav (show (1:Int)≤3 by omega) n v (a+1+1+1+1+1+1)
 have r8:=wav (show (1:Int)≤9 by omega) n v (a+1+1+1+1+1+1+1)
 have hd:=wke (wab n v a 3).toNat (by omega)
 have ho:=whp (wab n v (a+1+1+1) 3).toNat (by omega)
 have hd':=wke (wab n v (a+1+1+1+1+1+1) 3).toNat (by omega)
 obtain ⟨hx,h1,h2⟩:=wvp n v (a+1+1+1)
 unfold msgV msgA
 cases decide (wab n v (a+1+1) 5=0) with
 |true=>exact ⟨⟨wso hd.1 (by omega) (wrg ho.1 (wee _) (by omega)) hd'.1 (by omega),hd.2,Nat.zero_le _,ho.2,hd'.2⟩,by simp only [cond_true];omega⟩
 |false=>exact ⟨⟨wsn hd.1 (by omega) hx.ok,hd.2,hx.o,Nat.zero_le _,Nat.zero_le _⟩,by simp only [cond_false];omega⟩
theorem wze (hP:C.P=Tryz.prog):wae C 36 wln:=by
 rintro args objs U Os vc h hvc
 unfold wln at h
 split at h<;>simp only [Option.some.injEq,Prod.mk.injEq,reduceCtorEq] at h
 rename_i sz n f a t
 obtain ⟨rfl,rfl,rfl⟩:=h
 obtain ⟨rfl,rfl,hf,ha⟩:=hvc
 rw [hf]
 generalize vInt f=v
 have hw:vInt (waa v)=v:=rfl
 refine wae.wp0 (prg hP) [(42,.det wbf),(80,.det wcy),(81,.det wcx),(88,.det wg2),(89,.det wkw)] 0 (.cons (wco hP) (.cons (wgd hP) (.cons (wf4 hP) (.cons (wum hP) (.cons (visX_ok hP) .nil))))) (hP ▸ Tryz.func36) rfl rfl rfl ?_
 rw [wx4,hw]
 have r2:=wav (show (1:Int)≤9 by omega) n v (a+1)
 have r6:=wav (show (1:Int)≤4 by omega) n v (a+1+1+1+1+1)
 have r8:=wav (show (1:Int)≤9 by omega) n v (a+1+1+1+1+1+1+1)
 unfold msgV msgA
 refine ⟨⟨rfl,rfl,rfl,by omega,by omega⟩,⟨rfl,rfl,rfl,⟨by omega,by omega⟩,by omega,by omega⟩,by simp only [inR];omega,⟨rfl,rfl,rfl,⟨by omega,by omega⟩,by omega,by omega⟩,wal (fun q=>⟨⟨rfl,rfl,rfl,by omega,by omega⟩,⟨rfl,rfl,rfl,by omega,by omega⟩,⟨rfl,rfl,rfl,⟨by omega,by omega⟩,by omega,by omega⟩,by simp only [inR];omega,⟨rfl,rfl,rfl,by omega,by omega⟩,⟨rfl,rfl,rfl,⟨by omega,by omega⟩,by omega,by omega⟩,by simp only [inR];omega,⟨trivial,trivial⟩,?_⟩)
  (fun q=>⟨⟨rfl,rfl,rfl,by omega,by omega⟩,⟨trivial,trivial⟩,?_⟩)⟩
 ·rw [decide_eq_true q];exact ⟨rfl,rfl⟩
 ·rw [decide_eq_false q];exact ⟨rfl,rfl⟩
end Go.Eng
