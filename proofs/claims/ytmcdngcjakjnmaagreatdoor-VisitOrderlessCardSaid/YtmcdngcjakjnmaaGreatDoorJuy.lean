/- open: what it answers. -/
import Derived.Test.YtmcdngcjakjnmaaGreatDoorJux
namespace Go.Eng
open Go.Proofs Go.RowKit
variable {C:Ctx} [C.Loose]
set_option maxRecDepth 20000
theorem wyw(g:Nat->MG)(n:Nat)(K:List (List UInt8×Int))(k:Nat)(P:Nat->Prop)(R:eR7):wav ⟨te,[],[],0,72,0⟩ (wax Tryz.f38 4) [0,3,4,15,16,17,2] [0,3,4,2] [] (S_oa g n K) P R (S_oa g n K k)=(letI z3:=entG keyD .bool (ckL K k);letI z2:=(K.length:Int);letI z0:=ren 0 [(0,0),(1,1),(2,2),(3,3)];letI z1:=(List.map (λ(p:AV×AV)=>(AV.rn z0 p.1,AV.rn z0 p.2)) []);wab (decide ((k:Int)<z2)) (((0:Int)<=(k:Int)/\(k:Int)<z2/\2=2)/\wa6 te 103 z3/\inR .i64 ((k:Int)+1)/\∃(i':Nat),some (St.mk [(0,.view 15 n (waa g)),(3,.ptr 0 0),(4,.map 1),(15,.view 2 K.length (wcb (atK K))),(16,.q z2),(17,.q ((k:Int)+1)),(2,.ptr 2 0)] [(0,.cells [.map 3,.nil] 72),(1,.amap (List.map (λ(p:AV×AV)=>(AV.rn z0 p.1,AV.rn z0 p.2)) (mset z3 (.agg [.str (atK K (k:Int).toNat).1,.q (atK K (k:Int).toNat).2]) (.bool true)))),(2,.cells [.nilmap,.nil] 72),(3,.amap z1)] 4 [])=some (St.mk [(0,.view 15 n (waa g)),(3,.ptr 0 0),(4,.map 1),(15,.view 2 K.length (wcb (atK K))),(16,.q z2),(17,.q (i':Int)),(2,.ptr 2 0)] [(0,.cells [.map 3,.nil] 72),(1,.amap (entG keyD .bool (ckL K i'))),(2,.cells [.nilmap,.nil] 72),(3,.amap [])] 4 [])/\P i') (R (.exit 0) (St.mk [(0,.view 15 n (waa g)),(3,.ptr 0 0),(4,.map 1),(2,.ptr 2 0)] [(0,.cells [.map 3,.nil] 72),(1,.amap (List.map (λ(p:AV×AV)=>(AV.rn z0 p.1,AV.rn z0 p.2)) z3)),(2,.cells [.nilmap,.nil] 72),(3,.amap z1)] 4 []))):=by kernel_rfl
theorem wsg(es:List (AV×Value))(j:Nat)(K:List ((List UInt8×Int)×Bool))(M:List MG)(k:Nat)(P:Nat->Prop)(R:eR7):wav ⟨te,[(77,.det wgf)],[],0,72,0⟩ (wax Tryz.f38 9) [3,4,25,26,27,2] [3,2] [] (S_ob es j K M) P R (S_ob es j K M k)=(letI z6:=entG keyD .bool K;letI z5:=M.length;letI z4:=ren 0 [(0,0),(1,1),(2,2),(3,3),(4,4)];letI z1:=(atM M (k:Int).toNat);letI z2:=mget z6 (.agg [.str z1.dev,.q z1.seq]);letI z0:=(whr (MG.mk z1.dev z1.seq z1.kind (VT.mk z1.v.o z1.v.p z1.v.per z1.v.day z1.v.st z1.v.pr z1.v.rep) (DT.mk z1.d.o z1.d.p z1.d.per z1.d.dev z1.d.num)));letI z3:=(wa6 te 78 (pkR es)/\∀(p:AV×Value),p∈es->p.1≠ .agg [.str (SL.o z0),.str (SL.p z0),.q (SL.per z0)]);wab (decide ((k:Int)<(z5:Int))) (((0:Int)<=(k:Int)/\(k:Int)<(z5:Int))/\((k:Int).toNat<M.length/\15=15)/\(wa6 te 103 z6/\.bool (wcn (Option.getD z2 (zvA (.bool false))))=Option.getD z2 (zvA (.bool false)))/\wab (!wcn (Option.getD z2 (zvA (.bool false)))) (True/\True/\z3/\(15<=16777216/\15=15/\1<=9223372036854775807)/\((1<=1/\15=15)/\15=15/\1<=9223372036854775807/\176<=140737488355328)/\z3/\inR .i64 ((k:Int)+1)/\∃(i':Nat),False/\P i') (inR .i64 ((k:Int)+1)/\∃(i':Nat),(TEq [(3,.ptr 0 0),(4,.map 1),(25,.own 2 z5),(26,.q (z5:Int)),(27,.q ((k:Int)+1)),(2,.ptr 3 0)] [(3,.ptr 0 0),(4,.map 1),(25,.own 2 z5),(26,.q (z5:Int)),(27,.q (i':Int)),(2,.ptr 3 0)]/\wac [(0,.cells [.map 4,.nil] 72),(1,.amap (List.map (λ(p:AV×AV)=>(AV.rn z4 p.1,AV.rn z4 p.2)) z6)),(2,.row 47 15 z5 (waa (atM M)) false),(3,.cells [.nilmap,.nil] 72),(4,.rmap es j (Option.map (λ(u:AV)=>AV.rn z4 u) none))] [(0,.cells [.map 4,.nil] 72),(1,.amap z6),(2,.row 47 15 z5 (waa (atM M)) false),(3,.cells [.nilmap,.nil] 72),(4,.rmap es j none)])/\P i')) (R (.exit 2) (St.mk [(3,.ptr 0 0),(2,.ptr 1 0)] [(0,.cells [.map 2,.nil] 72),(1,.cells [.nilmap,.nil] 72),(2,.rmap es j (Option.map (λ(u:AV)=>AV.rn (ren 0 [(0,0),(3,1),(4,2)]) u) none))] 3 []))):=by kernel_rfl
theorem wyt(es:List (AV×Value))(j:Nat)(K:List ((List UInt8×Int)×Bool))(M:List MG)(k:Nat)(P:OC->Prop)(R:eR7):wav ⟨te,[(77,.det wgf)],[],0,72,0⟩ (wax Tryz.f38 9) [3,4,25,26,27,2] [3,2] [] (S_oi K M) P R (S_ob es j K M k)=(letI z7:=entG keyD .bool K;letI z5:=M.length;letI z4:=ren 0 [(0,0),(1,1),(2,2),(3,3),(4,4),(199,5)];letI z1:=(atM M (k:Int).toNat);letI z2:=mget z7 (.agg [.str z1.dev,.q z1.seq]);letI z0:=(whr (MG.mk z1.dev z1.seq z1.kind (VT.mk z1.v.o z1.v.p z1.v.per z1.v.day z1.v.st z1.v.pr z1.v.rep) (DT.mk z1.d.o z1.d.p z1.d.per z1.d.dev z1.d.num)));letI z6:=([.str (SL.o z0),.str (SL.p z0),.q (SL.per z0)]:List AV);letI z3:=(wa6 te 78 (pkR es)/\∀(p:AV×Value),p∈es->p.1≠ .agg z6);wab (decide ((k:Int)<(z5:Int))) (((0:Int)<=(k:Int)/\(k:Int)<(z5:Int))/\((k:Int).toNat<M.length/\15=15)/\(wa6 te 103 z7/\.bool (wcn (Option.getD z2 (zvA (.bool false))))=Option.getD z2 (zvA (.bool false)))/\wab (!wcn (Option.getD z2 (zvA (.bool false)))) (True/\True/\z3/\(15<=16777216/\15=15/\1<=9223372036854775807)/\((1<=1/\15=15)/\15=15/\1<=9223372036854775807/\176<=140737488355328)/\z3/\inR .i64 ((k:Int)+1)/\∃(i':OC),(TEq [(3,.ptr 0 0),(4,.map 1),(25,.own 2 z5),(26,.q (z5:Int)),(27,.q ((k:Int)+1)),(2,.ptr 3 0)] [(3,.ptr 0 0),(4,.map 1),(25,.own 2 z5),(26,.q (z5:Int)),(27,.q (↑(OC.k i'):Int)),(2,.ptr 3 0)]/\wac [(0,.cells [.map 4,.nil] 72),(1,.amap (List.map (λ(p:AV×AV)=>(AV.rn z4 p.1,AV.rn z4 p.2)) z7)),(2,.row 47 15 z5 (waa (atM M)) false),(3,.cells [.nilmap,.nil] 72),(4,.rmap (es++[(.agg z6,default)]) es.length (Option.map (λ(u:AV)=>AV.rn z4 u) (some (.own 199 1)))),(5,.row 47 15 1 (wau 15 (.str z1.dev:: .q z1.seq:: .q z1.kind:: .str z1.v.o:: .str z1.v.p:: .q z1.v.per:: .q z1.v.day:: .q z1.v.st:: .q z1.v.pr:: .str z1.v.rep:: .str z1.d.o:: .str z1.d.p:: .q z1.d.per:: .str z1.d.dev:: .q z1.d.num::List.append [] wbo)) false)] [(0,.cells [.map 4,.nil] 72),(1,.amap z7),(2,.row 47 15 z5 (waa (atM M)) false),(3,.cells [.nilmap,.nil] 72),(4,.rmap (OC.es i') (OC.j i') (some (.own 5 (OC.L i').length))),(5,.row 47 15 (OC.L i').length (waa (atM (OC.L i'))) false)])/\P i') (inR .i64 ((k:Int)+1)/\∃(i':OC),False/\P i')) (R (.exit 2) (St.mk [(3,.ptr 0 0),(2,.ptr 1 0)] [(0,.cells [.map 2,.nil] 72),(1,.cells [.nilmap,.nil] 72),(2,.rmap es j (Option.map (λ(u:AV)=>AV.rn (ren 0 [(0,0),(3,1),(4,2)]) u) none))] 3 []))):=by kernel_rfl
theorem wyv(es:List (AV×Value))(j:Nat)(L:List MG)(K:List ((List UInt8×Int)×Bool))(M:List MG)(k:Nat)(P:OC->Prop)(R:eR7):wav ⟨te,[(77,.det wgf)],[],0,72,0⟩ (wax Tryz.f38 9) [3,4,25,26,27,2] [3,2] [] (S_oi K M) P R (S_oc es j L K M k)=(letI z9:=L.length;letI z7:=entG keyD .bool K;letI z6:=ren 0 [(0,0),(1,1),(2,2),(3,3),(4,4),(5,5)];letI z5:=ren 0 [(0,0),(1,1),(2,2),(3,3),(4,4),(200,5)];letI z4:=M.length;letI z2:=([(3,.ptr 0 0),(4,.map 1),(25,.own 2 z4),(26,.q (z4:Int)),(27,.q ((k:Int)+1)),(2,.ptr 3 0)]:tL7);letI z1:=(atM M (k:Int).toNat);letI z3:=mget z7 (.agg [.str z1.dev,.q z1.seq]);letI z0:=(whr (MG.mk z1.dev z1.seq z1.kind (VT.mk z1.v.o z1.v.p z1.v.per z1.v.day z1.v.st z1.v.pr z1.v.rep) (DT.mk z1.d.o z1.d.p z1.d.per z1.d.dev z1.d.num)));letI z8:=([.str (SL.o z0),.str (SL.p z0),.q (SL.per z0)]:List AV);wab (decide ((k:Int)<(z4:Int)))   (((0:Int)<=(k:Int)/\(k:Int)<(z4:Int))/\     ((k:Int).toNat<M.length/\15=15)/\       (wa6 te 103 z7/\.bool (wcn (Option.getD z3 (zvA (.bool false))))=Option.getD z3 (zvA (.bool false)))/\         wab (!wcn (Option.getD z3 (zvA (.bool false))))           (True/\             True/\               (wa6 te 78 (pkR es)/\                   (match es[j]? with                     | some x=>some x.1                     | none=>none)=                     some (.agg z8))/\                 (15<=16777216/\15=15/\1<=9223372036854775807)/\                   ((1<=1/\15=15)/\L.length<=L.length/\15=15/\47=47/\15=15/\L.length+1<=9223372036854775807/\(L.length+1) * 176<=140737488355328)/\                     (wa6 te 78 (pkR es)/\                         (match es[j]? with                           | some x=>some x.1                           | none=>none)=                           some (.agg z8))/\                       inR .i64 ((k:Int)+1)/\∃(i':OC),(TEq z2 [(3,.ptr 0 0),(4,.map 1),(25,.own 2 z4),(26,.q (z4:Int)),(27,.q (↑(OC.k i'):Int)),(2,.ptr 3 0)]/\wac [(0,.cells [.map 4,.nil] 72),(1,.amap (List.map (λ(p:AV×AV)=>(AV.rn z5 p.1,AV.rn z5 p.2)) z7)),(2,.row 47 15 z4 (waa (atM M)) false),(3,.cells [.nilmap,.nil] 72),(4,.rmap es j (Option.map (λ(u:AV)=>AV.rn z5 u) (some (.own 200 (L.length+1))))),(5,.row 47 15 (L.length+1) (apF z9 (waa (atM L)) (wau 15 (.str z1.dev:: .q z1.seq:: .q z1.kind:: .str z1.v.o:: .str z1.v.p:: .q z1.v.per:: .q z1.v.day:: .q z1.v.st:: .q z1.v.pr:: .str z1.v.rep:: .str z1.d.o:: .str z1.d.p:: .q z1.d.per:: .str z1.d.dev:: .q z1.d.num::List.append [] wbo))) false)] [(0,.cells [.map 4,.nil] 72),(1,.amap z7),(2,.row 47 15 z4 (waa (atM M)) false),(3,.cells [.nilmap,.nil] 72),(4,.rmap (OC.es i') (OC.j i') (some (.own 5 (OC.L i').length))),(5,.row 47 15 (OC.L i').length (waa (atM (OC.L i'))) false)])/\P i')           (inR .i64 ((k:Int)+1)/\∃(i':OC),(TEq z2 [(3,.ptr 0 0),(4,.map 1),(25,.own 2 z4),(26,.q (z4:Int)),(27,.q (↑(OC.k i'):Int)),(2,.ptr 3 0)]/\wac [(0,.cells [.map 4,.nil] 72),(1,.amap (List.map (λ(p:AV×AV)=>(AV.rn z6 p.1,AV.rn z6 p.2)) z7)),(2,.row 47 15 z4 (waa (atM M)) false),(3,.cells [.nilmap,.nil] 72),(4,.rmap es j (Option.map (λ(u:AV)=>AV.rn z6 u) (some (.own 5 z9)))),(5,.row 47 15 z9 (waa (atM L)) false)] [(0,.cells [.map 4,.nil] 72),(1,.amap z7),(2,.row 47 15 z4 (waa (atM M)) false),(3,.cells [.nilmap,.nil] 72),(4,.rmap (OC.es i') (OC.j i') (some (.own 5 (OC.L i').length))),(5,.row 47 15 (OC.L i').length (waa (atM (OC.L i'))) false)])/\P i'))   ((∀(i:Nat),i<L.length->true=true)/\∃(O':oL7),wac [(0,.cells [.map 2,.nil] 72),(1,.cells [.nilmap,.nil] 72),(2,.rmap es j (Option.map (λ(u:AV)=>AV.rn (ren 0 [(0,0),(3,1),(4,2),(5,3)]) u) (some (.own 5 z9)))),(3,.row 47 15 z9 (waa (atM L)) false)] O'/\R (.exit 2) (St.mk [(3,.ptr 0 0),(2,.ptr 1 0)] O' 4 []))):=by kernel_rfl
theorem wyu(B:List (SL×List MG))(i:OI)(P:OI->Prop)(R:eR7):wav ⟨te,[(60,.det wmk)],[],0,72,0⟩ (wax Tryz.f38 15) [3,54,2] [3,2] [] (S_od B) P R (S_od B i)=(letI z4:=ren 0 [(0,0),(1,1),(2,2),(3,3),(4,4)];letI z3:=ren 0 [(0,0),(1,1),(2,2),(3,3),(40,4)];letI z2:=entG keyS vwM B;letI z1:=([(3,.ptr 0 0),(54,.ptr 1 0),(2,.ptr 2 0)]:tL7);B.length=z2.length/\(OI.left i=[]->(∀(i_1:Nat),i_1<OI.c i->true=true)/\∃(O':oL7),wac [(0,.cells [.map 2,.own 3 (OI.c i)] 72),(1,.cells [.nilmap,.nil] 72),(2,.amap (List.map (λ(p:AV×AV)=>(AV.rn (ren 0 [(0,0),(2,1),(3,2),(4,3)]) p.1,AV.rn (ren 0 [(0,0),(2,1),(3,2),(4,3)]) p.2)) z2)),(3,.row 78 3 (OI.c i) (wal (OI.h i)) false)] O'/\R (.exit 4) (St.mk [(3,.ptr 0 0),(2,.ptr 1 0)] O' 4 []))/\∀(i_1:Nat),letI z0:=List.getD z2 i_1 (.any,.any);letI z5:=wam (wcm z0.1 (0+1+1));i_1∈OI.left i->(B.length=z2.length/\i_1<B.length/\.agg [.str (wcg (wcm z0.1 0)),.str (wcg (wcm z0.1 (0+1))),.q z5]=z0.1/\.view 15 (vN z0.2) (vF z0.2)=z0.2)/\(vN z0.2<=1000000/\vF z0.2=waa (mgOf (vF z0.2)))/\wab (decide ((0:Int)<=ixB (λ(i:Nat)=>isV (mgOf (vF z0.2) i)) (vN z0.2))) ((3<=16777216/\3=3/\1<=9223372036854775807)/\((1<=1/\3=3)/\OI.c i<=OI.c i/\3=3/\78=78/\3=3/\OI.c i+1<=9223372036854775807/\(OI.c i+1) * 40<=140737488355328)/\∃(i':OI),(TEq z1 z1/\wac [(0,.cells [.map 3,.own 4 (OI.c i+1)] 72),(1,.miter 3 B.length (69::i_1::List.erase (OI.left i) i_1)),(2,.cells [.nilmap,.nil] 72),(3,.amap (List.map (λ(p:AV×AV)=>(AV.rn z3 p.1,AV.rn z3 p.2)) z2)),(4,.row 78 3 (OI.c i+1) (apF (OI.c i) (wal (OI.h i)) (wau 3 (.str (wcg (wcm z0.1 0)):: .str (wcg (wcm z0.1 (0+1))):: .q z5::List.append [] (List.flatten (List.replicate (nat_lit 0) [.str ([]),.str ([]),.q 0]))))) false)] [(0,.cells [.map 3,.own 4 (OI.c i')] 72),(1,.miter 3 B.length (69::OI.c0 i'::OI.left i')),(2,.cells [.nilmap,.nil] 72),(3,.amap z2),(4,.row 78 3 (OI.c i') (wal (OI.h i')) false)])/\P i') (∃(i':OI),(TEq z1 z1/\wac [(0,.cells [.map 3,.own 4 (OI.c i)] 72),(1,.miter 3 B.length (69::i_1::List.erase (OI.left i) i_1)),(2,.cells [.nilmap,.nil] 72),(3,.amap (List.map (λ(p:AV×AV)=>(AV.rn z4 p.1,AV.rn z4 p.2)) z2)),(4,.row 78 3 (OI.c i) (wal (OI.h i)) false)] [(0,.cells [.map 3,.own 4 (OI.c i')] 72),(1,.miter 3 B.length (69::OI.c0 i'::OI.left i')),(2,.cells [.nilmap,.nil] 72),(3,.amap z2),(4,.row 78 3 (OI.c i') (wal (OI.h i')) false)])/\P i')):=by kernel_rfl
theorem nf_ow(es:List (AV×Value))(j:Nat)(K:List ((List UInt8×Int)×Bool))(M:List MG)(k nx:Nat):canonIs te 0 [3,4,25,26,27,2] ⟨[(3,.ptr 0 0),(4,.map 1),(25,.own 2 M.length),(26,.q M.length),(27,.q k),(2,.ptr 3 0)],[(4,.rmap es j none),(0,.cells [.map 4,.nil] 72),(1,.amap (entG keyD .bool K)),(2,.row 47 15 M.length (waa (atM M)) false),(3,.cells [.nilmap,.nil] 72)],nx,[]⟩ (S_ob es j K M k)=(letI z1:=ren 0 [(0,0),(1,1),(2,2),(3,3),(4,4)];letI z0:=([(3,.ptr 0 0),(4,.map 1),(25,.own 2 M.length),(26,.q (M.length:Int)),(27,.q (k:Int)),(2,.ptr 3 0)]:tL7);TEq z0 z0/\wac [(0,.cells [.map 4,.nil] 72),(1,.amap (List.map (λ(p:AV×AV)=>(AV.rn z1 p.1,AV.rn z1 p.2)) (entG keyD .bool K))),(2,.row 47 15 M.length (waa (atM M)) false),(3,.cells [.nilmap,.nil] 72),(4,.rmap es j (Option.map (λ(u:AV)=>AV.rn z1 u) none))] [(0,.cells [.map 4,.nil] 72),(1,.amap (entG keyD .bool K)),(2,.row 47 15 M.length (waa (atM M)) false),(3,.cells [.nilmap,.nil] 72),(4,.rmap es j none)]):=by kernel_rfl
theorem nf_ox(es:List (AV×Value))(j:Nat)(L:List MG)(K:List ((List UInt8×Int)×Bool))(M:List MG)(k:Nat):canonIs te 0 [3,4,25,26,27,2] ⟨[(3,.ptr 0 0),(4,.map 1),(25,.own 2 M.length),(26,.q M.length),(27,.q k),(2,.ptr 3 0)],[(4,.rmap es j (some (.own 5 L.length))),(5,.row 47 15 L.length (waa (atM L)) false),(0,.cells [.map 4,.nil] 72),(1,.amap (entG keyD .bool K)),(2,.row 47 15 M.length (waa (atM M)) false),(3,.cells [.nilmap,.nil] 72)],6,[]⟩ (S_oc es j L K M k)=(letI z1:=ren 0 [(0,0),(1,1),(2,2),(3,3),(4,4),(5,5)];letI z0:=([(3,.ptr 0 0),(4,.map 1),(25,.own 2 M.length),(26,.q (M.length:Int)),(27,.q (k:Int)),(2,.ptr 3 0)]:tL7);TEq z0 z0/\wac [(0,.cells [.map 4,.nil] 72),(1,.amap (List.map (λ(p:AV×AV)=>(AV.rn z1 p.1,AV.rn z1 p.2)) (entG keyD .bool K))),(2,.row 47 15 M.length (waa (atM M)) false),(3,.cells [.nilmap,.nil] 72),(4,.rmap es j (Option.map (λ(u:AV)=>AV.rn z1 u) (some (.own 5 L.length)))),(5,.row 47 15 L.length (waa (atM L)) false)] [(0,.cells [.map 4,.nil] 72),(1,.amap (entG keyD .bool K)),(2,.row 47 15 M.length (waa (atM M)) false),(3,.cells [.nilmap,.nil] 72),(4,.rmap es j (some (.own 5 L.length))),(5,.row 47 15 L.length (waa (atM L)) false)]):=by kernel_rfl
theorem wjo(a b:List UInt8×Int):keq (keyD a) (keyD b)=decide (a=b):=by
 rw[Bool.eq_iff_iff];simp[keyD,keq,keqL,keq0,Prod.ext_iff]
theorem wfa(a b:SL):keq (keyS a) (keyS b)=decide (a=b):=by
 cases a;cases b;rw[Bool.eq_iff_iff];simp[keyS,keq,keqL,keq0]
theorem ws8{a b:List UInt8×Int}(h:keyD a=keyD b):a=b:=by
 have:=wjo a b;rw[h,wjo,decide_eq_true rfl] at this;exact of_decide_eq_true this.symm
theorem whp{a b:SL}(h:keyS a=keyS b):a=b:=by
 have:=wfa a b;rw[h,wfa,decide_eq_true rfl] at this;exact of_decide_eq_true this.symm
section
variable {κ α:Type} [DecidableEq κ] {kv:κ->AV} {vv:α->AV}
theorem wf1(hk:∀a b,keq (kv a) (kv b)=decide (a=b))(s:κ):∀L:List (κ×α),mget (entG kv vv L) (kv s)=(getA L s).map vv
 |[]=>rfl
 |x::L=>by
  rw[getA];show (match keq (kv x.1) (kv s) with | true=>some (vv x.2) | false=>mget (entG kv vv L) (kv s))=_
  rw[hk,wf1 hk s L]
  cases decide (x.1=s)<;>rfl
theorem whh(hk:∀a b,keq (kv a) (kv b)=decide (a=b))(s:κ)(c:α):∀L:List (κ×α),mset (entG kv vv L) (kv s) (vv c)=entG kv vv (setA L s c)
 |[]=>rfl
 |x::L=>by
  rw[setA];show (match keq (kv x.1) (kv s) with | true=>(kv s,vv c)::entG kv vv L | false=>(kv x.1,vv x.2)::mset (entG kv vv L) (kv s) (vv c))=_
  rw[hk,whh hk s c L]
  cases decide (x.1=s)<;>rfl
end
theorem wh1{κ α:Type}{kv:κ->AV}{vv:α->AV}(σ:Nat->Option Nat)(hk:∀a,AV.rn σ (kv a)=kv a)(hv:∀a,AV.rn σ (vv a)=vv a)(L:List (κ×α)):(entG kv vv L).map (λp=>(AV.rn σ p.1,AV.rn σ p.2))=entG kv vv L:=by
 unfold entG;rw[List.map_map];refine List.map_congr_left λx _=>?_;show (AV.rn σ (kv x.1),AV.rn σ (vv x.2))=_;rw[hk,hv]
theorem wh2{κ α:Type}{kv:κ->AV}{vv:α->AV}{t:TypeId}(hi:∀a b,kv a=kv b->a=b)(hA:∀a,keyA te t (kv a)=true){L:List (κ×α)}(h:(L.map Prod.fst).Nodup):wa6 te t (entG kv vv L):=by
 refine⟨List.all_eq_true.2 λp hp=>?_,?_⟩
 ·obtain⟨r,_,rfl⟩:=List.mem_map.1 hp;exact hA _
 ·have:(entG kv vv L).map Prod.fst=(L.map Prod.fst).map kv:=by simp[entG]
  rw[this];exact List.pairwise_map.2 (h.imp λ{a b} hab he=>hab (hi a b he))
theorem keyA_D(a:List UInt8×Int):keyA te 103 (keyD a)=true:=by
 have:∀(a:List UInt8) (b:Int),keyA te 103 (.agg [.str a,.q b])=true:=λa b=>by kernel_rfl
 exact this _ _
theorem wjm(a:SL):keyA te 78 (keyS a)=true:=by
 have:∀(a b:List UInt8) (c:Int),keyA te 78 (.agg [.str a,.str b,.q c])=true:=λa b c=>by kernel_rfl
 exact this _ _ _
theorem wdg(σ:Nat->Option Nat)(L:List ((List UInt8×Int)×Bool)):(entG keyD AV.bool L).map (λp=>(AV.rn σ p.1,AV.rn σ p.2))=entG keyD AV.bool L:=wh1 σ (λ_=>rfl) (λ_=>rfl) L
theorem wh3(σ:Nat->Option Nat)(L:List (SL×List MG)):(entG keyS vwM L).map (λp=>(AV.rn σ p.1,AV.rn σ p.2))=entG keyS vwM L:=wh1 σ (λ_=>rfl) (λ_=>rfl) L
theorem oa_loop(hP:C.P=Tryz.prog)(g:Nat->MG)(n:Nat)(K:List (List UInt8×Int)):wai C 0 72 (wak Tryz.f38 4) (L_oa g n K):=by
 have _:C.Loose:=inferInstance;rintro st Q ⟨h0,hn,hQ⟩;refine wai.mk (prg hP) [] 0 .nil [0,3,4,15,16,17,2] [0,3,4,2] [] (S_oa g n K) (λk=>k<=K.length) (λk=>K.length - k) 0 (zL7 _) h0 (λk hk=>?_);rw[wyw,tN7];refine waj (λh1=>⟨⟨by omega,by omega,rfl⟩,wh2 (λ_ _=>ws8) keyA_D (wqa K k),by simp only[inR];omega,k+1,?_,by omega,by omega⟩) (λh1=>?_)
 ·have e:=whh (vv:=AV.bool) wjo (atK K k) true (ckL K k);have e:mset (entG keyD .bool (ckL K k)) (.agg [.str (atK K k).1,.q (atK K k).2]) (.bool true)=entG keyD .bool (ckL K (k+1)):=e;rw[e,wdg];rfl
 ·have:k=K.length:=by omega
  subst this;rw[wdg];exact hQ
structure OJ where
 k:Nat
 vs:List Value
 j:Nat
theorem wpw{B:List (SL×List MG)}{vs:List Value}(h:vs.length=B.length):(esB B vs).length=B.length:=by simp[esB,h]
theorem wt2{B:List (SL×List MG)}{vs:List Value}(h:vs.length=B.length):(fmB B vs).length=B.length:=by simp[fmB,h]
theorem esB_fst{B:List (SL×List MG)}{vs:List Value}(h:vs.length=B.length):(esB B vs).map Prod.fst=(B.map Prod.fst).map keyS:=by
 have e:(B.zip vs).map Prod.fst=B:=List.map_fst_zip (by omega);have:(esB B vs).map Prod.fst=((B.zip vs).map Prod.fst).map λx=>keyS x.1:=by simp[esB]
 rw[this,e];simp
theorem keysR{es:List (AV×Value)}{L:List SL}(h:es.map Prod.fst=L.map keyS)(hn:L.Nodup):wa6 te 78 (pkR es):=by
 have e:(pkR es).map Prod.fst=L.map keyS:=by rw[← h];simp[pkR]
 refine⟨List.all_eq_true.2 λp hp=>?_,?_⟩
 ·have:p.1∈L.map keyS:=by rw[← e];exact List.mem_map_of_mem hp
  obtain⟨s,_,hs⟩:=List.mem_map.1 this;rw[← hs];exact wjm s
 ·rw[e];exact List.pairwise_map.2 (hn.imp λ{a b} hab he=>hab (whp he))
theorem zip_at{α β:Type}{B:List α}{vs:List β}{j:Nat}(hj:j<B.length)(hv:j<vs.length):(B.zip vs)[j]?=some (B[j],vs[j]):=by
 rw[List.getElem?_zip_eq_some];exact⟨List.getElem?_eq_getElem hj,List.getElem?_eq_getElem hv⟩
theorem wnx{α β:Type}:∀(B:List α) (vs:List β) (j:Nat) (x:α) (v:β),(B.set j x).zip (vs.set j v)=(B.zip vs).set j (x,v)
 |[],_,_,_,_=>by simp
 |_::_,[],_,_,_=>by simp
 |_::_,_::_,0,_,_=>rfl
 |_::B,_::vs,j+1,x,v=>by simp[wnx B vs j x v]
theorem esB_at{B:List (SL×List MG)}{vs:List Value}{j:Nat}(hj:j<B.length)(hv:j<vs.length):(esB B vs)[j]?=some (keyS (B[j]).1,vs[j]):=by
 unfold esB;rw[List.getElem?_map,zip_at hj hv];rfl
theorem fmB_at{B:List (SL×List MG)}{vs:List Value}{j:Nat}(hj:j<B.length)(hv:j<vs.length):(fmB B vs)[j]?=some (vs[j],(B[j]).2.length,waa (atM (B[j]).2)):=by
 unfold fmB;rw[List.getElem?_map,zip_at hj hv];rfl
theorem esB_sn{B:List (SL×List MG)}{vs:List Value}(h:vs.length=B.length)(x:SL×List MG)(v:Value):esB (B++[x]) (vs++[v])=esB B vs++[(keyS x.1,v)]:=by
 unfold esB;rw[List.zip_append h.symm];simp
theorem fmB_sn{B:List (SL×List MG)}{vs:List Value}(h:vs.length=B.length)(x:SL×List MG)(v:Value):fmB (B++[x]) (vs++[v])=fmB B vs++[(v,x.2.length,waa (atM x.2))]:=by
 unfold fmB;rw[List.zip_append h.symm];simp
theorem esB_set{B:List (SL×List MG)}{vs:List Value}{j:Nat}(x:SL×List MG)(v:Value):esB (B.set j x) (vs.set j v)=(esB B vs).set j (keyS x.1,v):=by
 unfold esB;rw[wnx,List.map_set]
theorem fmB_set{B:List (SL×List MG)}{vs:List Value}{j:Nat}(x:SL×List MG)(v:Value):fmB (B.set j x) (vs.set j v)=(fmB B vs).set j (v,x.2.length,waa (atM x.2)):=by
 unfold fmB;rw[wnx,List.map_set]
def obS(K:List ((List UInt8×Int)×Bool))(M:List MG)(i:OJ):St:=S_ob (esB (waf (mnL K M i.k)) i.vs) i.j K M i.k
def obF(K:List ((List UInt8×Int)×Bool))(M:List MG)(i:OJ):List FE:=fmB (waf (mnL K M i.k)) i.vs
def obI(K:List ((List UInt8×Int)×Bool))(M:List MG)(i:OJ):Prop:=i.k<=M.length/\i.vs.length=(waf (mnL K M i.k)).length
def obX(K:List ((List UInt8×Int)×Bool))(M:List MG):XQ:=λe F s=>∃(vs:List Value) (j:Nat),vs.length=(waf (mnL K M M.length)).length/\F=fmB (waf (mnL K M M.length)) vs/\Q_ob (esB (waf (mnL K M M.length)) vs) j e s
theorem wg9(es:List (AV×Value))(j:Nat)(K:List ((List UInt8×Int)×Bool))(M:List MG)(k:Nat):wbv (S_ob es j K M k).O True:=⟨λ_ _=>rfl,trivial⟩
theorem rv_oc(K:List ((List UInt8×Int)×Bool))(M:List MG)(i:OC):wbv (S_oi K M i).O True:=⟨λ_ _=>rfl,λ_ _=>rfl,trivial⟩
theorem wxo(hP:C.P=Tryz.prog){K:List ((List UInt8×Int)×Bool)}{M:List MG}(hn:M.length<=100000)(hK:(K.map Prod.fst).Nodup)(i:OJ)(hi:obI K M i):
  AWX C 0 72 47 15 (wax Tryz.f38 9) (λe F' s'=>match e with
   |.normal=>∃i',obI K M i'/\M.length - i'.k<M.length - i.k/\s'=obS K M i'/\F'=obF K M i'
   |e=>obX K M e F' s') (obF K M i) (obS K M i):=by
 have _:C.Loose:=inferInstance;obtain⟨k,vs,j⟩:=i;obtain⟨hk,hv⟩:=hi;have hk:k<=M.length:=hk;have hv:vs.length=(waf (mnL K M k)).length:=hv;have hc:wcp C [(77,.det wgf)]:=.cons (whr_ok hP) .nil;have hkey:=wh2 (t:=103) (vv:=AV.bool) (λ_ _=>ws8) keyA_D hK;have hget:Option.getD (mget (entG keyD .bool K) (.agg [.str (atM M k).dev,.q (atM M k).seq])) (zvA (.bool false))= .bool (clnM K (atM M k)):=by
  have e:=wf1 (vv:=AV.bool) wjo (mk2 (atM M k)) K;have e:mget (entG keyD .bool K) (.agg [.str (atM M k).dev,.q (atM M k).seq])=(getA K (mk2 (atM M k))).map AV.bool:=e;rw[e];unfold clnM
  cases getA K (mk2 (atM M k))<;>rfl
 show AWX C 0 72 _ 15 _ _ (fmB (waf (mnL K M k)) vs) (S_ob (esB (waf (mnL K M k)) vs) j K M k);have hbl:=wu2 (mnL K M k);have hml:=mnL_len K M k;have hB:=wi4 (mnL K M k);have hsn:=mnL_sn K M k;have hbn:∀x∈waf (mnL K M k),0<x.2.length/\x.2.length<=(mnL K M k).length:=λx hx=>wu1 hx
 by_cases hkn:k<M.length
 ·cases hcl:clnM K (atM M k) with
  |true=>
   rw[hcl,cond_true] at hsn;refine AWX.round (prg hP) _ 0 hc _ [3,4,25,26,27,2] [3,2] [] (S_ob (esB (waf (mnL K M k)) vs) j K M) (λk'=>k'=k+1) (λ_ _=>False) ?_ (λk=>wg9 _ _ _ _ k) (λk' hk'=>?_) (λ_ _ _ h=>h.elim)
   ·rw[wsg,tN7,hget,hcl];refine waj (λh1=>⟨⟨by omega,by omega⟩,⟨by omega,rfl⟩,⟨hkey,rfl⟩,?_⟩) (λh1=>absurd (by omega) h1);refine⟨by simp only[inR];omega,k+1,⟨rfl,?_⟩,rfl⟩;rw[wdg];exact⟨rfl,rfl,rQ7,rfl,rfl,trivial⟩
   ·subst hk';refine⟨⟨k+1,vs,j⟩,⟨by show k+1<=_;omega,by show vs.length=(waf (mnL K M (k+1))).length;rw[hsn];exact hv⟩,by show M.length - (k+1)<M.length - k;omega,?_,?_⟩
    ·show _=S_ob (esB (waf (mnL K M (k+1))) vs) j K M (k+1);rw[hsn]
    ·show _=fmB (waf (mnL K M (k+1))) vs;rw[hsn]
  |false=>
   rw[hcl,cond_false] at hsn;have hbk:waf (mnL K M (k+1))=putB (waf (mnL K M k)) (whr (atM M k)) (atM M k):=by rw[hsn,wh9]
   generalize waf (mnL K M k)=B at *;generalize mnL K M k=mn at *;have hes:=wpw hv;have hfs:=esB_fst hv;have hkr:=keysR hfs hB
   by_cases hs:whr (atM M k)∈B.map Prod.fst
   ·obtain⟨x,hx,hxs⟩:=List.mem_map.1 hs;obtain⟨q,hq,rfl⟩:=List.getElem_of_mem hx;have hqv:q<vs.length:=by omega
    have hat:=esB_at hq hqv;have hset:=putB_at (m:=atM M k) hB hq hxs;have hfl:(fmB B vs).length=B.length:=wt2 hv;have hfat:=fmB_at hq hqv;have hsplit:fmB B vs=(fmB B vs).take q++(vs[q],(B[q]).2.length,waa (atM (B[q]).2))::(fmB B vs).drop (q+1):=by
     have h2:(fmB B vs)[q]'(by omega)=(vs[q],(B[q]).2.length,waa (atM (B[q]).2)):=by
      rw[List.getElem?_eq_getElem (by omega)] at hfat;exact oJ7 hfat
     rw[← h2, ← List.drop_eq_getElem_cons (by omega),List.take_append_drop]
    refine AWX.focus (r:=4) (j:=j) (i0:=q) (es:=esB B vs) hsplit rfl (λp hp=>by rw[hat] at hp;rw[← oJ7 hp]) ?_;obtain⟨ρ,hw⟩:=wdk (te:=te) (m:=0) (F:=[3,4,25,26,27,2]) (s:=⟨[(3,.ptr 0 0),(4,.map 1),(25,.own 2 M.length),(26,.q M.length),(27,.q k),(2,.ptr 3 0)],[(4,.rmap (esB B vs) q (some (.own 5 (B[q]).2.length))),(5,.row 47 15 (B[q]).2.length (waa (atM (B[q]).2)) false),(0,.cells [.map 4,.nil] 72),(1,.amap (entG keyD .bool K)),(2,.row 47 15 M.length (waa (atM M)) false),(3,.cells [.nilmap,.nil] 72)],6,[]⟩) (s':=S_oc (esB B vs) q (B[q]).2 K M k) (by
     rw[nf_ox,wdg];exact⟨rfl,rfl,rfl,rQ7,rfl,rfl,rQ7,trivial⟩) (wb5 (rv_oc K M ⟨esB B vs,q,(B[q]).2,k⟩)).1
    refine AWX.weak hw ?_;have hlen:=hbn _ (List.getElem_mem hq);refine AWX.weakQ (AWX.unfocusQ (AWX.round (prg hP) _ 0 hc _ [3,4,25,26,27,2] [3,2] [] (S_oi K M) (λi'=>i'=⟨esB B vs,q,(B[q]).2++[atM M k],k+1⟩) (λ_ _=>False) ?_ (λi=>rv_oc K M i) (λi' hi'=>?_) (λ_ _ _ h=>h.elim)))
    ·rw[wyv,tN7,hget,hcl];refine waj (λh1=>⟨⟨by omega,by omega⟩,⟨by omega,rfl⟩,⟨hkey,rfl⟩,?_⟩) (λh1=>absurd (by omega) h1);have hm:(match (esB B vs)[q]? with | some x=>some x.1 | none=>none)=some (keyS (whr (atM M k))):=by rw[hat, ← hxs]
     refine⟨trivial,trivial,⟨hkr,hm⟩,⟨by omega,rfl,by omega⟩,⟨⟨lR7 _,rfl⟩,lR7 _,rfl,rfl,rfl,by omega,?_⟩,⟨hkr,hm⟩,by simp only[inR];omega,⟨esB B vs,q,(B[q]).2++[atM M k],k+1⟩,?_,rfl⟩
     ·show ((B[q]).2.length+1) * 176<=_;omega
     ·rw[wdg];have hl:((B[q]).2++[atM M k]).length=(B[q]).2.length+1:=by simp
      show TEq _ _/\wac _ [(0,.cells [.map 4,.nil] 72),(1,.amap (entG keyD .bool K)),(2,.row 47 15 M.length (waa (atM M)) false),(3,.cells [.nilmap,.nil] 72),(4,.rmap (esB B vs) q (some (.own 5 ((B[q]).2++[atM M k]).length))),(5,.row 47 15 ((B[q]).2++[atM M k]).length (waa (atM ((B[q]).2++[atM M k]))) false)];rw[hl];refine⟨rfl,rfl,rfl,rQ7,rfl,rfl,⟨rfl,rfl,rfl,rfl,rfl,λi hi=>?_⟩,trivial⟩;have hh:∀ch:Nat->List AV,ch 0=mgC (atM M k)->apF (B[q]).2.length (waa (atM (B[q]).2)) ch i=waa (atM ((B[q]).2++[atM M k])) i:=λch hch=>by
       have:=snocM (lR7 (B[q]).2.length) (m:=atM M k) ch hch i hi
       rwa [List.take_length] at this
      exact hh _ rfl
    ·subst hi';have hset2:∀v:Value,esB (waf (mnL K M (k+1))) (vs.set q v)=(esB B vs).set q (((esB B vs)[q]'(by omega)).1,v):=λv=>by
      rw[hbk,hset,esB_set];have:((esB B vs)[q]'(by omega)).1=keyS (whr (atM M k)):=by
       rw[List.getElem?_eq_getElem (by omega)] at hat;rw[oJ7 hat, ← hxs]
      rw[this]
     have hset3:∀v:Value,fmB (waf (mnL K M (k+1))) (vs.set q v)=(fmB B vs).take q++(v,(B[q]).2.length+1,waa (atM ((B[q]).2++[atM M k])))::(fmB B vs).drop (q+1):=λv=>by
      rw[hbk,hset,fmB_set,List.set_eq_take_append_cons_drop,if_pos (by omega)];simp
     refine .inr ⟨(fmB B vs).take q,(fmB B vs).drop (q+1),4,5,((B[q]).2++[atM M k]).length,q,waa (atM ((B[q]).2++[atM M k])),esB B vs,by omega,rfl,by decide,rfl,rfl,by simp,λi _=>rfl,λv=>?_⟩;obtain⟨ρ2,hw2⟩:=wdk (te:=te) (m:=0) (F:=[3,4,25,26,27,2]) (s:=⟨[(3,.ptr 0 0),(4,.map 1),(25,.own 2 M.length),(26,.q M.length),(27,.q ((k+1:Nat):Int)),(2,.ptr 3 0)],[(4,.rmap ((esB B vs).set q (((esB B vs)[q]'(by omega)).1,v)) q none),(0,.cells [.map 4,.nil] 72),(1,.amap (entG keyD .bool K)),(2,.row 47 15 M.length (waa (atM M)) false),(3,.cells [.nilmap,.nil] 72)],6,[]⟩) (s':=S_ob ((esB B vs).set q (((esB B vs)[q]'(by omega)).1,v)) q K M (k+1)) (by
      rw[nf_ow,wdg];exact⟨rfl,rfl,rfl,rQ7,rfl,rfl,trivial⟩) (wb5 (wg9 _ _ K M (k+1))).1
     refine⟨_,ρ2,hw2,⟨k+1,vs.set q v,q⟩,⟨by show k+1<=_;omega,?_⟩,by show M.length - (k+1)<M.length - k;omega,?_,?_⟩
     ·show (vs.set q v).length=(waf (mnL K M (k+1))).length;rw[hbk,hset,List.length_set,List.length_set];exact hv
     ·show _=S_ob (esB (waf (mnL K M (k+1))) (vs.set q v)) q K M (k+1);rw[hset2]
     ·show _=fmB (waf (mnL K M (k+1))) (vs.set q v);rw[hset3];simp
   ·have hnew:=wxe (m:=atM M k) hs;refine AWX.weakQ (AWX.unfocusQ (AWX.round (prg hP) _ 0 hc _ [3,4,25,26,27,2] [3,2] [] (S_oi K M) (λi'=>i'=⟨esB B vs++[(keyS (whr (atM M k)),default)],(esB B vs).length,[atM M k],k+1⟩) (λ_ _=>False) ?_ (λi=>rv_oc K M i) (λi' hi'=>?_) (λ_ _ _ h=>h.elim)))
    ·rw[wyt,tN7,hget,hcl];refine waj (λh1=>⟨⟨by omega,by omega⟩,⟨by omega,rfl⟩,⟨hkey,rfl⟩,?_⟩) (λh1=>absurd (by omega) h1);have hno:∀p∈esB B vs,p.1≠keyS (whr (atM M k)):=λp hp e=>by
      have h1:p.1∈(B.map Prod.fst).map keyS:=by rw[← hfs];exact List.mem_map_of_mem hp
      obtain⟨s,h2,h3⟩:=List.mem_map.1 h1;exact hs (whp (h3.trans e) ▸ h2)
     refine⟨trivial,trivial,⟨hkr,hno⟩,⟨by omega,rfl,by omega⟩,⟨⟨lR7 _,rfl⟩,rfl,by omega,by omega⟩,⟨hkr,hno⟩,by simp only[inR];omega,⟨esB B vs++[(keyS (whr (atM M k)),default)],(esB B vs).length,[atM M k],k+1⟩,?_,rfl⟩;rw[wdg];refine⟨rfl,rfl,rfl,rQ7,rfl,rfl,⟨rfl,rfl,rfl,rfl,rfl,λi hi=>?_⟩,trivial⟩;have hi:i<1:=hi;have:i=0:=by omega
     subst this;rfl
    ·subst hi';have hset2:∀v:Value,esB (waf (mnL K M (k+1))) (vs++[v])=esB B vs++[(keyS (whr (atM M k)),v)]:=λv=>by rw[hbk,hnew,esB_sn hv]
     have hset3:∀v:Value,fmB (waf (mnL K M (k+1))) (vs++[v])=fmB B vs++[(v,1,waa (atM [atM M k]))]:=λv=>by rw[hbk,hnew,fmB_sn hv];rfl
     refine .inr ⟨fmB B vs,[],4,5,1,(esB B vs).length,waa (atM [atM M k]),esB B vs++[(keyS (whr (atM M k)),default)],by simp,by simp,by decide,rfl,rfl,Nat.zero_lt_one,λi _=>rfl,λv=>?_⟩;have e:(esB B vs++[(keyS (whr (atM M k)),(default:Value))]).set (esB B vs).length (((esB B vs++[(keyS (whr (atM M k)),(default:Value))])[(esB B vs).length]'(by simp)).1,v)=esB B vs++[(keyS (whr (atM M k)),v)]:=by
      rw[List.set_append_right _ _ (lR7 _),Nat.sub_self];simp
     obtain⟨ρ2,hw2⟩:=wdk (te:=te) (m:=0) (F:=[3,4,25,26,27,2]) (s:=⟨[(3,.ptr 0 0),(4,.map 1),(25,.own 2 M.length),(26,.int .i64 M.length),(27,.int .i64 ((k+1:Nat):Int)),(2,.ptr 3 0)],[(4,.rmap ((esB B vs++[(keyS (whr (atM M k)),(default:Value))]).set (esB B vs).length (((esB B vs++[(keyS (whr (atM M k)),(default:Value))])[(esB B vs).length]'(by simp)).1,v)) (esB B vs).length none),(0,.cells [.map 4,.nil] 72),(1,.amap (entG keyD .bool K)),(2,.row 47 15 M.length (waa (atM M)) false),(3,.cells [.nilmap,.nil] 72)],6,[]⟩) (s':=S_ob (esB B vs++[(keyS (whr (atM M k)),v)]) (esB B vs).length K M (k+1)) (by
      rw[e,nf_ow,wdg];exact⟨rfl,rfl,rfl,rQ7,rfl,rfl,trivial⟩) (wb5 (wg9 _ _ K M (k+1))).1
     refine⟨_,ρ2,hw2,⟨k+1,vs++[v],(esB B vs).length⟩,⟨by show k+1<=_;omega,?_⟩,by show M.length - (k+1)<M.length - k;omega,?_,?_⟩
     ·show (vs++[v]).length=(waf (mnL K M (k+1))).length;rw[hbk,hnew,lA7,lA7,hv];rfl
     ·show _=S_ob (esB (waf (mnL K M (k+1))) (vs++[v])) _ K M (k+1);rw[hset2]
     ·show _=fmB (waf (mnL K M (k+1))) (vs++[v]);rw[hset3]
 ·have hkn:k=M.length:=by omega
  subst hkn;refine AWX.round (prg hP) _ 0 hc _ [3,4,25,26,27,2] [3,2] [] (S_ob (esB (waf (mnL K M M.length)) vs) j K M) (λ_=>False) (Q_ob (esB (waf (mnL K M M.length)) vs) j) ?_ (λk=>wg9 _ _ _ _ k) (λk' hk'=>hk'.elim) (λe s' _ h=>?_)
  ·rw[wsg];exact waj (λh1=>absurd h1 (by omega)) (λh1=>⟨rfl,rfl⟩)
  ·have he:=h.1;subst he;exact⟨vs,j,hv,rfl,h⟩
theorem ob_loop(hP:C.P=Tryz.prog)(K:List ((List UInt8×Int)×Bool))(M:List MG):wai C 0 72 (wak Tryz.f38 9) (L_ob K M):=by
 rintro st Q ⟨h0,hn,hK,hQ⟩;refine AWP.canonIs [3,4,25,26,27,2] h0 ?_ ⟨λ_ _=>rfl,trivial⟩;refine AWP.toR 4 rfl ?_;refine AWX.start (t:=47) (sz:=15) (Q:=obX K M) ?_ (λe F s' h=>?_)
 ·obtain⟨ρ,hw⟩:=wdk (te:=te) (m:=0) (F:=[3,4,25,26,27,2]) (s:=⟨[(3,.ptr 0 0),(4,.map 1),(25,.own 2 M.length),(26,.q M.length),(27,.q ((0:Nat):Int)),(2,.ptr 3 0)],[(4,.rmap [] 0 none),(0,.cells [.map 4,.nil] 72),(1,.amap (entG keyD .bool K)),(2,.row 47 15 M.length (waa (atM M)) false),(3,.cells [.nilmap,.nil] 72)],5,[]⟩) (s':=S_ob [] 0 K M 0) (by
   rw[nf_ow,wdg];exact⟨rfl,rfl,rfl,rQ7,rfl,rfl,trivial⟩) (wb5 (wg9 _ _ K M 0)).1
  exact AWX.loop (obS K M) (obF K M) (obI K M) (λi=>M.length - i.k) ⟨0,[],0⟩ ⟨zL7 _,rfl⟩ hw rfl (λi hi=>wxo hP hn hK i hi)
 ·obtain⟨vs,j,hv,rfl,rfl,rfl⟩:=h;generalize waf (mnL K M M.length)=B at *;have hlen:(entG keyS vwM B).length=B.length:=by simp[entG]
  refine⟨2,j,esB B vs,entG keyS vwM B,rfl,by rw[hlen,wpw hv],by rw[wt2 hv,wpw hv],λi p x p' h1 h2 h3=>?_,hQ⟩;have hi:i<B.length:=by rw[← hlen];exact(List.getElem?_eq_some_iff.1 h3).1
  have hi':i<vs.length:=by omega
  rw[esB_at hi hi'] at h1;rw[fmB_at hi hi'] at h2;have h4:(entG keyS vwM B)[i]?=some (keyS (B[i]).1,vwM (B[i]).2):=by
   unfold entG;rw[List.getElem?_map,List.getElem?_eq_getElem hi];rfl
  rw[h4] at h3;rw[← oJ7 h1, ← oJ7 h2, ← oJ7 h3];exact⟨rfl,rfl⟩
def atBk(B:List (SL×List MG))(i:Nat):SL×List MG:=B.getD i default
theorem w2k{B:List (SL×List MG)}{i:Nat}(h:i<B.length):(entG keyS vwM B).getD i (.any,.any)=(keyS (atBk B i).1,vwM (atBk B i).2):=by
 simp[entG,atBk,h]
theorem w3s{B:List (SL×List MG)}{i:Nat}(h:i<B.length):atBk B i∈B:=by
 unfold atBk;rw[List.getD_eq_getElem?_getD,List.getElem?_eq_getElem h];exact List.getElem_mem h
theorem ixo_has(l:List MG):(0<=ixB (λi=>isV (atM l i)) l.length)↔hasV l=true:=by
 rw[(wph (q:=λi=>isV (atM l i)) (n:=l.length)).1];obtain⟨h1,h2⟩:=wj0 (λi=>isV (atM l i)) l.length;unfold hasV;rw[List.any_eq_true]
 constructor
 ·intro h;exact⟨_,wks h,h2 h⟩
 ·rintro⟨m,hm,hv⟩;obtain⟨i,hi,rfl⟩:=mem_atM hm
  rcases Nat.lt_or_ge i (fstB (λi=>isV (atM l i)) l.length) with q | q
  ·have:=h1 i q;rw[show isV (atM l i)=false from this] at hv;cases hv
  ·omega
structure OdI (B:List (SL×List MG)) (i:OI):Prop where
 e:∃E:List (SL×List MG),(E++i.left.map (atBk B)).Perm B/\lst i.h i.c=(E.filter λx=>hasV x.2).map Prod.fst
 lt:∀x∈i.left,x<B.length
theorem od_loop(hP:C.P=Tryz.prog)(B:List (SL×List MG)):wai C 0 72 (wak Tryz.f38 15) (L_od B):=by
 have _:C.Loose:=inferInstance;rintro st Q ⟨h0,hn,hl,hQ⟩;refine AWP.ownNilP 3 1 78 3 ?_;have hlen:(entG keyS vwM B).length=B.length:=by simp[entG]
 refine wai.mk (prg hP) [(60,.det wmk)] 0 (.cons (cfo_ok hP) .nil) [3,54,2] [3,2] [] (S_od B) (OdI B) (λi=>i.left.length) ⟨0,λ_=>default,B.length,List.range B.length⟩ ⟨⟨[],?_,rfl⟩,λx hx=>List.mem_range.1 hx⟩ h0 (λi hi=>?_) (λi=>⟨λ_ _=>rfl,trivial⟩)
 ·have:(List.range B.length).map (atBk B)=B:=by
   apply List.ext_getElem
   ·simp
   ·intro i h1 h2;simp[atBk,h2]
  rw[List.nil_append,this]
 obtain⟨⟨E,hp,hh⟩,hlt⟩:=hi;have hcl:i.c+i.left.length<=B.length:=by
  have h1:=hp.length_eq;have h2:=congrArg List.length hh;have h3:=List.length_filter_le (λx:SL×List MG=>hasV x.2) E;simp[lst] at h1 h2 h3;omega
 rw[wyu];refine⟨hlen.symm,λhnil=>?_,λj hj=>?_⟩
 ·rw[wh3];rw[hnil,List.map_nil,List.append_nil] at hp;exact⟨λ_ _=>rfl,_,wa1 _,hQ E i.h i.c hp hh⟩
 ·have hjl:=hlt j hj;rw[w2k hjl,wh3,wh3];have herase:(i.left.erase j).length+1=i.left.length:=by
   rw[List.length_erase_of_mem hj];have:=List.length_pos_of_mem hj;omega
  have hpe:((E++[atBk B j])++(i.left.erase j).map (atBk B)).Perm B:=by
   rw[List.append_assoc,List.singleton_append, ← List.map_cons];exact(((List.perm_cons_erase hj).map (atBk B)).symm.append_left _).trans hp
  have hxl:=hl _ (w3s hjl);generalize atBk B j=x at *;have hhas:=ixo_has x.2;refine⟨⟨hlen.symm,hjl,rfl,rfl⟩,⟨?_,rfl⟩,waj (λh=>?_) (λh=>?_)⟩
  ·show x.2.length<=1000000;omega
  ·have hv:=hhas.1 h;refine⟨⟨by omega,rfl,by omega⟩,⟨⟨lR7 _,rfl⟩,lR7 _,rfl,rfl,rfl,by omega,?_⟩,⟨i.c+1,λk=>if k<i.c then i.h k else x.1,j,i.left.erase j⟩,⟨rfl,rfl,rfl,rfl,rfl,⟨rfl,rfl,rfl,rfl,rfl,λk hk=>?_⟩,trivial⟩,⟨⟨E++[x],hpe,?_⟩,λy hy=>hlt y (List.mem_of_mem_erase hy)⟩,by show (i.left.erase j).length<_;omega⟩
   ·show (i.c+1) * 40<=_;omega
   ·have hk:k<i.c+1:=hk;unfold apF wal
    by_cases h:k<i.c
    ·simp only[h,if_true]
    ·have:k=i.c:=by omega
     subst this;simp only[Nat.lt_irrefl,if_false,Nat.sub_self];rfl
   ·show lst (λk=>if k<i.c then i.h k else x.1) (i.c+1)=_
    rw[whl,if_neg (Nat.lt_irrefl _),List.filter_append,List.map_append,List.filter_cons_of_pos (by exact hv), ← hh];have e1:lst (λk=>if k<i.c then i.h k else x.1) i.c=lst i.h i.c:=List.map_congr_left λk hk=>by rw[if_pos (List.mem_range.1 hk)]
    rw[e1];rfl
  ·have hv:hasV x.2=false:=by
    cases hq:hasV x.2 with
    |false=>rfl
    |true=>exact absurd (hhas.2 hq) h
   refine⟨⟨i.c,i.h,j,i.left.erase j⟩,⟨rfl,rfl,rfl,rfl,rfl,⟨rfl,rfl,rfl,rfl,rfl,λk hk=>rfl⟩,trivial⟩,⟨⟨E++[x],hpe,?_⟩,λy hy=>hlt y (List.mem_of_mem_erase hy)⟩,by show (i.left.erase j).length<_;omega⟩;show lst i.h i.c=_;rw[List.filter_append,List.filter_cons_of_neg (by rw[hv];exact Bool.false_ne_true),hh];simp
theorem nf_open(g:Nat->MG)(n:Nat)(K:List (List UInt8×Int))(Kb:List ((List UInt8×Int)×Bool))(M:List MG)(B:List (SL×List MG))(R:oR7):wpFn te [(75,.det wmj),(76,.det wev),(43,.rel wgx)] [(4,L_oa g n K),(9,L_ob Kb M),(15,L_od B)] 0 Tryz.f38 [.view 15 n (waa g)] [] R=(letI z9:=([(3,.ptr 0 0),(54,.ptr 1 0),(2,.ptr 2 0)]:tL7);letI z8:=ren 0 [(0,0),(3,1),(1,2),(2,3),(4,4)];letI z4:=mgOf (waa g);letI z7:=mrgL z4 n noM 0;letI z5:=(n<=100000/\waa g=waa z4/\∀(i:Nat),i<n->MG.Sm (mgOf (waa g) i));letI z3:=ren 0 [(0,0),(1,1),(4,2),(2,3),(3,4)];letI z2:=entG keyS vwM (waf (mnL Kb M M.length));letI z1:=(List.map (λ(p:AV×AV)=>(AV.rn (ren 0 [(2,0),(4,1),(0,2),(1,3)]) p.1,AV.rn (ren 0 [(2,0),(4,1),(0,2),(1,3)]) p.2)) []);letI z0:=(OI.mk 0 (λ(_x:Nat)=>default) B.length (List.range B.length));z5/\some (St.mk [(0,.view 15 n (waa g)),(3,.ptr 0 0),(4,.map 1),(15,.view 2 (wb7 z4 n).length (wcb (atK (wb7 z4 n)))),(16,.q (↑(wb7 z4 n).length:Int)),(17,.q 0),(2,.ptr 2 0)] [(0,.cells [.map 3,.nil] 72),(1,.amap z1),(2,.cells [.nilmap,.nil] 72),(3,.amap z1)] 4 [])=some (St.mk [(0,.view 15 n (waa g)),(3,.ptr 0 0),(4,.map 1),(15,.view 2 K.length (wcb (atK K))),(16,.q (K.length:Int)),(17,.q (↑0:Int)),(2,.ptr 2 0)] [(0,.cells [.map 3,.nil] 72),(1,.amap (entG keyD .bool (ckL K 0))),(2,.cells [.nilmap,.nil] 72),(3,.amap [])] 4 [])/\K.length<=100000/\z5/\(∀(i:Nat),i<z7.length->true=true)/\(TEq [(3,.ptr 0 0),(4,.map 1),(25,.own 2 z7.length),(26,.q (z7.length:Int)),(27,.q 0),(2,.ptr 3 0)] [(3,.ptr 0 0),(4,.map 1),(25,.own 2 M.length),(26,.q (M.length:Int)),(27,.q 0),(2,.ptr 3 0)]/\wac [(0,.cells [.map 4,.nil] 72),(1,.amap (List.map (λ(p:AV×AV)=>(AV.rn z3 p.1,AV.rn z3 p.2)) (entG keyD .bool (ckL K K.length)))),(2,.row 47 15 z7.length (waa (atM z7)) false),(3,.cells [.nilmap,.nil] 72),(4,.amap (List.map (λ(p:AV×AV)=>(AV.rn z3 p.1,AV.rn z3 p.2)) []))] [(0,.cells [.map 4,.nil] 72),(1,.amap (entG keyD .bool Kb)),(2,.row 47 15 M.length (waa (atM M)) false),(3,.cells [.nilmap,.nil] 72),(4,.amap [])])/\M.length<=100000/\List.Nodup (List.map Prod.fst Kb)/\(TEq z9 z9/\wac [(0,.cells [.map 3,.own 4 0] 72),(1,.miter 3 z2.length (69::z2.length::List.range z2.length)),(2,.cells [.nilmap,.nil] 72),(3,.amap (List.map (λ(p:AV×AV)=>(AV.rn z8 p.1,AV.rn z8 p.2)) z2)),(4,.row 78 3 0 (λ(_x:Nat)=>[]) false)] [(0,.cells [.map 3,.own 4 0] 72),(1,.miter 3 B.length (69::OI.c0 z0::OI.left z0)),(2,.cells [.nilmap,.nil] 72),(3,.amap (entG keyS vwM B)),(4,.row 78 3 0 (wal (OI.h z0)) false)])/\B.length<=100000/\(∀(x:SL×List MG),x∈B->x.2.length<=100000)/\∀(E:List (SL×List MG)) (h:Nat->SL) (c:Nat),letI z6:=(∀(i:Nat),i<c->true=true:Prop);List.Perm E B->lst h c=List.map Prod.fst (List.filter (λ(x:SL×List MG)=>hasV x.2) E)->z6/\78=78/\false=false/\c=c/\c<=1000000/\wal h=wal (slOf (wal h))/\∀(h_1:Nat->SL),List.Perm (lst h_1 c) (lst (slOf (wal h)) c)->(∀(i j:Nat),i<j->j<c->¬ordS (h_1 j) (h_1 i)<0)->z6/\(True/\True)/\z6/\∃(O':oL7),wac [(0,.amap (List.map (λ(p:AV×AV)=>(AV.rn (ren 0 [(2,0),(3,1)]) p.1,AV.rn (ren 0 [(2,0),(3,1)]) p.2)) (entG keyS vwM B))),(1,.row 78 3 c (wal h_1) false)] O'/\R (.agg [.map 0,.own 1 c]) O'):=by kernel_rfl
theorem wsw{g:Nat->SL}{L:List SL}{n:Nat}(h:lst g n=L):n=L.length/\∀i,i<n->g i=atS L i:=by
 subst h;refine⟨by simp[lst],λi hi=>?_⟩;simp[atS,lst,hi]
theorem w2i{B:List (SL×List MG)}:∀p∈entG keyS vwM B,nref p.1=true/\nref p.2=true:=λp hp=>by
 obtain⟨x,_,rfl⟩:=List.mem_map.1 hp;exact⟨rfl,rfl⟩
theorem woq(hP:C.P=Tryz.prog)(hL:∀w,C.laid w->LaidW w):wae C 38 wes:=by
 rintro args objs U Os vc h hvc;unfold wes at h;split at h<;>cases h;rename_i n f;obtain⟨hn,hf,hs⟩:=hvc;generalize mgOf f=g at *;subst hf;refine wat.frzO 1 (wat.frzMO 0 ?_)
 refine wa8.wpL (prg hP) [(75,.det wmj),(76,.det wev),(43,.rel wgx)]
  [(4,L_oa g n (wb7 g n)),(9,L_ob (ckL (wb7 g n) (wb7 g n).length) (mrgL g n noM 0)),(15,L_od (waf (wah g n)))] 0 (.cons (w23 hP hL) (.cons (wox hP hL) (.cons (wq6 hP) .nil))) (hP ▸ Tryz.func38) rfl rfl rfl
  [(wak Tryz.f38 4,L_oa g n (wb7 g n)),(wak Tryz.f38 9,L_ob (ckL (wb7 g n) (wb7 g n).length) (mrgL g n noM 0)),(wak Tryz.f38 15,L_od (waf (wah g n)))] (by kernel_rfl)
  ⟨oa_loop hP g n _,ob_loop hP _ _,od_loop hP _,trivial⟩ ?_
 rw[nf_open];have hg:mgOf (waa g)=g:=rfl;have hcl:(wb7 g n).length<=n:=Nat.le_trans (wkj _ _) (wfz g n noM 0);have hml:(mrgL g n noM 0).length<=n:=wfz g n noM 0;have hrl:=wof g n;have hbl:=wu2 (wah g n);have hlen:(entG keyS vwM (waf (wah g n))).length=(waf (wah g n)).length:=by simp[entG]
 rw[hg,w0s,hlen];refine⟨⟨hn,rfl,hs⟩,rfl,by omega,⟨hn,rfl,hs⟩,λ_ _=>rfl,⟨rfl,rfl,?_,rQ7,rfl,rfl,trivial⟩,by omega,wqa _ _,⟨rfl,rfl,rfl,rfl,?_,⟨rfl,rfl,rfl,rfl,rfl,λi hi=>absurd hi (nZ7 i)⟩,trivial⟩,by omega,
  λx hx=>Nat.le_trans (wu1 hx).2 (by omega),λE h c hE hh=>⟨λ_ _=>rfl,rfl,rfl,rfl,?_,rfl,λh1 hp hsort=>⟨λ_ _=>rfl,⟨trivial,trivial⟩,λ_ _=>rfl,?_⟩⟩⟩
 ·rw[wdg]
 ·rw[wh3]
 ·have h1:=congrArg List.length hh;have h2:=List.length_filter_le (λx:SL×List MG=>hasV x.2) E;have h3:=hE.length_eq;simp[lst] at h1 h2;omega
 ·have hp:(lst h1 c).Perm (lst h c):=hp;rw[hh] at hp;have hV:=wvu hE hp (wr3 λi j hij hj=>hsort i j hij hj);obtain⟨hc,hat⟩:=wsw hV;rw[wh3];refine⟨[(0,.amap (entG keyS vwM (waf (wah g n)))),(1,.row 78 3 c (wal (atS (visL (wah g n)))) false)],⟨rfl,⟨rfl,rfl,rfl,rfl,rfl,λi hi=>?_⟩,trivial⟩,w2i,λ_ _=>rfl,?_⟩
  ·unfold wal;rw[hat i hi]
  ·have hb:Nat.ble c c=true:=Nat.ble_eq_true_of_le (lR7 _);rw[hc] at hb ⊢
   constructor
   ·simp[frzMA,frzM,frzC,frzA,frz,hb,hlen]
   ·rfl
end Go.Eng
