/- Replacements. -/
import Derived.Test.YtmcdngcjakjnmaaGreatDoorJvza
namespace Go.Eng
open Go.Proofs Go.RowKit
variable {C:Ctx} [C.Loose]
set_option maxRecDepth 20000
theorem w0f(R:List MG)(k:Nat)(P:Nat->Prop)(Q:eR7):wat ⟨te,[(39,.det (wmt R)),(40,.det wnz)],[],0,189,0⟩ (wav Tryz.f17 6) [3,4,5,6,7,35,36,37] [3,4,5,6,7] [] (S_u1 R) P Q (S_u1 R k)=(letI z23:=entG keyS vwM (wal R);letI z13:=(wal R).length;letI z11:=entF z23;letI z10:=ren 0 [(0,0),(1,1),(2,2),(3,3),(76,4)];letI z9:=wau (atS (visL R));letI z8:=(visL R).length;letI z7:=ob1 R (visL R) k;letI z24:=wa1 (OB.p z7);letI z21:=(OB.r z7).length+1;letI z20:=entE (OB.e z7);letI z19:=wam (atX (OB.r z7));letI z15:=(OB.r z7).length;letI z6:=([(3,.ptr 0 0),(4,.map 1),(5,.map 2),(6,.map 3),(7,.own 4 z15),(35,.view 3 z8 z9),(36,.q (z8:Int)),(37,.q ((k:Int)+1))]:tL7);letI z4:=(atS (visL R) (k:Int).toNat);letI z22:=resB R (SL.mk (SL.o z4) (SL.p z4) (SL.per z4));letI z18:=mset z20 (.agg [.str (SL.o z4),.str (SL.p z4)]) (.q (SL.per z4));letI z14:=mget z20 (.agg [.str (SL.o z4),.str (SL.p z4)]);letI z3:=ren 0 [(0,0),(1,1),(2,2),(3,3),(4,4)];letI z17:=(List.map (λ(p:AV×AV)=>(AV.rn z3 p.1,AV.rn z3 p.2)) z20);letI z16:=(List.map (λ(p:AV×AV)=>(AV.rn z3 p.1,AV.rn z3 p.2)) z24);letI z12:=(List.map (λ(p:AV×AV)=>(AV.rn z3 p.1,AV.rn z3 p.2)) []);letI z5:=([(0,.cells [AV.vmap z13 z11,.view 3 z8 z9] 72),(1,.amap z17),(2,.amap z16),(3,.amap z12),(4,.row 43 7 z15 z19 false)]:oL7);letI z1:=z22.1;letI z2:=(wa9 te 78 z24/\inR .i64 ((k:Int)+1)/\∃(i':Nat),(TEq z6 [(3,.ptr 0 0),(4,.map 1),(5,.map 2),(6,.map 3),(7,.own 4 (OB.r (ob1 R (visL R) i')).length),(35,.view 3 z8 z9),(36,.q (z8:Int)),(37,.q (i':Int))]/\wac [(0,.cells [AV.vmap z13 z11,.view 3 z8 z9] 72),(1,.amap z17),(2,.amap (List.map (λ(p:AV×AV)=>(AV.rn z3 p.1,AV.rn z3 p.2)) (mset z24 (.agg [.str (SL.o z4),.str (SL.p z4),.q (SL.per z4)]) (.q z1.pr)))),(3,.amap z12),(4,.row 43 7 z15 z19 false)] [(0,.cells [AV.vmap z13 z11,.view 3 z8 z9] 72),(1,.amap (entE (OB.e (ob1 R (visL R) i')))),(2,.amap (wa1 (OB.p (ob1 R (visL R) i')))),(3,.amap []),(4,.row 43 7 (OB.r (ob1 R (visL R) i')).length (wam (atX (OB.r (ob1 R (visL R) i')))) false)])/\P i');letI z0:=(inR .i64 ((k:Int)+1)/\∃(i':Nat),(TEq z6 [(3,.ptr 0 0),(4,.map 1),(5,.map 2),(6,.map 3),(7,.own 4 (OB.r (ob1 R (visL R) i')).length),(35,.view 3 z8 z9),(36,.q (z8:Int)),(37,.q (i':Int))]/\wac z5 [(0,.cells [AV.vmap z13 z11,.view 3 z8 z9] 72),(1,.amap (entE (OB.e (ob1 R (visL R) i')))),(2,.amap (wa1 (OB.p (ob1 R (visL R) i')))),(3,.amap []),(4,.row 43 7 (OB.r (ob1 R (visL R) i')).length (wam (atX (OB.r (ob1 R (visL R) i')))) false)])/\P i');wab (decide ((k:Int)<(z8:Int))) (((0:Int)<=(k:Int)/\(k:Int)<(z8:Int)/\3=3)/\((wal R).length=(wal R).length/\entF z23=entF z23/\BkOK R/\SL.mk (SL.o z4) (SL.p z4) (SL.per z4)∈visL R)/\(wh4 te 79 z20/\.q (way (Option.getD z14 (zvA (.q 0))))=Option.getD z14 (zvA (.q 0)))/\wab (Option.isSome z14) z0 (wab (!decide (z22.2=1)) z0 (True/\wab (finB (VT.mk z1.o z1.p z1.per z1.day z1.st z1.pr z1.rep)) (wh4 te 79 z20/\wab (decide (z1.st=5)) ((7<=16777216/\7=7/\1<=9223372036854775807)/\((1<=1/\7=7)/\(OB.r z7).length<=(OB.r z7).length/\7=7/\43=43/\7=7/\(OB.r z7).length+1<=9223372036854775807/\z21 * 80<=140737488355328)/\inR .i64 ((k:Int)+1)/\∃(i':Nat),(TEq [(3,.ptr 0 0),(4,.map 1),(5,.map 2),(6,.map 3),(7,.own 4 z21),(35,.view 3 z8 z9),(36,.q (z8:Int)),(37,.q ((k:Int)+1))] [(3,.ptr 0 0),(4,.map 1),(5,.map 2),(6,.map 3),(7,.own 4 (OB.r (ob1 R (visL R) i')).length),(35,.view 3 z8 z9),(36,.q (z8:Int)),(37,.q (i':Int))]/\wac [(0,.cells [AV.vmap z13 z11,.view 3 z8 z9] 72),(1,.amap (List.map (λ(p:AV×AV)=>(AV.rn z10 p.1,AV.rn z10 p.2)) z18)),(2,.amap (List.map (λ(p:AV×AV)=>(AV.rn z10 p.1,AV.rn z10 p.2)) z24)),(3,.amap (List.map (λ(p:AV×AV)=>(AV.rn z10 p.1,AV.rn z10 p.2)) [])),(4,.row 43 7 z21 (apF z15 z19 (war 7 (.str z1.o:: .str z1.p:: .q z1.per:: .q z1.day:: .q z1.st:: .q z1.pr:: .str z1.rep::List.append [] wgn))) false)] [(0,.cells [AV.vmap z13 z11,.view 3 z8 z9] 72),(1,.amap (entE (OB.e (ob1 R (visL R) i')))),(2,.amap (wa1 (OB.p (ob1 R (visL R) i')))),(3,.amap []),(4,.row 43 7 (OB.r (ob1 R (visL R) i')).length (wam (atX (OB.r (ob1 R (visL R) i')))) false)])/\P i') (inR .i64 ((k:Int)+1)/\∃(i':Nat),(TEq z6 [(3,.ptr 0 0),(4,.map 1),(5,.map 2),(6,.map 3),(7,.own 4 (OB.r (ob1 R (visL R) i')).length),(35,.view 3 z8 z9),(36,.q (z8:Int)),(37,.q (i':Int))]/\wac [(0,.cells [AV.vmap z13 z11,.view 3 z8 z9] 72),(1,.amap (List.map (λ(p:AV×AV)=>(AV.rn z3 p.1,AV.rn z3 p.2)) z18)),(2,.amap z16),(3,.amap z12),(4,.row 43 7 z15 z19 false)] [(0,.cells [AV.vmap z13 z11,.view 3 z8 z9] 72),(1,.amap (entE (OB.e (ob1 R (visL R) i')))),(2,.amap (wa1 (OB.p (ob1 R (visL R) i')))),(3,.amap []),(4,.row 43 7 (OB.r (ob1 R (visL R) i')).length (wam (atX (OB.r (ob1 R (visL R) i')))) false)])/\P i')) (wab (decide (z1.st=1)) z2 (wab (decide (z1.st=2)) z2 z0))))) ((∀(i:Nat),i<(OB.r z7).length->true=true)/\∃(O':oL7),wac z5 O'/\Q (.exit 0) (St.mk [(3,.ptr 0 0),(4,.map 1),(5,.map 2),(6,.map 3),(7,.own 4 z15)] O' 5 []))):=by kernel_rfl
theorem w0e(R:List MG)(k:Nat)(P:Nat->Prop)(Q:eR7):wat ⟨te,[(41,.det S_bs)],[],0,189,0⟩ (wav Tryz.f17 20) [3,4,5,6,91,92,93] [5,6] [] (S_u2 R) P Q (S_u2 R k)=(letI z21:=entW (OW.w (obW R k));letI z20:=ren 0 [(2,0),(3,1)];letI z18:=zvA (.q 0);letI z17:=wam (atX (repL R));letI z16:=(wal R).length;letI z13:=(visL R).length;letI z12:=entF (entG keyS vwM (wal R));letI z9:=wa1 (OW.p (obW R k));letI z8:=wau (atS (visL R));letI z7:=(repL R).length;letI z5:=([(3,.ptr 0 0),(4,.map 1),(5,.map 2),(6,.map 3),(91,.own 4 z7),(92,.q (z7:Int)),(93,.q ((k:Int)+1))]:tL7);letI z4:=ren 0 [(0,0),(1,1),(2,2),(3,3),(4,4)];letI z15:=(List.map (λ(p:AV×AV)=>(AV.rn z4 p.1,AV.rn z4 p.2)) z21);letI z10:=(List.map (λ(p:AV×AV)=>(AV.rn z4 p.1,AV.rn z4 p.2)) (entE (obE R)));letI z3:=(atX (repL R) (k:Int).toNat);letI z19:=SL.mk z3.o z3.rep z3.per;letI z11:=mget (entE (obE R)) (.agg [.str z3.o,.str z3.rep]);letI z6:=([.str z3.o,.str z3.rep,.q z3.per]:List AV);letI z22:=mget z9 (.agg z6);letI z14:=(List.map (λ(p:AV×AV)=>(AV.rn z4 p.1,AV.rn z4 p.2)) (mset z9 (.agg z6) (.q z3.pr)));letI z2:=(inR .i64 ((k:Int)+1)/\∃(i':Nat),(TEq z5 [(3,.ptr 0 0),(4,.map 1),(5,.map 2),(6,.map 3),(91,.own 4 z7),(92,.q (z7:Int)),(93,.q (i':Int))]/\wac [(0,.cells [AV.vmap z16 z12,.view 3 z13 z8] 72),(1,.amap z10),(2,.amap (List.map (λ(p:AV×AV)=>(AV.rn z4 p.1,AV.rn z4 p.2)) z9)),(3,.amap z15),(4,.row 43 7 z7 z17 false)] [(0,.cells [AV.vmap z16 z12,.view 3 z13 z8] 72),(1,.amap (entE (obE R))),(2,.amap (wa1 (OW.p (obW R i')))),(3,.amap (entW (OW.w (obW R i')))),(4,.row 43 7 z7 z17 false)])/\P i');letI z1:=(wa9 te 78 z9/\inR .i64 ((k:Int)+1)/\∃(i':Nat),(TEq z5 [(3,.ptr 0 0),(4,.map 1),(5,.map 2),(6,.map 3),(91,.own 4 z7),(92,.q (z7:Int)),(93,.q (i':Int))]/\wac [(0,.cells [AV.vmap z16 z12,.view 3 z13 z8] 72),(1,.amap z10),(2,.amap z14),(3,.amap z15),(4,.row 43 7 z7 z17 false)] [(0,.cells [AV.vmap z16 z12,.view 3 z13 z8] 72),(1,.amap (entE (obE R))),(2,.amap (wa1 (OW.p (obW R i')))),(3,.amap (entW (OW.w (obW R i')))),(4,.row 43 7 z7 z17 false)])/\P i');letI z0:=((wa9 te 78 z9/\.q (way (Option.getD z22 z18))=Option.getD z22 z18)/\wab (Option.isSome z22) (wab (!decide (way (Option.getD z22 z18)=z3.pr)) (wa9 te 78 z21/\wa9 te 78 z9/\inR .i64 ((k:Int)+1)/\∃(i':Nat),(TEq z5 [(3,.ptr 0 0),(4,.map 1),(5,.map 2),(6,.map 3),(91,.own 4 z7),(92,.q (z7:Int)),(93,.q (i':Int))]/\wac [(0,.cells [AV.vmap z16 z12,.view 3 z13 z8] 72),(1,.amap z10),(2,.amap z14),(3,.amap (List.map (λ(p:AV×AV)=>(AV.rn z4 p.1,AV.rn z4 p.2)) (mset z21 (.agg z6) (.bool true)))),(4,.row 43 7 z7 z17 false)] [(0,.cells [AV.vmap z16 z12,.view 3 z13 z8] 72),(1,.amap (entE (obE R))),(2,.amap (wa1 (OW.p (obW R i')))),(3,.amap (entW (OW.w (obW R i')))),(4,.row 43 7 z7 z17 false)])/\P i') z1) z1:Prop);wab (decide ((k:Int)<(z7:Int))) (((0:Int)<=(k:Int)/\(k:Int)<(z7:Int))/\((k:Int).toNat<(repL R).length/\7=7)/\(wh4 te 79 (entE (obE R))/\.q (way (Option.getD z11 z18))=Option.getD z11 z18)/\((visL R).length<=1000000/\wau (atS (visL R))=wau (slOf z8)/\∀(i j:Nat),i<j->j<(visL R).length->ordS (slOf z8 i) (slOf z8 j)<0)/\wab (decide (bsF (slOf z8) z19 z13<(visL R).length) && decide (ordS (slOf z8 (bsF (slOf z8) z19 z13)) z19=0)) z2 (wab (Option.isSome z11) (wab (decide (way (Option.getD z11 z18)<z3.per)) z2 z0) z0)) (Q (.exit 3) (St.mk [(5,.map 0),(6,.map 1)] [(0,.amap (List.map (λ(p:AV×AV)=>(AV.rn z20 p.1,AV.rn z20 p.2)) z9)),(1,.amap (List.map (λ(p:AV×AV)=>(AV.rn z20 p.1,AV.rn z20 p.2)) z21))] 2 []))):=by kernel_rfl
theorem w0d(L:List (SL×Int))(W:List (SL×Bool))(i:OI)(P:OI->Prop)(Q:eR7):wat ⟨te,[],[],0,189,0⟩ (wav Tryz.f17 33) [5,6,24,152] [5,24] [] (S_u3 L W) P Q (S_u3 L W i)=(letI z3:=ren 0 [(0,0),(1,1),(2,2),(3,3)];letI z2:=ren 0 [(0,0),(1,1),(39,2),(3,3)];L.length=(wa1 L).length/\(OI.left i=[]->(∀(i_1:Nat),i_1<OI.c i->true=true)/\∃(O':oL7),wac [(0,.amap (List.map (λ(p:AV×AV)=>(AV.rn (ren 0 [(0,0),(2,1)]) p.1,AV.rn (ren 0 [(0,0),(2,1)]) p.2)) (wa1 L))),(1,.row 78 3 (OI.c i) (wau (OI.h i)) false)] O'/\Q (.exit 5) (St.mk [(5,.map 0),(24,.own 1 (OI.c i))] O' 2 []))/\∀(i_1:Nat),letI z1:=List.getD (wa1 L) i_1 (.any,.any);letI z5:=way (wcr z1.1 (0+1+1));letI z0:=([.str (wco (wcr z1.1 0)),.str (wco (wcr z1.1 (0+1))),.q z5]:List AV);letI z4:=Option.getD (mget (entW W) (.agg z0)) (zvA (.bool false));i_1∈OI.left i->(L.length=(wa1 L).length/\i_1<L.length/\.agg z0=z1.1/\.q (way z1.2)=z1.2)/\(wa9 te 78 (entW W)/\.bool (wcs z4)=Option.getD (mget (entW W) (.agg z0)) (zvA (.bool false)))/\wab (!wcs z4) ((3<=16777216/\3=3/\1<=9223372036854775807)/\((1<=1/\3=3)/\OI.c i<=OI.c i/\3=3/\78=78/\3=3/\OI.c i+1<=9223372036854775807/\(OI.c i+1) * 40<=140737488355328)/\∃(i':OI),(TEq [(5,.map 0),(6,.map 1),(24,.own 2 (OI.c i+1)),(152,.ptr 3 0)] [(5,.map 0),(6,.map 1),(24,.own 2 (OI.c i')),(152,.ptr 3 0)]/\wac [(0,.amap (List.map (λ(p:AV×AV)=>(AV.rn z2 p.1,AV.rn z2 p.2)) (wa1 L))),(1,.amap (List.map (λ(p:AV×AV)=>(AV.rn z2 p.1,AV.rn z2 p.2)) (entW W))),(2,.row 78 3 (OI.c i+1) (apF (OI.c i) (wau (OI.h i)) (war 3 (.str (wco (wcr z1.1 0)):: .str (wco (wcr z1.1 (0+1))):: .q z5::List.append [] (List.flatten (List.replicate (nat_lit 0) [.str ([]),.str ([]),.q 0]))))) false),(3,.miter 0 L.length (75::i_1::List.erase (OI.left i) i_1))] [(0,.amap (wa1 L)),(1,.amap (entW W)),(2,.row 78 3 (OI.c i') (wau (OI.h i')) false),(3,.miter 0 L.length (75::OI.c0 i'::OI.left i'))])/\P i') (∃(i':OI),(TEq [(5,.map 0),(6,.map 1),(24,.own 2 (OI.c i)),(152,.ptr 3 0)] [(5,.map 0),(6,.map 1),(24,.own 2 (OI.c i')),(152,.ptr 3 0)]/\wac [(0,.amap (List.map (λ(p:AV×AV)=>(AV.rn z3 p.1,AV.rn z3 p.2)) (wa1 L))),(1,.amap (List.map (λ(p:AV×AV)=>(AV.rn z3 p.1,AV.rn z3 p.2)) (entW W))),(2,.row 78 3 (OI.c i) (wau (OI.h i)) false),(3,.miter 0 L.length (75::i_1::List.erase (OI.left i) i_1))] [(0,.amap (wa1 L)),(1,.amap (entW W)),(2,.row 78 3 (OI.c i') (wau (OI.h i')) false),(3,.miter 0 L.length (75::OI.c0 i'::OI.left i'))])/\P i')):=by kernel_rfl
theorem w0c(E:List (SL×Int))(L:List SL)(pr:SL->Int)(k:Nat)(P:Nat->Prop)(Q:eR7):wat ⟨te,[(44,.det wea)],[],0,189,0⟩ (wav Tryz.f17 40) [5,26,167,168,169] [26] [] (S_u4 E L pr) P Q (S_u4 E L pr k)=(letI z3:=L.length;letI z1:=(atS L (k:Int).toNat);letI z0:=(mget (wa1 E) (.agg [.str (SL.o z1),.str (SL.p z1),.q (SL.per z1)]));letI z2:=Option.getD z0 (zvA (.q 0));wab (decide ((k:Int)<(z3:Int))) (((0:Int)<=(k:Int)/\(k:Int)<(z3:Int))/\((k:Int).toNat<L.length/\3=3)/\(wa9 te 78 (wa1 E)/\.q (way z2)=Option.getD z0 (zvA (.q 0)))/\((0:Int)<=way z2/\way z2<9223372036854775808)/\(6<=16777216/\6=6/\1<=9223372036854775807)/\((1<=1/\6=6)/\k<=k/\6=6/\41=41/\6=6/\k+1<=9223372036854775807/\(k+1) * 96<=140737488355328)/\inR .i64 ((k:Int)+1)/\∃(i':Nat),(TEq [(5,.map 0),(26,.own 1 (k+1)),(167,.own 2 z3),(168,.q (z3:Int)),(169,.q ((k:Int)+1))] [(5,.map 0),(26,.own 1 i'),(167,.own 2 z3),(168,.q (z3:Int)),(169,.q (i':Int))]/\wac [(0,.amap (List.map (λ(p:AV×AV)=>(AV.rn (ren 0 [(0,0),(213,1),(2,2)]) p.1,AV.rn (ren 0 [(0,0),(213,1),(2,2)]) p.2)) (wa1 E))),(1,.row 41 6 (k+1) (apF k (wbm L pr) (war 6 (.str (SL.o z1):: .str (SL.p z1):: .q (SL.per z1):: .bool false:: .view 1 (lmN (way z2)) (uRow (lmF (way z2))):: .nil::List.append [] (List.flatten (List.replicate (nat_lit 0) [.str ([]),.str ([]),.q 0,.bool false,.nil,.nil]))))) false),(2,.row 78 3 z3 (wau (atS L)) false)] [(0,.amap (wa1 E)),(1,.row 41 6 i' (wbm L pr) false),(2,.row 78 3 z3 (wau (atS L)) false)])/\P i') ((∀(i:Nat),i<k->true=true)/\∃(O':oL7),wac [(0,.row 41 6 k (wbm L pr) false)] O'/\Q (.exit 7) (St.mk [(26,.own 0 k)] O' 1 []))):=by kernel_rfl
theorem nf_obs(g:Nat->MG)(n:Nat)(R:List MG)(L:List SL)(pr:SL->Int)(Q:AV->oL7->Prop):wpFn te [(38,.det wm0),(43,.rel wh2)] [(6,L_u1 R),(20,L_u2 R),(33,L_u3 (obN R).p (obN R).w),(40,L_u4 (obN R).p L pr)] 0 Tryz.f17 [.view 15 n (waa g)] [] Q=(letI z15:=(wal R).length;letI z13:=L.length;letI z12:=ren 0 [(16,0),(18,1),(19,2),(20,3),(21,4)];letI z11:=(OW.p (obN R)).length;letI z10:=([(5,.map 0),(6,.map 1),(24,.own 2 0),(152,.ptr 3 0)]:tL7);letI z9:=entF (entG keyS vwM (wal R));letI z8:=wau (atS (visL R));letI z7:=(visL R).length;letI z6:=(repL R).length;letI z5:=ren 0 [(0,0),(1,1),(3,2),(2,3)];letI z4:=wa1 (OW.p (obN R));letI z3:=wae (mgOf (waa g)) n;letI z14:=(visL z3).length;letI z2:=(OI.mk 0 (λ(_x:Nat)=>default) z11 (List.range z11));letI z1:=ren 0 [(0,0),(1,1),(2,2),(3,3),(4,4)];letI z0:=(List.map (λ(p:AV×AV)=>(AV.rn z12 p.1,AV.rn z12 p.2)) []);(n<=100000/\waa g=waa (mgOf (waa g))/\∀(i:Nat),i<n->MG.Sm (mgOf (waa g) i))/\(TEq [(3,.ptr 0 0),(4,.map 1),(5,.map 2),(6,.map 3),(7,.own 4 0),(35,.view 3 z14 (wau (atS (visL z3)))),(36,.q (z14:Int)),(37,.q 0)] [(3,.ptr 0 0),(4,.map 1),(5,.map 2),(6,.map 3),(7,.own 4 0),(35,.view 3 z7 z8),(36,.q (z7:Int)),(37,.q (↑0:Int))]/\wac [(0,.cells [AV.vmap (wal z3).length (entF (entG keyS vwM (wal z3))),.view 3 z14 (wau (atS (visL z3)))] 72),(1,.amap z0),(2,.amap z0),(3,.amap z0),(4,.row 43 7 0 (λ(_x:Nat)=>[]) false)] [(0,.cells [AV.vmap z15 z9,.view 3 z7 z8] 72),(1,.amap (entE (OB.e (ob1 R (visL R) 0)))),(2,.amap (wa1 (OB.p (ob1 R (visL R) 0)))),(3,.amap []),(4,.row 43 7 0 (wam (atX (OB.r (ob1 R (visL R) 0)))) false)])/\BkOK R/\(TEq [(3,.ptr 0 0),(4,.map 1),(5,.map 2),(6,.map 3),(91,.own 4 z6),(92,.q (z6:Int)),(93,.q 0)] [(3,.ptr 0 0),(4,.map 1),(5,.map 2),(6,.map 3),(91,.own 4 z6),(92,.q (z6:Int)),(93,.q (↑0:Int))]/\wac [(0,.cells [AV.vmap z15 z9,.view 3 z7 z8] 72),(1,.amap (List.map (λ(p:AV×AV)=>(AV.rn z1 p.1,AV.rn z1 p.2)) (entE (obE R)))),(2,.amap (List.map (λ(p:AV×AV)=>(AV.rn z1 p.1,AV.rn z1 p.2)) (wa1 (OW.p (obW R 0))))),(3,.amap (List.map (λ(p:AV×AV)=>(AV.rn z1 p.1,AV.rn z1 p.2)) [])),(4,.row 43 7 z6 (wam (atX (repL R))) false)] [(0,.cells [AV.vmap z15 z9,.view 3 z7 z8] 72),(1,.amap (entE (obE R))),(2,.amap (wa1 (OW.p (obW R 0)))),(3,.amap (entW (OW.w (obW R 0)))),(4,.row 43 7 z6 (wam (atX (repL R))) false)])/\BkOK R/\(TEq z10 z10/\wac [(0,.amap (List.map (λ(p:AV×AV)=>(AV.rn z5 p.1,AV.rn z5 p.2)) z4)),(1,.amap (List.map (λ(p:AV×AV)=>(AV.rn z5 p.1,AV.rn z5 p.2)) (entW (OW.w (obN R))))),(2,.row 78 3 0 (λ(_x:Nat)=>[]) false),(3,.miter 0 z4.length (75::z4.length::List.range z4.length))] [(0,.amap z4),(1,.amap (entW (OW.w (obN R)))),(2,.row 78 3 0 (wau (OI.h z2)) false),(3,.miter 0 z11 (75::OI.c0 z2::OI.left z2))])/\List.Nodup (List.map Prod.fst (OW.p (obN R)))/\List.Nodup (List.map Prod.fst (OW.w (obN R)))/\(OW.p (obN R)).length<=200000/\∀(E:List (SL×Int)) (h:Nat->SL) (c:Nat),List.Perm E (OW.p (obN R))->lst h c=List.filter (λ(t:SL)=> !wrgB (OW.w (obN R)) t) (List.map Prod.fst E)->(∀(i:Nat),i<c->true=true)/\78=78/\false=false/\c=c/\c<=1000000/\wau h=wau (slOf (wau h))/\∀(h_1:Nat->SL),List.Perm (lst h_1 c) (lst (slOf (wau h)) c)->(∀(i j:Nat),i<j->j<c->¬ordS (h_1 j) (h_1 i)<0)->(∀(i:Nat),i<c->true=true)/\(TEq [(5,.map 0),(26,.own 1 0),(167,.own 2 c),(168,.q (c:Int)),(169,.q 0)] [(5,.map 0),(26,.own 1 0),(167,.own 2 z13),(168,.q (z13:Int)),(169,.q (↑0:Int))]/\wac [(0,.amap (List.map (λ(p:AV×AV)=>(AV.rn (ren 0 [(0,0),(18,1),(1,2)]) p.1,AV.rn (ren 0 [(0,0),(18,1),(1,2)]) p.2)) z4)),(1,.row 41 6 0 (λ(_x:Nat)=>[]) false),(2,.row 78 3 c (wau h_1) false)] [(0,.amap z4),(1,.row 41 6 0 (wbm L pr) false),(2,.row 78 3 z13 (wau (atS L)) false)])/\List.Nodup (List.map Prod.fst (OW.p (obN R)))/\L.length<=200000/\(∀(s:SL),s∈L->getA (OW.p (obN R)) s=some (pr s)/\(0:Int)<=pr s/\pr s<9223372036854775808)/\(∀(i:Nat),i<L.length->true=true)/\∃(O':oL7),wac [(0,.row 41 6 z13 (wbm L pr) false)] O'/\Q (.own 0 z13) O'):=by kernel_rfl
theorem wk0(a b:List UInt8×List UInt8):keq (keyE a) (keyE b)=decide (a=b):=by
 rw[Bool.eq_iff_iff];simp[keyE,keq,keqL,keq0,Prod.ext_iff]
theorem w4m{a b:List UInt8×List UInt8}(h:keyE a=keyE b):a=b:=by
 have:=wk0 a b;rw[h,wk0,decide_eq_true rfl] at this;exact of_decide_eq_true this.symm
theorem keyR_E(a:List UInt8×List UInt8):keyR te 79 (keyE a)=true:=by
 have:∀(a b:List UInt8),keyR te 79 (.agg [.str a,.str b])=true:=λa b=>by kernel_rfl
 exact this _ _
theorem wry{L:List ((List UInt8×List UInt8)×Int)}(h:(L.map Prod.fst).Nodup):wh4 te 79 (entE L):=by
 refine⟨List.all_eq_true.2 λp hp=>?_,?_⟩
 ·obtain⟨r,_,rfl⟩:=List.mem_map.1 hp;exact keyR_E _
 ·have:(entE L).map Prod.fst=(L.map Prod.fst).map keyE:=by simp[entE,entG]
  rw[this];exact List.pairwise_map.2 (h.imp λ{a b} hab he=>hab (w4m he))
theorem wdk{L:List (SL×Int)}(h:(L.map Prod.fst).Nodup):wa9 te 78 (wa1 L):=wi8 (λ_ _=>wiw) wkz h
theorem wrw{L:List (SL×Bool)}(h:(L.map Prod.fst).Nodup):wa9 te 78 (entW L):=wi8 (λ_ _=>wiw) wkz h
theorem wrx(σ:Nat->Option Nat)(L:List ((List UInt8×List UInt8)×Int)):(entE L).map (λp=>(AV.rn σ p.1,AV.rn σ p.2))=entE L:=wi7 σ (λ_=>rfl) (λ_=>rfl) L
theorem wf5(σ:Nat->Option Nat)(L:List (SL×Int)):(wa1 L).map (λp=>(AV.rn σ p.1,AV.rn σ p.2))=wa1 L:=wi7 σ (λ_=>rfl) (λ_=>rfl) L
theorem wlo(σ:Nat->Option Nat)(L:List (SL×Bool)):(entW L).map (λp=>(AV.rn σ p.1,AV.rn σ p.2))=entW L:=wi7 σ (λ_=>rfl) (λ_=>rfl) L
theorem wuv(a b:List UInt8)(L:List ((List UInt8×List UInt8)×Int)):mget (entE L) (.agg [.str a,.str b])=(getA L (a,b)).map vI:=wgt wk0 (a,b) L
theorem w3s(a b:List UInt8)(c:Int)(L:List ((List UInt8×List UInt8)×Int)):mset (entE L) (.agg [.str a,.str b]) (.q c)=entE (setA L (a,b) c):=wip wk0 (a,b) c L
theorem wuu(s:SL)(L:List (SL×Int)):mget (wa1 L) (.agg [.str s.o,.str s.p,.q s.per])=(getA L s).map vI:=wgt wfz s L
theorem wuo(s:SL)(c:Int)(L:List (SL×Int)):mset (wa1 L) (.agg [.str s.o,.str s.p,.q s.per]) (.q c)=wa1 (setA L s c):=wip wfz s c L
theorem w3x(s:SL)(L:List (SL×Bool)):mget (entW L) (.agg [.str s.o,.str s.p,.q s.per])=(getA L s).map AV.bool:=wgt wfz s L
theorem w3r(s:SL)(L:List (SL×Bool)):mset (entW L) (.agg [.str s.o,.str s.p,.q s.per]) (.bool true)=entW (setA L s true):=wip wfz s true L
theorem wk8(x:Option Int):AV.q (way (Option.getD (x.map vI) (zvA (.q 0))))=Option.getD (x.map vI) (zvA (.q 0)):=by cases x<;>rfl
theorem wvv(x:Option Int):(x.map vI).isSome=x.isSome:=by cases x<;>rfl
theorem wqn(R:List MG)(V:List SL):∀k,((ob1 R V k).e.map Prod.fst).Nodup/\((ob1 R V k).p.map Prod.fst).Nodup
 |0=>⟨.nil,.nil⟩
 |k+1=>by
  obtain⟨h1,h2⟩:=wqn R V k;rw[ob1];generalize ob1 R V k=x at *;generalize atS V k=s;unfold stO
  cases (getA x.e (s.o,s.p)).isSome || !verB R s with
  |true=>exact⟨h1,h2⟩
  |false=>
   cases finB (resB R s).1 with
   |true=>exact⟨wic h1 _ _,h2⟩
   |false=>
    cases priB (resB R s).1 with
    |true=>exact⟨h1,wic h2 _ _⟩
    |false=>exact⟨h1,h2⟩
theorem wz1{R:List MG}{k:Nat}(hk:k<=(visL R).length):(ob1 R (visL R) k).r.length<=k:=by
 rw[(wim R k hk).r,List.length_map];have:=List.length_filter_le (repB R) (lst (atS (visL R)) k);simp[lst] at this ⊢;exact this
theorem u1_loop(hP:C.P=Tryz.prog)(hL:∀w,C.laid w->LaidW w)(R:List MG):wah C 0 189 (wai Tryz.f17 6) (L_u1 R):=by
 rintro st Q ⟨h0,hB,hQ⟩;refine AWP.ownNil 7 43 7 ?_;have hvl:(visL R).length<=100000:=Nat.le_trans (wdm R) hB.len;refine wah.mk (prg hP) [(39,.det (wmt R)),(40,.det wnz)] 0 (.cons (res_ok hP hL R) (.cons (w5n hP) .nil)) [3,4,5,6,7,35,36,37] [3,4,5,6,7] [] (S_u1 R) (λk=>k<=(visL R).length) (λk=>(visL R).length - k) 0 (zL7 _) h0 (λk hk=>?_) (λi=>⟨λ_ _=>rfl,trivial⟩);obtain⟨hn1,hn2⟩:=wqn R (visL R) k;have hrl:=wz1 hk;have st:ob1 R (visL R) (k+1)=stO R (ob1 R (visL R) k) (atS (visL R) k):=rfl;rw[w0f,tN7];simp only[wuv,w3s,wuo,wrx,wf5,wvv];have skip:ob1 R (visL R) (k+1)=ob1 R (visL R) k->k<(visL R).length->inR .i64 ((k:Int)+1)/\∃i':Nat,(TEq [(3,.ptr 0 0),(4,.map 1),(5,.map 2),(6,.map 3),(7,.own 4 (ob1 R (visL R) k).r.length),(35,.view 3 (visL R).length (wau (atS (visL R)))),(36,.q (visL R).length),(37,.q ((k:Int)+1))] [(3,.ptr 0 0),(4,.map 1),(5,.map 2),(6,.map 3),(7,.own 4 (ob1 R (visL R) i').r.length),(35,.view 3 (visL R).length (wau (atS (visL R)))),(36,.q (visL R).length),(37,.q (i':Int))]/\
   wac [(0,.cells [.vmap (wal R).length (entF (entG keyS vwM (wal R))),.view 3 (visL R).length (wau (atS (visL R)))] 72),(1,.amap (entE (ob1 R (visL R) k).e)),(2,.amap (wa1 (ob1 R (visL R) k).p)),(3,.amap []),(4,.row 43 7 (ob1 R (visL R) k).r.length (wam (atX (ob1 R (visL R) k).r)) false)]
    [(0,.cells [.vmap (wal R).length (entF (entG keyS vwM (wal R))),.view 3 (visL R).length (wau (atS (visL R)))] 72),(1,.amap (entE (ob1 R (visL R) i').e)),(2,.amap (wa1 (ob1 R (visL R) i').p)),(3,.amap []),(4,.row 43 7 (ob1 R (visL R) i').r.length (wam (atX (ob1 R (visL R) i').r)) false)])/\(i'<=(visL R).length/\(visL R).length - i'<(visL R).length - k):=λe hk'=>by
  refine⟨by simp only[inR];omega,k+1,?_,by omega,by omega⟩;rw[e];exact⟨rfl,rfl,rfl,rfl,rfl,rQ7,trivial⟩
 refine wag (λh1=>?_) (λh1=>?_)
 ·have hk':k<(visL R).length:=by omega
  refine⟨⟨by omega,by omega,trivial⟩,⟨trivial,trivial,hB,wfa hk'⟩,⟨wry hn1,wk8 _⟩,wan (λq1=>skip ?_ hk') (λq1=>wax (λq2=>skip ?_ hk') (λq2=>⟨trivial,wan (λq3=>⟨wry hn1,wag (λq4=>?_) (λq4=>?_)⟩) (λq3=>wag (λq4=>?_) (λq4=>wag (λq5=>?_) (λq5=>skip ?_ hk')))⟩))⟩
  ·rw[st,stO,q1];rfl
  ·rw[st,stO,show verB R (atS (visL R) k)=false from decide_eq_false q2,Bool.not_false,Bool.or_true];rfl
  all_goals have hv:verB R (atS (visL R) k)=true:=decide_eq_true q2
  ·have e:ob1 R (visL R) (k+1)=⟨setA (ob1 R (visL R) k).e ((atS (visL R) k).o,(atS (visL R) k).p) (atS (visL R) k).per,(ob1 R (visL R) k).p,(ob1 R (visL R) k).r++[(resB R (atS (visL R) k)).1]⟩:=by
    rw[st,stO,q1,hv,show finB (resB R (atS (visL R) k)).1=true from q3,decide_eq_true (show (resB R (atS (visL R) k)).1.st=5 from q4)];rfl
   refine⟨⟨by omega,trivial,by omega⟩,⟨⟨lR7 _,trivial⟩,lR7 _,trivial,trivial,trivial,by omega,by omega⟩,by simp only[inR];omega,k+1,?_,by omega,by omega⟩;rw[e,lA7];exact⟨rfl,rfl,rfl,rfl,rfl,⟨rfl,rfl,rfl,rfl,rfl,λj hj=>wgm vtC default _ _ _ rfl j hj⟩,trivial⟩
  ·have e:ob1 R (visL R) (k+1)=⟨setA (ob1 R (visL R) k).e ((atS (visL R) k).o,(atS (visL R) k).p) (atS (visL R) k).per,(ob1 R (visL R) k).p,(ob1 R (visL R) k).r⟩:=by
    rw[st,stO,q1,hv,show finB (resB R (atS (visL R) k)).1=true from q3,decide_eq_false (show ¬ (resB R (atS (visL R) k)).1.st=5 from q4)];rfl
   refine⟨by simp only[inR];omega,k+1,?_,by omega,by omega⟩;rw[e];exact⟨rfl,rfl,rfl,rfl,rfl,rQ7,trivial⟩
  ·have e:ob1 R (visL R) (k+1)=⟨(ob1 R (visL R) k).e,setA (ob1 R (visL R) k).p (atS (visL R) k) (resB R (atS (visL R) k)).1.pr,(ob1 R (visL R) k).r⟩:=by
    rw[st,stO,q1,hv,show finB (resB R (atS (visL R) k)).1=false from q3,show priB (resB R (atS (visL R) k)).1=true by unfold priB;rw[decide_eq_true (show (resB R (atS (visL R) k)).1.st=1 from q4)];rfl];rfl
   refine⟨wdk hn2,by simp only[inR];omega,k+1,?_,by omega,by omega⟩;rw[e];exact⟨rfl,rfl,rfl,rfl,rfl,rQ7,trivial⟩
  ·have e:ob1 R (visL R) (k+1)=⟨(ob1 R (visL R) k).e,setA (ob1 R (visL R) k).p (atS (visL R) k) (resB R (atS (visL R) k)).1.pr,(ob1 R (visL R) k).r⟩:=by
    rw[st,stO,q1,hv,show finB (resB R (atS (visL R) k)).1=false from q3,show priB (resB R (atS (visL R) k)).1=true by unfold priB;rw[decide_eq_true (show (resB R (atS (visL R) k)).1.st=2 from q5),Bool.or_true]];rfl
   refine⟨wdk hn2,by simp only[inR];omega,k+1,?_,by omega,by omega⟩;rw[e];exact⟨rfl,rfl,rfl,rfl,rfl,rQ7,trivial⟩
  ·rw[st,stO,q1,hv,show finB (resB R (atS (visL R) k)).1=false from q3,show priB (resB R (atS (visL R) k)).1=false by unfold priB;rw[decide_eq_false (show ¬ (resB R (atS (visL R) k)).1.st=1 from q4),decide_eq_false (show ¬ (resB R (atS (visL R) k)).1.st=2 from q5)];rfl];rfl
 ·have:k=(visL R).length:=by omega
  subst this;have e1:(ob1 R (visL R) (visL R).length).r=repL R:=ob1_r R;rw[e1];exact⟨λ_ _=>trivial,_,waz _,hQ⟩
theorem wqk(R:List MG):∀k,((obW R k).w.map Prod.fst).Nodup
 |0=>.nil
 |k+1=>by
  have ih:=wqk R k;have st:obW R (k+1)=stW (visL R) (obE R) (obW R k) (atX (repL R) k):=rfl;rw[st];generalize obW R k=x at *;unfold stW
  cases decide (rsl (atX (repL R) k)∈visL R) || ovrB (obE R) (rsl (atX (repL R) k)) with
  |true=>exact ih
  |false=>
   show ((bif difA x.p (rsl (atX (repL R) k)) (atX (repL R) k).pr then setA x.w (rsl (atX (repL R) k)) true else x.w).map Prod.fst).Nodup
   cases difA x.p (rsl (atX (repL R) k)) (atX (repL R) k).pr with
   |true=>exact wic ih _ _
   |false=>exact ih
theorem obE_nd(R:List MG):((obE R).map Prod.fst).Nodup:=(wqn R (visL R) _).1
theorem wj3(R:List MG):(repL R).length<=R.length:=by
 unfold repL;rw[List.length_map];exact Nat.le_trans (List.length_filter_le _ _) (wdm R)
theorem u2_loop(hP:C.P=Tryz.prog)(R:List MG):wah C 0 189 (wai Tryz.f17 20) (L_u2 R):=by
 rintro st Q ⟨h0,hB,hQ⟩;have hvl:(visL R).length<=100000:=Nat.le_trans (wdm R) hB.len;have hrl:(repL R).length<=100000:=Nat.le_trans (wj3 R) hB.len;refine wah.mk (prg hP) [(41,.det S_bs)] 0 (.cons (bs_ok hP) .nil) [3,4,5,6,91,92,93] [5,6] [] (S_u2 R) (λk=>k<=(repL R).length) (λk=>(repL R).length - k) 0 (zL7 _) h0 (λk hk=>?_) (λi=>⟨λ_ _=>rfl,trivial⟩);have hp:=(wfs R k).nd;have hw:=wqk R k;have st:obW R (k+1)=stW (visL R) (obE R) (obW R k) (atX (repL R) k):=rfl;have hg2:mget (wa1 (obW R k).p) (.agg [.str (atX (repL R) k).o,.str (atX (repL R) k).rep,.q (atX (repL R) k).per])=(getA (obW R k).p (rsl (atX (repL R) k))).map vI:=wuu (rsl (atX (repL R) k)) _;have hs2:∀c,mset (wa1 (obW R k).p) (.agg [.str (atX (repL R) k).o,.str (atX (repL R) k).rep,.q (atX (repL R) k).per]) (.q c)=wa1 (setA (obW R k).p (rsl (atX (repL R) k)) c):=λc=>wuo (rsl (atX (repL R) k)) c _;have hs3:mset (entW (obW R k).w) (.agg [.str (atX (repL R) k).o,.str (atX (repL R) k).rep,.q (atX (repL R) k).per]) (.bool true)=entW (setA (obW R k).w (rsl (atX (repL R) k)) true):=w3r (rsl (atX (repL R) k)) _;have hbs:(decide (bsF (slOf (wau (atS (visL R)))) ⟨(atX (repL R) k).o,(atX (repL R) k).rep,(atX (repL R) k).per⟩ (visL R).length<(visL R).length) && decide (ordS (slOf (wau (atS (visL R))) (bsF (slOf (wau (atS (visL R)))) ⟨(atX (repL R) k).o,(atX (repL R) k).rep,(atX (repL R) k).per⟩ (visL R).length)) ⟨(atX (repL R) k).o,(atX (repL R) k).rep,(atX (repL R) k).per⟩=0))=decide (rsl (atX (repL R) k)∈visL R):=w6v (wdd R) (rsl (atX (repL R) k));have hov:ovrB (obE R) (rsl (atX (repL R) k))=match getA (obE R) ((atX (repL R) k).o,(atX (repL R) k).rep) with | some c=>decide (c<(atX (repL R) k).per) | none=>false:=rfl
 have hdf:difA (obW R k).p (rsl (atX (repL R) k)) (atX (repL R) k).pr=match getA (obW R k).p (rsl (atX (repL R) k)) with | some x=> !decide (x=(atX (repL R) k).pr) | none=>false:=rfl
 rw[w0e,tN7,hbs];simp only[wuv,hg2,hs2,hs3,wrx,wf5,wlo,wvv];generalize hv:atX (repL R) k=v at *;have fin:∀x:OW,obW R (k+1)=x->k<(repL R).length->inR .i64 ((k:Int)+1)/\∃i':Nat,(TEq [(3,.ptr 0 0),(4,.map 1),(5,.map 2),(6,.map 3),(91,.own 4 (repL R).length),(92,.q (repL R).length),(93,.q ((k:Int)+1))] [(3,.ptr 0 0),(4,.map 1),(5,.map 2),(6,.map 3),(91,.own 4 (repL R).length),(92,.q (repL R).length),(93,.q (i':Int))]/\
   wac [(0,.cells [.vmap (wal R).length (entF (entG keyS vwM (wal R))),.view 3 (visL R).length (wau (atS (visL R)))] 72),(1,.amap (entE (obE R))),(2,.amap (wa1 x.p)),(3,.amap (entW x.w)),(4,.row 43 7 (repL R).length (wam (atX (repL R))) false)]
    [(0,.cells [.vmap (wal R).length (entF (entG keyS vwM (wal R))),.view 3 (visL R).length (wau (atS (visL R)))] 72),(1,.amap (entE (obE R))),(2,.amap (wa1 (obW R i').p)),(3,.amap (entW (obW R i').w)),(4,.row 43 7 (repL R).length (wam (atX (repL R))) false)])/\(i'<=(repL R).length/\(repL R).length - i'<(repL R).length - k):=λx e hk'=>by
  refine⟨by simp only[inR];omega,k+1,?_,by omega,by omega⟩;rw[e];exact⟨rfl,rfl,rfl,rfl,rfl,rQ7,trivial⟩
 refine wag (λh1=>?_) (λh1=>?_)
 ·have hk':k<(repL R).length:=by omega
  -- what comes when the slot is free
  have free:decide (rsl v∈visL R)=false->ovrB (obE R) (rsl v)=false->obW R (k+1)=⟨setA (obW R k).p (rsl v) v.pr,bif difA (obW R k).p (rsl v) v.pr then setA (obW R k).w (rsl v) true else (obW R k).w⟩:=λq1 q2=>by
   rw[st,stW,q1,q2];rfl
  refine⟨⟨by omega,by omega⟩,⟨hk',trivial⟩,⟨wry (obE_nd R),wk8 _⟩,⟨by omega,rfl,λi j hij hj=>whc (wdd R) hij hj⟩,wan (λq1=>fin (obW R k) ?_ hk') (λq1=>?_)⟩
  ·rw[st,stW,q1];rfl
  ·cases hE:getA (obE R) (v.o,v.rep) with
   |some c=>
    rw[hE] at hov;have hov:ovrB (obE R) (rsl v)=decide (c<v.per):=hov;show wab true (wab (decide (c<v.per)) _ _) _;refine wan (λ_=>wag (λq2=>fin (obW R k) ?_ hk') (λq2=>?_)) (λh=>by cases h)
    ·rw[decide_eq_true q2] at hov;rw[st,stW,hov,Bool.or_true];rfl
    ·rw[decide_eq_false q2] at hov;have free:=free q1 hov;refine⟨⟨wdk hp,wk8 _⟩,?_⟩
     cases hG:getA (obW R k).p (rsl v) with
     |some d=>
      rw[hG] at hdf;have hdf:difA (obW R k).p (rsl v) v.pr= !decide (d=v.pr):=hdf;show wab true (wab (!decide (d=v.pr)) _ _) _;refine wan (λ_=>wax (λq3=>⟨wrw hw,wdk hp,fin ⟨setA (obW R k).p (rsl v) v.pr,setA (obW R k).w (rsl v) true⟩ ?_ hk'⟩) (λq3=>⟨wdk hp,fin ⟨setA (obW R k).p (rsl v) v.pr,(obW R k).w⟩ ?_ hk'⟩)) (λh=>by cases h)
      ·rw[free,hdf,decide_eq_false q3];rfl
      ·rw[free,hdf,decide_eq_true q3];rfl
     |none=>
      rw[hG] at hdf;have hdf:difA (obW R k).p (rsl v) v.pr=false:=hdf;refine wan (λh=>by cases h) (λ_=>⟨wdk hp,fin ⟨setA (obW R k).p (rsl v) v.pr,(obW R k).w⟩ ?_ hk'⟩);rw[free,hdf];rfl
   |none=>
    rw[hE] at hov;have hov:ovrB (obE R) (rsl v)=false:=hov;have free:=free q1 hov;refine wan (λh=>by cases h) (λ_=>⟨⟨wdk hp,wk8 _⟩,?_⟩)
    cases hG:getA (obW R k).p (rsl v) with
    |some d=>
     rw[hG] at hdf;have hdf:difA (obW R k).p (rsl v) v.pr= !decide (d=v.pr):=hdf;show wab true (wab (!decide (d=v.pr)) _ _) _;refine wan (λ_=>wax (λq3=>⟨wrw hw,wdk hp,fin ⟨setA (obW R k).p (rsl v) v.pr,setA (obW R k).w (rsl v) true⟩ ?_ hk'⟩) (λq3=>⟨wdk hp,fin ⟨setA (obW R k).p (rsl v) v.pr,(obW R k).w⟩ ?_ hk'⟩)) (λh=>by cases h)
     ·rw[free,hdf,decide_eq_false q3];rfl
     ·rw[free,hdf,decide_eq_true q3];rfl
    |none=>
     rw[hG] at hdf;have hdf:difA (obW R k).p (rsl v) v.pr=false:=hdf;refine wan (λh=>by cases h) (λ_=>⟨wdk hp,fin ⟨setA (obW R k).p (rsl v) v.pr,(obW R k).w⟩ ?_ hk'⟩);rw[free,hdf];rfl
 ·have:k=(repL R).length:=by omega
  subst this;exact hQ
def atPr(B:List (SL×Int))(i:Nat):SL×Int:=B.getD i default
theorem w5s{B:List (SL×Int)}{i:Nat}(h:i<B.length):(wa1 B).getD i (.any,.any)=(keyS (atPr B i).1,vI (atPr B i).2):=by
 simp[wa1,entG,atPr,h]
structure UpI (P:List (SL×Int)) (W:List (SL×Bool)) (i:OI):Prop where
 e:∃E:List (SL×Int),(E++i.left.map (atPr P)).Perm P/\lst i.h i.c=(E.map Prod.fst).filter λt=> !wrgB W t
 lt:∀x∈i.left,x<P.length
theorem u3_loop(hP:C.P=Tryz.prog)(P:List (SL×Int))(W:List (SL×Bool)):wah C 0 189 (wai Tryz.f17 33) (L_u3 P W):=by
 have _:C.Loose:=inferInstance;rintro st Q ⟨h0,hp0,hw0,hn,hQ⟩;refine AWP.ownNil 24 78 3 ?_;have hlen:(wa1 P).length=P.length:=by simp[wa1,entG]
 refine wah.mk (prg hP) [] 0 .nil [5,6,24,152] [5,24] [] (S_u3 P W) (UpI P W) (λi=>i.left.length) ⟨0,λ_=>default,P.length,List.range P.length⟩ ⟨⟨[],?_,rfl⟩,λx hx=>List.mem_range.1 hx⟩ h0 (λi hi=>?_) (λi=>⟨λ_ _=>rfl,trivial⟩)
 ·have:(List.range P.length).map (atPr P)=P:=by
   apply List.ext_getElem
   ·simp
   ·intro i h1 h2;simp[atPr,h2]
  rw[List.nil_append,this]
 obtain⟨⟨E,hp,hh⟩,hlt⟩:=hi;have hcl:i.c+i.left.length<=P.length:=by
  have h1:=hp.length_eq;have h2:=congrArg List.length hh;have h3:=List.length_filter_le (λt=> !wrgB W t) (E.map Prod.fst);simp[lst] at h1 h2 h3;omega
 rw[w0d];refine⟨hlen.symm,λhnil=>?_,λj hj=>?_⟩
 ·rw[wf5];rw[hnil,List.map_nil,List.append_nil] at hp;exact⟨λ_ _=>rfl,_,waz _,hQ E i.h i.c hp hh⟩
 ·have hjl:=hlt j hj;rw[w5s hjl,wf5,wf5,wlo,wlo];have herase:(i.left.erase j).length+1=i.left.length:=by
   rw[List.length_erase_of_mem hj];have:=List.length_pos_of_mem hj;omega
  have hpe:((E++[atPr P j])++(i.left.erase j).map (atPr P)).Perm P:=by
   rw[List.append_assoc,List.singleton_append, ← List.map_cons];exact(((List.perm_cons_erase hj).map (atPr P)).symm.append_left _).trans hp
  generalize atPr P j=x at *;have hget:Option.getD (mget (entW W) (.agg [.str (wco (wcr (keyS x.1) 0)),.str (wco (wcr (keyS x.1) (0+1))),.q (way (wcr (keyS x.1) (0+1+1)))])) (zvA (.bool false))= .bool (wrgB W x.1):=by
   have e:=w3x x.1 W;show Option.getD (mget (entW W) (.agg [.str x.1.o,.str x.1.p,.q x.1.per])) _=_;rw[e];unfold wrgB
   cases getA W x.1<;>rfl
  rw[hget];refine⟨⟨hlen.symm,hjl,rfl,rfl⟩,⟨wrw hw0,rfl⟩,wcb (λhv=>?_) (λhv=>?_)⟩
  ·have hv:wrgB W x.1=false:=hv;refine⟨⟨by omega,rfl,by omega⟩,⟨⟨lR7 _,rfl⟩,lR7 _,rfl,rfl,rfl,by omega,by omega⟩,⟨i.c+1,λk=>if k<i.c then i.h k else x.1,j,i.left.erase j⟩,⟨rfl,rfl,rfl,⟨rfl,rfl,rfl,rfl,rfl,λk hk=>?_⟩,rfl,trivial⟩,⟨⟨E++[x],hpe,?_⟩,λy hy=>hlt y (List.mem_of_mem_erase hy)⟩,by show (i.left.erase j).length<_;omega⟩
   ·have hk:k<i.c+1:=hk;unfold apF wau
    by_cases h:k<i.c
    ·simp only[h,if_true]
    ·have:k=i.c:=by omega
     subst this;simp only[Nat.lt_irrefl,if_false,Nat.sub_self];rfl
   ·show lst (λk=>if k<i.c then i.h k else x.1) (i.c+1)=_
    rw[we2,if_neg (Nat.lt_irrefl _),List.map_append,List.filter_append, ← hh];have e1:lst (λk=>if k<i.c then i.h k else x.1) i.c=lst i.h i.c:=List.map_congr_left λk hk=>by rw[if_pos (List.mem_range.1 hk)]
    rw[e1];simp[hv]
  ·have hv:wrgB W x.1=true:=hv;refine⟨⟨i.c,i.h,j,i.left.erase j⟩,⟨rfl,rfl,rfl,⟨rfl,rfl,rfl,rfl,rfl,λk hk=>rfl⟩,rfl,trivial⟩,⟨⟨E++[x],hpe,?_⟩,λy hy=>hlt y (List.mem_of_mem_erase hy)⟩,by show (i.left.erase j).length<_;omega⟩;show lst i.h i.c=_;rw[List.map_append,List.filter_append,hh];simp[hv]
theorem u4_loop(hP:C.P=Tryz.prog)(P:List (SL×Int))(L:List SL)(pr:SL->Int):wah C 0 189 (wai Tryz.f17 40) (L_u4 P L pr):=by
 rintro st Q ⟨h0,hp,hn,hl,hQ⟩;refine AWP.ownNil 26 41 6 ?_;refine wah.mk (prg hP) [(44,.det wea)] 0 (.cons (w5c hP) .nil) [5,26,167,168,169] [26] [] (S_u4 P L pr) (λk=>k<=L.length) (λk=>L.length - k) 0 (zL7 _) h0 (λk hk=>?_) (λi=>⟨λ_ _=>rfl,λ_ _=>rfl,trivial⟩);rw[w0c,tN7,wuu,wf5];refine wag (λh1=>?_) (λh1=>?_)
 ·obtain⟨g1,g2,g3⟩:=hl _ (wfa (show k<L.length by omega));rw[g1];refine⟨⟨by omega,by omega⟩,⟨by omega,rfl⟩,⟨wdk hp,rfl⟩,⟨g2,g3⟩,⟨by omega,rfl,by omega⟩,⟨⟨lR7 _,rfl⟩,lR7 _,rfl,rfl,rfl,by omega,by omega⟩,by simp only[inR];omega,k+1,⟨rfl,rfl,⟨rfl,rfl,rfl,rfl,rfl,λj hj=>?_⟩,rQ7,trivial⟩,by omega,by omega⟩;have hj:j<k+1:=hj;unfold apF
  by_cases h:j<k
  ·rw[if_pos h]
  ·have:j=k:=by omega
   subst this;rw[if_neg h,Nat.sub_self];rfl
 ·have:k=L.length:=by omega
  subst this;exact⟨λ_ _=>rfl,_,waz _,hQ⟩
theorem wub(R:List MG):∀k,(obW R k).p.length<=(visL R).length+k
 |0=>by
  rw[obW_0,List.length_map];exact List.length_filter_le _ _
 |k+1=>by
  have ih:=wub R k;have st:obW R (k+1)=stW (visL R) (obE R) (obW R k) (atX (repL R) k):=rfl;rw[st];generalize obW R k=x at *;unfold stW
  cases decide (rsl (atX (repL R) k)∈visL R) || ovrB (obE R) (rsl (atX (repL R) k)) with
  |true=>exact Nat.le_trans ih (by omega)
  |false=>
   show (setA x.p (rsl (atX (repL R) k)) (atX (repL R) k).pr).length<=_;have:=wys x.p (rsl (atX (repL R) k)) (atX (repL R) k).pr;omega
theorem wke{R:List MG}(hR:RightL R){t:SL}(_:0<obP R t):obP R t<=1099511627776:=by
 unfold obP
 cases h1:decide (t∈visL R) with
 |true=>
  rw[cond_true]
  cases h2:prB R t with
  |false=>exact(by decide:(0:Int)<=1099511627776)
  |true=>
   rw[cond_true];have h3:(verB R t && (!endB R t && priB (resB R t).1))=true:=h2;rw[bA7,bA7] at h3;obtain⟨hv,_,hp⟩:=h3;have h4:(resB R t).1.st=1∨(resB R t).1.st=2:=by simpa[priB] using hp
   exact(wpw (wqc hR (of_decide_eq_true hv)) (by omega)).2
 |false=>
  rw[cond_false]
  cases endB R t with
  |true=>exact(by decide:(0:Int)<=1099511627776)
  |false=>
   rw[cond_false];unfold givS
   rcases wrp ((repL R).filter (isR t)) with⟨_,e⟩ | ⟨v,hv,_,e⟩ | ⟨_,e⟩
   ·rw[e];decide
   ·rw[e];exact(wqe hR (List.mem_filter.1 hv).1).2
   ·rw[e];decide
theorem obs_ok(hP:C.P=Tryz.prog)(hL:∀w,C.laid w->LaidW w):wad C 17 wfg:=by
 rintro args objs U Os vc h hvc;unfold wfg at h;split at h<;>cases h;rename_i n f;obtain⟨hn,hf,hs⟩:=hvc;generalize mgOf f=g at *;subst hf;have hB:=book_ok hn hs;refine waw.frzO 0 ?_
 refine wa8.wpL (prg hP) [(38,.det wm0),(43,.rel wh2)] [(6,L_u1 (wae g n)),(20,L_u2 (wae g n)),(33,L_u3 (obN (wae g n)).p (obN (wae g n)).w),(40,L_u4 (obN (wae g n)).p (obL (wae g n)) (obP (wae g n)))] 0 (.cons (open_ok hP hL) (.cons (ws1 hP) .nil)) (hP ▸ Tryz.func17) rfl rfl rfl
  [(wai Tryz.f17 6,L_u1 (wae g n)),(wai Tryz.f17 20,L_u2 (wae g n)),(wai Tryz.f17 33,L_u3 (obN (wae g n)).p (obN (wae g n)).w),(wai Tryz.f17 40,L_u4 (obN (wae g n)).p (obL (wae g n)) (obP (wae g n)))] (by kernel_rfl)
  ⟨u1_loop hP hL _,u2_loop hP _,u3_loop hP _ _,u4_loop hP _ _ _,trivial⟩ ?_
 rw[nf_obs];have hg:mgOf (waa g)=g:=rfl;have hR:RightL (wae g n):=hB.right;have hvl:(visL (wae g n)).length<=100000:=Nat.le_trans (wdm _) hB.len;have hrl:(repL (wae g n)).length<=100000:=Nat.le_trans (wj3 _) hB.len;have hpl:(obN (wae g n)).p.length<=200000:=Nat.le_trans (wub _ _) (by omega);have hlen:(wa1 (obN (wae g n)).p).length=(obN (wae g n)).p.length:=by simp[wa1,entG]
 have hll:(obL (wae g n)).length<=(obN (wae g n)).p.length:=by
  have h1:=(wxa (wuf (wae g n)));have h2:obL (wae g n) ⊆ (obN (wae g n)).p.map Prod.fst:=λt ht=>by
   have:=wvx (wue hR ht);exact List.mem_map.2 ⟨_,this,rfl⟩
  have:=wuh h1 h2
  rwa [List.length_map] at this
 rw[hg,hlen];simp only[wrx,wf5,wlo];generalize hRe:wae g n=R at *;refine⟨⟨hn,by trivial,hs⟩,⟨rfl,rfl,rfl,rfl,rfl,⟨rfl,rfl,rfl,rfl,rfl,λi hi=>absurd hi (nZ7 i)⟩,trivial⟩,hB,⟨rfl,rfl,rfl,rfl,rfl,rQ7,trivial⟩,hB,
  ⟨rfl,rfl,rfl,⟨rfl,rfl,rfl,rfl,rfl,λi hi=>absurd hi (nZ7 i)⟩,rfl,trivial⟩,(wfs R _).nd,wqk R _,hpl,λE h c hE hh=>⟨λ_ _=>trivial,by trivial,by trivial,by trivial,?_,by trivial,λh1 hp hsort=>⟨λ_ _=>trivial,?_⟩⟩⟩
 ·have h1:=congrArg List.length hh;have h2:=List.length_filter_le (λt=> !wrgB (obN R).w t) (E.map Prod.fst);have h3:=hE.length_eq;simp[lst] at h1 h2;omega
 ·have hp:(lst h1 c).Perm (lst h c):=hp;rw[hh] at hp;have hV:=wz0 hR hE hp (wt5 λi j hij hj=>hsort i j hij hj);obtain⟨hc,hat⟩:=wu2 hV;subst hc;refine⟨⟨rfl,rfl,⟨rfl,rfl,rfl,rfl,rfl,λi hi=>absurd hi (nZ7 i)⟩,⟨rfl,rfl,rfl,rfl,rfl,λi hi=>?_⟩,trivial⟩,(wfs R _).nd,by omega,λs hs=>?_,λ_ _=>trivial,_,waz _,λ_ _=>rfl,?_⟩
  ·unfold wau;rw[hat i hi]
  ·have h0:=(wkf.1 hs).2;exact⟨wue hR hs,by omega,Int.lt_of_le_of_lt (wke hR h0) (by decide)⟩
  ·have hb:Nat.ble (obL R).length (obL R).length=true:=Nat.ble_eq_true_of_le (lR7 _)
   constructor
   ·simp[frzC,frzA,frz,hb]
   ·rfl
end Go.Eng
namespace Go.Eng
end Go.Eng
namespace Go.Eng
open Go.Proofs Go.RowKit
variable {C:Ctx} [C.Loose]
set_option maxRecDepth 20000
end Go.Eng
