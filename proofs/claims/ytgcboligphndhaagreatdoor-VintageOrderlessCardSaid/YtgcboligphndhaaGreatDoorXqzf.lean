/- The law's raw: files cut short. -/
import Derived.Test.YtgcboligphndhaaGreatDoorXqze
import Derived.Test.YtgcboligphndhaaGreatDoorXqzd
namespace Go.Eng
open Go.Proofs Go.RowKit
variable {C:Ctx} [C.Loose]
set_option maxRecDepth 20000
theorem nf_spl(g:Nat->FL)(n:Nat)(d:Int)(R:oR7):letI z1:=nrmL okV (flOf (wac g)) n;letI z3:=(∀(i:Nat),i<z1.length->true=true:Prop);letI z0:=knwL okV g n d;letI z2:=z0.length;wpFn te [(39,.det wl3),(100,.rel wnt)] [(4,L_s4 z0),(9,L_s9 z0)] 0 Tryz.f99 [.view 7 n (wac g),.q d] [] R=((n<=1000/\wac g=wac (flOf (wac g))/\∀(i:Nat),i<n->FL.Gd (flOf (wac g) i))/\z3/\z3/\49=49/\3=3/\false=false/\z1.length=z1.length/\z1.length<=1000/\wac (atF z1)=wac (flOf (wac (atF z1)))/\(∀(i:Nat),i<z1.length->FL.Rg (flOf (wac (atF z1)) i))/\True/\∀(k:Nat) (h:Nat->FL),k<=z1.length->lst h k=kfL (qD d) (flOf (wac (atF z1))) z1.length->(∀(i:Nat),i<k->true=true)/\(TEq [(4,.nil),(5,.nil),(6,.own 0 k),(7,.map 1),(17,.own 0 k),(18,.q (k:Int)),(19,.q 0)] [(4,.nil),(5,.nil),(6,.own 0 z2),(7,.map 1),(17,.own 0 z2),(18,.q (z2:Int)),(19,.q (↑0:Int))]/\wae [(0,.row 49 7 k (wac h) false),(1,.amap (List.map (λ(p:AV×AV)=>(AV.rn (ren 0 [(1,0),(33,1)]) p.1,AV.rn (ren 0 [(1,0),(33,1)]) p.2)) []))] [(0,.row 49 7 z2 (wac (atF z0)) false),(1,.amap (entM (cntL (edG z0) 0)))])/\z0.length<=1000/\(TEq [(4,.own 0 0),(5,.own 1 0),(7,.map 2),(34,.own 3 z2),(35,.q (z2:Int)),(36,.q 0)] [(4,.own 0 0),(5,.own 1 0),(7,.map 2),(34,.own 3 z2),(35,.q (z2:Int)),(36,.q (↑0:Int))]/\wae [(0,.row 49 7 0 (λ(_x:Nat)=>[]) false),(1,.row 49 7 0 (λ(_x:Nat)=>[]) false),(2,.amap (List.map (λ(p:AV×AV)=>(AV.rn (ren 0 [(3,0),(2,1),(1,2),(0,3)]) p.1,AV.rn (ren 0 [(3,0),(2,1),(1,2),(0,3)]) p.2)) (entM (cntL (edG z0) z2)))),(3,.row 49 7 z2 (wac (atF z0)) false)] [(0,.row 49 7 0 (wac (atF (selG z0 0))) false),(1,.row 49 7 0 (wac (atF (selB z0 0))) false),(2,.amap (entM (cntL (edG z0) z2))),(3,.row 49 7 z2 (wac (atF z0)) false)])/\z0.length<=1000/\(∀(i:Nat),i<(wbk z0).length->true=true)/\(∀(i:Nat),i<(badL z0).length->true=true)/\∃(O':oL7),wae [(0,.row 49 7 (wbk z0).length (wac (atF (wbk z0))) false),(1,.row 49 7 (badL z0).length (wac (atF (badL z0))) false)] O'/\R (.tuple [.own 0 (wbk z0).length,.own 1 (badL z0).length]) O'):=by kernel_rfl
theorem wy0(L:List FL)(k:Nat)(P:Nat->Prop)(R:eR7):letI z5:=wac (atF L);letI z4:=ren 0 [(0,0),(1,1)];letI z3:=cntL (edG L) k;letI z1:=L.length;letI z2:=([(4,.nil),(5,.nil),(6,.own 0 z1),(7,.map 1),(9,.ptr 2 0),(17,.own 0 z1),(18,.q (z1:Int)),(19,.q (k:Int))]:tL7);letI z0:=(atF L (k:Int).toNat);wa0 ⟨te,[],[(1006,L_s6 z3 (atF L k) L k)],0,59,0⟩ (wa2 Tryz.f99 4) [4,5,6,7,17,18,19] [4,5,6,7] [] (S_s4 L) P R (S_s4 L k)=(wad (decide ((k:Int)<(z1:Int))) (((0:Int)<=(k:Int)/\(k:Int)<(z1:Int))/\((k:Int).toNat<L.length/\7=7)/\(TEq z2 z2/\wae [(0,.row 49 7 z1 z5 false),(1,.amap (List.map (λ(p:AV×AV)=>(AV.rn (ren 0 [(0,0),(1,1),(2,2)]) p.1,AV.rn (ren 0 [(0,0),(1,1),(2,2)]) p.2)) (entM z3))),(2,.cells [.str z0.id,.q z0.ver,.q z0.day,.q z0.kind,.view 15 z0.ms.length (wag (atM z0.ms)),.view 5 z0.rs.length (wai (atR z0.rs)),.view 5 z0.ts.length (wah (atT z0.ts))] 49)] [(0,.row 49 7 z1 z5 false),(1,.amap (entM z3)),(2,.cells [.str (atF L k).id,.q (atF L k).ver,.q (atF L k).day,.q (atF L k).kind,.view 15 (atF L k).ms.length (wag (atM (atF L k).ms)),.view 5 (atF L k).rs.length (wai (atR (atF L k).rs)),.view 5 (atF L k).ts.length (wah (atT (atF L k).ts))] 49)])/\List.Nodup (List.map Prod.fst z3)/\inR .i64 (getC z3 (mk2 (edM (atF L k)))+1)/\inR .i64 ((k:Int)+1)/\∃(i':Nat),(TEq [(4,.nil),(5,.nil),(6,.own 0 z1),(7,.map 1),(17,.own 0 z1),(18,.q (z1:Int)),(19,.q ((k:Int)+1))] [(4,.nil),(5,.nil),(6,.own 0 z1),(7,.map 1),(17,.own 0 z1),(18,.q (z1:Int)),(19,.q (i':Int))]/\wae [(0,.row 49 7 z1 z5 false),(1,.amap (List.map (λ(p:AV×AV)=>(AV.rn z4 p.1,AV.rn z4 p.2)) (entM (addC z3 (mk2 (edM (atF L k)))))))] [(0,.row 49 7 z1 z5 false),(1,.amap (entM (cntL (edG L) i')))])/\P i') ((∀(i:Nat),i<L.length->true=true)/\∃(O':oL7),wae [(0,.row 49 7 z1 z5 false),(1,.amap (List.map (λ(p:AV×AV)=>(AV.rn z4 p.1,AV.rn z4 p.2)) (entM z3)))] O'/\R (.exit 0) (St.mk [(4,.nil),(5,.nil),(6,.own 0 z1),(7,.map 1)] O' 2 []))):=by kernel_rfl
theorem nf_s6a(u4 u5 u6 u17 u18 u19 c2 c3 c4 c5 c6:AV)(id:List UInt8)(ver:Int)(es:List (AV×AV))(r:AObj):letI z7:=([(4,u4),(5,u5),(6,u6),(7,.map 1),(9,.ptr 2 0),(17,u17),(18,u18),(19,u19)]:tL7);letI z2:=([(0,r),(1,.amap es),(2,.cells [.str id,.q ver,c2,c3,c4,c5,c6] 49)]:oL7);letI z3:=St.mk z7 z2 3 [];letI z1:=([(4,u4),(5,u5),(6,u6),(7,.map 1),(9,.ptr 2 0),(17,u17),(18,u18),(19,u19),(23,.map 1),(28,.agg [.str id,.q ver])]:tL7);letI z6:=St.mk z1 z2 3 [];letI z0:=(z1=z1/\z2=z2/\St.nx z3=St.nx z6:Prop);letI z5:=z0/\z1=z1/\z2=z2/\St.nx z3=St.nx z6;letI z4:=z0/\z0/\z1=z1/\z2=z2/\St.nx z3=St.nx z6;rgA ⟨te,[],[],0,59,0⟩ (regC Tryz.f99 6) [0,1,2,3,4,5] [4,5,6,7,9,17,18,19,23,28] ⟨z1,z2,3,[]⟩ ⟨z7,z2,3,[]⟩=((z4/\z5/\z1=z1/\z2=z2/\St.nx z3=St.nx z6)/\(z4/\(z0/\z0/\z0/\z1=z1/\z2=z2/\St.nx z3=St.nx z6)/\z5/\z4/\z0/\z0/\z1=z1/\z2=z2/\St.nx z3=St.nx z6)/\(z5/\z1=z1/\z2=z2/\St.nx z3=St.nx z6)/\(z5/\z4/\z0/\z0/\z1=z1/\z2=z2/\St.nx z3=St.nx z6)/\z0/\z0/\z0/\z1=z1/\z2=z2/\St.nx z3=St.nx z6):=by kernel_rfl
theorem nf_s6(E:List ((List UInt8×Int)×Int))(F:FL)(L:List FL)(k:Nat)(Q:eR7):rgB ⟨te,[],[],0,59,0⟩ (regC Tryz.f99 6) [0,1,2,3,4,5] [4,5,6,7,9,17,18,19] Q (S_s6b E F L k)=(letI z18:=L.length;letI z16:=Env.te (Env.mk te [] [] 0 59 0);letI z15:=zvA (.q 0);letI z14:=ren 0 [(0,0),(1,1),(2,2)];letI z9:=(∀(i:Nat),i<L.length->true=true:Prop);letI z7:=([.str F.id,.q F.ver,.q F.day,.q F.kind,.view 15 F.ms.length (wag (atM F.ms)),.view 5 F.rs.length (wai (atR F.rs)),.view 5 F.ts.length (wah (atT F.ts))]:List AV);letI z3:=([(4,.nil),(5,.nil),(6,.own 0 z18),(7,.map 1),(9,.ptr 2 0),(17,.own 0 z18),(18,.q (z18:Int)),(19,.q (k:Int))]:tL7);letI z0:=([.str F.id,.q F.ver]:List AV);letI z13:=mget (entM E) (.agg z0);letI z11:=(↑(midx (entM E) (.agg z0)):Int);letI z10:=(wap (Option.getD z13 z15)+1);letI z6:=wcz z16 173 (entM E)/\.q (wap (Option.getD z13 (.q 0)))=Option.getD z13 (.q 0);letI z5:=ment (.q 0) (entM E) (.agg z0);letI z19:=List.getD z5 z11.toNat (.any,.any);letI z8:=Option.getD (mget z5 (.agg z0)) z15;letI z17:=(wap z8+1);letI z12:=wcz z16 173 z5/\.q (wap z8)=Option.getD (mget z5 (.agg z0)) z15;letI z4:=((0:Int)<=z11/\z11<(z5.length:Int):Prop);letI z2:=([(0,.row 49 7 z18 (wac (atF L)) false),(1,.amap (List.map (λ(p:AV×AV)=>(AV.rn z14 p.1,AV.rn z14 p.2)) (List.set z5 z11.toNat (z19.1,.q z10)))),(2,.cells z7 49)]:oL7);letI z1:=([(0,.row 49 7 z18 (wac (atF L)) false),(1,.amap (List.map (λ(p:AV×AV)=>(AV.rn z14 p.1,AV.rn z14 p.2)) (List.set z5 z11.toNat (z19.1,.q z17)))),(2,.cells z7 49)]:oL7);((wcz z16 173 (entM E)/\.q (wap (Option.getD z13 z15))=Option.getD z13 z15)/\(inR .i64 z10/\z6/\z4/\z9/\∃(O':oL7),wae z2 O'/\Q .normal (St.mk z3 O' 3 []))/\z6/\(inR .i64 z10/\z4/\z9/\∃(O':oL7),wae z2 O'/\Q .normal (St.mk z3 O' 3 []))/\inR .i64 z10/\z4/\z9/\∃(O':oL7),wae z2 O'/\Q .normal (St.mk z3 O' 3 []))/\z6/\(z12/\(inR .i64 z17/\z4/\z9/\∃(O':oL7),wae z1 O'/\Q .normal (St.mk z3 O' 3 []))/\inR .i64 z17/\z4/\z9/\∃(O':oL7),wae z1 O'/\Q .normal (St.mk z3 O' 3 []))/\z12/\inR .i64 z17/\z4/\z9/\∃(O':oL7),wae z1 O'/\Q .normal (St.mk z3 O' 3 [])):=by kernel_rfl
theorem wyz(L:List FL)(k:Nat)(P:Nat->Prop)(R:eR7):wa0 ⟨te,[],[],0,59,0⟩ (wa2 Tryz.f99 9) [4,5,7,34,35,36] [4,5] [] (S_s9 L) P R (S_s9 L k)=(letI z13:=ren 0 [(23,0),(1,1),(2,2),(3,3)];letI z12:=ren 0 [(0,0),(23,1),(2,2),(3,3)];letI z11:=wac (atF (selB L k));letI z10:=wac (atF (selG L k));letI z9:=(selG L k).length+1;letI z8:=(selB L k).length+1;letI z7:=(7<=16777216/\7=7/\1<=9223372036854775807:Prop);letI z6:=(selB L k).length;letI z5:=(selG L k).length;letI z2:=L.length;letI z4:=entM (cntL (edG L) z2);letI z0:=(atF L (k:Int).toNat);letI z3:=mget z4 (.agg [.str z0.id,.q z0.ver]);letI z1:=waq (TI.sz wb9) (.str z0.id:: .q z0.ver:: .q z0.day:: .q z0.kind:: .view 15 z0.ms.length (wag (atM z0.ms)):: .view 5 z0.rs.length (wai (atR z0.rs)):: .view 5 z0.ts.length (wah (atT z0.ts))::List.append [] wdm);wad (decide ((k:Int)<(z2:Int))) (((0:Int)<=(k:Int)/\(k:Int)<(z2:Int))/\((k:Int).toNat<L.length/\7=7)/\(wcz (Env.te (Env.mk te [] [] 0 59 0)) 173 z4/\.q (wap (Option.getD z3 (zvA (.q 0))))=Option.getD z3 (zvA (.q 0)))/\wad (decide ((1:Int)<wap (Option.getD z3 (zvA (.q 0))))) (z7/\((1<=1/\7=7)/\(selB L k).length<=(selB L k).length/\7=7/\49=49/\7=7/\(selB L k).length+1<=9223372036854775807/\z8 * TI.bytes wb9<=140737488355328)/\inR .i64 ((k:Int)+1)/\∃(i':Nat),(TEq [(4,.own 0 z5),(5,.own 1 z8),(7,.map 2),(34,.own 3 z2),(35,.q (z2:Int)),(36,.q ((k:Int)+1))] [(4,.own 0 (selG L i').length),(5,.own 1 (selB L i').length),(7,.map 2),(34,.own 3 z2),(35,.q (z2:Int)),(36,.q (i':Int))]/\wae [(0,.row 49 7 z5 z10 false),(1,.row 49 7 z8 (apF z6 z11 z1) false),(2,.amap (List.map (λ(p:AV×AV)=>(AV.rn z12 p.1,AV.rn z12 p.2)) z4)),(3,.row 49 7 z2 (wac (atF L)) false)] [(0,.row 49 7 (selG L i').length (wac (atF (selG L i'))) false),(1,.row 49 7 (selB L i').length (wac (atF (selB L i'))) false),(2,.amap z4),(3,.row 49 7 z2 (wac (atF L)) false)])/\P i') (z7/\((1<=1/\7=7)/\(selG L k).length<=(selG L k).length/\7=7/\49=49/\7=7/\(selG L k).length+1<=9223372036854775807/\z9 * TI.bytes wb9<=140737488355328)/\inR .i64 ((k:Int)+1)/\∃(i':Nat),(TEq [(4,.own 0 z9),(5,.own 1 z6),(7,.map 2),(34,.own 3 z2),(35,.q (z2:Int)),(36,.q ((k:Int)+1))] [(4,.own 0 (selG L i').length),(5,.own 1 (selB L i').length),(7,.map 2),(34,.own 3 z2),(35,.q (z2:Int)),(36,.q (i':Int))]/\wae [(0,.row 49 7 z9 (apF z5 z10 z1) false),(1,.row 49 7 z6 z11 false),(2,.amap (List.map (λ(p:AV×AV)=>(AV.rn z13 p.1,AV.rn z13 p.2)) z4)),(3,.row 49 7 z2 (wac (atF L)) false)] [(0,.row 49 7 (selG L i').length (wac (atF (selG L i'))) false),(1,.row 49 7 (selB L i').length (wac (atF (selB L i'))) false),(2,.amap z4),(3,.row 49 7 z2 (wac (atF L)) false)])/\P i')) ((∀(i:Nat),i<(selG L k).length->true=true)/\(∀(i:Nat),i<(selB L k).length->true=true)/\∃(O':oL7),wae [(0,.row 49 7 z5 z10 false),(1,.row 49 7 z6 z11 false)] O'/\R (.exit 2) (St.mk [(4,.own 0 z5),(5,.own 1 z6)] O' 2 []))):=by kernel_rfl
theorem wqy{L:List ((List UInt8×Int)×Int)}(h:(L.map Prod.fst).Nodup):wcz te 173 (entM L):=by
 refine⟨List.all_eq_true.2 λp hp=>?_,(w2q h).2⟩;obtain⟨r,_,rfl⟩:=List.mem_map.1 hp;have:∀(a:List UInt8) (b:Int),keyA te 173 (.agg [.str a,.q b])=true:=λa b=>by kernel_rfl
 exact this _ _
theorem w1m{ES:List (AV×AV)}{i:Nat}{v:AV}(hi:i<ES.length)(h:wcz te 173 (ES.set i ((ES.getD i (.any,.any)).1,v))):wcz te 173 ES:=by
 have e:(ES.set i ((ES.getD i (.any,.any)).1,v)).map Prod.fst=ES.map Prod.fst:=by
  apply List.ext_getElem
  ·simp
  ·intro j h1 h2;simp only[List.getElem_map,List.getElem_set];split
   ·rename_i e;subst e;simp[hi]
   ·rfl
 obtain⟨h1,h2⟩:=h;rw[e] at h2;refine⟨?_,h2⟩;have f:∀l:List (AV×AV),(l.all λp=>keyA te 173 p.1)=(l.map Prod.fst).all λk=>keyA te 173 k:=λl=>by rw[List.all_map];rfl
 rw[f] at h1 ⊢;rw[e] at h1;exact h1
theorem s6_ok(hP:C.P=Tryz.prog)(E:List ((List UInt8×Int)×Int))(F:FL)(L:List FL)(k:Nat):waj C 0 59 (regC Tryz.f99 6) (L_s6 E F L k):=by
 have _:C.Loose:=inferInstance;rintro st Q ⟨h0,hnd,hin,hQ⟩;refine waj.cut (SA:=S_s6b E F L k) (prg hP) [] 0 .nil [4,5,6,7,9,17,18,19] [4,5,6,7,9,17,18,19] [0,1,2,3,4,5] [4,5,6,7,9,17,18,19,23,28] h0 ?_ ?_ ⟨λ_ _=>rfl,trivial⟩
 ·refine(nf_s6a .nil .nil (.own 0 L.length) (.own 0 L.length) (.q L.length) (.q k) (.q F.day) (.q F.kind) (.view 15 F.ms.length (wag (atM F.ms))) (.view 5 F.rs.length (wai (atR F.rs))) (.view 5 F.ts.length (wah (atT F.ts))) F.id F.ver (entM E) (.row 49 7 L.length (wac (atF L)) false)).mpr ?_
  repeat' first | exact rfl | refine And.intro ?_ ?_
 rw[nf_s6];have zz:zvA (.q 0)= .q 0:=rfl;have F1:Option.getD (mget (entM E) (.agg [.str F.id,.q F.ver])) (.q 0)= .q (getC E (mk2 (edM F))):=wpw (mk2 (edM F)) E;obtain⟨F3,F4,F5⟩:=ment_K (mk2 (edM F)) E;have K1:=wqy hnd;have K2:wcz te 173 (ment (.q 0) (entM E) (keyK (mk2 (edM F)))):=w1m F4 (F5.symm ▸ wqy (wrk (mk2 (edM F)) hnd));change Option.getD (mget (ment (.q 0) (entM E) (.agg [.str F.id,.q F.ver])) (.agg [.str F.id,.q F.ver])) (.q 0)= .q (getC E (mk2 (edM F))) at F3;change midx (entM E) (.agg [.str F.id,.q F.ver])<(ment (.q 0) (entM E) (.agg [.str F.id,.q F.ver])).length at F4;change (ment (.q 0) (entM E) (.agg [.str F.id,.q F.ver])).set (midx (entM E) (.agg [.str F.id,.q F.ver])) (((ment (.q 0) (entM E) (.agg [.str F.id,.q F.ver])).getD (midx (entM E) (.agg [.str F.id,.q F.ver])) (.any,.any)).1,.q (getC E (mk2 (edM F))+1))=entM (addC E (mk2 (edM F))) at F5;change wcz te 173 (ment (.q 0) (entM E) (.agg [.str F.id,.q F.ver])) at K2;have F6:(0:Int)<=(midx (entM E) (.agg [.str F.id,.q F.ver]):Int)/\(midx (entM E) (.agg [.str F.id,.q F.ver]):Int)<((ment (.q 0) (entM E) (.agg [.str F.id,.q F.ver])).length:Int):=by omega
 simp only[zz,F1,F3,wap,tN7,F5,wf4];have leaf:∃O',wae (S_s6 (addC E (mk2 (edM F))) F L k).O O'/\Q .normal ⟨(S_s6 (addC E (mk2 (edM F))) F L k).T,O',3,[]⟩:=⟨_,wal _,hQ⟩;have all:∀i,i<L.length->True:=λ_ _=>trivial;have K1:=(and_true (wcz te 173 (entM E))).symm ▸ K1
 repeat' first | exact leaf | exact trivial | exact K1 | exact K2 | exact⟨K2,trivial⟩ | exact hin | exact F6 | exact all | refine And.intro ?_ ?_
theorem s4_loop(hP:C.P=Tryz.prog)(L:List FL):waj C 0 59 (wam Tryz.f99 4) (L_s4 L):=by
 rintro st Q ⟨h0,hn,hQ⟩;refine waj.mkI (prg hP) [] (λk=>[(1006,L_s6 (cntL (edG L) k) (atF L k) L k)]) 0 .nil (λk=>[(regC Tryz.f99 6,L_s6 (cntL (edG L) k) (atF L k) L k)]) (λk=>by kernel_rfl) (λk=>⟨s6_ok hP _ _ L k,trivial⟩) [4,5,6,7,17,18,19] [4,5,6,7] [] (S_s4 L) (λk=>k<=L.length) (λk=>L.length - k) 0 (zL7 _) h0 (λk hk=>?_) (λk=>⟨λ_ _=>rfl,trivial⟩);rw[wy0,tN7,wf4,wf4];have hb:=wqs (edG L) (mk2 (edM (atF L k))) k;have hc:=wtd (edG L) (mk2 (edM (atF L k))) k;refine wak (λh1=>⟨⟨by omega,by omega⟩,⟨by omega,rfl⟩,⟨rfl,wal _⟩,wq4 (edG L) k,by simp only[inR];omega,by simp only[inR];omega,k+1,⟨rfl,?_⟩,by omega,by omega⟩) (λh1=>?_)
 ·exact wal _
 ·have:k=L.length:=by omega
  subst this
  first | exact⟨λ_ _=>rfl,_,wal _,hQ⟩ | (rw[wf4];exact⟨λ_ _=>rfl,_,wal _,hQ⟩)
theorem snocF(G:List FL)(x:FL)(ch:Nat->List AV)(hch:ch 0=wbb x):∀i,i<G.length+1->apF G.length (wac (atF G)) ch i=wac (atF (G++[x])) i:=λi hi=>by
 unfold apF
 by_cases h:i<G.length
 ·rw[if_pos h];show wbb (atF G i)=wbb (atF (G++[x]) i);congr 1;simp[atF,List.getD_eq_getElem?_getD,List.getElem?_append_left h]
 ·have:i=G.length:=by omega
  subst this;rw[if_neg h,Nat.sub_self,hch];show wbb x=wbb (atF (G++[x]) G.length);congr 1;simp[atF]
theorem s9_loop(hP:C.P=Tryz.prog)(L:List FL):waj C 0 59 (wam Tryz.f99 9) (L_s9 L):=by
 have _:C.Loose:=inferInstance;rintro st Q ⟨h0,hn,hQ⟩;refine AWP.ownNil 5 49 7 (AWP.ownNil 4 49 7 ?_);refine waj.mk (prg hP) [] 0 .nil [4,5,7,34,35,36] [4,5] [] (S_s9 L) (λk=>k<=L.length) (λk=>L.length - k) 0 (zL7 _) h0 (λk hk=>?_) (λ_=>⟨λ_ _=>rfl,λ_ _=>rfl,λ_ _=>rfl,trivial⟩);have zz:zvA (.q 0)= .q 0:=rfl;rw[wyz,tN7];have l1:=why (λi=> !cfB L i) L k;have l2:=why (cfB L) L k;have hF:Option.getD (mget (entM (cntL (edG L) L.length)) (.agg [.str (atF L k).id,.q (atF L k).ver])) (.q 0)= .q (getC (cntL (edG L) L.length) (mk2 (edM (atF L k)))):=wpw (mk2 (edM (atF L k))) _;rw[zz,hF,wqs,wf4,wf4];have hc:cfB L k=decide (1<numC (edG L) (mk2 (edM (atF L k))) L.length):=rfl;have sG:selG L (k+1)=bif !cfB L k then selG L k++[atF L k] else selG L k:=rfl
 have sB:selB L (k+1)=bif cfB L k then selB L k++[atF L k] else selB L k:=rfl
 refine wak (λh1=>⟨⟨by omega,by omega⟩,⟨by omega,rfl⟩,⟨wqy (wq4 _ _),rfl⟩,wak (λh2=>?_) (λh2=>?_)⟩) (λh1=>?_)
 ·have hk':cfB L k=true:=decide_eq_true h2;rw[hk'] at sG sB;have sG:selG L (k+1)=selG L k:=sG;have sB:selB L (k+1)=selB L k++[atF L k]:=sB;have l2:(selB L k).length<=k:=l2;refine⟨⟨by omega,rfl,by omega⟩,⟨⟨lR7 _,rfl⟩,lR7 _,rfl,rfl,rfl,by omega,?_⟩,by simp only[inR];omega,k+1,?_,by omega,by omega⟩
  ·show ((selB L k).length+1) * 112<=_;omega
  ·rw[sG,sB,lA7];exact⟨rfl,rQ7,⟨rfl,rfl,rfl,rfl,rfl,snocF _ _ _ rfl⟩,rfl,rQ7,trivial⟩
 ·have hk':cfB L k=false:=decide_eq_false h2;rw[hk'] at sG sB;have sG:selG L (k+1)=selG L k++[atF L k]:=sG;have sB:selB L (k+1)=selB L k:=sB;have l1:(selG L k).length<=k:=l1;refine⟨⟨by omega,rfl,by omega⟩,⟨⟨lR7 _,rfl⟩,lR7 _,rfl,rfl,rfl,by omega,?_⟩,by simp only[inR];omega,k+1,?_,by omega,by omega⟩
  ·show ((selG L k).length+1) * 112<=_;omega
  ·rw[sG,sB,lA7];exact⟨rfl,⟨rfl,rfl,rfl,rfl,rfl,snocF _ _ _ rfl⟩,rQ7,rfl,rQ7,trivial⟩
 ·have:k=L.length:=by omega
  subst this;exact⟨λ_ _=>rfl,λ_ _=>rfl,_,wal _,hQ⟩
theorem wpn{g:Nat->FL}{n:Nat}(hg:∀i,i<n->(g i).Gd):∀x∈nrmL okV g n,x.Gd:=λx hx=>by
 obtain⟨i,b,rfl⟩:=wjr.1 hx;exact hg i b.lt
theorem wpm(g:Nat->FL)(n:Nat):(nrmL okV g n).length<=n:=by
 have:∀k,(nrmK okV g n k).length<=k:=λk=>by
  induction k with
  |zero=>exact lR7 _
  |succ k ih=>
   rw[nrmK]
   cases kept okV g n k with
   |true=>
    have hp:=wq1 (nrmK okV g n k) (g k) (nrmK okV g n k).length;rw[cond_true,insF,lA7,List.length_cons,List.length_take,List.length_drop];omega
   |false=>rw[cond_false];omega
 exact this n
theorem kf_day(L:List FL)(d:Int):kfL (qD d) (atF L) L.length=L.filter λf=>decide (f.day<=d):=by
 unfold kfL;rw[show lst (atF L) L.length=L from wdz L _];refine List.filter_congr λx _=>?_;unfold qD
 by_cases h:d<x.day
 ·rw[decide_eq_true h,decide_eq_false (by omega)];rfl
 ·rw[decide_eq_false h,decide_eq_true (by omega)];rfl
theorem spl_at(hP:C.P=Tryz.prog)(hL:∀w,C.laid w->LaidW w)(g:Nat->FL)(n:Nat)(d:Int)(hn:n<=1000)(hg:∀i,i<n->(g i).Gd):ADet C 99 [.view 7 n (wac g),.q d] [] (.tuple [.own 0 (wbk (knwL okV g n d)).length,.own 1 (badL (knwL okV g n d)).length])
     [(0,.row 49 7 (wbk (knwL okV g n d)).length (wac (atF (wbk (knwL okV g n d)))) false),(1,.row 49 7 (badL (knwL okV g n d)).length (wac (atF (badL (knwL okV g n d)))) false)]:=by
 refine wa4.wpL (prg hP) [(39,.det wl3),(100,.rel wnt)] [(4,L_s4 (knwL okV g n d)),(9,L_s9 (knwL okV g n d))] 0 (.cons (nrmz_ok hP hL) (.cons (delD_ok hP) .nil)) (hP ▸ Tryz.func99) rfl rfl rfl
   [(wam Tryz.f99 4,L_s4 (knwL okV g n d)),(wam Tryz.f99 9,L_s9 (knwL okV g n d))] (by kernel_rfl) ⟨s4_loop hP _,s9_loop hP _,trivial⟩ ?_
 rw[nf_spl,wcr,wcr,wf4];have hl:=wpm g n;have hgd:=wpn hg;have hk:kfL (qD d) (atF (nrmL okV g n)) (nrmL okV g n).length=knwL okV g n d:=kf_day _ d;generalize nrmL okV g n=N at *;rw[hk];generalize knwL okV g n d=K at *;refine⟨⟨hn,rfl,hg⟩,λ_ _=>rfl,λ_ _=>rfl,rfl,rfl,rfl,rfl,by omega,rfl,λi hi=>(hgd _ (wdt hi)).rg,trivial,λk h hkn hlst=>?_⟩;obtain⟨e1,e2⟩:=wp5 hlst wc8;subst e1;refine⟨λ_ _=>rfl,⟨rfl,⟨rfl,rfl,rfl,rfl,rfl,λi hi=>?_⟩,rfl,trivial⟩,by omega,⟨rfl,⟨rfl,rfl,rfl,rfl,rfl,λi hi=>absurd hi (nZ7 i)⟩,⟨rfl,rfl,rfl,rfl,rfl,λi hi=>absurd hi (nZ7 i)⟩,rfl,rQ7,trivial⟩,by omega,λ_ _=>rfl,λ_ _=>rfl,_,wal _,rfl,rfl⟩;show wbb (h i)=wbb (K.getD i wc8);rw[e2 i hi]
theorem spl_ok(hP:C.P=Tryz.prog)(hL:∀w,C.laid w->LaidW w):waf C 99 wha:=by
 rintro args objs U Os vc h hvc;unfold wha at h;split at h<;>cases h;rename_i n f d;obtain⟨hn,hf,hg⟩:=hvc;generalize flOf f=g at *;subst hf;exact spl_at hP hL g n d hn hg
theorem nf_vw(g:Nat->FL)(n:Nat)(d:Int)(R:oR7):letI z1:=wbk (knwL okV (flOf (wac g)) n d);letI z4:=z1.length;letI z0:=wbk (knwL okV g n d);letI z5:=wac (atF z0);letI z3:=z0.length;letI z2:=(List.map (λ(p:AV×AV)=>(AV.rn (idxN [0,1,2]) p.1,AV.rn (idxN [0,1,2]) p.2)) (nwE z0 z3));wpFn te [(99,.det wha),(100,.rel wns)] [(4,L_v4 z0)] 0 Tryz.f44 [.view 7 n (wac g),.q d] [] R=((n<=1000/\wac g=wac (flOf (wac g))/\∀(i:Nat),i<n->FL.Gd (flOf (wac g) i))/\(∀(i:Nat),i<z1.length->true=true)/\(∀(i:Nat),i<(badL (knwL okV (flOf (wac g)) n d)).length->true=true)/\(TEq [(5,.own 0 z4),(7,.ptr 1 0),(17,.own 0 z4),(18,.q (z4:Int)),(19,.q 0)] [(5,.own 0 z3),(7,.ptr 1 0),(17,.own 0 z3),(18,.q (z3:Int)),(19,.q (↑0:Int))]/\wae [(0,.row 49 7 z4 (wac (atF z1)) false),(1,.cells [.map 2] 132),(2,.amap (List.map (λ(p:AV×AV)=>(AV.rn (ren 0 [(0,0),(17,1),(16,2)]) p.1,AV.rn (ren 0 [(0,0),(17,1),(16,2)]) p.2)) []))] [(0,.row 49 7 z3 z5 false),(1,.cells [.map 2] 132),(2,.amap (nwE z0 0))])/\z0.length<=1000/\(∀(F:FL),F∈wbk (knwL okV g n d)->(0:Int)<=F.ver)/\(∀(i:Nat),i<z0.length->true=true)/\49=49/\132=132/\false=false/\z0.length=z0.length/\z0.length<=1000/\wac (atF z0)=wac (flOf z5)/\(∀(i:Nat),i<z0.length->FL.Rg (flOf z5 i))/\EsV z2/\∀(k:Nat) (h:Nat->FL),k<=z0.length->lst h k=kfL (qV z2) (flOf z5) z3->(∀(i:Nat),i<k->true=true)/\(∀(i:Nat),i<k->true=true)/\∃(O':oL7),wae [(0,.row 49 7 k (wac h) false)] O'/\R (.own 0 k) O'):=by kernel_rfl
theorem wyh(G:List FL)(k:Nat)(P:Nat->Prop)(R:eR7):wa0 ⟨te,[],[],0,40,0⟩ (wa2 Tryz.f44 4) [5,7,17,18,19] [5,7] [] (S_v4 G) P R (S_v4 G k)=(letI z5:=TI.desc (TI.mk TypeDesc.string 1 16 (Value.string (ByteArray.mk #[])) false);letI z4:=ren 0 [(0,0),(1,1),(2,2)];letI z2:=(atF G (k:Int).toNat);letI z6:=wap (Option.getD (mget (nwE G k) (.str z2.id)) (zvA (.q 0)));letI z1:=G.length;letI z3:=([(5,.own 0 z1),(7,.ptr 1 0),(17,.own 0 z1),(18,.q (z1:Int)),(19,.q ((k:Int)+1))]:tL7);letI z0:=([(0,.row 49 7 z1 (wac (atF G)) false),(1,.cells [.map 2] 132),(2,.amap (List.map (λ(p:AV×AV)=>(AV.rn z4 p.1,AV.rn z4 p.2)) (nwE G k)))]:oL7);wad (decide ((k:Int)<(z1:Int))) (((0:Int)<=(k:Int)/\(k:Int)<(z1:Int))/\((k:Int).toNat<G.length/\7=7)/\wad (!decide (z2.kind=1)) ((wbl z5 (nwE G k)/\.q z6=Option.getD (mget (nwE G k) (.str z2.id)) (zvA (.q 0)))/\wbl z5 (nwE G k)/\inR .i64 ((k:Int)+1)/\∃(i':Nat),(TEq z3 [(5,.own 0 z1),(7,.ptr 1 0),(17,.own 0 z1),(18,.q (z1:Int)),(19,.q (i':Int))]/\wae [(0,.row 49 7 z1 (wac (atF G)) false),(1,.cells [.map 2] 132),(2,.amap (List.map (λ(p:AV×AV)=>(AV.rn z4 p.1,AV.rn z4 p.2)) (mset (nwE G k) (.str z2.id) (.q (max z6 z2.ver)))))] [(0,.row 49 7 z1 (wac (atF G)) false),(1,.cells [.map 2] 132),(2,.amap (nwE G i'))])/\P i') (inR .i64 ((k:Int)+1)/\∃(i':Nat),(TEq z3 [(5,.own 0 z1),(7,.ptr 1 0),(17,.own 0 z1),(18,.q (z1:Int)),(19,.q (i':Int))]/\wae z0 [(0,.row 49 7 z1 (wac (atF G)) false),(1,.cells [.map 2] 132),(2,.amap (nwE G i'))])/\P i')) ((∀(i:Nat),i<G.length->true=true)/\∃(O':oL7),wae z0 O'/\R (.exit 0) (St.mk [(5,.own 0 z1),(7,.ptr 1 0)] O' 3 []))):=by kernel_rfl
theorem nf_conf(g:Nat->FL)(n:Nat)(d:Int)(R:oR7):wpFn te [(99,.det wha)] [] 0 Tryz.f46 [.view 7 n (wac g),.q d] [] R=(letI z0:=knwL okV (flOf (wac g)) n d;letI z1:=(∀(i:Nat),i<(badL z0).length->true=true:Prop);(n<=1000/\wac g=wac (flOf (wac g))/\∀(i:Nat),i<n->FL.Gd (flOf (wac g) i))/\(∀(i:Nat),i<(wbk z0).length->true=true)/\z1/\z1/\∃(O':oL7),wae [(0,.row 49 7 (badL z0).length (wac (atF (badL z0))) false)] O'/\R (.own 0 (badL z0).length) O'):=by kernel_rfl
theorem wtu(v:List UInt8->Int)(x:List UInt8)(y:Int):∀K,x ∉ K->mset (entI K v) (.str x) (.q y)=entI (K++[x]) (λt=>if t=x then y else v t)
 |[],_=>by simp[entI,mset]
 |t::K,h=>by
  have h1:¬ t=x:=λe=>h (by simp[e]);have ih:=wtu v x y K (λe=>h (by simp[e]));show (match keq (.str t) (.str x) with | true=>(AV.str x,AV.q y)::entI K v | false=>(AV.str t,AV.q (v t))::mset (entI K v) (.str x) (.q y))=_
  rw[wep,decide_eq_false h1,ih];show _=(AV.str t,AV.q (if t=x then y else v t))::entI (K++[x]) _
  rw[if_neg h1]
theorem wkn{K:List (List UInt8)}{v v':List UInt8->Int}(h:∀t∈K,v t=v' t):entI K v=entI K v':=List.map_congr_left λt ht=>by rw[h t ht]
theorem wtr(v:List UInt8->Int)(x:List UInt8)(y:Int):∀K,K.Nodup->x∈K->mset (entI K v) (.str x) (.q y)=entI K (λt=>if t=x then y else v t)
 |[],_,h=>by cases h
 |t::K,hd,h=>by
  rw[List.nodup_cons] at hd;show (match keq (.str t) (.str x) with | true=>(AV.str x,AV.q y)::entI K v | false=>(AV.str t,AV.q (v t))::mset (entI K v) (.str x) (.q y))=(AV.str t,AV.q (if t=x then y else v t))::entI K (λt=>if t=x then y else v t)
  rw[wep]
  by_cases e:t=x
  ·subst e;rw[decide_eq_true rfl,if_pos rfl];show _::_=_::_;rw[wkn (v:=v) (v':=λs=>if s=t then y else v s) λs hs=>by
    rw[if_neg];intro q;subst q;exact hd.1 hs]
  ·rw[decide_eq_false e,if_neg e];have hx:x∈K:=by
    rcases List.mem_cons.1 h with q | q
    ·exact absurd q.symm e
    ·exact q
   show _::_=_::_;rw[wtr v x y K hd.2 hx]
theorem wid(G:List FL):∀k,(idK G k).Nodup
 |0=>List.nodup_nil
 |k+1=>by
  rw[idK]
  cases q: !decide ((atF G k).kind=1) && !decide ((atF G k).id∈idK G k) with
  |false=>exact wid G k
  |true=>
   rw[bA7,Bool.not_eq_true',Bool.not_eq_true',decide_eq_false_iff_not,decide_eq_false_iff_not] at q;show (idK G k++[(atF G k).id]).Nodup;rw[List.nodup_append];refine⟨wid G k,by simp,λa ha b hb=>?_⟩;rw[List.mem_singleton] at hb;subst hb;intro e;subst e;exact q.2 ha
theorem wjo{G:List FL}{t:List UInt8}:∀ {k},t ∉ idK G k->nwF G t k=0
 |0,_=>rfl
 |k+1,h=>by
  rw[idK] at h;rw[nwF]
  cases q: !decide ((atF G k).kind=1) with
  |false=>
   rw[q,Bool.false_and,cond_false] at h;rw[Bool.false_and,cond_false];exact wjo h
  |true=>
   rw[q,Bool.true_and] at h
   by_cases e:(atF G k).id∈idK G k
   ·rw[decide_eq_true e] at h;have h:t ∉ idK G k:=h;have ne:¬ (atF G k).id=t:=λz=>h (z ▸ e);rw[decide_eq_false ne];exact wjo h
   ·rw[decide_eq_false e] at h;have h:t ∉ idK G k++[(atF G k).id]:=h;rw[List.mem_append,List.mem_singleton,not_or] at h;rw[decide_eq_false λz=>h.2 z.symm];exact wjo h.1
theorem wtb(G:List FL)(k:Nat)(x:List UInt8):Option.getD (mget (nwE G k) (.str x)) (.q 0)= .q (nwF G x k):=by
 unfold nwE;rw[wpx]
 by_cases h:x∈idK G k
 ·rw[if_pos h]
 ·rw[if_neg h,wjo h]
theorem wta(G:List FL)(k:Nat):wbl .string (nwE G k):=wvk (wid G k)
theorem wpk(σ:Nat->Option Nat)(G:List FL)(k:Nat):(nwE G k).map (λp=>(AV.rn σ p.1,AV.rn σ p.2))=nwE G k:=wgz σ _ _
theorem nwE_msg{G:List FL}{k:Nat}(h:(atF G k).kind=1):nwE G (k+1)=nwE G k:=by
 unfold nwE;rw[idK,decide_eq_true h];refine wkn λt _=>?_;rw[nwF,decide_eq_true h];rfl
theorem nwE_set{G:List FL}{k:Nat}(h:¬ (atF G k).kind=1):mset (nwE G k) (.str (atF G k).id) (.q (max (nwF G (atF G k).id k) (atF G k).ver))=nwE G (k+1):=by
 unfold nwE;have st:∀t,nwF G t (k+1)=if t=(atF G k).id then max (nwF G (atF G k).id k) (atF G k).ver else nwF G t k:=λt=>by
  rw[nwF,decide_eq_false h]
  by_cases e:t=(atF G k).id
  ·subst e;rw[if_pos rfl,decide_eq_true rfl];rfl
  ·rw[if_neg e,decide_eq_false λz=>e z.symm];rfl
 rw[idK,decide_eq_false h]
 by_cases e:(atF G k).id∈idK G k
 ·rw[decide_eq_true e,wtr _ _ _ _ (wid G k) e];exact wkn λt _=>(st t).symm
 ·rw[decide_eq_false e,wtu _ _ _ _ e];exact wkn λt _=>(st t).symm
theorem v4_loop(hP:C.P=Tryz.prog)(G:List FL):waj C 0 40 (wam Tryz.f44 4) (L_v4 G):=by
 have _:C.Loose:=inferInstance;rintro st Q ⟨h0,hn,hv,hQ⟩;refine waj.mk (prg hP) [] 0 .nil [5,7,17,18,19] [5,7] [] (S_v4 G) (λk=>k<=G.length) (λk=>G.length - k) 0 (zL7 _) h0 (λk hk=>?_) (λ_=>⟨λ_ _=>rfl,trivial⟩);have zz:zvA (.q 0)= .q 0:=rfl;rw[wyh,tN7,zz,wtb,wpk];refine wak (λh1=>⟨⟨by omega,by omega⟩,⟨by omega,rfl⟩,wb7 (λh2=>?_) (λh2=>?_)⟩) (λh1=>?_)
 ·have e:=nwE_set (G:=G) (k:=k) h2;refine⟨⟨wta G k,rfl⟩,wta G k,by simp only[inR];omega,k+1,⟨rfl,?_⟩,by omega,by omega⟩;have e':mset (nwE G k) (.str (atF G k).id) (.q (max (wap (.q (nwF G (atF G k).id k))) (atF G k).ver))=nwE G (k+1):=e;rw[e',wpk];exact wal _
 ·exact⟨by simp only[inR];omega,k+1,⟨rfl,by rw[nwE_msg h2];exact wal _⟩,by omega,by omega⟩
 ·have:k=G.length:=by omega
  subst this;exact⟨λ_ _=>rfl,_,wal _,hQ⟩
theorem kf_view(G:List FL):kfL (qV (nwE G G.length)) (atF G) G.length=wfo G:=by
 unfold kfL wfo;rw[show lst (atF G) G.length=G from wdz G _];refine List.filter_congr λx _=>?_;unfold qV vwB;rw[wtb];rfl
theorem wqc(g:Nat->FL)(n:Nat)(d:Int):(knwL okV g n d).length<=n:=Nat.le_trans (List.length_filter_le _ _) (wpm g n)
theorem wuo(L:List FL):(wbk L).length<=L.length:=why _ L _
theorem wqd{g:Nat->FL}{n:Nat}{d:Int}(hg:∀i,i<n->(g i).Gd):∀x∈knwL okV g n d,x.Gd:=λx hx=>wpn hg x (List.mem_filter.1 hx).1
theorem bad_mem{L:List FL}{x:FL}(h:x∈badL L):x∈L:=by
 obtain⟨i,hi,_,rfl⟩:=wjf.1 h;exact wdt hi
theorem wi5{g:Nat->FL}{n:Nat}{d:Int}(hg:∀i,i<n->(g i).Gd):∀x∈vwL okV g n d,x.Gd:=λx hx=>wqd hg x (wqq (List.mem_filter.1 hx).1)
theorem wi4(g:Nat->FL)(n:Nat)(d:Int):(vwL okV g n d).length<=n:=Nat.le_trans (List.length_filter_le _ _) (Nat.le_trans (wuo _) (wqc g n d))
theorem wry(hP:C.P=Tryz.prog)(hL:∀w,C.laid w->LaidW w)(g:Nat->FL)(n:Nat)(d:Int)(hn:n<=1000)(hg:∀i,i<n->(g i).Gd):ADet C 44 [.view 7 n (wac g),.q d] [] (.own 0 (vwL okV g n d).length) [(0,.row 49 7 (vwL okV g n d).length (wac (atF (vwL okV g n d))) false)]:=by
 refine wa4.wpL (prg hP) [(99,.det wha),(100,.rel wns)] [(4,L_v4 (wbk (knwL okV g n d)))] 0 (.cons (spl_ok hP hL) (.cons (delV_ok hP) .nil)) (hP ▸ Tryz.func44) rfl rfl rfl
  [(wam Tryz.f44 4,L_v4 (wbk (knwL okV g n d)))] (by kernel_rfl) ⟨v4_loop hP _,trivial⟩ ?_
 rw[nf_vw,wcr,wcr,wpk];have h1:=wqc g n d;have h2:=wuo (knwL okV g n d);have hv:∀F∈wbk (knwL okV g n d),0<=F.ver:=λF hF=>by
  have:=wx6 (nrm_ok (List.mem_filter.1 (wqq hF)).1);omega
 have hgd:∀F∈wbk (knwL okV g n d),F.Gd:=λF hF=>wqd hg F (wqq hF);have hk:=kf_view (wbk (knwL okV g n d));have hw:vwL okV g n d=wfo (wbk (knwL okV g n d)):=rfl;rw[hk,hw];generalize wbk (knwL okV g n d)=G at *;refine⟨⟨hn,rfl,hg⟩,λ_ _=>rfl,λ_ _=>rfl,⟨rfl,wal _⟩,by omega,hv,λ_ _=>rfl,rfl,rfl,rfl,rfl,by omega,rfl,λi hi=>(hgd _ (wdt hi)).rg,⟨_,_,rfl,wid G _⟩,λk h hkn hlst=>?_⟩;obtain⟨e1,e2⟩:=wp5 hlst wc8;subst e1;refine⟨λ_ _=>rfl,λ_ _=>rfl,[(0,.row 49 7 (wfo G).length (wac (atF (wfo G))) false)],⟨⟨rfl,rfl,rfl,rfl,rfl,λi hi=>?_⟩,trivial⟩,rfl,rfl⟩;show wbb (h i)=wbb ((wfo G).getD i wc8);rw[e2 i hi]
theorem view_ok(hP:C.P=Tryz.prog)(hL:∀w,C.laid w->LaidW w):waf C 44 wlh:=by
 rintro args objs U Os vc h hvc;unfold wlh at h;split at h<;>cases h;rename_i n f d;obtain⟨hn,hf,hg⟩:=hvc;generalize flOf f=g at *;subst hf;exact wry hP hL g n d hn hg
theorem conf_ok(hP:C.P=Tryz.prog)(hL:∀w,C.laid w->LaidW w):waf C 46 S_conf:=by
 rintro args objs U Os vc h hvc;unfold S_conf at h;split at h<;>cases h;rename_i n f d;obtain⟨hn,hf,hg⟩:=hvc;generalize flOf f=g at *;subst hf;refine wa4.wpL (prg hP) [(99,.det wha)] [] 0 (.cons (spl_ok hP hL) .nil) (hP ▸ Tryz.func46) rfl rfl rfl [] (by kernel_rfl) trivial ?_;rw[nf_conf,wcr];exact⟨⟨hn,rfl,hg⟩,λ_ _=>rfl,λ_ _=>rfl,λ_ _=>rfl,_,wal _,rfl,rfl⟩
theorem nf_aw15(R:oR7):wpFn te [] [(1002,wou)] 0 Tryz.f31 [] [] R=(letI z0:=([.str [(97:UInt8)],.q 1,.q 10,.q 2,.view 15 0 (wag (atM [])),.own 1 1,.view 5 0 (wah (atT []))]:List AV);(5<=16777216/\5=5/\1<=9223372036854775807)/\(TEq [(0,.bool false),(1,.ptr 0 0)] [(0,.bool false),(1,.ptr 0 0)]/\wae [(0,.cells z0 49),(1,.row 61 5 1 (waq (TI.sz wdn) (.str [(111:UInt8)]:: .str [(57:UInt8),54,51,56,53,48,55,52]:: .q 5:: .q 2:: .q 300::List.append [] wfs)) false)] [(0,.cells z0 49),(1,.row 61 5 1 (wai (atR [awR])) false)])/\R (.bool true) []):=by kernel_rfl
theorem nf_aw2(Q:eR7):regP ⟨te,[(33,.det wcy),(44,.det wlg)],[],0,22,0⟩ (regC Tryz.f31 2) [0] Q S_awc=(letI z6:=(7<=16777216/\7=7/\1<=9223372036854775807:Prop);letI z5:=wah (atT awFl.ts);letI z4:=wai (atR awFl.rs);letI z3:=wag (atM awFl.ms);letI z2:=(flV [(97:UInt8)] awFl.ver awFl.day awFl.kind 0 z3 1 z4 0 z5);letI z1:=(1=1/\1<=1000/\FM (waq (TI.sz wb9) (.str [(97:UInt8)]:: .q awFl.ver:: .q awFl.day:: .q awFl.kind:: .view 15 0 z3:: .view 5 1 z4:: .view 5 0 z5::List.append [] wdm)) 1:Prop);letI z0:=(∀(i:Nat),i<1->nrefL (waq (TI.sz wb9) (.str [(97:UInt8)]:: .q awFl.ver:: .q awFl.day:: .q awFl.kind:: .view 15 0 z3:: .view 5 1 z4:: .view 5 0 z5::List.append [] wdm) i)=true:Prop);(FlC 0 z3 1 z4 0 z5/\FL.Rg z2)/\wad (decide (encF z2=[(49:UInt8),58,97,44,49,44,50,44,48,44,49,44,49,58,111,44,56,58,57,54,51,56,53,48,55,52,44,53,44,50,44,51,48,48,44,48,44])) (z6/\z0/\z1/\z6/\z0/\z1/\Q .normal (St.mk [(0,.bool true)] [] 0 [])) (Q .normal (St.mk [(0,.bool false)] [] 0 []))):=by kernel_rfl
open Go.Lib in
theorem wwa:encF awFl=[49,58,97,44,49,44,50,44,48,44,49,44,49,58,111,44,56,58,57,54,51,56,53,48,55,52,44,53,44,50,44,51,48,48,44,48,44]:=by
 have d1:∀u,u<10->decDigits u=[UInt8.ofNat (48+u)]:=λu h=>by rw[decDigits,dif_pos h]
 have d3:decDigits 300=[51,48,48]:=by
  rw[decDigits,dif_neg (by omega),show 300 / 10=30 from rfl,decDigits,dif_neg (by omega),show 30 / 10=3 from rfl,d1 3 (by omega)];rfl
 have i1:∀u:Nat,u<10->itoa (u:Int)=[UInt8.ofNat (48+u)]:=λu h=>by
  unfold itoa;rw[if_neg (by omega),tN7,d1 u h]
 have i3:itoa (300:Int)=[51,48,48]:=by
  unfold itoa;rw[if_neg (by omega)];exact d3
 have e0:=i1 0 (by omega);have e1:=i1 1 (by omega);have e2:=i1 2 (by omega);have e5:=i1 5 (by omega);have e8:=i1 8 (by omega);show (itoa ((1:Nat):Int)++58::([97]++[44]))++((itoa ((1:Nat):Int)++[44])++((itoa ((2:Nat):Int)++[44])++((itoa ((0:Nat):Int)++[44])++([]++((itoa ((1:Nat):Int)++[44])++(((itoa ((1:Nat):Int)++58::([111]++[44]))++((itoa ((8:Nat):Int)++58::([57,54,51,56,53,48,55,52]++[44]))++((itoa ((5:Nat):Int)++[44])++((itoa ((2:Nat):Int)++[44])++(itoa (300:Int)++[44]))))++[])++((itoa ((0:Nat):Int)++[44])++[])))))))=_;rw[e0,e1,e2,e5,e8,i3];rfl
theorem wv8:awFl.Rg:=⟨by simp only[inR,awFl];omega,by simp only[inR,awFl];omega,by decide,by decide,by decide,λm hm=>(by cases hm),λr hr=>(by
 rw[List.mem_singleton.1 hr];exact⟨by simp only[inR,awR];omega,by simp only[inR,awR];omega,by simp only[inR,awR];omega⟩),λt ht=>(by cases ht),by rw[wwa];decide⟩
theorem wv9:awFl.Gd:=⟨⟨by decide,⟨by decide,λm hm=>(by cases hm)⟩,⟨by decide,λr hr=>by
 rw[List.mem_singleton.1 hr];decide⟩,⟨by decide,λt ht=>(by cases ht)⟩⟩,wv8⟩
theorem fm_one{f:Nat->List AV}{F:FL}(h:f 0=wbb F)(hg:F.Gd):FM f 1:=by
 have e:flOf f 0=F:=by
  unfold flOf;rw[h];exact wcq F
 refine⟨λi hi=>?_,λi hi=>?_⟩
 ·obtain rfl:i=0:=by omega
  show f 0=wbb (flOf f 0);rw[e,h]
 ·obtain rfl:i=0:=by omega
  rw[e];exact hg
theorem wrz(hP:C.P=Tryz.prog)(hL:∀w,C.laid w->LaidW w):waf C 44 wlf:=by
 rintro args objs U Os vc h hvc;unfold wlf at h;split at h<;>cases h;rename_i n f d;obtain⟨hn,hf,hg⟩:=hvc;generalize flOf f=g at *;subst hf;refine wan.frzO 0 ((wry hP hL g n d hn hg).mono ?_);rintro u O ⟨rfl,rfl⟩;refine⟨λ_ _=>rfl,?_⟩;have hb:Nat.ble (vwL okV g n d).length (vwL okV g n d).length=true:=Nat.ble_eq_true_of_le (lR7 _)
 constructor
 ·simp[frzC,frzA,frz,hb]
 ·rfl
theorem wwu(hP:C.P=Tryz.prog)(hL:∀w,C.laid w->LaidW w):waf C 44 wlg:=by
 rintro args objs U Os vc h hvc;unfold wlg at h;split at h<;>cases h;rename_i n d t m f fr;obtain⟨rfl,hn,hf,hs⟩:=hvc;refine wan.rowEq 0 (f':=wac (flOf f)) rfl (λi hi=>(hf i hi).symm) ?_;have hb:Nat.ble n n=true:=Nat.ble_eq_true_of_le (lR7 _);have hh:=wrz hP hL [.view 7 n (wac (flOf f)),.q d] [] _ _ _ rfl ⟨hn,by rw[wcr],by rw[wcr];exact hs⟩;rw[wcr] at hh;exact ADet.give hh (by simp[frzC,frzA,frz,hb]) rfl rfl (λ_ _=>rfl)
theorem aw2_ok(hP:C.P=Tryz.prog)(hL:∀w,C.laid w->LaidW w):waj C 0 22 (regC Tryz.f31 2) wou:=by
 rintro st Q ⟨h0,hQ⟩;refine AWP.nilVP 1 6 5 (wah (atT [])) (AWP.nilVP 1 4 15 (wag (atM [])) (AWP.canonIs (te:=te) [0,1] h0 (AWP.frzX 1 [] (λ_ _=>rfl) ?_) ⟨λ_ _=>rfl,trivial⟩));refine waj.reg (S:=S_awc) (prg hP) [(33,.det wcy),(44,.det wlg)] 0 (.cons (wko hP hL) (.cons (wwu hP hL) .nil)) [0,1] [0] rfl ?_ trivial;rw[nf_aw2];have e:flV [97] awFl.ver awFl.day awFl.kind 0 (wag (atM awFl.ms)) 1 (wai (atR awFl.rs)) 0 (wah (atT awFl.ts))=awFl:=wcq awFl;rw[e];refine⟨⟨wdc awFl,wv8⟩,wak (λ_=>?_) (λh=>absurd wwa h)⟩;have one:∀ {p:Nat->Prop},p 0->∀i,i<1->p i:=λh i hi=>by
  obtain rfl:i=0:=by omega
  exact h
 exact⟨⟨by omega,rfl,by omega⟩,one rfl,⟨rfl,by omega,fm_one (F:=awFl) rfl wv9⟩,⟨by omega,rfl,by omega⟩,one rfl,⟨rfl,by omega,fm_one (F:=awFl) rfl wv9⟩,hQ⟩
theorem w33(hP:C.P=Tryz.prog)(hL:∀w,C.laid w->LaidW w):waf C 31 wne:=by
 rintro args objs U Os vc h hvc;unfold wne at h;split at h<;>cases h;refine waf.wpL (prg hP) [] [(1002,wou)] 0 .nil (hP ▸ Tryz.func31) rfl rfl rfl [(regC Tryz.f31 2,wou)] (by kernel_rfl) ⟨aw2_ok hP hL,trivial⟩ ?_;rw[nf_aw15];exact⟨⟨by omega,rfl,by omega⟩,⟨rfl,rfl,⟨rfl,rfl,rfl,rfl,rfl,λi hi=>by
  obtain rfl:i=0:=by omega
  rfl⟩,trivial⟩,rfl,rfl⟩
theorem nf_chg(g:Nat->FL)(n:Nat)(d e:Int)(R:oR7):letI z4:=vwL okV g n d;letI z6:=z4.length;letI z3:=(n<=1000/\wac g=wac (flOf (wac g))/\∀(i:Nat),i<n->FL.Gd (flOf (wac g) i));letI z2:=vwL okV (flOf (wac g)) n d;letI z1:=(List.map (λ(p:AV×AV)=>(AV.rn (idxN [2,0,1]) p.1,AV.rn (idxN [2,0,1]) p.2)) (chE z4 z6));letI z0:=vwL okV (flOf (wac g)) n e;letI z5:=(∀(i:Nat),i<z0.length->true=true:Prop);wpFn te [(44,.det wlh),(100,.rel wnu)] [(3,wot g n e z4)] 0 Tryz.f48 [.view 7 n (wac g),.q d,.q e] [] R=(z3/\(∀(i:Nat),i<z2.length->true=true)/\(TEq [(0,.view 7 n (wac g)),(2,.q e),(7,.ptr 0 0),(13,.own 1 z2.length),(14,.q (z2.length:Int)),(15,.q 0)] [(0,.view 7 n (wac g)),(2,.q e),(7,.ptr 0 0),(13,.own 1 z6),(14,.q (z6:Int)),(15,.q (↑0:Int))]/\wae [(0,.cells [.map 2] 135),(1,.row 49 7 z2.length (wac (atF z2)) false),(2,.amap (List.map (λ(p:AV×AV)=>(AV.rn (ren 0 [(1,0),(3,1),(0,2)]) p.1,AV.rn (ren 0 [(1,0),(3,1),(0,2)]) p.2)) []))] [(0,.cells [.map 2] 135),(1,.row 49 7 z6 (wac (atF z4)) false),(2,.amap (chE z4 0))])/\z4.length<=1000/\(∀(F:FL),F∈vwL okV g n d->FL.Rg F)/\z3/\z5/\z5/\49=49/\135=135/\false=false/\z0.length=z0.length/\z0.length<=1000/\wac (atF z0)=wac (flOf (wac (atF z0)))/\(∀(i:Nat),i<z0.length->FL.Rg (flOf (wac (atF z0)) i))/\EsC z1/\∀(k:Nat) (h:Nat->FL),k<=z0.length->lst h k=kfL (qC z1) (flOf (wac (atF z0))) z0.length->(∀(i:Nat),i<k->true=true)/\(∀(i:Nat),i<k->true=true)/\∃(O':oL7),wae [(0,.row 49 7 k (wac h) false)] O'/\R (.own 0 k) O'):=by kernel_rfl
theorem w0l(g:Nat->FL)(n:Nat)(e:Int)(A:List FL)(k:Nat)(P:Nat->Prop)(R:eR7):wa0 ⟨te,[(33,.det wcy)],[],0,28,0⟩ (wa2 Tryz.f48 3) [0,2,7,13,14,15] [0,2,7] [] (wna g n e A) P R (wna g n e A k)=(letI z2:=A.length;letI z0:=(atF A (k:Int).toNat);letI z1:=flV z0.id z0.ver z0.day z0.kind z0.ms.length (wag (atM z0.ms)) z0.rs.length (wai (atR z0.rs)) z0.ts.length (wah (atT z0.ts));wad (decide ((k:Int)<(z2:Int))) (((0:Int)<=(k:Int)/\(k:Int)<(z2:Int))/\((k:Int).toNat<A.length/\7=7)/\(FlC z0.ms.length (wag (atM z0.ms)) z0.rs.length (wai (atR z0.rs)) z0.ts.length (wah (atT z0.ts))/\FL.Rg z1)/\wbl (TI.desc (TI.mk TypeDesc.string 1 16 (Value.string (ByteArray.mk #[])) false)) (chE A k)/\inR .i64 ((k:Int)+1)/\∃(i':Nat),(TEq [(0,.view 7 n (wac g)),(2,.q e),(7,.ptr 0 0),(13,.own 1 z2),(14,.q (z2:Int)),(15,.q ((k:Int)+1))] [(0,.view 7 n (wac g)),(2,.q e),(7,.ptr 0 0),(13,.own 1 z2),(14,.q (z2:Int)),(15,.q (i':Int))]/\wae [(0,.cells [.map 2] 135),(1,.row 49 7 z2 (wac (atF A)) false),(2,.amap (List.map (λ(p:AV×AV)=>(AV.rn (ren 0 [(0,0),(1,1),(2,2)]) p.1,AV.rn (ren 0 [(0,0),(1,1),(2,2)]) p.2)) (mset (chE A k) (.str (encF z1)) (.bool true))))] [(0,.cells [.map 2] 135),(1,.row 49 7 z2 (wac (atF A)) false),(2,.amap (chE A i'))])/\P i') (R (.exit 0) (St.mk [(0,.view 7 n (wac g)),(2,.q e),(7,.ptr 0 0)] [(0,.cells [.map 1] 135),(1,.amap (List.map (λ(p:AV×AV)=>(AV.rn (ren 0 [(0,0),(2,1)]) p.1,AV.rn (ren 0 [(0,0),(2,1)]) p.2)) (chE A k)))] 2 []))):=by kernel_rfl
theorem wtv(x:List UInt8):∀K,x ∉ K->mset (entB K) (.str x) (.bool true)=entB (K++[x])
 |[],_=>by simp[entB,mset]
 |t::K,h=>by
  have h1:¬ t=x:=λe=>h (by simp[e]);have ih:=wtv x K (λe=>h (by simp[e]));show (match keq (.str t) (.str x) with | true=>(AV.str x,AV.bool true)::entB K | false=>(AV.str t,AV.bool true)::mset (entB K) (.str x) (.bool true))=_
  rw[wep,decide_eq_false h1,ih];rfl
theorem wts(x:List UInt8):∀K,x∈K->mset (entB K) (.str x) (.bool true)=entB K
 |[],h=>by cases h
 |t::K,h=>by
  show (match keq (.str t) (.str x) with | true=>(AV.str x,AV.bool true)::entB K | false=>(AV.str t,AV.bool true)::mset (entB K) (.str x) (.bool true))=(AV.str t,AV.bool true)::entB K
  rw[wep]
  by_cases e:t=x
  ·subst e;rw[decide_eq_true rfl]
  ·rw[decide_eq_false e];have hx:x∈K:=by
    rcases List.mem_cons.1 h with q | q
    ·exact absurd q.symm e
    ·exact q
   show _::_=_::_;rw[wts x K hx]
theorem wi8(A:List FL):∀k,(txK A k).Nodup
 |0=>List.nodup_nil
 |k+1=>by
  rw[txK]
  cases q:decide (encF (atF A k)∈txK A k) with
  |true=>exact wi8 A k
  |false=>
   rw[decide_eq_false_iff_not] at q;rw[cond_false,List.nodup_append];refine⟨wi8 A k,by simp,λa ha b hb=>?_⟩;rw[List.mem_singleton.1 hb];intro e;subst e;exact q ha
theorem wr2(A:List FL)(t:List UInt8):∀k,t∈txK A k↔hasT A t k=true
 |0=>by simp[txK,hasT]
 |k+1=>by
  rw[txK,hasT,Bool.or_eq_true, ← wr2 A t k,decide_eq_true_eq]
  by_cases q:encF (atF A k)∈txK A k
  ·rw[decide_eq_true q,cond_true];refine⟨.inl,λh=>h.elim id λe=>by subst e;exact q⟩
  ·rw[decide_eq_false q,cond_false,List.mem_append,List.mem_singleton];refine or_congr Iff.rfl ⟨Eq.symm,Eq.symm⟩
theorem chE_set(A:List FL)(k:Nat):mset (chE A k) (.str (encF (atF A k))) (.bool true)=chE A (k+1):=by
 unfold chE;rw[txK]
 by_cases q:encF (atF A k)∈txK A k
 ·rw[decide_eq_true q,wts _ _ q];rfl
 ·rw[decide_eq_false q,wtv _ _ q];rfl
theorem wq9(σ:Nat->Option Nat)(A:List FL)(k:Nat):(chE A k).map (λp=>(AV.rn σ p.1,AV.rn σ p.2))=chE A k:=wg0 σ _
theorem kf_chg(A B:List FL):kfL (qC (chE A A.length)) (atF B) B.length=B.filter λf=> !hasT A (encF f) A.length:=by
 unfold kfL;rw[show lst (atF B) B.length=B from wdz B _];refine List.filter_congr λx _=>?_;unfold qC chE;rw[wpy];show (!decide (encF x∈txK A A.length))=_;congr 1;rw[Bool.eq_iff_iff,decide_eq_true_eq,wr2]
theorem w3h(hP:C.P=Tryz.prog)(hL:∀w,C.laid w->LaidW w)(g:Nat->FL)(n:Nat)(e:Int)(A:List FL):waj C 0 28 (wam Tryz.f48 3) (wot g n e A):=by
 rintro st Q ⟨h0,hn,hA,hQ⟩;refine waj.mk (prg hP) [(33,.det wcy)] 0 (.cons (wko hP hL) .nil) [0,2,7,13,14,15] [0,2,7] [] (wna g n e A) (λk=>k<=A.length) (λk=>A.length - k) 0 (zL7 _) h0 (λk hk=>?_) (λi=>⟨λ_ _=>rfl,trivial⟩);rw[w0l,tN7];refine wak (λh1=>?_) (λh1=>?_)
 ·have hr:=rgF _ (hA _ (wdt (show k<A.length by omega)));refine⟨⟨by omega,by omega⟩,⟨by omega,rfl⟩,hr,wvl (wi8 A k),by simp only[inR];omega,k+1,⟨rfl,?_⟩,by omega,by omega⟩;rw[wcq,chE_set,wq9];exact wal _
 ·have:k=A.length:=by omega
  subst this;rw[wq9];exact hQ
theorem chg_ok(hP:C.P=Tryz.prog)(hL:∀w,C.laid w->LaidW w):waf C 48 wm9:=by
 rintro args objs U Os vc h hvc;unfold wm9 at h;split at h<;>cases h;rename_i n f d e;obtain⟨hn,hf,hg⟩:=hvc;generalize flOf f=g at *;subst hf;refine wan.frzO 0 ?_;refine wa4.wpL (prg hP) [(44,.det wlh),(100,.rel wnu)] [(3,wot g n e (vwL okV g n d))] 0 (.cons (view_ok hP hL) (.cons (delC_ok hP hL) .nil)) (hP ▸ Tryz.func48) rfl rfl rfl [(wam Tryz.f48 3,wot g n e (vwL okV g n d))] (by kernel_rfl) ⟨w3h hP hL _ _ _ _,trivial⟩ ?_;rw[nf_chg,wcr,wcr,wq9,kf_chg];have l1:=wi4 g n d;have l2:=wi4 g n e;have g1:=wi5 (d:=d) hg;have g2:=wi5 (d:=e) hg;refine⟨⟨hn,rfl,hg⟩,λ_ _=>rfl,⟨rfl,rfl,rQ7,rfl,trivial⟩,by omega,λF hF=>(g1 F hF).rg,⟨hn,rfl,hg⟩,λ_ _=>rfl,λ_ _=>rfl,rfl,rfl,rfl,rfl,by omega,rfl,λi hi=>(g2 _ (wdt hi)).rg,⟨_,rfl,wi8 _ _⟩,λk h hk hlst=>?_⟩;have ek:(vwL okV g n e).filter (λf=> !hasT (vwL okV g n d) (encF f) (vwL okV g n d).length)=chgL okV g n d e:=rfl;rw[ek] at hlst;obtain⟨e1,e2⟩:=wp5 hlst wc8;subst e1;have hb:Nat.ble (chgL okV g n d e).length (chgL okV g n d e).length=true:=Nat.ble_eq_true_of_le (lR7 _);refine⟨λ_ _=>rfl,λ_ _=>rfl,[(0,.row 49 7 (chgL okV g n d e).length (wac (atF (chgL okV g n d e))) false)],⟨⟨rfl,rfl,rfl,rfl,rfl,λi hi=>?_⟩,trivial⟩,λ_ _=>rfl,by simp[frzC,frzA,frz,hb],rfl⟩;show wbb (h i)=wbb ((chgL okV g n d e).getD i wc8);rw[e2 i hi]
end Go.Eng
