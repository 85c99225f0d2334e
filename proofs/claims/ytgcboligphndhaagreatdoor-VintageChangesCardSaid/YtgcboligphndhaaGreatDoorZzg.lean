/- The law's awake. -/
import Derived.Test.YtgcboligphndhaaGreatDoorZzf
import Derived.Test.YtgcboligphndhaaGreatDoorZzb
namespace Go.Eng
open Go.Proofs Go.RowKit
variable {C:Ctx} [C.Loose]
set_option maxRecDepth 20000
theorem nf_spl(g:Nat->FL)(n:Nat)(d:Int)(R:oR7):letI z1:=nrmL okV (flOf (waa g)) n;letI z3:=(∀(i:Nat),i<z1.length->true=true:Prop);letI z0:=knwL okV g n d;letI z2:=z0.length;wpFn te [(39,.det wm2),(100,.rel wot)] [(4,L_s4 z0),(9,L_s9 z0)] 0 Tryz.f99 [.view 7 n (waa g),.q d] [] R=((n<=1000/\waa g=waa (flOf (waa g))/\∀(i:Nat),i<n->FL.Gd (flOf (waa g) i))/\z3/\z3/\49=49/\3=3/\false=false/\z1.length=z1.length/\z1.length<=1000/\waa (atF z1)=waa (flOf (waa (atF z1)))/\(∀(i:Nat),i<z1.length->FL.Rg (flOf (waa (atF z1)) i))/\True/\∀(k:Nat) (h:Nat->FL),k<=z1.length->lst h k=kfL (qD d) (flOf (waa (atF z1))) z1.length->(∀(i:Nat),i<k->true=true)/\(TEq [(4,.nil),(5,.nil),(6,.own 0 k),(7,.map 1),(17,.own 0 k),(18,.q (k:Int)),(19,.q 0)] [(4,.nil),(5,.nil),(6,.own 0 z2),(7,.map 1),(17,.own 0 z2),(18,.q (z2:Int)),(19,.q (↑0:Int))]/\wae [(0,.row 49 7 k (waa h) false),(1,.amap (List.map (λ(p:AV×AV)=>(AV.rn (ren 0 [(1,0),(33,1)]) p.1,AV.rn (ren 0 [(1,0),(33,1)]) p.2)) []))] [(0,.row 49 7 z2 (waa (atF z0)) false),(1,.amap (entM (cntL (edG z0) 0)))])/\z0.length<=1000/\(TEq [(4,.own 0 0),(5,.own 1 0),(7,.map 2),(34,.own 3 z2),(35,.q (z2:Int)),(36,.q 0)] [(4,.own 0 0),(5,.own 1 0),(7,.map 2),(34,.own 3 z2),(35,.q (z2:Int)),(36,.q (↑0:Int))]/\wae [(0,.row 49 7 0 (λ(_x:Nat)=>[]) false),(1,.row 49 7 0 (λ(_x:Nat)=>[]) false),(2,.amap (List.map (λ(p:AV×AV)=>(AV.rn (ren 0 [(3,0),(2,1),(1,2),(0,3)]) p.1,AV.rn (ren 0 [(3,0),(2,1),(1,2),(0,3)]) p.2)) (entM (cntL (edG z0) z2)))),(3,.row 49 7 z2 (waa (atF z0)) false)] [(0,.row 49 7 0 (waa (atF (selG z0 0))) false),(1,.row 49 7 0 (waa (atF (selB z0 0))) false),(2,.amap (entM (cntL (edG z0) z2))),(3,.row 49 7 z2 (waa (atF z0)) false)])/\z0.length<=1000/\(∀(i:Nat),i<(wa7 z0).length->true=true)/\(∀(i:Nat),i<(badL z0).length->true=true)/\∃(O':oL7),wae [(0,.row 49 7 (wa7 z0).length (waa (atF (wa7 z0))) false),(1,.row 49 7 (badL z0).length (waa (atF (badL z0))) false)] O'/\R (.tuple [.own 0 (wa7 z0).length,.own 1 (badL z0).length]) O'):=by kernel_rfl
theorem w1g(L:List FL)(k:Nat)(P:Nat->Prop)(R:eR7):letI z5:=waa (atF L);letI z4:=ren 0 [(0,0),(1,1)];letI z3:=cntL (edG L) k;letI z1:=L.length;letI z2:=([(4,.nil),(5,.nil),(6,.own 0 z1),(7,.map 1),(9,.ptr 2 0),(17,.own 0 z1),(18,.q (z1:Int)),(19,.q (k:Int))]:tL7);letI z0:=(atF L (k:Int).toNat);wau ⟨te,[],[(1006,L_s6 z3 (atF L k) L k)],0,59,0⟩ (wax Tryz.f99 4) [4,5,6,7,17,18,19] [4,5,6,7] [] (S_s4 L) P R (S_s4 L k)=(wac (decide ((k:Int)<(z1:Int))) (((0:Int)<=(k:Int)/\(k:Int)<(z1:Int))/\((k:Int).toNat<L.length/\7=7)/\(TEq z2 z2/\wae [(0,.row 49 7 z1 z5 false),(1,.amap (List.map (λ(p:AV×AV)=>(AV.rn (ren 0 [(0,0),(1,1),(2,2)]) p.1,AV.rn (ren 0 [(0,0),(1,1),(2,2)]) p.2)) (entM z3))),(2,.cells [.str z0.id,.q z0.ver,.q z0.day,.q z0.kind,.view 15 z0.ms.length (waf (atM z0.ms)),.view 5 z0.rs.length (wah (atR z0.rs)),.view 5 z0.ts.length (wag (atT z0.ts))] 49)] [(0,.row 49 7 z1 z5 false),(1,.amap (entM z3)),(2,.cells [.str (atF L k).id,.q (atF L k).ver,.q (atF L k).day,.q (atF L k).kind,.view 15 (atF L k).ms.length (waf (atM (atF L k).ms)),.view 5 (atF L k).rs.length (wah (atR (atF L k).rs)),.view 5 (atF L k).ts.length (wag (atT (atF L k).ts))] 49)])/\List.Nodup (List.map Prod.fst z3)/\inR .i64 (getC z3 (mk2 (edM (atF L k)))+1)/\inR .i64 ((k:Int)+1)/\∃(i':Nat),(TEq [(4,.nil),(5,.nil),(6,.own 0 z1),(7,.map 1),(17,.own 0 z1),(18,.q (z1:Int)),(19,.q ((k:Int)+1))] [(4,.nil),(5,.nil),(6,.own 0 z1),(7,.map 1),(17,.own 0 z1),(18,.q (z1:Int)),(19,.q (i':Int))]/\wae [(0,.row 49 7 z1 z5 false),(1,.amap (List.map (λ(p:AV×AV)=>(AV.rn z4 p.1,AV.rn z4 p.2)) (entM (addC z3 (mk2 (edM (atF L k)))))))] [(0,.row 49 7 z1 z5 false),(1,.amap (entM (cntL (edG L) i')))])/\P i') ((∀(i:Nat),i<L.length->true=true)/\∃(O':oL7),wae [(0,.row 49 7 z1 z5 false),(1,.amap (List.map (λ(p:AV×AV)=>(AV.rn z4 p.1,AV.rn z4 p.2)) (entM z3)))] O'/\R (.exit 0) (St.mk [(4,.nil),(5,.nil),(6,.own 0 z1),(7,.map 1)] O' 2 []))):=by kernel_rfl
theorem nf_s6a(u4 u5 u6 u17 u18 u19 c2 c3 c4 c5 c6:AV)(id:List UInt8)(ver:Int)(es:List (AV×AV))(r:AObj):letI z7:=([(4,u4),(5,u5),(6,u6),(7,.map 1),(9,.ptr 2 0),(17,u17),(18,u18),(19,u19)]:tL7);letI z2:=([(0,r),(1,.amap es),(2,.cells [.str id,.q ver,c2,c3,c4,c5,c6] 49)]:oL7);letI z3:=St.mk z7 z2 3 [];letI z1:=([(4,u4),(5,u5),(6,u6),(7,.map 1),(9,.ptr 2 0),(17,u17),(18,u18),(19,u19),(23,.map 1),(28,.agg [.str id,.q ver])]:tL7);letI z6:=St.mk z1 z2 3 [];letI z0:=(z1=z1/\z2=z2/\St.nx z3=St.nx z6:Prop);letI z5:=z0/\z1=z1/\z2=z2/\St.nx z3=St.nx z6;letI z4:=z0/\z0/\z1=z1/\z2=z2/\St.nx z3=St.nx z6;rgA ⟨te,[],[],0,59,0⟩ (regC Tryz.f99 6) [0,1,2,3,4,5] [4,5,6,7,9,17,18,19,23,28] ⟨z1,z2,3,[]⟩ ⟨z7,z2,3,[]⟩=((z4/\z5/\z1=z1/\z2=z2/\St.nx z3=St.nx z6)/\(z4/\(z0/\z0/\z0/\z1=z1/\z2=z2/\St.nx z3=St.nx z6)/\z5/\z4/\z0/\z0/\z1=z1/\z2=z2/\St.nx z3=St.nx z6)/\(z5/\z1=z1/\z2=z2/\St.nx z3=St.nx z6)/\(z5/\z4/\z0/\z0/\z1=z1/\z2=z2/\St.nx z3=St.nx z6)/\z0/\z0/\z0/\z1=z1/\z2=z2/\St.nx z3=St.nx z6):=by kernel_rfl
theorem nf_s6(E:List ((List UInt8×Int)×Int))(F:FL)(L:List FL)(k:Nat)(Q:eR7):rgB ⟨te,[],[],0,59,0⟩ (regC Tryz.f99 6) [0,1,2,3,4,5] [4,5,6,7,9,17,18,19] Q (S_s6b E F L k)=(letI z18:=L.length;letI z16:=Env.te (Env.mk te [] [] 0 59 0);letI z15:=zvA (.q 0);letI z14:=ren 0 [(0,0),(1,1),(2,2)];letI z9:=(∀(i:Nat),i<L.length->true=true:Prop);letI z7:=([.str F.id,.q F.ver,.q F.day,.q F.kind,.view 15 F.ms.length (waf (atM F.ms)),.view 5 F.rs.length (wah (atR F.rs)),.view 5 F.ts.length (wag (atT F.ts))]:List AV);letI z3:=([(4,.nil),(5,.nil),(6,.own 0 z18),(7,.map 1),(9,.ptr 2 0),(17,.own 0 z18),(18,.q (z18:Int)),(19,.q (k:Int))]:tL7);letI z0:=([.str F.id,.q F.ver]:List AV);letI z13:=mget (entM E) (.agg z0);letI z11:=(↑(midx (entM E) (.agg z0)):Int);letI z10:=(war (Option.getD z13 z15)+1);letI z6:=wc7 z16 173 (entM E)/\.q (war (Option.getD z13 (.q 0)))=Option.getD z13 (.q 0);letI z5:=ment (.q 0) (entM E) (.agg z0);letI z19:=List.getD z5 z11.toNat (.any,.any);letI z8:=Option.getD (mget z5 (.agg z0)) z15;letI z17:=(war z8+1);letI z12:=wc7 z16 173 z5/\.q (war z8)=Option.getD (mget z5 (.agg z0)) z15;letI z4:=((0:Int)<=z11/\z11<(z5.length:Int):Prop);letI z2:=([(0,.row 49 7 z18 (waa (atF L)) false),(1,.amap (List.map (λ(p:AV×AV)=>(AV.rn z14 p.1,AV.rn z14 p.2)) (List.set z5 z11.toNat (z19.1,.q z10)))),(2,.cells z7 49)]:oL7);letI z1:=([(0,.row 49 7 z18 (waa (atF L)) false),(1,.amap (List.map (λ(p:AV×AV)=>(AV.rn z14 p.1,AV.rn z14 p.2)) (List.set z5 z11.toNat (z19.1,.q z17)))),(2,.cells z7 49)]:oL7);((wc7 z16 173 (entM E)/\.q (war (Option.getD z13 z15))=Option.getD z13 z15)/\(inR .i64 z10/\z6/\z4/\z9/\∃(O':oL7),wae z2 O'/\Q .normal (St.mk z3 O' 3 []))/\z6/\(inR .i64 z10/\z4/\z9/\∃(O':oL7),wae z2 O'/\Q .normal (St.mk z3 O' 3 []))/\inR .i64 z10/\z4/\z9/\∃(O':oL7),wae z2 O'/\Q .normal (St.mk z3 O' 3 []))/\z6/\(z12/\(inR .i64 z17/\z4/\z9/\∃(O':oL7),wae z1 O'/\Q .normal (St.mk z3 O' 3 []))/\inR .i64 z17/\z4/\z9/\∃(O':oL7),wae z1 O'/\Q .normal (St.mk z3 O' 3 []))/\z12/\inR .i64 z17/\z4/\z9/\∃(O':oL7),wae z1 O'/\Q .normal (St.mk z3 O' 3 [])):=by kernel_rfl
theorem w1f(L:List FL)(k:Nat)(P:Nat->Prop)(R:eR7):wau ⟨te,[],[],0,59,0⟩ (wax Tryz.f99 9) [4,5,7,34,35,36] [4,5] [] (S_s9 L) P R (S_s9 L k)=(letI z13:=ren 0 [(23,0),(1,1),(2,2),(3,3)];letI z12:=ren 0 [(0,0),(23,1),(2,2),(3,3)];letI z11:=waa (atF (selB L k));letI z10:=waa (atF (selG L k));letI z9:=(selG L k).length+1;letI z8:=(selB L k).length+1;letI z7:=(7<=16777216/\7=7/\1<=9223372036854775807:Prop);letI z6:=(selB L k).length;letI z5:=(selG L k).length;letI z2:=L.length;letI z4:=entM (cntL (edG L) z2);letI z0:=(atF L (k:Int).toNat);letI z3:=mget z4 (.agg [.str z0.id,.q z0.ver]);letI z1:=wap (TI.sz wbi) (.str z0.id:: .q z0.ver:: .q z0.day:: .q z0.kind:: .view 15 z0.ms.length (waf (atM z0.ms)):: .view 5 z0.rs.length (wah (atR z0.rs)):: .view 5 z0.ts.length (wag (atT z0.ts))::List.append [] wcp);wac (decide ((k:Int)<(z2:Int))) (((0:Int)<=(k:Int)/\(k:Int)<(z2:Int))/\((k:Int).toNat<L.length/\7=7)/\(wc7 (Env.te (Env.mk te [] [] 0 59 0)) 173 z4/\.q (war (Option.getD z3 (zvA (.q 0))))=Option.getD z3 (zvA (.q 0)))/\wac (decide ((1:Int)<war (Option.getD z3 (zvA (.q 0))))) (z7/\((1<=1/\7=7)/\(selB L k).length<=(selB L k).length/\7=7/\49=49/\7=7/\(selB L k).length+1<=9223372036854775807/\z8 * TI.bytes wbi<=140737488355328)/\inR .i64 ((k:Int)+1)/\∃(i':Nat),(TEq [(4,.own 0 z5),(5,.own 1 z8),(7,.map 2),(34,.own 3 z2),(35,.q (z2:Int)),(36,.q ((k:Int)+1))] [(4,.own 0 (selG L i').length),(5,.own 1 (selB L i').length),(7,.map 2),(34,.own 3 z2),(35,.q (z2:Int)),(36,.q (i':Int))]/\wae [(0,.row 49 7 z5 z10 false),(1,.row 49 7 z8 (apF z6 z11 z1) false),(2,.amap (List.map (λ(p:AV×AV)=>(AV.rn z12 p.1,AV.rn z12 p.2)) z4)),(3,.row 49 7 z2 (waa (atF L)) false)] [(0,.row 49 7 (selG L i').length (waa (atF (selG L i'))) false),(1,.row 49 7 (selB L i').length (waa (atF (selB L i'))) false),(2,.amap z4),(3,.row 49 7 z2 (waa (atF L)) false)])/\P i') (z7/\((1<=1/\7=7)/\(selG L k).length<=(selG L k).length/\7=7/\49=49/\7=7/\(selG L k).length+1<=9223372036854775807/\z9 * TI.bytes wbi<=140737488355328)/\inR .i64 ((k:Int)+1)/\∃(i':Nat),(TEq [(4,.own 0 z9),(5,.own 1 z6),(7,.map 2),(34,.own 3 z2),(35,.q (z2:Int)),(36,.q ((k:Int)+1))] [(4,.own 0 (selG L i').length),(5,.own 1 (selB L i').length),(7,.map 2),(34,.own 3 z2),(35,.q (z2:Int)),(36,.q (i':Int))]/\wae [(0,.row 49 7 z9 (apF z5 z10 z1) false),(1,.row 49 7 z6 z11 false),(2,.amap (List.map (λ(p:AV×AV)=>(AV.rn z13 p.1,AV.rn z13 p.2)) z4)),(3,.row 49 7 z2 (waa (atF L)) false)] [(0,.row 49 7 (selG L i').length (waa (atF (selG L i'))) false),(1,.row 49 7 (selB L i').length (waa (atF (selB L i'))) false),(2,.amap z4),(3,.row 49 7 z2 (waa (atF L)) false)])/\P i')) ((∀(i:Nat),i<(selG L k).length->true=true)/\(∀(i:Nat),i<(selB L k).length->true=true)/\∃(O':oL7),wae [(0,.row 49 7 z5 z10 false),(1,.row 49 7 z6 z11 false)] O'/\R (.exit 2) (St.mk [(4,.own 0 z5),(5,.own 1 z6)] O' 2 []))):=by kernel_rfl
theorem wsg{L:List ((List UInt8×Int)×Int)}(h:(L.map Prod.fst).Nodup):wc7 te 173 (entM L):=by
 refine⟨List.all_eq_true.2 λp hp=>?_,(w5k h).2⟩;obtain⟨r,_,rfl⟩:=List.mem_map.1 hp;have:∀(a:List UInt8) (b:Int),keyA te 173 (.agg [.str a,.q b])=true:=λa b=>by kernel_rfl
 exact this _ _
theorem w4h{ES:List (AV×AV)}{i:Nat}{v:AV}(hi:i<ES.length)(h:wc7 te 173 (ES.set i ((ES.getD i (.any,.any)).1,v))):wc7 te 173 ES:=by
 have e:(ES.set i ((ES.getD i (.any,.any)).1,v)).map Prod.fst=ES.map Prod.fst:=by
  apply List.ext_getElem
  ·simp
  ·intro j h1 h2;simp only[List.getElem_map,List.getElem_set];split
   ·rename_i e;subst e;simp[hi]
   ·rfl
 obtain⟨h1,h2⟩:=h;rw[e] at h2;refine⟨?_,h2⟩;have f:∀l:List (AV×AV),(l.all λp=>keyA te 173 p.1)=(l.map Prod.fst).all λk=>keyA te 173 k:=λl=>by rw[List.all_map];rfl
 rw[f] at h1 ⊢;rw[e] at h1;exact h1
theorem s6_ok(hP:C.P=Tryz.prog)(E:List ((List UInt8×Int)×Int))(F:FL)(L:List FL)(k:Nat):waj C 0 59 (regC Tryz.f99 6) (L_s6 E F L k):=by
 have _:C.Loose:=inferInstance;rintro st Q ⟨h0,hnd,hin,hQ⟩;refine waj.cut (SA:=S_s6b E F L k) (prg hP) [] 0 .nil [4,5,6,7,9,17,18,19] [4,5,6,7,9,17,18,19] [0,1,2,3,4,5] [4,5,6,7,9,17,18,19,23,28] h0 ?_ ?_ ⟨λ_ _=>rfl,trivial⟩
 ·refine(nf_s6a .nil .nil (.own 0 L.length) (.own 0 L.length) (.q L.length) (.q k) (.q F.day) (.q F.kind) (.view 15 F.ms.length (waf (atM F.ms))) (.view 5 F.rs.length (wah (atR F.rs))) (.view 5 F.ts.length (wag (atT F.ts))) F.id F.ver (entM E) (.row 49 7 L.length (waa (atF L)) false)).mpr ?_
  repeat' first | exact rfl | refine And.intro ?_ ?_
 rw[nf_s6];have zz:zvA (.q 0)= .q 0:=rfl;have F1:Option.getD (mget (entM E) (.agg [.str F.id,.q F.ver])) (.q 0)= .q (getC E (mk2 (edM F))):=wrh (mk2 (edM F)) E;obtain⟨F3,F4,F5⟩:=ment_K (mk2 (edM F)) E;have K1:=wsg hnd;have K2:wc7 te 173 (ment (.q 0) (entM E) (keyK (mk2 (edM F)))):=w4h F4 (F5.symm ▸ wsg (ws5 (mk2 (edM F)) hnd));change Option.getD (mget (ment (.q 0) (entM E) (.agg [.str F.id,.q F.ver])) (.agg [.str F.id,.q F.ver])) (.q 0)= .q (getC E (mk2 (edM F))) at F3;change midx (entM E) (.agg [.str F.id,.q F.ver])<(ment (.q 0) (entM E) (.agg [.str F.id,.q F.ver])).length at F4;change (ment (.q 0) (entM E) (.agg [.str F.id,.q F.ver])).set (midx (entM E) (.agg [.str F.id,.q F.ver])) (((ment (.q 0) (entM E) (.agg [.str F.id,.q F.ver])).getD (midx (entM E) (.agg [.str F.id,.q F.ver])) (.any,.any)).1,.q (getC E (mk2 (edM F))+1))=entM (addC E (mk2 (edM F))) at F5;change wc7 te 173 (ment (.q 0) (entM E) (.agg [.str F.id,.q F.ver])) at K2;have F6:(0:Int)<=(midx (entM E) (.agg [.str F.id,.q F.ver]):Int)/\(midx (entM E) (.agg [.str F.id,.q F.ver]):Int)<((ment (.q 0) (entM E) (.agg [.str F.id,.q F.ver])).length:Int):=by omega
 simp only[zz,F1,F3,war,tN7,F5,wgp];have leaf:∃O',wae (S_s6 (addC E (mk2 (edM F))) F L k).O O'/\Q .normal ⟨(S_s6 (addC E (mk2 (edM F))) F L k).T,O',3,[]⟩:=⟨_,wam _,hQ⟩;have all:∀i,i<L.length->True:=λ_ _=>trivial;have K1:=(and_true (wc7 te 173 (entM E))).symm ▸ K1
 repeat' first | exact leaf | exact trivial | exact K1 | exact K2 | exact⟨K2,trivial⟩ | exact hin | exact F6 | exact all | refine And.intro ?_ ?_
theorem s4_loop(hP:C.P=Tryz.prog)(L:List FL):waj C 0 59 (wal Tryz.f99 4) (L_s4 L):=by
 rintro st Q ⟨h0,hn,hQ⟩;refine waj.mkI (prg hP) [] (λk=>[(1006,L_s6 (cntL (edG L) k) (atF L k) L k)]) 0 .nil (λk=>[(regC Tryz.f99 6,L_s6 (cntL (edG L) k) (atF L k) L k)]) (λk=>by kernel_rfl) (λk=>⟨s6_ok hP _ _ L k,trivial⟩) [4,5,6,7,17,18,19] [4,5,6,7] [] (S_s4 L) (λk=>k<=L.length) (λk=>L.length - k) 0 (zL7 _) h0 (λk hk=>?_) (λk=>⟨λ_ _=>rfl,trivial⟩);rw[w1g,tN7,wgp,wgp];have hb:=wsa (edG L) (mk2 (edM (atF L k))) k;have hc:=wq5 (edG L) (mk2 (edM (atF L k))) k;refine wak (λh1=>⟨⟨by omega,by omega⟩,⟨by omega,rfl⟩,⟨rfl,wam _⟩,wsm (edG L) k,by simp only[inR];omega,by simp only[inR];omega,k+1,⟨rfl,?_⟩,by omega,by omega⟩) (λh1=>?_)
 ·exact wam _
 ·have:k=L.length:=by omega
  subst this
  first | exact⟨λ_ _=>rfl,_,wam _,hQ⟩ | (rw[wgp];exact⟨λ_ _=>rfl,_,wam _,hQ⟩)
theorem snocF(G:List FL)(x:FL)(ch:Nat->List AV)(hch:ch 0=wbc x):∀i,i<G.length+1->apF G.length (waa (atF G)) ch i=waa (atF (G++[x])) i:=λi hi=>by
 unfold apF
 by_cases h:i<G.length
 ·rw[if_pos h];show wbc (atF G i)=wbc (atF (G++[x]) i);congr 1;simp[atF,List.getD_eq_getElem?_getD,List.getElem?_append_left h]
 ·have:i=G.length:=by omega
  subst this;rw[if_neg h,Nat.sub_self,hch];show wbc x=wbc (atF (G++[x]) G.length);congr 1;simp[atF]
theorem s9_loop(hP:C.P=Tryz.prog)(L:List FL):waj C 0 59 (wal Tryz.f99 9) (L_s9 L):=by
 have _:C.Loose:=inferInstance;rintro st Q ⟨h0,hn,hQ⟩;refine AWP.ownNil 5 49 7 (AWP.ownNil 4 49 7 ?_);refine waj.mk (prg hP) [] 0 .nil [4,5,7,34,35,36] [4,5] [] (S_s9 L) (λk=>k<=L.length) (λk=>L.length - k) 0 (zL7 _) h0 (λk hk=>?_) (λ_=>⟨λ_ _=>rfl,λ_ _=>rfl,λ_ _=>rfl,trivial⟩);have zz:zvA (.q 0)= .q 0:=rfl;rw[w1f,tN7];have l1:=wfg (λi=> !cfB L i) L k;have l2:=wfg (cfB L) L k;have hF:Option.getD (mget (entM (cntL (edG L) L.length)) (.agg [.str (atF L k).id,.q (atF L k).ver])) (.q 0)= .q (getC (cntL (edG L) L.length) (mk2 (edM (atF L k)))):=wrh (mk2 (edM (atF L k))) _;rw[zz,hF,wsa,wgp,wgp];have hc:cfB L k=decide (1<numC (edG L) (mk2 (edM (atF L k))) L.length):=rfl;have sG:selG L (k+1)=bif !cfB L k then selG L k++[atF L k] else selG L k:=rfl
 have sB:selB L (k+1)=bif cfB L k then selB L k++[atF L k] else selB L k:=rfl
 refine wak (λh1=>⟨⟨by omega,by omega⟩,⟨by omega,rfl⟩,⟨wsg (wsm _ _),rfl⟩,wak (λh2=>?_) (λh2=>?_)⟩) (λh1=>?_)
 ·have hk':cfB L k=true:=decide_eq_true h2;rw[hk'] at sG sB;have sG:selG L (k+1)=selG L k:=sG;have sB:selB L (k+1)=selB L k++[atF L k]:=sB;have l2:(selB L k).length<=k:=l2;refine⟨⟨by omega,rfl,by omega⟩,⟨⟨lR7 _,rfl⟩,lR7 _,rfl,rfl,rfl,by omega,?_⟩,by simp only[inR];omega,k+1,?_,by omega,by omega⟩
  ·show ((selB L k).length+1) * 112<=_;omega
  ·rw[sG,sB,lA7];exact⟨rfl,rQ7,⟨rfl,rfl,rfl,rfl,rfl,snocF _ _ _ rfl⟩,rfl,rQ7,trivial⟩
 ·have hk':cfB L k=false:=decide_eq_false h2;rw[hk'] at sG sB;have sG:selG L (k+1)=selG L k++[atF L k]:=sG;have sB:selB L (k+1)=selB L k:=sB;have l1:(selG L k).length<=k:=l1;refine⟨⟨by omega,rfl,by omega⟩,⟨⟨lR7 _,rfl⟩,lR7 _,rfl,rfl,rfl,by omega,?_⟩,by simp only[inR];omega,k+1,?_,by omega,by omega⟩
  ·show ((selG L k).length+1) * 112<=_;omega
  ·rw[sG,sB,lA7];exact⟨rfl,⟨rfl,rfl,rfl,rfl,rfl,snocF _ _ _ rfl⟩,rQ7,rfl,rQ7,trivial⟩
 ·have:k=L.length:=by omega
  subst this;exact⟨λ_ _=>rfl,λ_ _=>rfl,_,wam _,hQ⟩
theorem nrm_gd{g:Nat->FL}{n:Nat}(hg:∀i,i<n->(g i).Gd):∀x∈nrmL okV g n,x.Gd:=λx hx=>by
 obtain⟨i,b,rfl⟩:=wq6.1 hx;exact hg i b.lt
theorem wq7(g:Nat->FL)(n:Nat):(nrmL okV g n).length<=n:=by
 have:∀k,(nrmK okV g n k).length<=k:=λk=>by
  induction k with
  |zero=>exact lR7 _
  |succ k ih=>
   rw[nrmK]
   cases kept okV g n k with
   |true=>
    have hp:=wjf (nrmK okV g n k) (g k) (nrmK okV g n k).length;rw[cond_true,insF,lA7,List.length_cons,List.length_take,List.length_drop];omega
   |false=>rw[cond_false];omega
 exact this n
theorem kf_day(L:List FL)(d:Int):kfL (qD d) (atF L) L.length=L.filter λf=>decide (f.day<=d):=by
 unfold kfL;rw[show lst (atF L) L.length=L from wdw L _];refine List.filter_congr λx _=>?_;unfold qD
 by_cases h:d<x.day
 ·rw[decide_eq_true h,decide_eq_false (by omega)];rfl
 ·rw[decide_eq_false h,decide_eq_true (by omega)];rfl
theorem spl_at(hP:C.P=Tryz.prog)(hL:∀w,C.laid w->LaidW w)(g:Nat->FL)(n:Nat)(d:Int)(hn:n<=1000)(hg:∀i,i<n->(g i).Gd):ADet C 99 [.view 7 n (waa g),.q d] [] (.tuple [.own 0 (wa7 (knwL okV g n d)).length,.own 1 (badL (knwL okV g n d)).length])
     [(0,.row 49 7 (wa7 (knwL okV g n d)).length (waa (atF (wa7 (knwL okV g n d)))) false),(1,.row 49 7 (badL (knwL okV g n d)).length (waa (atF (badL (knwL okV g n d)))) false)]:=by
 refine wa5.wpL (prg hP) [(39,.det wm2),(100,.rel wot)] [(4,L_s4 (knwL okV g n d)),(9,L_s9 (knwL okV g n d))] 0 (.cons (nrmz_ok hP hL) (.cons (delD_ok hP) .nil)) (hP ▸ Tryz.func99) rfl rfl rfl
   [(wal Tryz.f99 4,L_s4 (knwL okV g n d)),(wal Tryz.f99 9,L_s9 (knwL okV g n d))] (by kernel_rfl) ⟨s4_loop hP _,s9_loop hP _,trivial⟩ ?_
 rw[nf_spl,wct,wct,wgp];have hl:=wq7 g n;have hgd:=nrm_gd hg;have hk:kfL (qD d) (atF (nrmL okV g n)) (nrmL okV g n).length=knwL okV g n d:=kf_day _ d;generalize nrmL okV g n=N at *;rw[hk];generalize knwL okV g n d=K at *;refine⟨⟨hn,rfl,hg⟩,λ_ _=>rfl,λ_ _=>rfl,rfl,rfl,rfl,rfl,by omega,rfl,λi hi=>(hgd _ (wc6 hi)).rg,trivial,λk h hkn hlst=>?_⟩;obtain⟨e1,e2⟩:=wrn hlst wc2;subst e1;refine⟨λ_ _=>rfl,⟨rfl,⟨rfl,rfl,rfl,rfl,rfl,λi hi=>?_⟩,rfl,trivial⟩,by omega,⟨rfl,⟨rfl,rfl,rfl,rfl,rfl,λi hi=>absurd hi (nZ7 i)⟩,⟨rfl,rfl,rfl,rfl,rfl,λi hi=>absurd hi (nZ7 i)⟩,rfl,rQ7,trivial⟩,by omega,λ_ _=>rfl,λ_ _=>rfl,_,wam _,rfl,rfl⟩;show wbc (h i)=wbc (K.getD i wc2);rw[e2 i hi]
theorem spl_ok(hP:C.P=Tryz.prog)(hL:∀w,C.laid w->LaidW w):wai C 99 wmk:=by
 rintro args objs U Os vc h hvc;unfold wmk at h;split at h<;>cases h;rename_i n f d;obtain⟨hn,hf,hg⟩:=hvc;generalize flOf f=g at *;subst hf;exact spl_at hP hL g n d hn hg
theorem nf_vw(g:Nat->FL)(n:Nat)(d:Int)(R:oR7):letI z1:=wa7 (knwL okV (flOf (waa g)) n d);letI z4:=z1.length;letI z0:=wa7 (knwL okV g n d);letI z5:=waa (atF z0);letI z3:=z0.length;letI z2:=(List.map (λ(p:AV×AV)=>(AV.rn (idxN [0,1,2]) p.1,AV.rn (idxN [0,1,2]) p.2)) (nwE z0 z3));wpFn te [(99,.det wmk),(100,.rel wos)] [(4,L_v4 z0)] 0 Tryz.f44 [.view 7 n (waa g),.q d] [] R=((n<=1000/\waa g=waa (flOf (waa g))/\∀(i:Nat),i<n->FL.Gd (flOf (waa g) i))/\(∀(i:Nat),i<z1.length->true=true)/\(∀(i:Nat),i<(badL (knwL okV (flOf (waa g)) n d)).length->true=true)/\(TEq [(5,.own 0 z4),(7,.ptr 1 0),(17,.own 0 z4),(18,.q (z4:Int)),(19,.q 0)] [(5,.own 0 z3),(7,.ptr 1 0),(17,.own 0 z3),(18,.q (z3:Int)),(19,.q (↑0:Int))]/\wae [(0,.row 49 7 z4 (waa (atF z1)) false),(1,.cells [.map 2] 132),(2,.amap (List.map (λ(p:AV×AV)=>(AV.rn (ren 0 [(0,0),(17,1),(16,2)]) p.1,AV.rn (ren 0 [(0,0),(17,1),(16,2)]) p.2)) []))] [(0,.row 49 7 z3 z5 false),(1,.cells [.map 2] 132),(2,.amap (nwE z0 0))])/\z0.length<=1000/\(∀(F:FL),F∈wa7 (knwL okV g n d)->(0:Int)<=F.ver)/\(∀(i:Nat),i<z0.length->true=true)/\49=49/\132=132/\false=false/\z0.length=z0.length/\z0.length<=1000/\waa (atF z0)=waa (flOf z5)/\(∀(i:Nat),i<z0.length->FL.Rg (flOf z5 i))/\EsV z2/\∀(k:Nat) (h:Nat->FL),k<=z0.length->lst h k=kfL (qV z2) (flOf z5) z3->(∀(i:Nat),i<k->true=true)/\(∀(i:Nat),i<k->true=true)/\∃(O':oL7),wae [(0,.row 49 7 k (waa h) false)] O'/\R (.own 0 k) O'):=by kernel_rfl
theorem w0x(G:List FL)(k:Nat)(P:Nat->Prop)(R:eR7):wau ⟨te,[],[],0,40,0⟩ (wax Tryz.f44 4) [5,7,17,18,19] [5,7] [] (S_v4 G) P R (S_v4 G k)=(letI z5:=TI.desc (TI.mk TypeDesc.string 1 16 (Value.string (ByteArray.mk #[])) false);letI z4:=ren 0 [(0,0),(1,1),(2,2)];letI z2:=(atF G (k:Int).toNat);letI z6:=war (Option.getD (mget (nwE G k) (.str z2.id)) (zvA (.q 0)));letI z1:=G.length;letI z3:=([(5,.own 0 z1),(7,.ptr 1 0),(17,.own 0 z1),(18,.q (z1:Int)),(19,.q ((k:Int)+1))]:tL7);letI z0:=([(0,.row 49 7 z1 (waa (atF G)) false),(1,.cells [.map 2] 132),(2,.amap (List.map (λ(p:AV×AV)=>(AV.rn z4 p.1,AV.rn z4 p.2)) (nwE G k)))]:oL7);wac (decide ((k:Int)<(z1:Int))) (((0:Int)<=(k:Int)/\(k:Int)<(z1:Int))/\((k:Int).toNat<G.length/\7=7)/\wac (!decide (z2.kind=1)) ((wbq z5 (nwE G k)/\.q z6=Option.getD (mget (nwE G k) (.str z2.id)) (zvA (.q 0)))/\wbq z5 (nwE G k)/\inR .i64 ((k:Int)+1)/\∃(i':Nat),(TEq z3 [(5,.own 0 z1),(7,.ptr 1 0),(17,.own 0 z1),(18,.q (z1:Int)),(19,.q (i':Int))]/\wae [(0,.row 49 7 z1 (waa (atF G)) false),(1,.cells [.map 2] 132),(2,.amap (List.map (λ(p:AV×AV)=>(AV.rn z4 p.1,AV.rn z4 p.2)) (mset (nwE G k) (.str z2.id) (.q (max z6 z2.ver)))))] [(0,.row 49 7 z1 (waa (atF G)) false),(1,.cells [.map 2] 132),(2,.amap (nwE G i'))])/\P i') (inR .i64 ((k:Int)+1)/\∃(i':Nat),(TEq z3 [(5,.own 0 z1),(7,.ptr 1 0),(17,.own 0 z1),(18,.q (z1:Int)),(19,.q (i':Int))]/\wae z0 [(0,.row 49 7 z1 (waa (atF G)) false),(1,.cells [.map 2] 132),(2,.amap (nwE G i'))])/\P i')) ((∀(i:Nat),i<G.length->true=true)/\∃(O':oL7),wae z0 O'/\R (.exit 0) (St.mk [(5,.own 0 z1),(7,.ptr 1 0)] O' 3 []))):=by kernel_rfl
theorem wvm(v:List UInt8->Int)(x:List UInt8)(y:Int):∀K,x ∉ K->mset (entI K v) (.str x) (.q y)=entI (K++[x]) (λt=>if t=x then y else v t)
 |[],_=>by simp[entI,mset]
 |t::K,h=>by
  have h1:¬ t=x:=λe=>h (by simp[e]);have ih:=wvm v x y K (λe=>h (by simp[e]));show (match keq (.str t) (.str x) with | true=>(AV.str x,AV.q y)::entI K v | false=>(AV.str t,AV.q (v t))::mset (entI K v) (.str x) (.q y))=_
  rw[we3,decide_eq_false h1,ih];show _=(AV.str t,AV.q (if t=x then y else v t))::entI (K++[x]) _
  rw[if_neg h1]
theorem wlg{K:List (List UInt8)}{v v':List UInt8->Int}(h:∀t∈K,v t=v' t):entI K v=entI K v':=List.map_congr_left λt ht=>by rw[h t ht]
theorem wvj(v:List UInt8->Int)(x:List UInt8)(y:Int):∀K,K.Nodup->x∈K->mset (entI K v) (.str x) (.q y)=entI K (λt=>if t=x then y else v t)
 |[],_,h=>by cases h
 |t::K,hd,h=>by
  rw[List.nodup_cons] at hd;show (match keq (.str t) (.str x) with | true=>(AV.str x,AV.q y)::entI K v | false=>(AV.str t,AV.q (v t))::mset (entI K v) (.str x) (.q y))=(AV.str t,AV.q (if t=x then y else v t))::entI K (λt=>if t=x then y else v t)
  rw[we3]
  by_cases e:t=x
  ·subst e;rw[decide_eq_true rfl,if_pos rfl];show _::_=_::_;rw[wlg (v:=v) (v':=λs=>if s=t then y else v s) λs hs=>by
    rw[if_neg];intro q;subst q;exact hd.1 hs]
  ·rw[decide_eq_false e,if_neg e];have hx:x∈K:=by
    rcases List.mem_cons.1 h with q | q
    ·exact absurd q.symm e
    ·exact q
   show _::_=_::_;rw[wvj v x y K hd.2 hx]
theorem wi0(G:List FL):∀k,(idK G k).Nodup
 |0=>List.nodup_nil
 |k+1=>by
  rw[idK]
  cases q: !decide ((atF G k).kind=1) && !decide ((atF G k).id∈idK G k) with
  |false=>exact wi0 G k
  |true=>
   rw[bA7,Bool.not_eq_true',Bool.not_eq_true',decide_eq_false_iff_not,decide_eq_false_iff_not] at q;show (idK G k++[(atF G k).id]).Nodup;rw[List.nodup_append];refine⟨wi0 G k,by simp,λa ha b hb=>?_⟩;rw[List.mem_singleton] at hb;subst hb;intro e;subst e;exact q.2 ha
theorem wkh{G:List FL}{t:List UInt8}:∀ {k},t ∉ idK G k->nwF G t k=0
 |0,_=>rfl
 |k+1,h=>by
  rw[idK] at h;rw[nwF]
  cases q: !decide ((atF G k).kind=1) with
  |false=>
   rw[q,Bool.false_and,cond_false] at h;rw[Bool.false_and,cond_false];exact wkh h
  |true=>
   rw[q,Bool.true_and] at h
   by_cases e:(atF G k).id∈idK G k
   ·rw[decide_eq_true e] at h;have h:t ∉ idK G k:=h;have ne:¬ (atF G k).id=t:=λz=>h (z ▸ e);rw[decide_eq_false ne];exact wkh h
   ·rw[decide_eq_false e] at h;have h:t ∉ idK G k++[(atF G k).id]:=h;rw[List.mem_append,List.mem_singleton,not_or] at h;rw[decide_eq_false λz=>h.2 z.symm];exact wkh h.1
theorem wu3(G:List FL)(k:Nat)(x:List UInt8):Option.getD (mget (nwE G k) (.str x)) (.q 0)= .q (nwF G x k):=by
 unfold nwE;rw[wri]
 by_cases h:x∈idK G k
 ·rw[if_pos h]
 ·rw[if_neg h,wkh h]
theorem wu2(G:List FL)(k:Nat):wbq .string (nwE G k):=ww8 (wi0 G k)
theorem wq3(σ:Nat->Option Nat)(G:List FL)(k:Nat):(nwE G k).map (λp=>(AV.rn σ p.1,AV.rn σ p.2))=nwE G k:=whj σ _ _
theorem nwE_msg{G:List FL}{k:Nat}(h:(atF G k).kind=1):nwE G (k+1)=nwE G k:=by
 unfold nwE;rw[idK,decide_eq_true h];refine wlg λt _=>?_;rw[nwF,decide_eq_true h];rfl
theorem nwE_set{G:List FL}{k:Nat}(h:¬ (atF G k).kind=1):mset (nwE G k) (.str (atF G k).id) (.q (max (nwF G (atF G k).id k) (atF G k).ver))=nwE G (k+1):=by
 unfold nwE;have st:∀t,nwF G t (k+1)=if t=(atF G k).id then max (nwF G (atF G k).id k) (atF G k).ver else nwF G t k:=λt=>by
  rw[nwF,decide_eq_false h]
  by_cases e:t=(atF G k).id
  ·subst e;rw[if_pos rfl,decide_eq_true rfl];rfl
  ·rw[if_neg e,decide_eq_false λz=>e z.symm];rfl
 rw[idK,decide_eq_false h]
 by_cases e:(atF G k).id∈idK G k
 ·rw[decide_eq_true e,wvj _ _ _ _ (wi0 G k) e];exact wlg λt _=>(st t).symm
 ·rw[decide_eq_false e,wvm _ _ _ _ e];exact wlg λt _=>(st t).symm
theorem v4_loop(hP:C.P=Tryz.prog)(G:List FL):waj C 0 40 (wal Tryz.f44 4) (L_v4 G):=by
 have _:C.Loose:=inferInstance;rintro st Q ⟨h0,hn,hv,hQ⟩;refine waj.mk (prg hP) [] 0 .nil [5,7,17,18,19] [5,7] [] (S_v4 G) (λk=>k<=G.length) (λk=>G.length - k) 0 (zL7 _) h0 (λk hk=>?_) (λ_=>⟨λ_ _=>rfl,trivial⟩);have zz:zvA (.q 0)= .q 0:=rfl;rw[w0x,tN7,zz,wu3,wq3];refine wak (λh1=>⟨⟨by omega,by omega⟩,⟨by omega,rfl⟩,wbj (λh2=>?_) (λh2=>?_)⟩) (λh1=>?_)
 ·have e:=nwE_set (G:=G) (k:=k) h2;refine⟨⟨wu2 G k,rfl⟩,wu2 G k,by simp only[inR];omega,k+1,⟨rfl,?_⟩,by omega,by omega⟩;have e':mset (nwE G k) (.str (atF G k).id) (.q (max (war (.q (nwF G (atF G k).id k))) (atF G k).ver))=nwE G (k+1):=e;rw[e',wq3];exact wam _
 ·exact⟨by simp only[inR];omega,k+1,⟨rfl,by rw[nwE_msg h2];exact wam _⟩,by omega,by omega⟩
 ·have:k=G.length:=by omega
  subst this;exact⟨λ_ _=>rfl,_,wam _,hQ⟩
theorem kf_view(G:List FL):kfL (qV (nwE G G.length)) (atF G) G.length=wfc G:=by
 unfold kfL wfc;rw[show lst (atF G) G.length=G from wdw G _];refine List.filter_congr λx _=>?_;unfold qV vwB;rw[wu3];rfl
theorem wrv(g:Nat->FL)(n:Nat)(d:Int):(knwL okV g n d).length<=n:=Nat.le_trans (List.length_filter_le _ _) (wq7 g n)
theorem wr8(L:List FL):(wa7 L).length<=L.length:=wfg _ L _
theorem knw_gd{g:Nat->FL}{n:Nat}{d:Int}(hg:∀i,i<n->(g i).Gd):∀x∈knwL okV g n d,x.Gd:=λx hx=>nrm_gd hg x (List.mem_filter.1 hx).1
theorem wic{g:Nat->FL}{n:Nat}{d:Int}(hg:∀i,i<n->(g i).Gd):∀x∈vwL okV g n d,x.Gd:=λx hx=>knw_gd hg x (wk5 (List.mem_filter.1 hx).1)
theorem wib(g:Nat->FL)(n:Nat)(d:Int):(vwL okV g n d).length<=n:=Nat.le_trans (List.length_filter_le _ _) (Nat.le_trans (wr8 _) (wrv g n d))
theorem wtl(hP:C.P=Tryz.prog)(hL:∀w,C.laid w->LaidW w)(g:Nat->FL)(n:Nat)(d:Int)(hn:n<=1000)(hg:∀i,i<n->(g i).Gd):ADet C 44 [.view 7 n (waa g),.q d] [] (.own 0 (vwL okV g n d).length) [(0,.row 49 7 (vwL okV g n d).length (waa (atF (vwL okV g n d))) false)]:=by
 refine wa5.wpL (prg hP) [(99,.det wmk),(100,.rel wos)] [(4,L_v4 (wa7 (knwL okV g n d)))] 0 (.cons (spl_ok hP hL) (.cons (delV_ok hP) .nil)) (hP ▸ Tryz.func44) rfl rfl rfl
  [(wal Tryz.f44 4,L_v4 (wa7 (knwL okV g n d)))] (by kernel_rfl) ⟨v4_loop hP _,trivial⟩ ?_
 rw[nf_vw,wct,wct,wq3];have h1:=wrv g n d;have h2:=wr8 (knwL okV g n d);have hv:∀F∈wa7 (knwL okV g n d),0<=F.ver:=λF hF=>by
  have:=wuz (nrm_ok (List.mem_filter.1 (wk5 hF)).1);omega
 have hgd:∀F∈wa7 (knwL okV g n d),F.Gd:=λF hF=>knw_gd hg F (wk5 hF);have hk:=kf_view (wa7 (knwL okV g n d));have hw:vwL okV g n d=wfc (wa7 (knwL okV g n d)):=rfl;rw[hk,hw];generalize wa7 (knwL okV g n d)=G at *;refine⟨⟨hn,rfl,hg⟩,λ_ _=>rfl,λ_ _=>rfl,⟨rfl,wam _⟩,by omega,hv,λ_ _=>rfl,rfl,rfl,rfl,rfl,by omega,rfl,λi hi=>(hgd _ (wc6 hi)).rg,⟨_,_,rfl,wi0 G _⟩,λk h hkn hlst=>?_⟩;obtain⟨e1,e2⟩:=wrn hlst wc2;subst e1;refine⟨λ_ _=>rfl,λ_ _=>rfl,[(0,.row 49 7 (wfc G).length (waa (atF (wfc G))) false)],⟨⟨rfl,rfl,rfl,rfl,rfl,λi hi=>?_⟩,trivial⟩,rfl,rfl⟩;show wbc (h i)=wbc ((wfc G).getD i wc2);rw[e2 i hi]
theorem view_ok(hP:C.P=Tryz.prog)(hL:∀w,C.laid w->LaidW w):wai C 44 wma:=by
 rintro args objs U Os vc h hvc;unfold wma at h;split at h<;>cases h;rename_i n f d;obtain⟨hn,hf,hg⟩:=hvc;generalize flOf f=g at *;subst hf;exact wtl hP hL g n d hn hg
theorem nf_aw15(R:oR7):wpFn te [] [(1002,wqb)] 0 Tryz.f31 [] [] R=(letI z0:=([.str [(97:UInt8)],.q 1,.q 10,.q 2,.view 15 0 (waf (atM [])),.own 1 1,.view 5 0 (wag (atT []))]:List AV);(5<=16777216/\5=5/\1<=9223372036854775807)/\(TEq [(0,.bool false),(1,.ptr 0 0)] [(0,.bool false),(1,.ptr 0 0)]/\wae [(0,.cells z0 49),(1,.row 61 5 1 (wap (TI.sz wc9) (.str [(111:UInt8)]:: .str [(57:UInt8),54,51,56,53,48,55,52]:: .q 5:: .q 2:: .q 300::List.append [] wff)) false)] [(0,.cells z0 49),(1,.row 61 5 1 (wah (atR [awR])) false)])/\R (.bool true) []):=by kernel_rfl
theorem nf_aw2(Q:eR7):regP ⟨te,[(33,.det wcc),(44,.det wl9)],[],0,22,0⟩ (regC Tryz.f31 2) [0] Q S_awc=(letI z6:=(7<=16777216/\7=7/\1<=9223372036854775807:Prop);letI z5:=wag (atT awFl.ts);letI z4:=wah (atR awFl.rs);letI z3:=waf (atM awFl.ms);letI z2:=(flV [(97:UInt8)] awFl.ver awFl.day awFl.kind 0 z3 1 z4 0 z5);letI z1:=(1=1/\1<=1000/\FM (wap (TI.sz wbi) (.str [(97:UInt8)]:: .q awFl.ver:: .q awFl.day:: .q awFl.kind:: .view 15 0 z3:: .view 5 1 z4:: .view 5 0 z5::List.append [] wcp)) 1:Prop);letI z0:=(∀(i:Nat),i<1->nrefL (wap (TI.sz wbi) (.str [(97:UInt8)]:: .q awFl.ver:: .q awFl.day:: .q awFl.kind:: .view 15 0 z3:: .view 5 1 z4:: .view 5 0 z5::List.append [] wcp) i)=true:Prop);(FlC 0 z3 1 z4 0 z5/\FL.Rg z2)/\wac (decide (encF z2=[(49:UInt8),58,97,44,49,44,50,44,48,44,49,44,49,58,111,44,56,58,57,54,51,56,53,48,55,52,44,53,44,50,44,51,48,48,44,48,44])) (z6/\z0/\z1/\z6/\z0/\z1/\Q .normal (St.mk [(0,.bool true)] [] 0 [])) (Q .normal (St.mk [(0,.bool false)] [] 0 []))):=by kernel_rfl
open Go.Lib in
theorem wxy:encF awFl=[49,58,97,44,49,44,50,44,48,44,49,44,49,58,111,44,56,58,57,54,51,56,53,48,55,52,44,53,44,50,44,51,48,48,44,48,44]:=by
 have d1:∀u,u<10->decDigits u=[UInt8.ofNat (48+u)]:=λu h=>by rw[decDigits,dif_pos h]
 have d3:decDigits 300=[51,48,48]:=by
  rw[decDigits,dif_neg (by omega),show 300 / 10=30 from rfl,decDigits,dif_neg (by omega),show 30 / 10=3 from rfl,d1 3 (by omega)];rfl
 have i1:∀u:Nat,u<10->itoa (u:Int)=[UInt8.ofNat (48+u)]:=λu h=>by
  unfold itoa;rw[if_neg (by omega),tN7,d1 u h]
 have i3:itoa (300:Int)=[51,48,48]:=by
  unfold itoa;rw[if_neg (by omega)];exact d3
 have e0:=i1 0 (by omega);have e1:=i1 1 (by omega);have e2:=i1 2 (by omega);have e5:=i1 5 (by omega);have e8:=i1 8 (by omega);show (itoa ((1:Nat):Int)++58::([97]++[44]))++((itoa ((1:Nat):Int)++[44])++((itoa ((2:Nat):Int)++[44])++((itoa ((0:Nat):Int)++[44])++([]++((itoa ((1:Nat):Int)++[44])++(((itoa ((1:Nat):Int)++58::([111]++[44]))++((itoa ((8:Nat):Int)++58::([57,54,51,56,53,48,55,52]++[44]))++((itoa ((5:Nat):Int)++[44])++((itoa ((2:Nat):Int)++[44])++(itoa (300:Int)++[44]))))++[])++((itoa ((0:Nat):Int)++[44])++[])))))))=_;rw[e0,e1,e2,e5,e8,i3];rfl
theorem wxw:awFl.Rg:=⟨by simp only[inR,awFl];omega,by simp only[inR,awFl];omega,by decide,by decide,by decide,λm hm=>(by cases hm),λr hr=>(by
 rw[List.mem_singleton.1 hr];exact⟨by simp only[inR,awR];omega,by simp only[inR,awR];omega,by simp only[inR,awR];omega⟩),λt ht=>(by cases ht),by rw[wxy];decide⟩
theorem wxx:awFl.Gd:=⟨⟨by decide,⟨by decide,λm hm=>(by cases hm)⟩,⟨by decide,λr hr=>by
 rw[List.mem_singleton.1 hr];decide⟩,⟨by decide,λt ht=>(by cases ht)⟩⟩,wxw⟩
theorem fm_one{f:Nat->List AV}{F:FL}(h:f 0=wbc F)(hg:F.Gd):FM f 1:=by
 have e:flOf f 0=F:=by
  unfold flOf;rw[h];exact wbz F
 refine⟨λi hi=>?_,λi hi=>?_⟩
 ·obtain rfl:i=0:=by omega
  show f 0=wbc (flOf f 0);rw[e,h]
 ·obtain rfl:i=0:=by omega
  rw[e];exact hg
theorem wyp(hP:C.P=Tryz.prog)(hL:∀w,C.laid w->LaidW w):wai C 44 wht:=by
 rintro args objs U Os vc h hvc;unfold wht at h;split at h<;>cases h;rename_i n f d;obtain⟨hn,hf,hg⟩:=hvc;generalize flOf f=g at *;subst hf;refine wan.frzO 0 ((wtl hP hL g n d hn hg).mono ?_);rintro u O ⟨rfl,rfl⟩;refine⟨λ_ _=>rfl,?_⟩;have hb:Nat.ble (vwL okV g n d).length (vwL okV g n d).length=true:=Nat.ble_eq_true_of_le (lR7 _)
 constructor
 ·simp[frzC,frzA,frz,hb]
 ·rfl
theorem wyq(hP:C.P=Tryz.prog)(hL:∀w,C.laid w->LaidW w):wai C 44 wl9:=by
 rintro args objs U Os vc h hvc;unfold wl9 at h;split at h<;>cases h;rename_i n d t m f fr;obtain⟨rfl,hn,hf,hs⟩:=hvc;refine wan.rowEq 0 (f':=waa (flOf f)) rfl (λi hi=>(hf i hi).symm) ?_;have hb:Nat.ble n n=true:=Nat.ble_eq_true_of_le (lR7 _);have hh:=wyp hP hL [.view 7 n (waa (flOf f)),.q d] [] _ _ _ rfl ⟨hn,by rw[wct],by rw[wct];exact hs⟩;rw[wct] at hh;exact ADet.give hh (by simp[frzC,frzA,frz,hb]) rfl rfl (λ_ _=>rfl)
theorem aw2_ok(hP:C.P=Tryz.prog)(hL:∀w,C.laid w->LaidW w):waj C 0 22 (regC Tryz.f31 2) wqb:=by
 rintro st Q ⟨h0,hQ⟩;refine AWP.nilVP 1 6 5 (wag (atT [])) (AWP.nilVP 1 4 15 (waf (atM [])) (AWP.canonIs (te:=te) [0,1] h0 (AWP.frzX 1 [] (λ_ _=>rfl) ?_) ⟨λ_ _=>rfl,trivial⟩));refine waj.reg (S:=S_awc) (prg hP) [(33,.det wcc),(44,.det wl9)] 0 (.cons (wlh hP hL) (.cons (wyq hP hL) .nil)) [0,1] [0] rfl ?_ trivial;rw[nf_aw2];have e:flV [97] awFl.ver awFl.day awFl.kind 0 (waf (atM awFl.ms)) 1 (wah (atR awFl.rs)) 0 (wag (atT awFl.ts))=awFl:=wbz awFl;rw[e];refine⟨⟨wb8 awFl,wxw⟩,wak (λ_=>?_) (λh=>absurd wxy h)⟩;have one:∀ {p:Nat->Prop},p 0->∀i,i<1->p i:=λh i hi=>by
  obtain rfl:i=0:=by omega
  exact h
 exact⟨⟨by omega,rfl,by omega⟩,one rfl,⟨rfl,by omega,fm_one (F:=awFl) rfl wxx⟩,⟨by omega,rfl,by omega⟩,one rfl,⟨rfl,by omega,fm_one (F:=awFl) rfl wxx⟩,hQ⟩
theorem w6w(hP:C.P=Tryz.prog)(hL:∀w,C.laid w->LaidW w):wai C 31 wof:=by
 rintro args objs U Os vc h hvc;unfold wof at h;split at h<;>cases h;refine wai.wpL (prg hP) [] [(1002,wqb)] 0 .nil (hP ▸ Tryz.func31) rfl rfl rfl [(regC Tryz.f31 2,wqb)] (by kernel_rfl) ⟨aw2_ok hP hL,trivial⟩ ?_;rw[nf_aw15];exact⟨⟨by omega,rfl,by omega⟩,⟨rfl,rfl,⟨rfl,rfl,rfl,rfl,rfl,λi hi=>by
  obtain rfl:i=0:=by omega
  rfl⟩,trivial⟩,rfl,rfl⟩
end Go.Eng
