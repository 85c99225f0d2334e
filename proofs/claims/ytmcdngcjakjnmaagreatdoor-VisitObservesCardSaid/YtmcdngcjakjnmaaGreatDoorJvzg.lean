/- Messages of a tape. -/
import Derived.Test.YtmcdngcjakjnmaaGreatDoorJvzf
namespace Go.Eng
open Go.Proofs Go.RowKit
variable {C:Ctx} [C.Loose]
set_option maxRecDepth 20000
theorem w2g(l:List VT)(v:VT)(n k:Nat)(P:Nat->Prop)(Q:eR7):wat ⟨te,[],[],0,50,0⟩ (wav Tryz.f50 3) [3,5,8,9,10] [5] [4] (whx l v n) P Q (whx l v n k)=(letI z4:=gvK l (vsl v) k;letI z3:=(atX l (k:Int).toNat);letI z2:=([(0,.cells [.str v.o,.str v.p,.q v.per,.q v.day,.q v.st,.q v.pr,.str v.rep] 43)]:oL7);letI z1:=(inR .i64 ((k:Int)+1)/\∃(i':Nat),some (St.mk [(3,.ptr 0 0),(5,.q z3.pr),(8,.view 7 n (wam (atX l))),(9,.q (n:Int)),(10,.q ((k:Int)+1))] z2 1 [])=some (St.mk [(3,.ptr 0 0),(5,.q (Option.getD (gvK l (vsl v) i') (0:Int))),(8,.view 7 n (wam (atX l))),(9,.q (n:Int)),(10,.q (i':Int))] z2 1 [])/\P i');letI z0:=(inR .i64 ((k:Int)+1)/\∃(i':Nat),some (St.mk [(3,.ptr 0 0),(5,.q (Option.getD z4 (0:Int))),(8,.view 7 n (wam (atX l))),(9,.q (n:Int)),(10,.q ((k:Int)+1))] z2 1 [])=some (St.mk [(3,.ptr 0 0),(5,.q (Option.getD (gvK l (vsl v) i') (0:Int))),(8,.view 7 n (wam (atX l))),(9,.q (n:Int)),(10,.q (i':Int))] z2 1 [])/\P i');wab (decide ((k:Int)<(n:Int))) (((0:Int)<=(k:Int)/\(k:Int)<(n:Int)/\7=7)/\wab (!decide (z3.o=v.o)) z0 (wab (!decide (z3.per=v.per)) z0 (wab (!decide (z3.st=5)) z0 (wab (!decide (z3.rep=v.p)) z0 (wab (!decide (Option.getD z4 (0:Int)=0)) (wab (!decide (Option.getD z4 (0:Int)=z3.pr)) (Q .ret (St.mk [(4,.q 0)] [] 0 [])) z1) z1))))) (Q (.exit 0) (St.mk [(5,.q (Option.getD z4 (0:Int)))] [] 0 []))):=by kernel_rfl
theorem nf_gv(l:List VT)(v:VT)(Q:AV->oL7->Prop):wpFn te [] [(3,L_gv l v)] 0 Tryz.f50 [.view 7 l.length (wam (atX l)),.agg [.str v.o,.str v.p,.q v.per,.q v.day,.q v.st,.q v.pr,.str v.rep]] [] Q=(letI z1:=l.length;letI z0:=([(0,.cells [.str v.o,.str v.p,.q v.per,.q v.day,.q v.st,.q v.pr,.str v.rep] 43)]:oL7);some (St.mk [(3,.ptr 0 0),(5,.q 0),(8,.view 7 z1 (wam (atX l))),(9,.q (z1:Int)),(10,.q 0)] z0 1 [])=some (St.mk [(3,.ptr 0 0),(5,.q (Option.getD (gvK l (vsl v) 0) (0:Int))),(8,.view 7 z1 (wam (atX l))),(9,.q (z1:Int)),(10,.q (↑0:Int))] z0 1 [])/\l.length<=1000000/\wab (Option.isSome (gvK l (vsl v) z1)) (Q (.q (gvR l (vsl v))) []) (Q (.q 0) [])):=by kernel_rfl
theorem w00(g:Nat->MG)(n:Nat)(R:List MG)(V:List SL)(i:RI)(P:RI->Prop)(Q:eR7):wat ⟨te,[(28,.det (wog R)),(46,.det wne),(47,.det whn)],[],0,142,0⟩ (wav Tryz.f18 5) [0,3,4,5,21,22,23] [0,3,4,5] [] (S_ro1 g n V) P Q (S_ro1 g n V i)=(letI z9:=OR.s (RI.x i);letI z17:=z9.length;letI z8:=OR.v (RI.x i);letI z16:=z8.length;letI z14:=z8.length+1;letI z13:=([(0,.row 43 7 z16 (wam (atX z8)) false)]:oL7);letI z7:=slL (waj z9) z17;letI z6:=V.length;letI z4:=(↑(RI.k i):Int);letI z18:=(z4 - (1:Int));letI z12:=atS V z4.toNat;letI z11:=(z4+1);letI z10:=((0:Int)<=z4 - (1:Int)/\z4 - (1:Int)<(z6:Int)/\7=7:Prop);letI z3:=(serL R (SL.o z12) (SL.p z12));letI z2:=(inR .i64 z11/\∃(i':RI),(TEq [(0,.view 15 n (waa g)),(3,.view 7 z6 (waj V)),(4,.view 7 z17 (waj z9)),(5,.own 0 z16),(21,.view 7 z6 (waj V)),(22,.q (z6:Int)),(23,.q z11)] [(0,.view 15 n (waa g)),(3,.view 7 z6 (waj V)),(4,.view 7 (OR.s (RI.x i')).length (waj (OR.s (RI.x i')))),(5,.own 0 (OR.v (RI.x i')).length),(21,.view 7 z6 (waj V)),(22,.q (z6:Int)),(23,.q (↑(RI.k i'):Int))]/\wac z13 [(0,.row 43 7 (OR.v (RI.x i')).length (wam (atX (OR.v (RI.x i')))) false)])/\P i');letI z1:=(lasX (vtOf (wam (atX z3))) z3.length);letI z15:=insS z7 (SL.mk z1.o z1.rep z1.per);letI z5:=([(0,.row 43 7 z14 (apF z16 (wam (atX z8)) (war 7 (.str z1.o:: .str z1.p:: .q z1.per:: .q z1.day:: .q z1.st:: .q z1.pr:: .str z1.rep::List.append [] wgn))) false)]:oL7);letI z0:=((R=wae (mgOf (waa g)) n/\n<=100000/\waa g=waa (mgOf (waa g))/\∀(i:Nat),i<n->MG.Sm (mgOf (waa g) i))/\(z3.length<=1000000/\wam (atX z3)=wam (vtOf (wam (atX z3))))/\wab (decide (fstB (λ(i_1:Nat)=>finB (vtOf (wam (atX z3)) i_1)) z3.length<z3.length)) ((7<=16777216/\7=7/\1<=9223372036854775807)/\((1<=1/\7=7)/\z8.length<=z8.length/\7=7/\43=43/\7=7/\z8.length+1<=9223372036854775807/\z14 * 80<=140737488355328)/\wab (decide (z1.st=5)) ((z9.length<=200000/\waj z9=waj z7/\z9.length=z7.length/\Asc ordS z7)/\inR .i64 z11/\∃(i':RI),(TEq [(0,.view 15 n (waa g)),(3,.view 7 z6 (waj V)),(4,.view 7 z15.length (waj z15)),(5,.own 0 z14),(21,.view 7 z6 (waj V)),(22,.q (z6:Int)),(23,.q z11)] [(0,.view 15 n (waa g)),(3,.view 7 z6 (waj V)),(4,.view 7 (OR.s (RI.x i')).length (waj (OR.s (RI.x i')))),(5,.own 0 (OR.v (RI.x i')).length),(21,.view 7 z6 (waj V)),(22,.q (z6:Int)),(23,.q (↑(RI.k i'):Int))]/\wac z5 [(0,.row 43 7 (OR.v (RI.x i')).length (wam (atX (OR.v (RI.x i')))) false)])/\P i') (inR .i64 z11/\∃(i':RI),(TEq [(0,.view 15 n (waa g)),(3,.view 7 z6 (waj V)),(4,.view 7 z17 (waj z9)),(5,.own 0 z14),(21,.view 7 z6 (waj V)),(22,.q (z6:Int)),(23,.q z11)] [(0,.view 15 n (waa g)),(3,.view 7 z6 (waj V)),(4,.view 7 (OR.s (RI.x i')).length (waj (OR.s (RI.x i')))),(5,.own 0 (OR.v (RI.x i')).length),(21,.view 7 z6 (waj V)),(22,.q (z6:Int)),(23,.q (↑(RI.k i'):Int))]/\wac z5 [(0,.row 43 7 (OR.v (RI.x i')).length (wam (atX (OR.v (RI.x i')))) false)])/\P i')) z2:Prop);wab (decide (z4<(z6:Int))) (((0:Int)<=z4/\z4<(z6:Int)/\7=7)/\wab (decide ((0:Int)<z4)) (inR .i64 z18/\z10/\wab (decide (SL.o (atS V z18.toNat)=SL.o z12)) (inR .i64 z18/\z10/\wab (decide (SL.p (atS V z18.toNat)=SL.p z12)) z2 z0) z0) z0) ((∀(i_1:Nat),i_1<z8.length->true=true)/\∃(O':oL7),wac z13 O'/\Q (.exit 0) (St.mk [(0,.view 15 n (waa g)),(3,.view 7 z6 (waj V)),(4,.view 7 z17 (waj z9)),(5,.own 0 z16)] O' 1 []))):=by kernel_rfl
theorem w0z(g:Nat->MG)(n:Nat)(R:List MG)(V U:List SL)(W:List VT)(pr:SL->Int)(i:QI)(P:QI->Prop)(Q:eR7):wat ⟨te,[(48,.det wnu),(49,.det wn1),(50,.det wnv),(20,.det (wmq R)),(22,.det wea)],[],0,142,0⟩ (wav Tryz.f18 16) [0,3,5,10,79,80,81] [10] [] (whm g n V U W pr) P Q (whm g n V U W pr i)=(letI z21:=wbm (QI.l i) pr;letI z19:=(6<=16777216/\6=6/\1<=9223372036854775807:Prop);letI z18:=V.length;letI z17:=U.length;letI z15:=(QI.l i).length+1;letI z14:=W.length;letI z13:=(QI.l i).length;letI z12:=(List.flatten (List.replicate (nat_lit 0) [.str ([]),.str ([]),.q 0,.bool false,.nil,.nil]):List AV);letI z11:=wam (atX W);letI z16:=W.length<=1000000/\wam (atX W)=wam (vtOf z11);letI z9:=(↑(QI.k i):Int);letI z20:=(z9+1);letI z7:=(z17:Int);letI z6:=lst (vtOf z11) z14;letI z5:=((1<=1/\6=6)/\(QI.l i).length<=(QI.l i).length/\6=6/\41=41/\6=6/\(QI.l i).length+1<=9223372036854775807/\z15 * 96<=140737488355328:Prop);letI z4:=([(0,.view 15 n (waa g)),(3,.view 7 z18 (waj V)),(5,.view 7 z14 z11),(10,.own 0 z15),(79,.view 7 z17 (waj U)),(80,.q z7),(81,.q z20)]:tL7);letI z1:=(atS U z9.toNat);letI z8:=(VT.mk (SL.o z1) (SL.p z1) (SL.per z1) (0:Int) (0:Int) (0:Int) []);letI z22:=fstB (endQ (vtOf z11) z8) z14<W.length;letI z3:=SL.mk (SL.o z1) (SL.p z1) (SL.per z1);letI z10:=(resB R z3).1;letI z0:=(inR .i64 z20/\∃(i':QI),(TEq [(0,.view 15 n (waa g)),(3,.view 7 z18 (waj V)),(5,.view 7 z14 z11),(10,.own 0 z13),(79,.view 7 z17 (waj U)),(80,.q z7),(81,.q z20)] [(0,.view 15 n (waa g)),(3,.view 7 z18 (waj V)),(5,.view 7 z14 z11),(10,.own 0 (QI.l i').length),(79,.view 7 z17 (waj U)),(80,.q z7),(81,.q (↑(QI.k i'):Int))]/\wac [(0,.row 41 6 z13 z21 false)] [(0,.row 41 6 (QI.l i').length (wbm (QI.l i') pr) false)])/\P i');letI z2:=(wab (decide ((0:Int)<z10.pr)) (((0:Int)<=z10.pr/\z10.pr<9223372036854775808)/\z19/\z5/\inR .i64 z20/\∃(i':QI),(TEq z4 [(0,.view 15 n (waa g)),(3,.view 7 z18 (waj V)),(5,.view 7 z14 z11),(10,.own 0 (QI.l i').length),(79,.view 7 z17 (waj U)),(80,.q z7),(81,.q (↑(QI.k i'):Int))]/\wac [(0,.row 41 6 z15 (apF z13 z21 (war 6 (.str (SL.o z1):: .str (SL.p z1):: .q (SL.per z1):: .bool false:: .view 1 (lmN z10.pr) (uRow (lmF z10.pr)):: .nil::List.append [] z12))) false)] [(0,.row 41 6 (QI.l i').length (wbm (QI.l i') pr) false)])/\P i') z0);wab (decide (z9<z7)) (((0:Int)<=z9/\z9<z7/\7=7)/\(V.length<=1000000/\waj V=wam (vtOf (waj V)))/\wab (decide (fstB (hasQ (vtOf (waj V)) z8) z18<V.length)) ((R=wae (mgOf (waa g)) n/\n<=100000/\waa g=waa (mgOf (waa g))/\∀(i:Nat),i<n->MG.Sm (mgOf (waa g) i))/\wab (decide ((resB R z3).2=1)) (z16/\wab (!decide z22) (wab (decide (z10.st=1)) z2 (wab (decide (z10.st=2)) z2 z0)) z0) z0) (z16/\wab (!decide z22) ((W.length<=1000000/\wam (atX W)=wam (atX z6))/\wab (decide ((0:Int)<gvR z6 z3)) (((0:Int)<=gvR z6 z3/\gvR z6 z3<9223372036854775808)/\z19/\z5/\inR .i64 z20/\∃(i':QI),(TEq z4 [(0,.view 15 n (waa g)),(3,.view 7 z18 (waj V)),(5,.view 7 z14 z11),(10,.own 0 (QI.l i').length),(79,.view 7 z17 (waj U)),(80,.q z7),(81,.q (↑(QI.k i'):Int))]/\wac [(0,.row 41 6 z15 (apF z13 z21 (war 6 (.str (SL.o z1):: .str (SL.p z1):: .q (SL.per z1):: .bool false:: .view 1 (lmN (gvR z6 z3)) (uRow (lmF (gvR z6 z3))):: .nil::List.append [] z12))) false)] [(0,.row 41 6 (QI.l i').length (wbm (QI.l i') pr) false)])/\P i') z0) z0)) ((∀(i_1:Nat),i_1<(QI.l i).length->true=true)/\∃(O':oL7),wac [(0,.row 41 6 z13 z21 false)] O'/\Q (.exit 2) (St.mk [(10,.own 0 z13)] O' 1 []))):=by kernel_rfl
theorem nf_robs(g:Nat->MG)(n:Nat)(R:List MG)(Q:AV->oL7->Prop):wpFn te [(45,.det whd)] [(5,wo4 g n R),(16,wo3 g n R)] 0 Tryz.f18 [.view 15 n (waa g)] [] Q=(letI z3:=waj (visL R);letI z2:=(obU R).length;letI z1:=(visL R).length;letI z0:=visL (wae (mgOf (waa g)) n);(n<=100000/\waa g=waa (mgOf (waa g))/\∀(i:Nat),i<n->MG.Sm (mgOf (waa g) i))/\(0<=16777216/\7=7/\0<=9223372036854775807)/\(7=7/\0<=0/\7=7/\43=43/\7=7/\0+z0.length<=9223372036854775807/\(0+z0.length) * 80<=140737488355328)/\(TEq [(0,.view 15 n (waa g)),(3,.view 7 z0.length (waj z0)),(4,.own 0 (0+z0.length)),(5,.own 1 0),(21,.view 7 z0.length (waj z0)),(22,.q (z0.length:Int)),(23,.q 0)] [(0,.view 15 n (waa g)),(3,.view 7 z1 z3),(4,.own 0 z1),(5,.own 1 0),(21,.view 7 z1 z3),(22,.q (z1:Int)),(23,.q 0)]/\wac [(0,.row 43 7 (0+z0.length) (apF 0 (war 7 (List.flatten (List.replicate 0 [.str ([]),.str ([]),.q 0,.q 0,.q 0,.q 0,.str ([])]))) (waj z0)) false),(1,.row 43 7 0 (λ(_x:Nat)=>[]) false)] [(0,.row 43 7 z1 z3 false),(1,.row 43 7 0 (wam (atX [])) false)])/\R=wae g n/\n<=100000/\(∀(i:Nat),i<n->MG.Sm (g i))/\(TEq [(0,.view 15 n (waa g)),(3,.view 7 z1 z3),(5,.view 7 (ovL R).length (wam (atX (ovL R)))),(10,.own 0 0),(79,.view 7 z2 (waj (obU R))),(80,.q (z2:Int)),(81,.q 0)] [(0,.view 15 n (waa g)),(3,.view 7 z1 z3),(5,.view 7 (ovL R).length (wam (atX (ovL R)))),(10,.own 0 0),(79,.view 7 z2 (waj (obU R))),(80,.q (z2:Int)),(81,.q (↑(QI.k (QI.mk 0 [])):Int))]/\wac [(0,.row 41 6 0 (λ(_x:Nat)=>[]) false)] [(0,.row 41 6 0 (wbm (QI.l (QI.mk 0 [])) (obP R)) false)])/\R=wae g n/\n<=100000/\(∀(i:Nat),i<n->MG.Sm (g i))/\(∀(i:Nat),i<(obL R).length->true=true)/\∃(O':oL7),wac [(0,.row 41 6 (obL R).length (wbm (obL R) (obP R)) false)] O'/\Q (.own 0 (obL R).length) O'):=by kernel_rfl
theorem SerR_ok(hP:C.P=Tryz.prog)(R:List MG):wad C 28 (wog R):=by
 rintro args objs U Os vc h hvc;unfold wog at h;split at h<;>cases h;rename_i n f o p;obtain⟨rfl,hn,hf,hs⟩:=hvc;exact rSer_ok hP _ _ _ _ _ rfl ⟨hn,hf,hs⟩
theorem rslR_ok(hP:C.P=Tryz.prog)(R:List MG):wad C 20 (wmq R):=by
 rintro args objs U Os vc h hvc;unfold wmq at h;split at h<;>cases h;rename_i n f o p per;obtain⟨rfl,hn,hf,hs⟩:=hvc;exact wtx hP _ _ _ _ _ rfl ⟨hn,hf,hs⟩
theorem gv_loop(hP:C.P=Tryz.prog)(l:List VT)(v:VT):wah C 0 50 (wai Tryz.f50 3) (L_gv l v):=by
 have _:C.Loose:=inferInstance;rintro st Q ⟨h0,hn,hQ⟩;have hR:=wbq hQ;generalize hnl:l.length=n at *;refine wah.mk (prg hP) [] 0 .nil [3,5,8,9,10] [5] [4] (whx l v n) (λk=>k<=n/\∃out,gvK l (vsl v) k=some out) (λk=>n - k) 0 ⟨zL7 _,0,rfl⟩ h0 (λk hk=>?_);obtain⟨hkn,out,hout⟩:=hk;have hst:gvK l (vsl v) (k+1)=bif gvB (vsl v) (atX l k) then (bif !decide (out=0) && !decide (out=(atX l k).pr) then none else some (atX l k).pr) else some out:=by
  rw[gvK,hout]
 have hb:gvB (vsl v) (atX l k)=(decide ((atX l k).o=v.o) && (decide ((atX l k).per=v.per) && (decide ((atX l k).st=5) && decide ((atX l k).rep=v.p)))):=rfl;have hnone:∀d,gvK l (vsl v) k=some out->gvK l (vsl v) (k+1)=none->gvK l (vsl v) (k+1+d)=none:=λd _ h=>by
  induction d with
  |zero=>exact h
  |succ d ih=>rw[← Nat.add_assoc,gvK,ih]
 have go:∀w,gvK l (vsl v) (k+1)=some w->k<n->inR .i64 ((k:Int)+1)/\∃i':Nat,some (St.mk [(3,.ptr 0 0),(5,.q w),(8,.view 7 n (wam (atX l))),(9,.q n),(10,.q ((k:Int)+1))] [(0,.cells (vtC v) 43)] 1 [])=some (whx l v n i')/\((i'<=n/\∃out,gvK l (vsl v) i'=some out)/\n - i'<n - k):=λw hw h1=>
  ⟨by simp only[inR];omega,k+1,by unfold whx;rw[hw];rfl,⟨by omega,w,hw⟩,by omega⟩
 rw[w2g,tN7,hout];dsimp only[Option.getD_some];refine wag (λh1=>?_) (λh1=>?_)
 ·have h1:k<n:=by omega
  refine⟨⟨by omega,by omega,rfl⟩,wax (λh2=>go out ?_ h1) (λh2=>wax (λh3=>go out ?_ h1) (λh3=>wax (λh4=>go out ?_ h1) (λh4=>wax (λh5=>go out ?_ h1) (λh5=>?_))))⟩
  ·rw[hst,hb,decide_eq_false h2];rfl
  ·rw[hst,hb,decide_eq_false h3,Bool.false_and,Bool.and_false];rfl
  ·rw[hst,hb,decide_eq_false h4,Bool.false_and,Bool.and_false,Bool.and_false];rfl
  ·rw[hst,hb,decide_eq_false h5,Bool.and_false,Bool.and_false,Bool.and_false];rfl
  ·rw[hb,decide_eq_true h2,decide_eq_true h3,decide_eq_true h4,decide_eq_true h5] at hst;have hst:gvK l (vsl v) (k+1)=bif !decide (out=0) && !decide (out=(atX l k).pr) then none else some (atX l k).pr:=hst
   refine wax (λh6=>wax (λh7=>hR.2 ?_) (λh7=>go _ ?_ h1)) (λh6=>go _ ?_ h1)
   ·rw[decide_eq_false h6,decide_eq_false h7] at hst;obtain⟨d,rfl⟩:∃d,n=k+1+d:=⟨n - (k+1),by omega⟩;rw[hnone d hout hst];rfl
   ·rw[hst,decide_eq_true h7,Bool.not_true,Bool.and_false];rfl
   ·rw[hst,decide_eq_true h6];rfl
 ·have:k=n:=by omega
  subst this;have:=hR.1 (by rw[hout];rfl);unfold gvR at this;rw[hnl,hout] at this;exact this
theorem w49(hP:C.P=Tryz.prog):wad C 50 wnv:=by
 rintro args objs U Os vc h hvc;unfold wnv at h;split at h<;>cases h;rename_i n f o p per d st pr rep;obtain⟨hn,hf⟩:=hvc;have hl:(lst (vtOf f) n).length=n:=by simp[lst]
 generalize lst (vtOf f) n=l at *;subst hf;subst hl;have hnf:=λQ=>nf_gv l ⟨o,p,per,d,st,pr,rep⟩ Q;dsimp only at hnf;refine wad.wpL (prg hP) [] [(3,L_gv l ⟨o,p,per,d,st,pr,rep⟩)] 0 .nil (hP ▸ Tryz.func50) rfl rfl rfl [(wai Tryz.f50 3,L_gv l ⟨o,p,per,d,st,pr,rep⟩)] (by kernel_rfl) ⟨gv_loop hP l _,trivial⟩ ?_;rw[hnf];refine⟨rfl,hn,wan (λh=>⟨rfl,rfl⟩) (λh=>?_)⟩;have e:gvR l (vsl ⟨o,p,per,d,st,pr,rep⟩)=0:=by
  unfold gvR
  cases hx:gvK l (vsl ⟨o,p,per,d,st,pr,rep⟩) l.length with
  |none=>rfl
  |some w=>rw[hx] at h;cases h
 exact⟨congrArg (AV.int .i64) e.symm,rfl⟩
theorem wqm(R:List MG)(V:List SL):∀k,(ob3 R V k).v.length<=k/\(ob3 R V k).s.length<=V.length+k
 |0=>⟨lR7 _,lR7 _⟩
 |k+1=>by
  obtain⟨h1,h2⟩:=wqm R V k;have st:ob3 R V (k+1)=stR R V (ob3 R V k) k:=rfl;rw[st];generalize ob3 R V k=x at *;unfold stR
  cases frsS V k with
  |true=>exact⟨Nat.le_succ_of_le h1,Nat.le_succ_of_le h2⟩
  |false=>
   rw[cond_false]
   cases decide (lasF (serL R (atS V k).o (atS V k).p)<(serL R (atS V k).o (atS V k).p).length) with
   |false=>exact⟨Nat.le_succ_of_le h1,Nat.le_succ_of_le h2⟩
   |true=>
    rw[cond_true];refine⟨by show (x.v++[_]).length<=_;rw[lA7,List.length_singleton];omega,?_⟩;dsimp only
    cases decide ((atX (serL R (atS V k).o (atS V k).p) (lasF (serL R (atS V k).o (atS V k).p))).st=5) with
    |true=>
     have:=wrh x.s (rsl (atX (serL R (atS V k).o (atS V k).p) (lasF (serL R (atS V k).o (atS V k).p))));rw[cond_true];omega
    |false=>rw[cond_false];omega
theorem wy5(hP:C.P=Tryz.prog)(g:Nat->MG)(n:Nat)(R:List MG):wah C 0 142 (wai Tryz.f18 5) (wo4 g n R):=by
 rintro st Q ⟨h0,hRe,hn,hs,hQ⟩;have hrl:=wdn g n;rw[← hRe] at hrl;have hvl:=wdm R;refine AWP.ownNil 5 43 7 (AWP.canonIs (te:=te) [0,3,4,5,21,22,23] h0 (AWP.frz 0 (λ_ _=>rfl) (AWP.frzQ 0 ?_)) ⟨λ_ _=>rfl,λ_ _=>rfl,trivial⟩);have hb:Nat.ble (visL R).length (visL R).length=true:=Nat.ble_eq_true_of_le (lR7 _);have e0:wg2 0 (S_ro1e g n (visL R))=⟨[(0,.view 15 n (waa g)),(3,.view 7 (visL R).length (waj (visL R))),(4,.view 7 (visL R).length (waj (visL R))),(5,.own 1 0),(21,.view 7 (visL R).length (waj (visL R))),(22,.q (visL R).length),(23,.q 0)],[(1,.row 43 7 0 (wam (atX [])) false)],2,[]⟩:=by
  show (⟨[_,_,(4,frz 0 7 (visL R).length (waj (visL R)) (.own 0 (visL R).length)),_,_,_,_],_,2,[]⟩:St)=_;simp only[frz,hb];rfl
 rw[e0];refine wah.mk (prg hP) [(28,.det (wog R)),(46,.det wne),(47,.det whn)] 0 (.cons (SerR_ok hP R) (.cons (last_ok hP) (.cons (put_ok hP) .nil))) [0,3,4,5,21,22,23] [0,3,4,5] [] (S_ro1 g n (visL R)) (λi=>i.k<=(visL R).length/\i.x=ob3 R (visL R) i.k) (λi=>(visL R).length - i.k) ⟨0,⟨[],visL R⟩⟩ ⟨zL7 _,rfl⟩ ⟨rfl,rQ7,trivial⟩ (λi hi=>?_) (λi=>⟨λ_ _=>rfl,trivial⟩);obtain⟨k,x⟩:=i;obtain⟨hk,hx⟩:=hi;have hk:k<=(visL R).length:=hk;have hx:x=ob3 R (visL R) k:=hx;obtain⟨hxv,hxs⟩:=wqm R (visL R) k;have hxa:=(wil R k).a;have hst:ob3 R (visL R) (k+1)=stR R (visL R) (ob3 R (visL R) k) k:=rfl;rw[← hx] at *;rw[w00];dsimp only
 have e1:((k:Int) - 1).toNat=k - 1:=by omega
 have hg:∀g:Nat->VT,vtOf (wam g)=g:=λ_=>rfl;have hfd:frsS (visL R) k=(decide (0<k) && (decide ((atS (visL R) (k - 1)).o=(atS (visL R) k).o) && decide ((atS (visL R) (k - 1)).p=(atS (visL R) k).p))):=rfl;have hsl:=wyt R (atS (visL R) k).o (atS (visL R) k).p;have hlx:lasX (atX (serL R (atS (visL R) k).o (atS (visL R) k).p)) (serL R (atS (visL R) k).o (atS (visL R) k).p).length=bif decide (lasF (serL R (atS (visL R) k).o (atS (visL R) k).p)<(serL R (atS (visL R) k).o (atS (visL R) k).p).length) then atX (serL R (atS (visL R) k).o (atS (visL R) k).p) (lasF (serL R (atS (visL R) k).o (atS (visL R) k).p)) else ⟨[],[],0,0,0,0,[]⟩:=rfl
 have hfs:fstB (λi=>finB (atX (serL R (atS (visL R) k).o (atS (visL R) k).p) i)) (serL R (atS (visL R) k).o (atS (visL R) k).p).length=lasF (serL R (atS (visL R) k).o (atS (visL R) k).p):=rfl;unfold stR at hst;rw[tN7,e1];simp only[hg,hfs,slL_sv];have hRg:R=wae (mgOf (waa g)) n:=hRe;generalize hV:visL R=V at *;generalize serL R (atS V k).o (atS V k).p=S at *;have skip:ob3 R V (k+1)=x->k<V.length->inR .i64 ((k:Int)+1)/\∃i':RI,(TEq [(0,.view 15 n (waa g)),(3,.view 7 V.length (waj V)),(4,.view 7 x.s.length (waj x.s)),(5,.own 0 x.v.length),(21,.view 7 V.length (waj V)),(22,.q V.length),(23,.q ((k:Int)+1))] [(0,.view 15 n (waa g)),(3,.view 7 V.length (waj V)),(4,.view 7 i'.x.s.length (waj i'.x.s)),(5,.own 0 i'.x.v.length),(21,.view 7 V.length (waj V)),(22,.q V.length),(23,.q i'.k)]/\
   wac [(0,.row 43 7 x.v.length (wam (atX x.v)) false)] [(0,.row 43 7 i'.x.v.length (wam (atX i'.x.v)) false)])/\((i'.k<=V.length/\i'.x=ob3 R V i'.k)/\V.length - i'.k<V.length - k):=λe h1=>
  ⟨by simp only[inR];omega,⟨k+1,x⟩,⟨rfl,rQ7,trivial⟩,⟨h1,e.symm⟩,by show V.length - (k+1)<V.length - k;omega⟩
 refine wag (λh1=>⟨⟨by omega,by omega,by trivial⟩,wag (λh2=>⟨by simp only[inR];omega,⟨by omega,by omega,by trivial⟩,wag (λh3=>⟨by simp only[inR];omega,⟨by omega,by omega,by trivial⟩,wag (λh4=>skip ?_ (by omega)) (λh4=>?_)⟩) (λh3=>?_)⟩) (λh2=>?_)⟩) (λh1=>?_)
 ·rw[hfd,decide_eq_true (show 0<k by omega),decide_eq_true h3,decide_eq_true h4] at hst;exact hst
 rotate_right 1
 ·have hkV:k=V.length:=by omega
  have ev:x.v=ovL R:=by
   unfold ovL;rw[hV, ← hkV];exact congrArg OR.v hx
  have es:x.s=obU R:=by
   rw[← ob3_s,hV, ← hkV];exact congrArg OR.s hx
  rw[ev,es];refine⟨λ_ _=>by trivial,[(0,.row 43 7 (ovL R).length (wam (atX (ovL R))) false)],waz _,λ_ _=>rfl,?_⟩;have hbo:Nat.ble (ovL R).length (ovL R).length=true:=Nat.ble_eq_true_of_le (lR7 _);have e:wg2 0 ⟨[(0,.view 15 n (waa g)),(3,.view 7 V.length (waj V)),(4,.view 7 (obU R).length (waj (obU R))),(5,.own 0 (ovL R).length)],[(0,.row 43 7 (ovL R).length (wam (atX (ovL R))) false)],1,[]⟩=⟨[(0,.view 15 n (waa g)),(3,.view 7 V.length (waj V)),(4,.view 7 (obU R).length (waj (obU R))),(5,.view 7 (ovL R).length (wam (atX (ovL R))))],[],1,[]⟩:=by
   show (⟨[_,_,_,(5,frz 0 7 (ovL R).length (wam (atX (ovL R))) (.own 0 (ovL R).length))],_,1,[]⟩:St)=_;simp only[frz,hbo];rfl
  rw[e];exact hQ
 all_goals
  have hfr:frsS V k=false:=by
   first
   |rw[hfd,decide_eq_false h4,Bool.and_false,Bool.and_false]
   |rw[hfd,decide_eq_false h3,Bool.false_and,Bool.and_false]
   |rw[hfd,decide_eq_false (show ¬ 0<k by omega),Bool.false_and]
 all_goals
  rw[hfr,cond_false] at hst;refine⟨⟨hRg,hn,by trivial,hs⟩,⟨by omega,by trivial⟩,wag (λhj=>?_) (λhj=>skip ?_ (by omega))⟩
  ·rw[decide_eq_true hj,cond_true] at hst hlx;rw[hlx];generalize atX S (lasF S)=y at *;have hadd:∀z:List SL,ob3 R V (k+1)=⟨x.v++[y],z⟩->inR .i64 ((k:Int)+1)/\∃i':RI,(TEq [(0,.view 15 n (waa g)),(3,.view 7 V.length (waj V)),(4,.view 7 z.length (waj z)),(5,.own 0 (x.v.length+1)),(21,.view 7 V.length (waj V)),(22,.q V.length),(23,.q ((k:Int)+1))] [(0,.view 15 n (waa g)),(3,.view 7 V.length (waj V)),(4,.view 7 i'.x.s.length (waj i'.x.s)),(5,.own 0 i'.x.v.length),(21,.view 7 V.length (waj V)),(22,.q V.length),(23,.q i'.k)]/\
     wac [(0,.row 43 7 (x.v.length+1) (apF x.v.length (wam (atX x.v)) (war 7 (.str y.o:: .str y.p:: .q y.per:: .q y.day:: .q y.st:: .q y.pr:: .str y.rep::List.append [] wgn))) false)] [(0,.row 43 7 i'.x.v.length (wam (atX i'.x.v)) false)])/\((i'.k<=V.length/\i'.x=ob3 R V i'.k)/\V.length - i'.k<V.length - k):=λz e=>by
    have hll:(x.v++[y]).length=x.v.length+1:=by rw[lA7,List.length_singleton]
    refine⟨by simp only[inR];omega,⟨k+1,⟨x.v++[y],z⟩⟩,?_,⟨by show k+1<=V.length;omega,e.symm⟩,by show V.length - (k+1)<V.length - k;omega⟩;dsimp only
    rw[hll];exact⟨rfl,⟨rfl,rfl,rfl,rfl,rfl,λj hj=>wgm vtC default _ _ _ rfl j hj⟩,trivial⟩
   refine⟨⟨by omega,by trivial,by omega⟩,⟨⟨lR7 _,by trivial⟩,lR7 _,by trivial,by trivial,by trivial,by omega,by omega⟩,wag (λh5=>⟨⟨by omega,by trivial,by trivial,hxa⟩,hadd _ ?_⟩) (λh5=>hadd _ ?_)⟩
   ·rw[hst,decide_eq_true h5];rfl
   ·rw[hst,decide_eq_false h5];rfl
  ·rw[hst,decide_eq_false hj];rfl
theorem wvz(q:Nat->Bool)(n:Nat):fstB q n<n↔∃i,i<n/\q i=true:=by
 obtain⟨h1,h2⟩:=wg0 q n
 constructor
 ·intro h;exact⟨_,h,h2 h⟩
 ·rintro⟨i,hi,hq⟩
  rcases Nat.lt_or_ge i (fstB q n) with w | w
  ·rw[h1 i w] at hq;cases hq
  ·omega
theorem has_mem(V:List SL)(t:SL):decide (fstB (hasQ (vtOf (waj V)) ⟨t.o,t.p,t.per,0,0,0,[]⟩) V.length<V.length)=decide (t∈V):=by
 rw[decide_eq_decide,wvz];have hq:∀i,hasQ (vtOf (waj V)) ⟨t.o,t.p,t.per,0,0,0,[]⟩ i=true↔atS V i=t:=λi=>by
  show visE ⟨(atS V i).o,(atS V i).p,(atS V i).per,0,0,0,[]⟩ ⟨t.o,t.p,t.per,0,0,0,[]⟩=true↔_;generalize atS V i=s
  cases s;cases t;simp[visE]
 constructor
 ·rintro⟨i,hi,h⟩;rw[← (hq i).1 h];exact wfa hi
 ·intro h;obtain⟨i,hi,e⟩:=wgu h;exact⟨i,hi,(hq i).2 e⟩
theorem end_any(W:List VT)(t:SL):decide (fstB (endQ (atX W) ⟨t.o,t.p,t.per,0,0,0,[]⟩) W.length<W.length)=enR W t:=by
 rw[Bool.eq_iff_iff,decide_eq_true_eq,wvz,enR,List.any_eq_true]
 constructor
 ·rintro⟨i,hi,h⟩;exact⟨atX W i,wl5 hi,h⟩
 ·rintro⟨v,hv,h⟩;obtain⟨i,hi,rfl⟩:=List.getElem_of_mem hv;exact⟨i,hi,by rw[← we9 hi] at h;exact h⟩
theorem wuc(R:List MG):(obU R).length<=(visL R).length+(repL R).length:=by
 have:=wlf ((repL R).map rsl) (visL R)
 rwa [List.length_map] at this
theorem wy4(hP:C.P=Tryz.prog)(g:Nat->MG)(n:Nat)(R:List MG):wah C 0 142 (wai Tryz.f18 16) (wo3 g n R):=by
 rintro st Q ⟨h0,hRe,hn,hs,hQ⟩;have hR:RightL R:=hRe ▸ wtu g n;have hrl:R.length<=n:=hRe ▸ wdn g n;have hvl:=wdm R;have hpl:=wj3 R;have hul:=wuc R;have hol:(ovL R).length<=(visL R).length:=(wqm R (visL R) (visL R).length).1;refine AWP.ownNil 10 41 6 ?_;refine wah.mk (prg hP) [(48,.det wnu),(49,.det wn1),(50,.det wnv),(20,.det (wmq R)),(22,.det wea)] 0 (.cons (has_ok hP) (.cons (w5u hP) (.cons (w49 hP) (.cons (rslR_ok hP R) (.cons (wtw hP) .nil))))) [0,3,5,10,79,80,81] [10] [] (whm g n (visL R) (obU R) (ovL R) (obP R)) (λi=>i.k<=(obU R).length/\i.l=(lst (atS (obU R)) i.k).filter λt=>decide (0<obP R t)) (λi=>(obU R).length - i.k) ⟨0,[]⟩ ⟨zL7 _,rfl⟩ h0 (λi hi=>?_) (λi=>⟨λ_ _=>rfl,trivial⟩);obtain⟨k,l⟩:=i;obtain⟨hk,hl⟩:=hi;have hk:k<=(obU R).length:=hk;have hl:l=(lst (atS (obU R)) k).filter λt=>decide (0<obP R t):=hl;have hll:l.length<=k:=by
  have:=List.length_filter_le (λt=>decide (0<obP R t)) (lst (atS (obU R)) k);rw[hl];simp[lst] at this ⊢;exact this
 have hsn:(lst (atS (obU R)) (k+1)).filter (λt=>decide (0<obP R t))=bif decide (0<obP R (atS (obU R) k)) then l++[atS (obU R) k] else l:=by
  rw[we2,List.filter_append, ← hl]
  cases h:decide (0<obP R (atS (obU R) k))<;>simp[h]
 rw[w0z];dsimp only
 rw[tN7];have hxw:vtOf (wam (atX (ovL R)))=atX (ovL R):=rfl;rw[hxw,has_mem,end_any];have hq:=obQ_eq hR (atS (obU R) k);unfold obQ at hq;generalize hU:obU R=U at *;generalize ht:atS U k=t at *;have hsk:¬ 0<obP R t->k<U.length->inR .i64 ((k:Int)+1)/\∃i':QI,(TEq [(0,.view 15 n (waa g)),(3,.view 7 (visL R).length (waj (visL R))),(5,.view 7 (ovL R).length (wam (atX (ovL R)))),(10,.own 0 l.length),(79,.view 7 U.length (waj U)),(80,.q U.length),(81,.q ((k:Int)+1))] (whm g n (visL R) U (ovL R) (obP R) i').T/\
   wac [(0,.row 41 6 l.length (wbm l (obP R)) false)] (whm g n (visL R) U (ovL R) (obP R) i').O)/\((i'.k<=U.length/\i'.l=(lst (atS U) i'.k).filter λt=>decide (0<obP R t))/\U.length - i'.k<U.length - k):=λh h1=>
  ⟨by simp only[inR];omega,⟨k+1,l⟩,⟨rfl,rQ7,trivial⟩,⟨h1,by rw[hsn,decide_eq_false h];rfl⟩,by show U.length - (k+1)<U.length - k;omega⟩
 have hRg:R=wae (mgOf (waa g)) n:=hRe;have hprB:priB (resB R t).1=(decide ((resB R t).1.st=1) || decide ((resB R t).1.st=2)):=rfl;have hver:verB R t=decide ((resB R t).2=1):=rfl;have hobC:∀L:List SL,wbm L (obP R)=λi=>obC (L.getD i default) (obP R (L.getD i default)):=λL=>rfl;refine wag (λh1=>⟨⟨by omega,by omega,rfl⟩,⟨by omega,rfl⟩,wan (λh2=>⟨⟨hRg,hn,rfl,hs⟩,wag (λh3=>⟨⟨by omega,rfl⟩,wcb (λh4=>wag (λh5=>?_) (λn5=>wag (λh6=>?_) (λn6=>hsk ?_ (by omega)))) (λh4=>hsk ?_ (by omega))⟩) (λh3=>hsk ?_ (by omega))⟩) (λh2=>⟨⟨by omega,rfl⟩,wcb (λh4=>⟨⟨by omega,by rw[wkr]⟩,?_⟩) (λh4=>hsk ?_ (by omega))⟩)⟩) (λh1=>?_)
 rotate_right 1
 ·have:k=U.length:=by omega
  have e:l=obL R:=by
   rw[hl,this,wgv, ← hU];rfl
  rw[e];exact⟨λ_ _=>rfl,_,waz _,hQ⟩
 ·have hp:obP R t=(resB R t).1.pr:=by rw[← hq,h2,hver,h4,hprB,decide_eq_true h5,decide_eq_true h3];rfl
  show wab (decide (0<(resB R t).1.pr)) _ _;rw[← hp];refine wag (λh7=>⟨⟨by omega,?_⟩,⟨by omega,rfl,by omega⟩,⟨⟨lR7 _,rfl⟩,lR7 _,rfl,rfl,rfl,by omega,by omega⟩,by simp only[inR];omega,⟨k+1,l++[t]⟩,?_,⟨by show k+1<=U.length;omega,by rw[hsn,decide_eq_true h7];rfl⟩,by show U.length - (k+1)<U.length - k;omega⟩) (λh7=>hsk h7 (by omega))
  ·have:=wke hR h7;omega
  ·dsimp only
   rw[lA7,hobC,hobC];refine⟨rfl,⟨rfl,rfl,rfl,rfl,rfl,λj hj=>wgm (λs=>obC s (obP R s)) default l t _ ?_ j hj⟩,trivial⟩;rfl
 ·have hp:obP R t=(resB R t).1.pr:=by rw[← hq,h2,hver,h4,hprB,decide_eq_true h6,decide_eq_true h3,Bool.or_true];rfl
  show wab (decide (0<(resB R t).1.pr)) _ _;rw[← hp];refine wag (λh7=>⟨⟨by omega,?_⟩,⟨by omega,rfl,by omega⟩,⟨⟨lR7 _,rfl⟩,lR7 _,rfl,rfl,rfl,by omega,by omega⟩,by simp only[inR];omega,⟨k+1,l++[t]⟩,?_,⟨by show k+1<=U.length;omega,by rw[hsn,decide_eq_true h7];rfl⟩,by show U.length - (k+1)<U.length - k;omega⟩) (λh7=>hsk h7 (by omega))
  ·have:=wke hR h7;omega
  ·dsimp only
   rw[lA7,hobC,hobC];refine⟨rfl,⟨rfl,rfl,rfl,rfl,rfl,λj hj=>wgm (λs=>obC s (obP R s)) default l t _ ?_ j hj⟩,trivial⟩;rfl
 ·rw[← hq,h2,hprB,decide_eq_false n5,decide_eq_false n6,Bool.or_false,Bool.and_false,Bool.and_false];exact Int.lt_irrefl 0
 ·rw[← hq,h2,h4,Bool.not_true,Bool.false_and,Bool.and_false];exact Int.lt_irrefl 0
 ·rw[← hq,h2,hver,decide_eq_false h3,Bool.false_and];exact Int.lt_irrefl 0
 ·have hp:obP R t=gvR (ovL R) t:=by rw[← hq,h2,h4];rfl
  rw[wkr];show wab (decide (0<gvR (ovL R) t)) _ _;rw[← hp];refine wag (λh7=>⟨⟨by omega,?_⟩,⟨by omega,rfl,by omega⟩,⟨⟨lR7 _,rfl⟩,lR7 _,rfl,rfl,rfl,by omega,by omega⟩,by simp only[inR];omega,⟨k+1,l++[t]⟩,?_,⟨by show k+1<=U.length;omega,by rw[hsn,decide_eq_true h7];rfl⟩,by show U.length - (k+1)<U.length - k;omega⟩) (λh7=>hsk h7 (by omega))
  ·have:=wke hR h7;omega
  ·dsimp only
   rw[lA7,hobC,hobC];refine⟨rfl,⟨rfl,rfl,rfl,rfl,rfl,λj hj=>wgm (λs=>obC s (obP R s)) default l t _ ?_ j hj⟩,trivial⟩;rfl
 ·rw[← hq,h2,h4];exact Int.lt_irrefl 0
theorem robs_ok(hP:C.P=Tryz.prog):wad C 18 wfg:=by
 rintro args objs U Os vc h hvc;unfold wfg at h;split at h<;>cases h;rename_i n f;obtain⟨hn,hf,hs⟩:=hvc;generalize mgOf f=g at *;subst hf;refine waw.frzO 0 ?_;refine wa8.wpL (prg hP) [(45,.det whd)] [(5,wo4 g n (wae g n)),(16,wo3 g n (wae g n))] 0 (.cons (ws3 hP) .nil) (hP ▸ Tryz.func18) rfl rfl rfl [(wai Tryz.f18 5,wo4 g n (wae g n)),(wai Tryz.f18 16,wo3 g n (wae g n))] (by kernel_rfl) ⟨wy5 hP g n _,wy4 hP g n _,trivial⟩ ?_;rw[nf_robs];have hg:mgOf (waa g)=g:=rfl;have hrl:=wdn g n;have hvl:=wdm (wae g n);rw[hg,Nat.zero_add];generalize wae g n=R at *;have hb:Nat.ble (obL R).length (obL R).length=true:=Nat.ble_eq_true_of_le (lR7 _);refine⟨⟨hn,rfl,hs⟩,⟨by omega,rfl,by omega⟩,⟨rfl,lR7 _,rfl,rfl,rfl,by omega,by omega⟩,⟨rfl,⟨rfl,rfl,rfl,rfl,rfl,λi hi=>?_⟩,⟨rfl,rfl,rfl,rfl,rfl,λi hi=>absurd hi (nZ7 i)⟩,trivial⟩,rfl,hn,hs,⟨rfl,⟨rfl,rfl,rfl,rfl,rfl,λi hi=>absurd hi (nZ7 i)⟩,trivial⟩,rfl,hn,hs,λ_ _=>rfl,_,waz _,λ_ _=>rfl,?_⟩
 ·unfold apF;rw[if_neg (nZ7 i),Nat.sub_zero]
 ·constructor
  ·simp[frzC,frzA,frz,hb]
  ·rfl
theorem w2q(n:Nat)(v:Nat->Int)(a:Int)(R:oR7):wpFn te [(30,.det wce)] [] 0 Tryz.f74 [.ptr 0 0] [.cells [.view 1 n (waf v),.q a] 26] R=(letI z0:=vInt (waf v);(3<=16777216/\1=1/\3<=9223372036854775807)/\(26=26/\1=1/\waf v=waf z0/\((1:Int)<=3/\(3:Int)<=1000000)/\(0:Int)<=a/\a<=4611686018427387904)/\((0:Int)<=wak n z0 a (3:Int)/\wak n z0 a (3:Int)<(↑3:Int))/\((wak n z0 a (3:Int)).toNat<3/\1=1)/\R (.str (List.getD [[(97:UInt8)],[(98:UInt8)],[(99:UInt8)]] (wak n z0 a (3:Int)).toNat [])) [(0,.cells [.view 1 n (waf v),.q (a+1)] 26)]):=by kernel_rfl
theorem w1u(n:Nat)(v:Nat->Int)(a:Int)(R:oR7):wpFn te [(30,.det wce),(67,.det whq),(68,.det whp),(27,.det S_id)] [] 3 Tryz.f34 [.ptr 0 0] [.cells [.view 1 n (waf v),.q a] 26] R=(letI z20:=((1:Int)<=4/\(4:Int)<=1000000:Prop);letI z19:=4611686018427387904;letI z18:=4611686018427387000;letI z16:=((48:Int)+(cdF (id7 (4:Int))).1).toNat;letI z14:=([(0,.cells [.view 1 n (waf v),.q (a+1+1+1+1+1+1+1)] 26)]:oL7);letI z12:=(a+1+1);letI z11:=(a+1+1+1+1);letI z10:=(a+1+1+1);letI z9:=(idV (4:Int));letI z7:=(a+1+1+1+1+1+1);letI z17:=([(0,.cells [.view 1 n (waf v),.q z7] 26)]:oL7);letI z6:=(a+1+1+1+1+1);letI z5:=vInt (waf v);letI z13:=(outF (wak n z5 a (3:Int)));letI z8:=(wak n z5 (a+1) (4:Int));letI z4:=(wak n z5 z11 (7:Int)).toNat;letI z15:=(decide ((1:Int)+List.getD [(0:Int),(0:Int),(0:Int),(1:Int),(2:Int),(3:Int),(4:Int)] z4 (0:Int)=5));letI z3:=((True/\True)/\R (.agg [.str z13,.str (idF z8),.q ((1440:Int)+wak n z5 z12 (4:Int)),.q ((43830:Int)+wak n z5 z10 (100:Int)),.q ((1:Int)+List.getD [(0:Int),(0:Int),(0:Int),(1:Int),(2:Int),(3:Int),(4:Int)] z4 (0:Int)),.q 0,.str [(λ(i:Nat)=>UInt8.ofNat (way (List.headD (wbb z9 i) .any)).toNat) (nat_lit 0),(λ(i:Nat)=>UInt8.ofNat (way (List.headD (wbb z9 i) .any)).toNat) (nat_lit 1),(λ(i:Nat)=>UInt8.ofNat (way (List.headD (wbb z9 i) .any)).toNat) (nat_lit 2),(λ(i:Nat)=>UInt8.ofNat (way (List.headD (wbb z9 i) .any)).toNat) (nat_lit 3),(λ(i:Nat)=>UInt8.ofNat (way (List.headD (wbb z9 i) .any)).toNat) (nat_lit 4),(λ(i:Nat)=>UInt8.ofNat (way (List.headD (wbb z9 i) .any)).toNat) (nat_lit 5),(λ(i:Nat)=>UInt8.ofNat (way (List.headD (wbb z9 i) .any)).toNat) (nat_lit 6),UInt8.ofNat z16]]) z17:Prop);letI z2:=((True/\True)/\R (.agg [.str z13,.str (idF z8),.q ((1440:Int)+wak n z5 z12 (4:Int)),.q ((43830:Int)+wak n z5 z10 (100:Int)),.q ((1:Int)+List.getD [(0:Int),(0:Int),(0:Int),(1:Int),(2:Int),(3:Int),(4:Int)] z4 (0:Int)),.q ((100:Int)+wak n z5 z6 (4:Int) * (5:Int)),.str [(λ(i:Nat)=>UInt8.ofNat (way (List.headD (wbb z9 i) .any)).toNat) (nat_lit 0),(λ(i:Nat)=>UInt8.ofNat (way (List.headD (wbb z9 i) .any)).toNat) (nat_lit 1),(λ(i:Nat)=>UInt8.ofNat (way (List.headD (wbb z9 i) .any)).toNat) (nat_lit 2),(λ(i:Nat)=>UInt8.ofNat (way (List.headD (wbb z9 i) .any)).toNat) (nat_lit 3),(λ(i:Nat)=>UInt8.ofNat (way (List.headD (wbb z9 i) .any)).toNat) (nat_lit 4),(λ(i:Nat)=>UInt8.ofNat (way (List.headD (wbb z9 i) .any)).toNat) (nat_lit 5),(λ(i:Nat)=>UInt8.ofNat (way (List.headD (wbb z9 i) .any)).toNat) (nat_lit 6),UInt8.ofNat z16]]) z14:Prop);letI z1:=(decide ([(λ(i:Nat)=>UInt8.ofNat (way (List.headD (wbb z9 i) .any)).toNat) (nat_lit 0),(λ(i:Nat)=>UInt8.ofNat (way (List.headD (wbb z9 i) .any)).toNat) (nat_lit 1),(λ(i:Nat)=>UInt8.ofNat (way (List.headD (wbb z9 i) .any)).toNat) (nat_lit 2),(λ(i:Nat)=>UInt8.ofNat (way (List.headD (wbb z9 i) .any)).toNat) (nat_lit 3),(λ(i:Nat)=>UInt8.ofNat (way (List.headD (wbb z9 i) .any)).toNat) (nat_lit 4),(λ(i:Nat)=>UInt8.ofNat (way (List.headD (wbb z9 i) .any)).toNat) (nat_lit 5),(λ(i:Nat)=>UInt8.ofNat (way (List.headD (wbb z9 i) .any)).toNat) (nat_lit 6),UInt8.ofNat z16]=idF z8));letI z0:=(wab z15 ((26=26/\1=1/\waf v=waf z5/\(0:Int)<=a+1+1+1+1+1/\a+1+1+1+1+1<=z18)/\wab (decide (idF (wak n z5 z6 (4:Int))=idF z8)) (True/\wab z1 (True/\wab z1 (True/\False) z3) z3) ((True/\True)/\R (.agg [.str z13,.str (idF z8),.q ((1440:Int)+wak n z5 z12 (4:Int)),.q ((43830:Int)+wak n z5 z10 (100:Int)),.q ((1:Int)+List.getD [(0:Int),(0:Int),(0:Int),(1:Int),(2:Int),(3:Int),(4:Int)] z4 (0:Int)),.q 0,.str (idF (wak n z5 z6 (4:Int)))]) z17)) ((True/\True)/\R (.agg [.str z13,.str (idF z8),.q ((1440:Int)+wak n z5 z12 (4:Int)),.q ((43830:Int)+wak n z5 z10 (100:Int)),.q ((1:Int)+List.getD [(0:Int),(0:Int),(0:Int),(1:Int),(2:Int),(3:Int),(4:Int)] z4 (0:Int)),.q 0,.str []]) [(0,.cells [.view 1 n (waf v),.q z6] 26)]));(26=26/\1=1/\waf v=waf z5/\(0:Int)<=a/\a<=z18)/\(26=26/\1=1/\waf v=waf z5/\(0:Int)<=a+1/\a+1<=z18)/\(26=26/\1=1/\waf v=waf z5/\z20/\(0:Int)<=a+1+1/\a+1+1<=z19)/\inR .i64 ((1440:Int)+wak n z5 z12 (4:Int))/\(26=26/\1=1/\waf v=waf z5/\((1:Int)<=100/\(100:Int)<=1000000)/\(0:Int)<=a+1+1+1/\a+1+1+1<=z19)/\inR .i64 ((43830:Int)+wak n z5 z10 (100:Int))/\(7<=16777216/\1=1/\7<=9223372036854775807)/\(26=26/\1=1/\waf v=waf z5/\((1:Int)<=7/\(7:Int)<=1000000)/\(0:Int)<=a+1+1+1+1/\a+1+1+1+1<=z19)/\((0:Int)<=wak n z5 z11 (7:Int)/\wak n z5 z11 (7:Int)<(↑7:Int))/\((wak n z5 z11 (7:Int)).toNat<7/\1=1)/\inR .i64 ((1:Int)+List.getD [(0:Int),(0:Int),(0:Int),(1:Int),(2:Int),(3:Int),(4:Int)] z4 (0:Int))/\wab (!decide ((1:Int)+List.getD [(0:Int),(0:Int),(0:Int),(1:Int),(2:Int),(3:Int),(4:Int)] z4 (0:Int)=3)) (wab (!decide ((1:Int)+List.getD [(0:Int),(0:Int),(0:Int),(1:Int),(2:Int),(3:Int),(4:Int)] z4 (0:Int)=4)) ((26=26/\1=1/\waf v=waf z5/\z20/\(0:Int)<=a+1+1+1+1+1/\a+1+1+1+1+1<=z19)/\inR .i64 (wak n z5 z6 (4:Int) * (5:Int))/\inR .i64 ((100:Int)+wak n z5 z6 (4:Int) * (5:Int))/\wab z15 ((26=26/\1=1/\waf v=waf z5/\(0:Int)<=a+1+1+1+1+1+1/\a+1+1+1+1+1+1<=z18)/\wab (decide (idF (wak n z5 z7 (4:Int))=idF z8)) (True/\wab z1 (True/\wab z1 (True/\False) z2) z2) ((True/\True)/\R (.agg [.str z13,.str (idF z8),.q ((1440:Int)+wak n z5 z12 (4:Int)),.q ((43830:Int)+wak n z5 z10 (100:Int)),.q ((1:Int)+List.getD [(0:Int),(0:Int),(0:Int),(1:Int),(2:Int),(3:Int),(4:Int)] z4 (0:Int)),.q ((100:Int)+wak n z5 z6 (4:Int) * (5:Int)),.str (idF (wak n z5 z7 (4:Int)))]) z14)) ((True/\True)/\R (.agg [.str z13,.str (idF z8),.q ((1440:Int)+wak n z5 z12 (4:Int)),.q ((43830:Int)+wak n z5 z10 (100:Int)),.q ((1:Int)+List.getD [(0:Int),(0:Int),(0:Int),(1:Int),(2:Int),(3:Int),(4:Int)] z4 (0:Int)),.q ((100:Int)+wak n z5 z6 (4:Int) * (5:Int)),.str []]) z17)) z0) z0):=by kernel_rfl
theorem nf_mmsg(n:Nat)(v:Nat->Int)(a:Int)(R:oR7):wpFn te [(30,.det wce),(67,.det whq),(68,.det whp),(74,.det wn2),(34,.rel wok)] [] 0 Tryz.f37 [.ptr 0 0] [.cells [.view 1 n (waf v),.q a] 26] R=(letI z5:=((1:Int)<=9/\(9:Int)<=1000000:Prop);letI z4:=(a+1+1+1+1+1);letI z3:=4611686018427387904;letI z2:=4611686018427387000;letI z1:=(a+1+1+1+1+1+1+1);letI z0:=vInt (waf v);(26=26/\1=1/\waf v=waf z0/\(0:Int)<=a/\a<=z2)/\(26=26/\1=1/\waf v=waf z0/\z5/\(0:Int)<=a+1/\a+1<=z3)/\inR .i64 ((1:Int)+wak n z0 (a+1) (9:Int))/\(26=26/\1=1/\waf v=waf z0/\((1:Int)<=5/\(5:Int)<=1000000)/\(0:Int)<=a+1+1/\a+1+1<=z3)/\wab (decide (wak n z0 (a+1+1) (5:Int)=0)) ((26=26/\1=1/\waf v=waf z0/\(0:Int)<=a+1+1+1/\a+1+1+1<=z2)/\(26=26/\1=1/\waf v=waf z0/\(0:Int)<=a+1+1+1+1/\a+1+1+1+1<=z2)/\(26=26/\1=1/\waf v=waf z0/\((1:Int)<=4/\(4:Int)<=1000000)/\(0:Int)<=a+1+1+1+1+1/\a+1+1+1+1+1<=z3)/\inR .i64 ((1440:Int)+wak n z0 z4 (4:Int))/\(26=26/\1=1/\waf v=waf z0/\(0:Int)<=a+1+1+1+1+1+1/\a+1+1+1+1+1+1<=z2)/\(26=26/\1=1/\waf v=waf z0/\z5/\(0:Int)<=a+1+1+1+1+1+1+1/\a+1+1+1+1+1+1+1<=z3)/\inR .i64 ((1:Int)+wak n z0 z1 (9:Int))/\(True/\True)/\R (.agg [.str (devF (wak n z0 a (3:Int))),.q ((1:Int)+wak n z0 (a+1) (9:Int)),.q 2,.str [],.str [],.q 0,.q 0,.q 0,.q 0,.str [],.str (outF (wak n z0 (a+1+1+1) (3:Int))),.str (idF (wak n z0 (a+1+1+1+1) (4:Int))),.q ((1440:Int)+wak n z0 z4 (4:Int)),.str (devF (wak n z0 (a+1+1+1+1+1+1) (3:Int))),.q ((1:Int)+wak n z0 z1 (9:Int))]) [(0,.cells [.view 1 n (waf v),.q (a+1+1+1+1+1+1+1+1)] 26)]) (26=26/\1=1/\waf v=waf z0/\((0:Int)<=a+1+1+1/\a+1+1+1<=4611686018427386000)/\∀(x:VT) (a':Int),VT.Made x->a+1+1+1<=a'/\a'<=a+1+1+1+7->(True/\True)/\R (.agg [.str (devF (wak n z0 a (3:Int))),.q ((1:Int)+wak n z0 (a+1) (9:Int)),.q 1,.str x.o,.str x.p,.q x.per,.q x.day,.q x.st,.q x.pr,.str x.rep,.str [],.str [],.q 0,.str [],.q 0]) [(0,.cells [.view 1 n (waf v),.q a'] 26)])):=by kernel_rfl
theorem w52(hP:C.P=Tryz.prog):wad C 74 wn2:=by
 rintro args objs U Os vc h hvc;unfold wn2 at h;split at h<;>cases h;rename_i sz n f a t;obtain⟨rfl,rfl,hf,h1,h2⟩:=hvc;rw[hf];generalize vInt f=v;have hw:vInt (waf v)=v:=rfl;refine wad.wp0 (prg hP) [(30,.det wce)] 0 (.cons (wft hP) .nil) (hP ▸ Tryz.func74) rfl rfl rfl ?_;rw[w2q];have r:=wbw (show (1:Int)<=3 by omega) n v a;exact⟨⟨by omega,rfl,by omega⟩,⟨rfl,rfl,rfl,⟨by omega,by omega⟩,by omega,by omega⟩,⟨r.1,r.2⟩,⟨by rw[hw];omega,rfl⟩,rfl,rfl⟩
theorem stF:∀i:Nat,i<7->1<=1+List.getD [(0:Int),0,0,1,2,3,4] i 0/\1+List.getD [(0:Int),0,0,1,2,3,4] i 0<=5:=by decide
theorem idF4i{x:Int}(h:0<=x/\x<4):¬ idF 4=idF x:=by
 have:=idF4 x.toNat (by omega)
 rwa [show ((x.toNat:Nat):Int)=x by omega] at this
theorem wxx{o p:List UInt8}{per day st pr:Int}{rep:List UInt8}(ho:wa3 o=true)(hp:wba p=true)(hper:0<=per/\per<=5999)(hday:0<=day/\day<=182620)
  (h:((st=1∨st=2)/\(1<=pr/\pr<=1099511627776)/\rep=[])∨((st=3∨st=4)/\pr=0/\rep=[])∨(st=5/\(1<=pr/\pr<=1099511627776)/\wba rep=true/\¬ rep=p)):visF ⟨o,p,per,day,st,pr,rep⟩=true:=by
 unfold visF wbz;dsimp only
 rw[ho,hp,decide_eq_true hper.1,decide_eq_true hper.2,decide_eq_true hday.1,decide_eq_true hday.2]
 rcases h with⟨q | q,⟨h1,h2⟩,h3⟩ | ⟨q | q,h1,h2⟩ | ⟨q,⟨h1,h2⟩,h3,h4⟩
 ·subst q;subst h3;rw[decide_eq_true h1,decide_eq_true h2];rfl
 ·subst q;subst h3;rw[decide_eq_true h1,decide_eq_true h2];rfl
 ·subst q;subst h1;subst h2;rfl
 ·subst q;subst h1;subst h2;rfl
 ·subst q;rw[decide_eq_true h1,decide_eq_true h2,h3,decide_eq_false h4];rfl
theorem w3n{dev:List UInt8}{seq:Int}{x:VT}(hd:wa3 dev=true)(hs:1<=seq/\seq<=1048576)(hx:visF x=true):msgF ⟨dev,seq,1,x,⟨[],[],0,[],0⟩⟩=0:=by
 unfold msgF numF;dsimp only
 rw[hd,hx,decide_eq_true hs.1,decide_eq_true hs.2];rfl
theorem w3o{dev:List UInt8}{seq:Int}{o p:List UInt8}{per:Int}{dd:List UInt8}{num:Int}(hd:wa3 dev=true)(hs:1<=seq/\seq<=1048576)(h:wbz o p per=true)(h':wa3 dd=true)(hn:1<=num/\num<=1048576):
  msgF ⟨dev,seq,2,⟨[],[],0,0,0,0,[]⟩,⟨o,p,per,dd,num⟩⟩=0:=by
 unfold msgF numF;dsimp only
 rw[hd,h,h',decide_eq_true hs.1,decide_eq_true hs.2,decide_eq_true hn.1,decide_eq_true hn.2];rfl
theorem wym{o p:List UInt8}{per:Int}(ho:wa3 o=true)(hp:wba p=true)(hper:0<=per/\per<=5999):wbz o p per=true:=by
 unfold wbz;rw[ho,hp,decide_eq_true hper.1,decide_eq_true hper.2];rfl
theorem w3k(hP:C.P=Tryz.prog):wa8 C 34 wok:=by
 rintro args objs R h;unfold wok at h;split at h
 ·rename_i sz n f a t;obtain⟨rfl,rfl,hf,ha,hR⟩:=h;rw[hf] at hR ⊢;generalize vInt f=v at *;have hw:vInt (waf v)=v:=rfl;refine wa8.wpL (prg hP) [(30,.det wce),(67,.det whq),(68,.det whp),(27,.det S_id)] [] 3 (.cons (wft hP) (.cons (wt6 hP) (.cons (wsw hP) (.cons (id_ok hP) .nil)))) (hP ▸ Tryz.func34) rfl rfl rfl [] (by kernel_rfl) trivial ?_;rw[w1u,hw];have r1:=wbw (show (1:Int)<=3 by omega) n v a;have r2:=wbw (show (1:Int)<=4 by omega) n v (a+1);have r3:=wbw (show (1:Int)<=4 by omega) n v (a+1+1);have r4:=wbw (show (1:Int)<=100 by omega) n v (a+1+1+1);have r5:=wbw (show (1:Int)<=7 by omega) n v (a+1+1+1+1);have r6:=wbw (show (1:Int)<=4 by omega) n v (a+1+1+1+1+1);have hst:=stF (wak n v (a+1+1+1+1) 7).toNat (by omega);have ho:=wt7 (wak n v a 3).toNat (by omega);have key:∀(st pr:Int) (rep:List UInt8) (a':Int),(((st=1∨st=2)/\(1<=pr/\pr<=1099511627776)/\rep=[])∨((st=3∨st=4)/\pr=0/\rep=[])∨(st=5/\(1<=pr/\pr<=1099511627776)/\wba rep=true/\¬ rep=idF (wak n v (a+1) 4)))->(a<=a'/\a'<=a+7)->
    R (.agg [.str (outF (wak n v a 3)),.str (idF (wak n v (a+1) 4)),.q (1440+wak n v (a+1+1) 4),.q (43830+wak n v (a+1+1+1) 100),.q st,.q pr,.str rep]) [(0,.cells [.view 1 n (waf v),.q a'] 26)]:=λst pr rep a' h1 h2=>
   hR ⟨outF (wak n v a 3),idF (wak n v (a+1) 4),1440+wak n v (a+1+1) 4,43830+wak n v (a+1+1+1) 100,st,pr,rep⟩ a' ⟨wxx ho.1 (wk6 _) (by omega) (by omega) h1,ho.2⟩ h2
  refine⟨⟨rfl,rfl,rfl,by omega,by omega⟩,⟨rfl,rfl,rfl,by omega,by omega⟩,⟨rfl,rfl,rfl,⟨by omega,by omega⟩,by omega,by omega⟩,by simp only[inR];omega,⟨rfl,rfl,rfl,⟨by omega,by omega⟩,by omega,by omega⟩,by simp only[inR];omega,⟨by omega,rfl,by omega⟩,⟨rfl,rfl,rfl,⟨by omega,by omega⟩,by omega,by omega⟩,⟨by omega,by omega⟩,⟨by omega,rfl⟩,?_⟩;generalize 1+List.getD [(0:Int),0,0,1,2,3,4] (wak n v (a+1+1+1+1) 7).toNat 0=st at *
  refine⟨by simp only[inR];omega,wax (λs3=>wax (λs4=>⟨⟨rfl,rfl,rfl,⟨by omega,by omega⟩,by omega,by omega⟩,by simp only[inR];omega,by simp only[inR];omega,wag (λs5=>⟨⟨rfl,rfl,rfl,by omega,by omega⟩,wag (λq=>⟨trivial,wag (λq'=>absurd q' (idF4i r2)) (λq'=>⟨⟨trivial,trivial⟩,?_⟩)⟩) (λq=>⟨⟨trivial,trivial⟩,?_⟩)⟩) (λs5=>⟨⟨trivial,trivial⟩,?_⟩)⟩)
   (λs4=>wag (λs5=>absurd s5 (by omega)) (λs5=>⟨⟨trivial,trivial⟩,?_⟩))) (λs3=>wag (λs5=>absurd s5 (by omega)) (λs5=>⟨⟨trivial,trivial⟩,?_⟩))⟩
  ·exact key st _ (idF 4) _ (.inr (.inr ⟨s5,by omega,wk6 _,idF4i r2⟩)) (by omega)
  ·exact key st _ _ _ (.inr (.inr ⟨s5,by omega,wk6 _,q⟩)) (by omega)
  ·exact key st _ _ _ (.inl ⟨by omega,by omega,rfl⟩) (by omega)
  ·exact key st _ _ _ (.inr (.inl ⟨by omega,rfl,rfl⟩)) (by omega)
  ·exact key st _ _ _ (.inr (.inl ⟨by omega,rfl,rfl⟩)) (by omega)
 ·exact h.elim
theorem wur (hP : C.P = Tryz.prog) : wa8 C 37 wh3 := by
  rintro args objs R h
  unfold wh3 at h
  split at h
  · rename_i sz n f a t
    obtain ⟨rfl, rfl, hf, ha, hR⟩ := h
    rw [hf] at hR ⊢
    generalize vInt f = v at *
    have hw : vInt (waf v) = v := rfl
    refine wa8.wpL (prg hP) [(30, .det wce), (67, .det whq), (68, .det whp), (74, .det wn2), (34, .rel wok)] [] 0 (.cons (wft hP) (.cons (wt6 hP) (.cons (wsw hP) (.cons (w52 hP) (.cons (w3k hP) .nil))))) (hP ▸ Tryz.func37) rfl rfl rfl [] (by kernel_rfl) trivial ?_
    rw [nf_mmsg, hw]
    have r1 := wbw (show (1 : Int) ≤ 3 by omega) n v a
    have r2 := wbw (show (1 : Int) ≤ 9 by omega) n v (a + 1)
    have r4 := wbw (show (1 : Int) ≤ 3 by omega) n v (a + 1 + 1 + 1)
    have r6 := wbw (show (1 : Int) ≤ 4 by omega) n v (a + 1 + 1 + 1 + 1 + 1)
    have r7 := wbw (show (1 : Int) ≤ 3 by omega) n v (a + 1 + 1 + 1 + 1 + 1 + 1)
    have r8 := wbw (show (1 : Int) ≤ 9 by omega) n v (a + 1 + 1 + 1 + 1 + 1 + 1 + 1)
    have hd := wwq (wak n v a 3).toNat (by omega)
    have ho := wt7 (wak n v (a + 1 + 1 + 1) 3).toNat (by omega)
    have hd' := wwq (wak n v (a + 1 + 1 + 1 + 1 + 1 + 1) 3).toNat (by omega)
    refine ⟨⟨rfl, rfl, rfl, by omega, by omega⟩, ⟨rfl, rfl, rfl, ⟨by omega, by omega⟩, by omega, by omega⟩, by simp only [inR]; omega, ⟨rfl, rfl, rfl, ⟨by omega, by omega⟩, by omega, by omega⟩, wag (fun q => ⟨⟨rfl, rfl, rfl, by omega, by omega⟩, ⟨rfl, rfl, rfl, by omega, by omega⟩, ⟨rfl, rfl, rfl, ⟨by omega, by omega⟩, by omega, by omega⟩, by simp only [inR]; omega, ⟨rfl, rfl, rfl, by omega, by omega⟩, ⟨rfl, rfl, rfl, ⟨by omega, by omega⟩, by omega, by omega⟩, by simp only [inR]; omega, ⟨trivial, trivial⟩, ?_⟩)
      (fun q => ⟨rfl, rfl, rfl, ⟨by omega, by omega⟩, fun x a' hx ha' => ⟨⟨trivial, trivial⟩, ?_⟩⟩)⟩
    · exact hR ⟨devF (wak n v a 3), 1 + wak n v (a + 1) 9, 2, ⟨[], [], 0, 0, 0, 0, []⟩, ⟨outF (wak n v (a + 1 + 1 + 1) 3), idF (wak n v (a + 1 + 1 + 1 + 1) 4), 1440 + wak n v (a + 1 + 1 + 1 + 1 + 1) 4, devF (wak n v (a + 1 + 1 + 1 + 1 + 1 + 1) 3), 1 + wak n v (a + 1 + 1 + 1 + 1 + 1 + 1 + 1) 9⟩⟩ _
        ⟨w3o hd.1 (by omega) (wym ho.1 (wk6 _) (by omega)) hd'.1 (by omega), hd.2, zL7 _, ho.2, hd'.2⟩ (by omega)
    · exact hR ⟨devF (wak n v a 3), 1 + wak n v (a + 1) 9, 1, x, ⟨[], [], 0, [], 0⟩⟩ a' ⟨w3n hd.1 (by omega) hx.ok, hd.2, hx.o, zL7 _, zL7 _⟩ (by omega)
  · exact h.elim
end Go.Eng
