/- open: the book of a list of messages. -/
import Derived.Test.YtmcdngcjakjnmaaGreatDoorJvy
namespace Go.Eng
open Go.Proofs Go.RowKit
variable {C:Ctx} [C.Loose]
set_option maxRecDepth 20000
theorem w09(g:Nat->MG)(n:Nat)(o p:List UInt8)(per:Int)(R:oR7):letI z8:=atM (wae g n);letI z7:=(wae g n).length;letI z6:=wae (mgOf (waa g)) n;letI z4:=([.str [],.str [],.q 0,.q 0,.q 0,.q 0,.str []]:List AV);letI z1:=canL o p per z8 z7;letI z5:=(dcF o p per z1 z8 0).1;letI z3:=(dcF o p per z1 z8 z7).1;letI z0:=canL o p per (mgOf (waa (atM z6))) z6.length;letI z9:=z0.length;letI z2:=(atM z0 (0:Int).toNat).v;wpFn te [(58,.det wda),(59,.det woa),(60,.det wn7)] [(10,L_rl o p per (canL o p per z8 (wae g n).length) (wae g n))] 0 Tryz.f29 [.view 15 n (waa g),.str o,.str p,.q per] [] R=((n<=100000/\waa g=waa (mgOf (waa g))/\∀(i:Nat),i<n->MG.Sm (mgOf (waa g) i))/\(z6.length<=1000000/\waa (atM z6)=waa (mgOf (waa (atM z6))))/\wab (decide ((z9:Int)=0)) ((True/\True)/\R (.tuple [.agg z4,.q 0]) []) (((0:Int)<=0/\(0:Int)<(z9:Int)/\15=15)/\(43=43/\z0.length<=1000000/\waa (atM z0)=waa (mgOf (waa (atM z0))))/\wab (!decide ((0:Int)<=ixB (λ(i:Nat)=>difF (VT.mk z2.o z2.p z2.per z2.day z2.st z2.pr z2.rep) (mgOf (waa (atM z0)) i)) z9)) ((True/\True)/\R (.tuple [.agg [.str z2.o,.str z2.p,.q z2.per,.q z2.day,.q z2.st,.q z2.pr,.str z2.rep],.q 1]) []) (some (St.mk [(1,.str o),(2,.str p),(3,.q per),(8,.ptr 0 0),(11,.view 15 z9 (waa (atM z0))),(13,.ptr 1 0),(14,.q (-1:Int)),(40,.view 15 z6.length (waa (atM z6))),(41,.q (z6.length:Int)),(42,.q 0)] [(0,.cells z4 43),(1,.cells z4 43)] 2 [])=some (St.mk [(1,.str o),(2,.str p),(3,.q per),(8,.ptr 0 0),(11,.view 15 z1.length (waa (atM z1))),(13,.ptr 1 0),(14,.q (dcF o p per z1 z8 0).2),(40,.view 15 z7 (waa z8)),(41,.q (z7:Int)),(42,.q (↑0:Int))] [(0,.cells z4 43),(1,.cells [.str z5.o,.str z5.p,.q z5.per,.q z5.day,.q z5.st,.q z5.pr,.str z5.rep] 43)] 2 [])/\(wae g n).length<=1000000/\z1.length<=1000000/\wab (decide ((dcF o p per z1 z8 z7).2<0)) ((True/\True)/\R (.tuple [.agg z4,.q 2]) []) ((True/\True)/\R (.tuple [.agg [.str z3.o,.str z3.p,.q z3.per,.q z3.day,.q z3.st,.q z3.pr,.str z3.rep],.q 1]) [])))):=by kernel_rfl
theorem w04(o p:List UInt8)(per:Int)(C R:List MG)(k:Nat)(P:Nat->Prop)(Q:eR7):wat ⟨te,[(62,.det wnm)],[],0,92,0⟩ (wav Tryz.f29 10) [1,2,3,8,11,13,14,40,41,42] [8,13,14] [] (S_rl o p per C R) P Q (S_rl o p per C R k)=(letI z10:=R.length;letI z9:=C.length;letI z8:=waa (atM C);letI z7:=(z10:Int);letI z6:=dcF o p per C (atM R) k;letI z5:=([.str [],.str [],.q 0,.q 0,.q 0,.q 0,.str []]:List AV);letI z4:=(atM R (k:Int).toNat);letI z3:=([(0,.cells z5 43),(1,.cells [.str z6.1.o,.str z6.1.p,.q z6.1.per,.q z6.1.day,.q z6.1.st,.q z6.1.pr,.str z6.1.rep] 43)]:oL7);letI z1:=(DT.mk z4.d.o z4.d.p z4.d.per z4.d.dev z4.d.num);letI z2:=(atM C (ixB (λ(i:Nat)=>namF z1 (mgOf z8 i)) z9).toNat).v;letI z0:=(inR .i64 ((k:Int)+1)/\∃(i':Nat),some (St.mk [(1,.str o),(2,.str p),(3,.q per),(8,.ptr 0 0),(11,.view 15 z9 z8),(13,.ptr 1 0),(14,.q z6.2),(40,.view 15 z10 (waa (atM R))),(41,.q z7),(42,.q ((k:Int)+1))] z3 2 [])=some (St.mk [(1,.str o),(2,.str p),(3,.q per),(8,.ptr 0 0),(11,.view 15 z9 z8),(13,.ptr 1 0),(14,.q (dcF o p per C (atM R) i').2),(40,.view 15 z10 (waa (atM R))),(41,.q z7),(42,.q (i':Int))] [(0,.cells z5 43),(1,.cells [.str (dcF o p per C (atM R) i').1.o,.str (dcF o p per C (atM R) i').1.p,.q (dcF o p per C (atM R) i').1.per,.q (dcF o p per C (atM R) i').1.day,.q (dcF o p per C (atM R) i').1.st,.q (dcF o p per C (atM R) i').1.pr,.str (dcF o p per C (atM R) i').1.rep] 43)] 2 [])/\P i');wab (decide ((k:Int)<z7)) (((0:Int)<=(k:Int)/\(k:Int)<z7/\15=15)/\wab (!decide (z4.kind=2)) z0 (wab (!decide (z4.d.o=o)) z0 (wab (!decide (z4.d.p=p)) z0 (wab (!decide (z4.d.per=per)) z0 (wab (decide (z4.seq<z6.2)) z0 ((45=45/\C.length<=1000000/\waa (atM C)=waa (mgOf z8))/\wab (decide ((0:Int)<=ixB (λ(i:Nat)=>namF z1 (mgOf z8 i)) z9)) (((0:Int)<=ixB (λ(i:Nat)=>namF z1 (mgOf z8 i)) z9/\ixB (λ(i:Nat)=>namF z1 (mgOf z8 i)) z9<(z9:Int)/\15=15)/\inR .i64 ((k:Int)+1)/\∃(i':Nat),some (St.mk [(1,.str o),(2,.str p),(3,.q per),(8,.ptr 0 0),(11,.view 15 z9 z8),(13,.ptr 1 0),(14,.q z4.seq),(40,.view 15 z10 (waa (atM R))),(41,.q z7),(42,.q ((k:Int)+1))] [(0,.cells z5 43),(1,.cells [.str z2.o,.str z2.p,.q z2.per,.q z2.day,.q z2.st,.q z2.pr,.str z2.rep] 43)] 2 [])=some (St.mk [(1,.str o),(2,.str p),(3,.q per),(8,.ptr 0 0),(11,.view 15 z9 z8),(13,.ptr 1 0),(14,.q (dcF o p per C (atM R) i').2),(40,.view 15 z10 (waa (atM R))),(41,.q z7),(42,.q (i':Int))] [(0,.cells z5 43),(1,.cells [.str (dcF o p per C (atM R) i').1.o,.str (dcF o p per C (atM R) i').1.p,.q (dcF o p per C (atM R) i').1.per,.q (dcF o p per C (atM R) i').1.day,.q (dcF o p per C (atM R) i').1.st,.q (dcF o p per C (atM R) i').1.pr,.str (dcF o p per C (atM R) i').1.rep] 43)] 2 [])/\P i') z0)))))) (Q (.exit 0) (St.mk [(8,.ptr 0 0),(13,.ptr 1 0),(14,.q z6.2)] z3 2 []))):=by kernel_rfl
theorem wre{q:Nat->Bool}{n:Nat}:(0<=ixB q n↔fstB q n<n)/\(fstB q n<n->ixB q n=(fstB q n:Int)):=by
 unfold ixB
 by_cases h:fstB q n<n
 ·rw[decide_eq_true h];refine⟨⟨λ_=>h,λ_=>?_⟩,λ_=>rfl⟩;show (0:Int)<=(fstB q n:Int);omega
 ·rw[decide_eq_false h];refine⟨⟨λk=>?_,λk=>absurd k h⟩,λk=>absurd k h⟩;have k:(0:Int)<= -1:=k;omega
theorem rl_loop(hP:C.P=Tryz.prog)(o p:List UInt8)(per:Int)(L R:List MG):wah C 0 92 (wai Tryz.f29 10) (L_rl o p per L R):=by
 rintro st Q ⟨h0,hR,hC,hQ⟩;refine wah.mk (prg hP) [(62,.det wnm)] 0 (.cons (ix2_ok hP) .nil) [1,2,3,8,11,13,14,40,41,42] [8,13,14] [] (S_rl o p per L R) (λk=>k<=R.length) (λk=>R.length - k) 0 (zL7 _) h0 (λk hk=>?_);rw[w04,tN7];have mk:∀r:VT×Int,dcF o p per L (atM R) (k+1)=r->some (St.mk [(1,.str o),(2,.str p),(3,.q per),(8,.ptr 0 0),(11,.view 15 L.length (waa (atM L))),(13,.ptr 1 0),(14,.q r.2),(40,.view 15 R.length (waa (atM R))),(41,.q (R.length:Int)),(42,.q ((k:Int)+1))] [(0,.cells [.str [],.str [],.q 0,.q 0,.q 0,.q 0,.str []] 43),(1,.cells [.str r.1.o,.str r.1.p,.q r.1.per,.q r.1.day,.q r.1.st,.q r.1.pr,.str r.1.rep] 43)] 2 [])=some (S_rl o p per L R (k+1)):=λr e=>by
  unfold S_rl;rw[e];rfl
 have no:k<R.length->(wca o p per (dcF o p per L (atM R) k).2 (atM R k) && decide (fstB (λi=>namF (atM R k).d (atM L i)) L.length<L.length))=false->inR .i64 ((k:Int)+1)/\∃i':Nat,some (St.mk [(1,.str o),(2,.str p),(3,.q per),(8,.ptr 0 0),(11,.view 15 L.length (waa (atM L))),(13,.ptr 1 0),(14,.q (dcF o p per L (atM R) k).2),(40,.view 15 R.length (waa (atM R))),(41,.q (R.length:Int)),(42,.q ((k:Int)+1))] [(0,.cells [.str [],.str [],.q 0,.q 0,.q 0,.q 0,.str []] 43),(1,.cells [.str (dcF o p per L (atM R) k).1.o,.str (dcF o p per L (atM R) k).1.p,.q (dcF o p per L (atM R) k).1.per,.q (dcF o p per L (atM R) k).1.day,.q (dcF o p per L (atM R) k).1.st,.q (dcF o p per L (atM R) k).1.pr,.str (dcF o p per L (atM R) k).1.rep] 43)] 2 [])=some (S_rl o p per L R i')/\(i'<=R.length/\R.length - i'<R.length - k):=λhk' h=>
  ⟨by simp only[inR];omega,k+1,mk _ (by rw[dcF,h];rfl),by omega,by omega⟩
 refine wag (λh1=>⟨⟨by omega,by omega,rfl⟩,wax (λq=>no (by omega) (by unfold wca;rw[decide_eq_false q];rfl)) (λq1=>wax (λq=>no (by omega) (by unfold wca;rw[decide_eq_true q1,decide_eq_false q];rfl)) (λq2=>wax (λq=>no (by omega) (by unfold wca;rw[decide_eq_true q1,decide_eq_true q2,decide_eq_false q];rfl)) (λq3=>wax (λq=>no (by omega) (by unfold wca;rw[decide_eq_true q1,decide_eq_true q2,decide_eq_true q3,decide_eq_false q];rfl))
  (λq4=>wag (λq=>no (by omega) (by unfold wca;rw[decide_eq_true q1,decide_eq_true q2,decide_eq_true q3,decide_eq_true q4,decide_eq_true q];rfl)) (λq5=>⟨⟨rfl,hC,rfl⟩,wag (λq=>?_) (λq=>?_)⟩)))))⟩) (λh1=>?_)
 ·have q:0<=ixB (λi=>namF (atM R k).d (atM L i)) L.length:=q;obtain⟨x1,x2⟩:=wre (q:=λi=>namF (atM R k).d (atM L i)) (n:=L.length);have hlt:=x1.1 q;have hx:=x2 hlt;have hd:dcF o p per L (atM R) (k+1)=((atM L (ixB (λi=>namF (atM R k).d (atM L i)) L.length).toNat).v,(atM R k).seq):=by
   rw[dcF,decide_eq_true hlt,hx,tN7];unfold wca;rw[decide_eq_true q1,decide_eq_true q2,decide_eq_true q3,decide_eq_true q4,decide_eq_false q5];rfl
  refine⟨⟨q,?_,rfl⟩,by simp only[inR];omega,k+1,mk _ hd,by omega,by omega⟩;show ixB (λi=>namF (atM R k).d (atM L i)) L.length<_;omega
 ·have q:¬ 0<=ixB (λi=>namF (atM R k).d (atM L i)) L.length:=q;obtain⟨x1,_⟩:=wre (q:=λi=>namF (atM R k).d (atM L i)) (n:=L.length);exact no (by omega) (by rw[decide_eq_false (λh=>q (x1.2 h)),Bool.and_false])
 ·have:k=R.length:=by omega
  subst this;exact hQ
theorem wze(hP:C.P=Tryz.prog)(hL:∀w,C.laid w->LaidW w):wad C 29 wff:=by
 rintro args objs U Os vc h hvc;unfold wff at h;split at h<;>cases h;rename_i n f o p per;obtain⟨hn,hf,hs⟩:=hvc;generalize mgOf f=g at *;subst hf;refine wad.wpL (prg hP) [(58,.det wda),(59,.det woa),(60,.det wn7)] [(10,L_rl o p per (canL o p per (atM (wae g n)) (wae g n).length) (wae g n))] 0 (.cons (wzb hP hL) (.cons (cand_ok hP) (.cons (cf1_ok hP) .nil))) (hP ▸ Tryz.func29) rfl rfl rfl [(wai Tryz.f29 10,L_rl o p per (canL o p per (atM (wae g n)) (wae g n).length) (wae g n))] (by kernel_rfl) ⟨rl_loop hP o p per _ _,trivial⟩ ?_;rw[w09];have hg:mgOf (waa g)=g:=rfl;have hgR:mgOf (waa (atM (wae g n)))=atM (wae g n):=rfl;rw[hg,hgR];have hr:(wae g n).length<=n:=by
  have:=List.length_filter_le (λx=> !decide (1<numC (atM (mrgL g n noM 0)) (mk2 x) (mrgL g n noM 0).length)) (mrgL g n noM 0);have:=wfu g n noM 0;unfold wae;omega
 unfold resF;have hc:=wje o p per (atM (wae g n)) (wae g n).length;generalize canL o p per (atM (wae g n)) (wae g n).length=L at *;generalize wae g n=R at *;refine⟨⟨hn,rfl,hs⟩,⟨by omega,rfl⟩,wag (λq=>?_) (λq=>⟨⟨by omega,by omega,rfl⟩,⟨rfl,by omega,rfl⟩,wax (λq2=>?_) (λq2=>⟨rfl,by omega,by omega,wag (λq3=>?_) (λq3=>?_)⟩)⟩)⟩
 ·have e:resR o p per R L=(wcu,0):=by unfold resR;rw[decide_eq_true (show L.length=0 by omega)];rfl
  rw[e];exact⟨⟨trivial,trivial⟩,rfl,rfl⟩
 ·have q2:¬ 0<=ixB (λi=>difF (atM L 0).v (atM L i)) L.length:=q2;have e:resR o p per R L=((atM L 0).v,1):=by unfold resR;rw[decide_eq_false (show ¬ L.length=0 by omega),decide_eq_false q2];rfl
  rw[e];exact⟨⟨trivial,trivial⟩,rfl,rfl⟩
 ·have q2:0<=ixB (λi=>difF (atM L 0).v (atM L i)) L.length:=q2;have e:resR o p per R L=(wcu,2):=by unfold resR;rw[decide_eq_false (show ¬ L.length=0 by omega),decide_eq_true q2,decide_eq_true q3];rfl
  rw[e];exact⟨⟨trivial,trivial⟩,rfl,rfl⟩
 ·have q2:0<=ixB (λi=>difF (atM L 0).v (atM L i)) L.length:=q2;have e:resR o p per R L=((dcF o p per L (atM R) R.length).1,1):=by unfold resR;rw[decide_eq_false (show ¬ L.length=0 by omega),decide_eq_true q2,decide_eq_false q3];rfl
  rw[e];exact⟨⟨trivial,trivial⟩,rfl,rfl⟩
theorem w1o(g:Nat->MG)(n:Nat)(K:List (List UInt8×Int))(k:Nat)(P:Nat->Prop)(R:eR7):wat ⟨te,[],[],0,72,0⟩ (wav Tryz.f38 4) [0,3,4,15,16,17,2] [0,3,4,2] [] (S_oa g n K) P R (S_oa g n K k)=(letI z3:=entG keyD .bool (ckL K k);letI z2:=(K.length:Int);letI z0:=ren 0 [(0,0),(1,1),(2,2),(3,3)];letI z1:=(List.map (λ(p:AV×AV)=>(AV.rn z0 p.1,AV.rn z0 p.2)) []);wab (decide ((k:Int)<z2)) (((0:Int)<=(k:Int)/\(k:Int)<z2/\2=2)/\wa9 (Env.te (Env.mk te [] [] 0 72 0)) 103 z3/\inR .i64 ((k:Int)+1)/\∃(i':Nat),some (St.mk [(0,.view 15 n (waa g)),(3,.ptr 0 0),(4,.map 1),(15,.view 2 K.length (wch (atK K))),(16,.q z2),(17,.q ((k:Int)+1)),(2,.ptr 2 0)] [(0,.cells [.map 3,.nil] 72),(1,.amap (List.map (λ(p:AV×AV)=>(AV.rn z0 p.1,AV.rn z0 p.2)) (mset z3 (.agg [.str (atK K (k:Int).toNat).1,.q (atK K (k:Int).toNat).2]) (.bool true)))),(2,.cells [.nilmap,.nil] 72),(3,.amap z1)] 4 [])=some (St.mk [(0,.view 15 n (waa g)),(3,.ptr 0 0),(4,.map 1),(15,.view 2 K.length (wch (atK K))),(16,.q z2),(17,.q (i':Int)),(2,.ptr 2 0)] [(0,.cells [.map 3,.nil] 72),(1,.amap (entG keyD .bool (ckL K i'))),(2,.cells [.nilmap,.nil] 72),(3,.amap [])] 4 [])/\P i') (R (.exit 0) (St.mk [(0,.view 15 n (waa g)),(3,.ptr 0 0),(4,.map 1),(2,.ptr 2 0)] [(0,.cells [.map 3,.nil] 72),(1,.amap (List.map (λ(p:AV×AV)=>(AV.rn z0 p.1,AV.rn z0 p.2)) z3)),(2,.cells [.nilmap,.nil] 72),(3,.amap z1)] 4 []))):=by kernel_rfl
theorem wuj(es:List (AV×Value))(j:Nat)(K:List ((List UInt8×Int)×Bool))(M:List MG)(k:Nat)(P:Nat->Prop)(R:eR7):wat ⟨te,[(77,.det wen)],[],0,72,0⟩ (wav Tryz.f38 9) [3,4,25,26,27,2] [3,2] [] (S_ob es j K M) P R (S_ob es j K M k)=(letI z7:=entG keyD .bool K;letI z6:=Env.te (Env.mk te [(77,CSpec.det wen)] [] 0 72 0);letI z5:=M.length;letI z4:=ren 0 [(0,0),(1,1),(2,2),(3,3),(4,4)];letI z1:=(atM M (k:Int).toNat);letI z3:=mget z7 (.agg [.str z1.dev,.q z1.seq]);letI z0:=(whr (MG.mk z1.dev z1.seq z1.kind (VT.mk z1.v.o z1.v.p z1.v.per z1.v.day z1.v.st z1.v.pr z1.v.rep) (DT.mk z1.d.o z1.d.p z1.d.per z1.d.dev z1.d.num)));letI z2:=(wa9 z6 78 (pkR es)/\∀(p:AV×Value),p∈es->p.1≠ .agg [.str (SL.o z0),.str (SL.p z0),.q (SL.per z0)]);wab (decide ((k:Int)<(z5:Int))) (((0:Int)<=(k:Int)/\(k:Int)<(z5:Int))/\((k:Int).toNat<M.length/\15=15)/\(wa9 z6 103 z7/\.bool (wcs (Option.getD z3 (zvA (.bool false))))=Option.getD z3 (zvA (.bool false)))/\wab (!wcs (Option.getD z3 (zvA (.bool false)))) (True/\True/\z2/\(15<=16777216/\15=15/\1<=9223372036854775807)/\((1<=1/\15=15)/\15=15/\1<=9223372036854775807/\176<=140737488355328)/\z2/\inR .i64 ((k:Int)+1)/\∃(i':Nat),False/\P i') (inR .i64 ((k:Int)+1)/\∃(i':Nat),(TEq [(3,.ptr 0 0),(4,.map 1),(25,.own 2 z5),(26,.q (z5:Int)),(27,.q ((k:Int)+1)),(2,.ptr 3 0)] [(3,.ptr 0 0),(4,.map 1),(25,.own 2 z5),(26,.q (z5:Int)),(27,.q (i':Int)),(2,.ptr 3 0)]/\wac [(0,.cells [.map 4,.nil] 72),(1,.amap (List.map (λ(p:AV×AV)=>(AV.rn z4 p.1,AV.rn z4 p.2)) z7)),(2,.row 47 15 z5 (waa (atM M)) false),(3,.cells [.nilmap,.nil] 72),(4,.rmap es j (Option.map (λ(u:AV)=>AV.rn z4 u) none))] [(0,.cells [.map 4,.nil] 72),(1,.amap z7),(2,.row 47 15 z5 (waa (atM M)) false),(3,.cells [.nilmap,.nil] 72),(4,.rmap es j none)])/\P i')) (R (.exit 2) (St.mk [(3,.ptr 0 0),(2,.ptr 1 0)] [(0,.cells [.map 2,.nil] 72),(1,.cells [.nilmap,.nil] 72),(2,.rmap es j (Option.map (λ(u:AV)=>AV.rn (ren 0 [(0,0),(3,1),(4,2)]) u) none))] 3 []))):=by kernel_rfl
theorem w1l(es:List (AV×Value))(j:Nat)(K:List ((List UInt8×Int)×Bool))(M:List MG)(k:Nat)(P:OC->Prop)(R:eR7):wat ⟨te,[(77,.det wen)],[],0,72,0⟩ (wav Tryz.f38 9) [3,4,25,26,27,2] [3,2] [] (S_oi K M) P R (S_ob es j K M k)=(letI z8:=entG keyD .bool K;letI z7:=Env.te (Env.mk te [(77,CSpec.det wen)] [] 0 72 0);letI z5:=M.length;letI z4:=ren 0 [(0,0),(1,1),(2,2),(3,3),(4,4),(199,5)];letI z1:=(atM M (k:Int).toNat);letI z3:=mget z8 (.agg [.str z1.dev,.q z1.seq]);letI z0:=(whr (MG.mk z1.dev z1.seq z1.kind (VT.mk z1.v.o z1.v.p z1.v.per z1.v.day z1.v.st z1.v.pr z1.v.rep) (DT.mk z1.d.o z1.d.p z1.d.per z1.d.dev z1.d.num)));letI z6:=([.str (SL.o z0),.str (SL.p z0),.q (SL.per z0)]:List AV);letI z2:=(wa9 z7 78 (pkR es)/\∀(p:AV×Value),p∈es->p.1≠ .agg z6);wab (decide ((k:Int)<(z5:Int))) (((0:Int)<=(k:Int)/\(k:Int)<(z5:Int))/\((k:Int).toNat<M.length/\15=15)/\(wa9 z7 103 z8/\.bool (wcs (Option.getD z3 (zvA (.bool false))))=Option.getD z3 (zvA (.bool false)))/\wab (!wcs (Option.getD z3 (zvA (.bool false)))) (True/\True/\z2/\(15<=16777216/\15=15/\1<=9223372036854775807)/\((1<=1/\15=15)/\15=15/\1<=9223372036854775807/\176<=140737488355328)/\z2/\inR .i64 ((k:Int)+1)/\∃(i':OC),(TEq [(3,.ptr 0 0),(4,.map 1),(25,.own 2 z5),(26,.q (z5:Int)),(27,.q ((k:Int)+1)),(2,.ptr 3 0)] [(3,.ptr 0 0),(4,.map 1),(25,.own 2 z5),(26,.q (z5:Int)),(27,.q (↑(OC.k i'):Int)),(2,.ptr 3 0)]/\wac [(0,.cells [.map 4,.nil] 72),(1,.amap (List.map (λ(p:AV×AV)=>(AV.rn z4 p.1,AV.rn z4 p.2)) z8)),(2,.row 47 15 z5 (waa (atM M)) false),(3,.cells [.nilmap,.nil] 72),(4,.rmap (es++[(.agg z6,default)]) es.length (Option.map (λ(u:AV)=>AV.rn z4 u) (some (.own 199 1)))),(5,.row 47 15 1 (war (TI.sz wde) (.str z1.dev:: .q z1.seq:: .q z1.kind:: .str z1.v.o:: .str z1.v.p:: .q z1.v.per:: .q z1.v.day:: .q z1.v.st:: .q z1.v.pr:: .str z1.v.rep:: .str z1.d.o:: .str z1.d.p:: .q z1.d.per:: .str z1.d.dev:: .q z1.d.num::List.append [] wbn)) false)] [(0,.cells [.map 4,.nil] 72),(1,.amap z8),(2,.row 47 15 z5 (waa (atM M)) false),(3,.cells [.nilmap,.nil] 72),(4,.rmap (OC.es i') (OC.j i') (some (.own 5 (OC.L i').length))),(5,.row 47 15 (OC.L i').length (waa (atM (OC.L i'))) false)])/\P i') (inR .i64 ((k:Int)+1)/\∃(i':OC),False/\P i')) (R (.exit 2) (St.mk [(3,.ptr 0 0),(2,.ptr 1 0)] [(0,.cells [.map 2,.nil] 72),(1,.cells [.nilmap,.nil] 72),(2,.rmap es j (Option.map (λ(u:AV)=>AV.rn (ren 0 [(0,0),(3,1),(4,2)]) u) none))] 3 []))):=by kernel_rfl
theorem w1n(es:List (AV×Value))(j:Nat)(L:List MG)(K:List ((List UInt8×Int)×Bool))(M:List MG)(k:Nat)(P:OC->Prop)(R:eR7):wat ⟨te,[(77,.det wen)],[],0,72,0⟩ (wav Tryz.f38 9) [3,4,25,26,27,2] [3,2] [] (S_oi K M) P R (S_oc es j L K M k)=(letI z10:=L.length;letI z8:=entG keyD .bool K;letI z7:=Env.te (Env.mk te [(77,CSpec.det wen)] [] 0 72 0);letI z6:=ren 0 [(0,0),(1,1),(2,2),(3,3),(4,4),(5,5)];letI z5:=ren 0 [(0,0),(1,1),(2,2),(3,3),(4,4),(200,5)];letI z4:=M.length;letI z2:=([(3,.ptr 0 0),(4,.map 1),(25,.own 2 z4),(26,.q (z4:Int)),(27,.q ((k:Int)+1)),(2,.ptr 3 0)]:tL7);letI z1:=(atM M (k:Int).toNat);letI z3:=mget z8 (.agg [.str z1.dev,.q z1.seq]);letI z0:=(whr (MG.mk z1.dev z1.seq z1.kind (VT.mk z1.v.o z1.v.p z1.v.per z1.v.day z1.v.st z1.v.pr z1.v.rep) (DT.mk z1.d.o z1.d.p z1.d.per z1.d.dev z1.d.num)));letI z9:=([.str (SL.o z0),.str (SL.p z0),.q (SL.per z0)]:List AV);wab (decide ((k:Int)<(z4:Int)))   (((0:Int)<=(k:Int)/\(k:Int)<(z4:Int))/\     ((k:Int).toNat<M.length/\15=15)/\       (wa9 z7 103 z8/\.bool (wcs (Option.getD z3 (zvA (.bool false))))=Option.getD z3 (zvA (.bool false)))/\         wab (!wcs (Option.getD z3 (zvA (.bool false))))           (True/\             True/\               (wa9 z7 78 (pkR es)/\                   (match es[j]? with                     | some x=>some x.1                     | none=>none)=                     some (.agg z9))/\                 (15<=16777216/\15=15/\1<=9223372036854775807)/\                   ((1<=1/\15=15)/\L.length<=L.length/\15=15/\47=47/\15=15/\L.length+1<=9223372036854775807/\(L.length+1) * TI.bytes wde<=140737488355328)/\                     (wa9 z7 78 (pkR es)/\                         (match es[j]? with                           | some x=>some x.1                           | none=>none)=                           some (.agg z9))/\                       inR .i64 ((k:Int)+1)/\∃(i':OC),(TEq z2 [(3,.ptr 0 0),(4,.map 1),(25,.own 2 z4),(26,.q (z4:Int)),(27,.q (↑(OC.k i'):Int)),(2,.ptr 3 0)]/\wac [(0,.cells [.map 4,.nil] 72),(1,.amap (List.map (λ(p:AV×AV)=>(AV.rn z5 p.1,AV.rn z5 p.2)) z8)),(2,.row 47 15 z4 (waa (atM M)) false),(3,.cells [.nilmap,.nil] 72),(4,.rmap es j (Option.map (λ(u:AV)=>AV.rn z5 u) (some (.own 200 (L.length+1))))),(5,.row 47 15 (L.length+1) (apF z10 (waa (atM L)) (war (TI.sz wde) (.str z1.dev:: .q z1.seq:: .q z1.kind:: .str z1.v.o:: .str z1.v.p:: .q z1.v.per:: .q z1.v.day:: .q z1.v.st:: .q z1.v.pr:: .str z1.v.rep:: .str z1.d.o:: .str z1.d.p:: .q z1.d.per:: .str z1.d.dev:: .q z1.d.num::List.append [] wbn))) false)] [(0,.cells [.map 4,.nil] 72),(1,.amap z8),(2,.row 47 15 z4 (waa (atM M)) false),(3,.cells [.nilmap,.nil] 72),(4,.rmap (OC.es i') (OC.j i') (some (.own 5 (OC.L i').length))),(5,.row 47 15 (OC.L i').length (waa (atM (OC.L i'))) false)])/\P i')           (inR .i64 ((k:Int)+1)/\∃(i':OC),(TEq z2 [(3,.ptr 0 0),(4,.map 1),(25,.own 2 z4),(26,.q (z4:Int)),(27,.q (↑(OC.k i'):Int)),(2,.ptr 3 0)]/\wac [(0,.cells [.map 4,.nil] 72),(1,.amap (List.map (λ(p:AV×AV)=>(AV.rn z6 p.1,AV.rn z6 p.2)) z8)),(2,.row 47 15 z4 (waa (atM M)) false),(3,.cells [.nilmap,.nil] 72),(4,.rmap es j (Option.map (λ(u:AV)=>AV.rn z6 u) (some (.own 5 z10)))),(5,.row 47 15 z10 (waa (atM L)) false)] [(0,.cells [.map 4,.nil] 72),(1,.amap z8),(2,.row 47 15 z4 (waa (atM M)) false),(3,.cells [.nilmap,.nil] 72),(4,.rmap (OC.es i') (OC.j i') (some (.own 5 (OC.L i').length))),(5,.row 47 15 (OC.L i').length (waa (atM (OC.L i'))) false)])/\P i'))   ((∀(i:Nat),i<L.length->true=true)/\∃(O':oL7),wac [(0,.cells [.map 2,.nil] 72),(1,.cells [.nilmap,.nil] 72),(2,.rmap es j (Option.map (λ(u:AV)=>AV.rn (ren 0 [(0,0),(3,1),(4,2),(5,3)]) u) (some (.own 5 z10)))),(3,.row 47 15 z10 (waa (atM L)) false)] O'/\R (.exit 2) (St.mk [(3,.ptr 0 0),(2,.ptr 1 0)] O' 4 []))):=by kernel_rfl
theorem w1m(B : List (SL × List MG))(i : OI)(P : OI -> Prop)(R : Exit -> St -> Prop) : wat ⟨te, [(60, .det wn6)], [], 0, 72, 0⟩ (wav Tryz.f38 15) [3, 54, 2] [3, 2] [] (S_od B) P R (S_od B i) = (letI z5 := ren 0 [(0, 0), (1, 1), (2, 2), (3, 3), (4, 4)]; letI z4 := ren 0 [(0, 0), (1, 1), (2, 2), (3, 3), (40, 4)]; letI z3 := entG keyS vwM B; letI z2 := ([(3, .ptr 0 0), (54, .ptr 1 0), (2, .ptr 2 0)] : List (Nat × AV)); letI z1 := (TI.mk (TypeDesc.struct #[Field.mk "outlet" (9 : TypeId) 0 false "" "priceoffice/visit" 0, Field.mk "product" (9 : TypeId) 1 false "" "priceoffice/visit" 16, Field.mk "period" (3 : TypeId) 2 false "" "priceoffice/visit" 32]) 3 40 (Value.agg #[Value.string (ByteArray.mk #[]), Value.string (ByteArray.mk #[]), Value.int IntKind.i64 0]) true); B.length = z3.length /\ (OI.left i = [] -> (∀(i_1 : Nat), i_1 < OI.c i -> true = true) /\ ∃(O' : List (Nat × AObj)), wac [(0, .cells [.map 2, .own 3 (OI.c i)] 72), (1, .cells [.nilmap, .nil] 72), (2, .amap (List.map (λ(p : AV × AV) => (AV.rn (ren 0 [(0, 0), (2, 1), (3, 2), (4, 3)]) p.1, AV.rn (ren 0 [(0, 0), (2, 1), (3, 2), (4, 3)]) p.2)) z3)), (3, .row 78 3 (OI.c i) (wau (OI.h i)) false)] O' /\ R (.exit 4) (St.mk [(3, .ptr 0 0), (2, .ptr 1 0)] O' 4 [])) /\ ∀(i_1 : Nat), letI z0 := List.getD z3 i_1 (.any, .any); letI z6 := way (wcr z0.1 (0 + 1 + 1)); i_1 ∈ OI.left i -> (B.length = z3.length /\ i_1 < B.length /\ .agg [.str (wco (wcr z0.1 0)), .str (wco (wcr z0.1 (0 + 1))), .q z6] = z0.1 /\ .view 15 (vN z0.2) (vF z0.2) = z0.2) /\ (vN z0.2 <= 1000000 /\ vF z0.2 = waa (mgOf (vF z0.2))) /\ wab (decide ((0 : Int) <= ixB (λ(i : Nat) => isV (mgOf (vF z0.2) i)) (vN z0.2))) ((3 <= 16777216 /\ 3 = 3 /\ 1 <= 9223372036854775807) /\ ((1 <= 1 /\ 3 = 3) /\ OI.c i <= OI.c i /\ 3 = 3 /\ 78 = 78 /\ 3 = 3 /\ OI.c i + 1 <= 9223372036854775807 /\ (OI.c i + 1) * TI.bytes z1 <= 140737488355328) /\ ∃(i' : OI), (TEq z2 z2 /\ wac [(0, .cells [.map 3, .own 4 (OI.c i + 1)] 72), (1, .miter 3 B.length (69 :: i_1 :: List.erase (OI.left i) i_1)), (2, .cells [.nilmap, .nil] 72), (3, .amap (List.map (λ(p : AV × AV) => (AV.rn z4 p.1, AV.rn z4 p.2)) z3)), (4, .row 78 3 (OI.c i + 1) (apF (OI.c i) (wau (OI.h i)) (war (TI.sz z1) (.str (wco (wcr z0.1 0)) :: .str (wco (wcr z0.1 (0 + 1))) :: .q z6 :: List.append [] (List.flatten (List.replicate (nat_lit 0) [.str ([]), .str ([]), .q 0]))))) false)] [(0, .cells [.map 3, .own 4 (OI.c i')] 72), (1, .miter 3 B.length (69 :: OI.c0 i' :: OI.left i')), (2, .cells [.nilmap, .nil] 72), (3, .amap z3), (4, .row 78 3 (OI.c i') (wau (OI.h i')) false)]) /\ P i') (∃(i' : OI), (TEq z2 z2 /\ wac [(0, .cells [.map 3, .own 4 (OI.c i)] 72), (1, .miter 3 B.length (69 :: i_1 :: List.erase (OI.left i) i_1)), (2, .cells [.nilmap, .nil] 72), (3, .amap (List.map (λ(p : AV × AV) => (AV.rn z5 p.1, AV.rn z5 p.2)) z3)), (4, .row 78 3 (OI.c i) (wau (OI.h i)) false)] [(0, .cells [.map 3, .own 4 (OI.c i')] 72), (1, .miter 3 B.length (69 :: OI.c0 i' :: OI.left i')), (2, .cells [.nilmap, .nil] 72), (3, .amap z3), (4, .row 78 3 (OI.c i') (wau (OI.h i')) false)]) /\ P i')) := by kernel_rfl
theorem nf_ow(es:List (AV×Value))(j:Nat)(K:List ((List UInt8×Int)×Bool))(M:List MG)(k nx:Nat):canonIs te 0 [3,4,25,26,27,2] ⟨[(3,.ptr 0 0),(4,.map 1),(25,.own 2 M.length),(26,.q M.length),(27,.q k),(2,.ptr 3 0)],[(4,.rmap es j none),(0,.cells [.map 4,.nil] 72),(1,.amap (entG keyD .bool K)),(2,.row 47 15 M.length (waa (atM M)) false),(3,.cells [.nilmap,.nil] 72)],nx,[]⟩ (S_ob es j K M k)=(letI z1:=ren 0 [(0,0),(1,1),(2,2),(3,3),(4,4)];letI z0:=([(3,.ptr 0 0),(4,.map 1),(25,.own 2 M.length),(26,.q (M.length:Int)),(27,.q (k:Int)),(2,.ptr 3 0)]:tL7);TEq z0 z0/\wac [(0,.cells [.map 4,.nil] 72),(1,.amap (List.map (λ(p:AV×AV)=>(AV.rn z1 p.1,AV.rn z1 p.2)) (entG keyD .bool K))),(2,.row 47 15 M.length (waa (atM M)) false),(3,.cells [.nilmap,.nil] 72),(4,.rmap es j (Option.map (λ(u:AV)=>AV.rn z1 u) none))] [(0,.cells [.map 4,.nil] 72),(1,.amap (entG keyD .bool K)),(2,.row 47 15 M.length (waa (atM M)) false),(3,.cells [.nilmap,.nil] 72),(4,.rmap es j none)]):=by kernel_rfl
theorem nf_ox(es:List (AV×Value))(j:Nat)(L:List MG)(K:List ((List UInt8×Int)×Bool))(M:List MG)(k:Nat):canonIs te 0 [3,4,25,26,27,2] ⟨[(3,.ptr 0 0),(4,.map 1),(25,.own 2 M.length),(26,.q M.length),(27,.q k),(2,.ptr 3 0)],[(4,.rmap es j (some (.own 5 L.length))),(5,.row 47 15 L.length (waa (atM L)) false),(0,.cells [.map 4,.nil] 72),(1,.amap (entG keyD .bool K)),(2,.row 47 15 M.length (waa (atM M)) false),(3,.cells [.nilmap,.nil] 72)],6,[]⟩ (S_oc es j L K M k)=(letI z1:=ren 0 [(0,0),(1,1),(2,2),(3,3),(4,4),(5,5)];letI z0:=([(3,.ptr 0 0),(4,.map 1),(25,.own 2 M.length),(26,.q (M.length:Int)),(27,.q (k:Int)),(2,.ptr 3 0)]:tL7);TEq z0 z0/\wac [(0,.cells [.map 4,.nil] 72),(1,.amap (List.map (λ(p:AV×AV)=>(AV.rn z1 p.1,AV.rn z1 p.2)) (entG keyD .bool K))),(2,.row 47 15 M.length (waa (atM M)) false),(3,.cells [.nilmap,.nil] 72),(4,.rmap es j (Option.map (λ(u:AV)=>AV.rn z1 u) (some (.own 5 L.length)))),(5,.row 47 15 L.length (waa (atM L)) false)] [(0,.cells [.map 4,.nil] 72),(1,.amap (entG keyD .bool K)),(2,.row 47 15 M.length (waa (atM M)) false),(3,.cells [.nilmap,.nil] 72),(4,.rmap es j (some (.own 5 L.length))),(5,.row 47 15 L.length (waa (atM L)) false)]):=by kernel_rfl
theorem wk1(a b:List UInt8×Int):keq (keyD a) (keyD b)=decide (a=b):=by
 rw[Bool.eq_iff_iff];simp[keyD,keq,keqL,keq0,Prod.ext_iff]
theorem wfz(a b:SL):keq (keyS a) (keyS b)=decide (a=b):=by
 cases a;cases b;rw[Bool.eq_iff_iff];simp[keyS,keq,keqL,keq0]
theorem wvd{a b:List UInt8×Int}(h:keyD a=keyD b):a=b:=by
 have:=wk1 a b;rw[h,wk1,decide_eq_true rfl] at this;exact of_decide_eq_true this.symm
theorem wiw{a b:SL}(h:keyS a=keyS b):a=b:=by
 have:=wfz a b;rw[h,wfz,decide_eq_true rfl] at this;exact of_decide_eq_true this.symm
section
variable {κ α:Type} [DecidableEq κ] {kv:κ->AV} {vv:α->AV}
theorem wgt(hk:∀a b,keq (kv a) (kv b)=decide (a=b))(s:κ):∀L:List (κ×α),mget (entG kv vv L) (kv s)=(getA L s).map vv
 |[]=>rfl
 |x::L=>by
  rw[getA];show (match keq (kv x.1) (kv s) with | true=>some (vv x.2) | false=>mget (entG kv vv L) (kv s))=_
  rw[hk,wgt hk s L]
  cases decide (x.1=s)<;>rfl
theorem wip(hk:∀a b,keq (kv a) (kv b)=decide (a=b))(s:κ)(c:α):∀L:List (κ×α),mset (entG kv vv L) (kv s) (vv c)=entG kv vv (setA L s c)
 |[]=>rfl
 |x::L=>by
  rw[setA];show (match keq (kv x.1) (kv s) with | true=>(kv s,vv c)::entG kv vv L | false=>(kv x.1,vv x.2)::mset (entG kv vv L) (kv s) (vv c))=_
  rw[hk,wip hk s c L]
  cases decide (x.1=s)<;>rfl
end
theorem wi7{κ α:Type}{kv:κ->AV}{vv:α->AV}(σ:Nat->Option Nat)(hk:∀a,AV.rn σ (kv a)=kv a)(hv:∀a,AV.rn σ (vv a)=vv a)(L:List (κ×α)):(entG kv vv L).map (λp=>(AV.rn σ p.1,AV.rn σ p.2))=entG kv vv L:=by
 unfold entG;rw[List.map_map];refine List.map_congr_left λx _=>?_;show (AV.rn σ (kv x.1),AV.rn σ (vv x.2))=_;rw[hk,hv]
theorem wi8{κ α:Type}{kv:κ->AV}{vv:α->AV}{t:TypeId}(hi:∀a b,kv a=kv b->a=b)(hA:∀a,keyA te t (kv a)=true){L:List (κ×α)}(h:(L.map Prod.fst).Nodup):wa9 te t (entG kv vv L):=by
 refine⟨List.all_eq_true.2 λp hp=>?_,?_⟩
 ·obtain⟨r,_,rfl⟩:=List.mem_map.1 hp;exact hA _
 ·have:(entG kv vv L).map Prod.fst=(L.map Prod.fst).map kv:=by simp[entG]
  rw[this];exact List.pairwise_map.2 (h.imp λ{a b} hab he=>hab (hi a b he))
theorem keyA_D(a:List UInt8×Int):keyA te 103 (keyD a)=true:=by
 have:∀(a:List UInt8) (b:Int),keyA te 103 (.agg [.str a,.q b])=true:=λa b=>by kernel_rfl
 exact this _ _
theorem wkz(a:SL):keyA te 78 (keyS a)=true:=by
 have:∀(a b:List UInt8) (c:Int),keyA te 78 (.agg [.str a,.str b,.q c])=true:=λa b c=>by kernel_rfl
 exact this _ _ _
theorem wdz(σ:Nat->Option Nat)(L:List ((List UInt8×Int)×Bool)):(entG keyD AV.bool L).map (λp=>(AV.rn σ p.1,AV.rn σ p.2))=entG keyD AV.bool L:=wi7 σ (λ_=>rfl) (λ_=>rfl) L
theorem wi9(σ:Nat->Option Nat)(L:List (SL×List MG)):(entG keyS vwM L).map (λp=>(AV.rn σ p.1,AV.rn σ p.2))=entG keyS vwM L:=wi7 σ (λ_=>rfl) (λ_=>rfl) L
theorem oa_loop(hP:C.P=Tryz.prog)(g:Nat->MG)(n:Nat)(K:List (List UInt8×Int)):wah C 0 72 (wai Tryz.f38 4) (L_oa g n K):=by
 have _:C.Loose:=inferInstance;rintro st Q ⟨h0,hn,hQ⟩;refine wah.mk (prg hP) [] 0 .nil [0,3,4,15,16,17,2] [0,3,4,2] [] (S_oa g n K) (λk=>k<=K.length) (λk=>K.length - k) 0 (zL7 _) h0 (λk hk=>?_);rw[w1o,tN7];refine wag (λh1=>⟨⟨by omega,by omega,rfl⟩,wi8 (λ_ _=>wvd) keyA_D (wr6 K k),by simp only[inR];omega,k+1,?_,by omega,by omega⟩) (λh1=>?_)
 ·have e:=wip (vv:=AV.bool) wk1 (atK K k) true (ckL K k);have e:mset (entG keyD .bool (ckL K k)) (.agg [.str (atK K k).1,.q (atK K k).2]) (.bool true)=entG keyD .bool (ckL K (k+1)):=e;rw[e,wdz];rfl
 ·have:k=K.length:=by omega
  subst this;rw[wdz];exact hQ
structure OJ where
 k:Nat
 vs:List Value
 j:Nat
theorem wrt{B:List (SL×List MG)}{vs:List Value}(h:vs.length=B.length):(esB B vs).length=B.length:=by simp[esB,h]
theorem wv5{B:List (SL×List MG)}{vs:List Value}(h:vs.length=B.length):(fmB B vs).length=B.length:=by simp[fmB,h]
theorem esB_fst{B:List (SL×List MG)}{vs:List Value}(h:vs.length=B.length):(esB B vs).map Prod.fst=(B.map Prod.fst).map keyS:=by
 have e:(B.zip vs).map Prod.fst=B:=List.map_fst_zip (by omega);have:(esB B vs).map Prod.fst=((B.zip vs).map Prod.fst).map λx=>keyS x.1:=by simp[esB]
 rw[this,e];simp
theorem keysR{es:List (AV×Value)}{L:List SL}(h:es.map Prod.fst=L.map keyS)(hn:L.Nodup):wa9 te 78 (pkR es):=by
 have e:(pkR es).map Prod.fst=L.map keyS:=by rw[← h];simp[pkR]
 refine⟨List.all_eq_true.2 λp hp=>?_,?_⟩
 ·have:p.1∈L.map keyS:=by rw[← e];exact List.mem_map_of_mem hp
  obtain⟨s,_,hs⟩:=List.mem_map.1 this;rw[← hs];exact wkz s
 ·rw[e];exact List.pairwise_map.2 (hn.imp λ{a b} hab he=>hab (wiw he))
theorem zip_at{α β:Type}{B:List α}{vs:List β}{j:Nat}(hj:j<B.length)(hv:j<vs.length):(B.zip vs)[j]?=some (B[j],vs[j]):=by
 rw[List.getElem?_zip_eq_some];exact⟨List.getElem?_eq_getElem hj,List.getElem?_eq_getElem hv⟩
theorem wpr{α β:Type}:∀(B:List α) (vs:List β) (j:Nat) (x:α) (v:β),(B.set j x).zip (vs.set j v)=(B.zip vs).set j (x,v)
 |[],_,_,_,_=>by simp
 |_::_,[],_,_,_=>by simp
 |_::_,_::_,0,_,_=>rfl
 |_::B,_::vs,j+1,x,v=>by simp[wpr B vs j x v]
theorem esB_at{B:List (SL×List MG)}{vs:List Value}{j:Nat}(hj:j<B.length)(hv:j<vs.length):(esB B vs)[j]?=some (keyS (B[j]).1,vs[j]):=by
 unfold esB;rw[List.getElem?_map,zip_at hj hv];rfl
theorem fmB_at{B:List (SL×List MG)}{vs:List Value}{j:Nat}(hj:j<B.length)(hv:j<vs.length):(fmB B vs)[j]?=some (vs[j],(B[j]).2.length,waa (atM (B[j]).2)):=by
 unfold fmB;rw[List.getElem?_map,zip_at hj hv];rfl
theorem esB_sn{B:List (SL×List MG)}{vs:List Value}(h:vs.length=B.length)(x:SL×List MG)(v:Value):esB (B++[x]) (vs++[v])=esB B vs++[(keyS x.1,v)]:=by
 unfold esB;rw[List.zip_append h.symm];simp
theorem fmB_sn{B:List (SL×List MG)}{vs:List Value}(h:vs.length=B.length)(x:SL×List MG)(v:Value):fmB (B++[x]) (vs++[v])=fmB B vs++[(v,x.2.length,waa (atM x.2))]:=by
 unfold fmB;rw[List.zip_append h.symm];simp
theorem esB_set{B:List (SL×List MG)}{vs:List Value}{j:Nat}(x:SL×List MG)(v:Value):esB (B.set j x) (vs.set j v)=(esB B vs).set j (keyS x.1,v):=by
 unfold esB;rw[wpr,List.map_set]
theorem fmB_set{B:List (SL×List MG)}{vs:List Value}{j:Nat}(x:SL×List MG)(v:Value):fmB (B.set j x) (vs.set j v)=(fmB B vs).set j (v,x.2.length,waa (atM x.2)):=by
 unfold fmB;rw[wpr,List.map_set]
def obS(K:List ((List UInt8×Int)×Bool))(M:List MG)(i:OJ):St:=S_ob (esB (wal (mnL K M i.k)) i.vs) i.j K M i.k
def obF(K:List ((List UInt8×Int)×Bool))(M:List MG)(i:OJ):List FE:=fmB (wal (mnL K M i.k)) i.vs
def obI(K:List ((List UInt8×Int)×Bool))(M:List MG)(i:OJ):Prop:=i.k<=M.length/\i.vs.length=(wal (mnL K M i.k)).length
def obX(K:List ((List UInt8×Int)×Bool))(M:List MG):XQ:=λe F s=>∃(vs:List Value) (j:Nat),vs.length=(wal (mnL K M M.length)).length/\F=fmB (wal (mnL K M M.length)) vs/\Q_ob (esB (wal (mnL K M M.length)) vs) j e s
theorem wie(es:List (AV×Value))(j:Nat)(K:List ((List UInt8×Int)×Bool))(M:List MG)(k:Nat):wbv (S_ob es j K M k).O True:=⟨λ_ _=>rfl,trivial⟩
theorem rv_oc(K:List ((List UInt8×Int)×Bool))(M:List MG)(i:OC):wbv (S_oi K M i).O True:=⟨λ_ _=>rfl,λ_ _=>rfl,trivial⟩
theorem wzz(hP:C.P=Tryz.prog){K:List ((List UInt8×Int)×Bool)}{M:List MG}(hn:M.length<=100000)(hK:(K.map Prod.fst).Nodup)(i:OJ)(hi:obI K M i):
  AWX C 0 72 47 15 (wav Tryz.f38 9) (λe F' s'=>match e with
   |.normal=>∃i',obI K M i'/\M.length - i'.k<M.length - i.k/\s'=obS K M i'/\F'=obF K M i'
   |e=>obX K M e F' s') (obF K M i) (obS K M i):=by
 have _:C.Loose:=inferInstance;obtain⟨k,vs,j⟩:=i;obtain⟨hk,hv⟩:=hi;have hk:k<=M.length:=hk;have hv:vs.length=(wal (mnL K M k)).length:=hv;have hc:wcn C [(77,.det wen)]:=.cons (whr_ok hP) .nil;have hkey:=wi8 (t:=103) (vv:=AV.bool) (λ_ _=>wvd) keyA_D hK;have hget:Option.getD (mget (entG keyD .bool K) (.agg [.str (atM M k).dev,.q (atM M k).seq])) (zvA (.bool false))= .bool (clnM K (atM M k)):=by
  have e:=wgt (vv:=AV.bool) wk1 (mk2 (atM M k)) K;have e:mget (entG keyD .bool K) (.agg [.str (atM M k).dev,.q (atM M k).seq])=(getA K (mk2 (atM M k))).map AV.bool:=e;rw[e];unfold clnM
  cases getA K (mk2 (atM M k))<;>rfl
 show AWX C 0 72 _ 15 _ _ (fmB (wal (mnL K M k)) vs) (S_ob (esB (wal (mnL K M k)) vs) j K M k);have hbl:=ww4 (mnL K M k);have hml:=mnL_len K M k;have hB:=wkh (mnL K M k);have hsn:=mnL_sn K M k;have hbn:∀x∈wal (mnL K M k),0<x.2.length/\x.2.length<=(mnL K M k).length:=λx hx=>ww3 hx
 by_cases hkn:k<M.length
 ·cases hcl:clnM K (atM M k) with
  |true=>
   rw[hcl,cond_true] at hsn;refine AWX.round (prg hP) _ 0 hc _ [3,4,25,26,27,2] [3,2] [] (S_ob (esB (wal (mnL K M k)) vs) j K M) (λk'=>k'=k+1) (λ_ _=>False) ?_ (λk=>wie _ _ _ _ k) (λk' hk'=>?_) (λ_ _ _ h=>h.elim)
   ·rw[wuj,tN7,hget,hcl];refine wag (λh1=>⟨⟨by omega,by omega⟩,⟨by omega,rfl⟩,⟨hkey,rfl⟩,?_⟩) (λh1=>absurd (by omega) h1);refine⟨by simp only[inR];omega,k+1,⟨rfl,?_⟩,rfl⟩;rw[wdz];exact⟨rfl,rfl,rQ7,rfl,rfl,trivial⟩
   ·subst hk';refine⟨⟨k+1,vs,j⟩,⟨by show k+1<=_;omega,by show vs.length=(wal (mnL K M (k+1))).length;rw[hsn];exact hv⟩,by show M.length - (k+1)<M.length - k;omega,?_,?_⟩
    ·show _=S_ob (esB (wal (mnL K M (k+1))) vs) j K M (k+1);rw[hsn]
    ·show _=fmB (wal (mnL K M (k+1))) vs;rw[hsn]
  |false=>
   rw[hcl,cond_false] at hsn;have hbk:wal (mnL K M (k+1))=putB (wal (mnL K M k)) (whr (atM M k)) (atM M k):=by rw[hsn,wjf]
   generalize wal (mnL K M k)=B at *;generalize mnL K M k=mn at *;have hes:=wrt hv;have hfs:=esB_fst hv;have hkr:=keysR hfs hB
   by_cases hs:whr (atM M k)∈B.map Prod.fst
   ·obtain⟨x,hx,hxs⟩:=List.mem_map.1 hs;obtain⟨q,hq,rfl⟩:=List.getElem_of_mem hx;have hqv:q<vs.length:=by omega
    have hat:=esB_at hq hqv;have hset:=putB_at (m:=atM M k) hB hq hxs;have hfl:(fmB B vs).length=B.length:=wv5 hv;have hfat:=fmB_at hq hqv;have hsplit:fmB B vs=(fmB B vs).take q++(vs[q],(B[q]).2.length,waa (atM (B[q]).2))::(fmB B vs).drop (q+1):=by
     have h2:(fmB B vs)[q]'(by omega)=(vs[q],(B[q]).2.length,waa (atM (B[q]).2)):=by
      rw[List.getElem?_eq_getElem (by omega)] at hfat;exact oJ7 hfat
     rw[← h2, ← List.drop_eq_getElem_cons (by omega),List.take_append_drop]
    refine AWX.focus (r:=4) (j:=j) (i0:=q) (es:=esB B vs) hsplit rfl (λp hp=>by rw[hat] at hp;rw[← oJ7 hp]) ?_;obtain⟨ρ,hw⟩:=wd4 (te:=te) (m:=0) (F:=[3,4,25,26,27,2]) (s:=⟨[(3,.ptr 0 0),(4,.map 1),(25,.own 2 M.length),(26,.q M.length),(27,.q k),(2,.ptr 3 0)],[(4,.rmap (esB B vs) q (some (.own 5 (B[q]).2.length))),(5,.row 47 15 (B[q]).2.length (waa (atM (B[q]).2)) false),(0,.cells [.map 4,.nil] 72),(1,.amap (entG keyD .bool K)),(2,.row 47 15 M.length (waa (atM M)) false),(3,.cells [.nilmap,.nil] 72)],6,[]⟩) (s':=S_oc (esB B vs) q (B[q]).2 K M k) (by
     rw[nf_ox,wdz];exact⟨rfl,rfl,rfl,rQ7,rfl,rfl,rQ7,trivial⟩) (wb8 (rv_oc K M ⟨esB B vs,q,(B[q]).2,k⟩)).1
    refine AWX.weak hw ?_;have hlen:=hbn _ (List.getElem_mem hq);refine AWX.weakQ (AWX.unfocusQ (AWX.round (prg hP) _ 0 hc _ [3,4,25,26,27,2] [3,2] [] (S_oi K M) (λi'=>i'=⟨esB B vs,q,(B[q]).2++[atM M k],k+1⟩) (λ_ _=>False) ?_ (λi=>rv_oc K M i) (λi' hi'=>?_) (λ_ _ _ h=>h.elim)))
    ·rw[w1n,tN7,hget,hcl];refine wag (λh1=>⟨⟨by omega,by omega⟩,⟨by omega,rfl⟩,⟨hkey,rfl⟩,?_⟩) (λh1=>absurd (by omega) h1);have hm:(match (esB B vs)[q]? with | some x=>some x.1 | none=>none)=some (keyS (whr (atM M k))):=by rw[hat, ← hxs]
     refine⟨trivial,trivial,⟨hkr,hm⟩,⟨by omega,rfl,by omega⟩,⟨⟨lR7 _,rfl⟩,lR7 _,rfl,rfl,rfl,by omega,?_⟩,⟨hkr,hm⟩,by simp only[inR];omega,⟨esB B vs,q,(B[q]).2++[atM M k],k+1⟩,?_,rfl⟩
     ·show ((B[q]).2.length+1) * 176<=_;omega
     ·rw[wdz];have hl:((B[q]).2++[atM M k]).length=(B[q]).2.length+1:=by simp
      show TEq _ _/\wac _ [(0,.cells [.map 4,.nil] 72),(1,.amap (entG keyD .bool K)),(2,.row 47 15 M.length (waa (atM M)) false),(3,.cells [.nilmap,.nil] 72),(4,.rmap (esB B vs) q (some (.own 5 ((B[q]).2++[atM M k]).length))),(5,.row 47 15 ((B[q]).2++[atM M k]).length (waa (atM ((B[q]).2++[atM M k]))) false)];rw[hl];refine⟨rfl,rfl,rfl,rQ7,rfl,rfl,⟨rfl,rfl,rfl,rfl,rfl,λi hi=>?_⟩,trivial⟩;have hh:∀ch:Nat->List AV,ch 0=mgC (atM M k)->apF (B[q]).2.length (waa (atM (B[q]).2)) ch i=waa (atM ((B[q]).2++[atM M k])) i:=λch hch=>by
       have:=snocM (lR7 (B[q]).2.length) (m:=atM M k) ch hch i hi
       rwa [List.take_length] at this
      exact hh _ rfl
    ·subst hi';have hset2:∀v:Value,esB (wal (mnL K M (k+1))) (vs.set q v)=(esB B vs).set q (((esB B vs)[q]'(by omega)).1,v):=λv=>by
      rw[hbk,hset,esB_set];have:((esB B vs)[q]'(by omega)).1=keyS (whr (atM M k)):=by
       rw[List.getElem?_eq_getElem (by omega)] at hat;rw[oJ7 hat, ← hxs]
      rw[this]
     have hset3:∀v:Value,fmB (wal (mnL K M (k+1))) (vs.set q v)=(fmB B vs).take q++(v,(B[q]).2.length+1,waa (atM ((B[q]).2++[atM M k])))::(fmB B vs).drop (q+1):=λv=>by
      rw[hbk,hset,fmB_set,List.set_eq_take_append_cons_drop,if_pos (by omega)];simp
     refine .inr ⟨(fmB B vs).take q,(fmB B vs).drop (q+1),4,5,((B[q]).2++[atM M k]).length,q,waa (atM ((B[q]).2++[atM M k])),esB B vs,by omega,rfl,by decide,rfl,rfl,by simp,λi _=>rfl,λv=>?_⟩;obtain⟨ρ2,hw2⟩:=wd4 (te:=te) (m:=0) (F:=[3,4,25,26,27,2]) (s:=⟨[(3,.ptr 0 0),(4,.map 1),(25,.own 2 M.length),(26,.q M.length),(27,.q ((k+1:Nat):Int)),(2,.ptr 3 0)],[(4,.rmap ((esB B vs).set q (((esB B vs)[q]'(by omega)).1,v)) q none),(0,.cells [.map 4,.nil] 72),(1,.amap (entG keyD .bool K)),(2,.row 47 15 M.length (waa (atM M)) false),(3,.cells [.nilmap,.nil] 72)],6,[]⟩) (s':=S_ob ((esB B vs).set q (((esB B vs)[q]'(by omega)).1,v)) q K M (k+1)) (by
      rw[nf_ow,wdz];exact⟨rfl,rfl,rfl,rQ7,rfl,rfl,trivial⟩) (wb8 (wie _ _ K M (k+1))).1
     refine⟨_,ρ2,hw2,⟨k+1,vs.set q v,q⟩,⟨by show k+1<=_;omega,?_⟩,by show M.length - (k+1)<M.length - k;omega,?_,?_⟩
     ·show (vs.set q v).length=(wal (mnL K M (k+1))).length;rw[hbk,hset,List.length_set,List.length_set];exact hv
     ·show _=S_ob (esB (wal (mnL K M (k+1))) (vs.set q v)) q K M (k+1);rw[hset2]
     ·show _=fmB (wal (mnL K M (k+1))) (vs.set q v);rw[hset3];simp
   ·have hnew:=wzo (m:=atM M k) hs;refine AWX.weakQ (AWX.unfocusQ (AWX.round (prg hP) _ 0 hc _ [3,4,25,26,27,2] [3,2] [] (S_oi K M) (λi'=>i'=⟨esB B vs++[(keyS (whr (atM M k)),default)],(esB B vs).length,[atM M k],k+1⟩) (λ_ _=>False) ?_ (λi=>rv_oc K M i) (λi' hi'=>?_) (λ_ _ _ h=>h.elim)))
    ·rw[w1l,tN7,hget,hcl];refine wag (λh1=>⟨⟨by omega,by omega⟩,⟨by omega,rfl⟩,⟨hkey,rfl⟩,?_⟩) (λh1=>absurd (by omega) h1);have hno:∀p∈esB B vs,p.1≠keyS (whr (atM M k)):=λp hp e=>by
      have h1:p.1∈(B.map Prod.fst).map keyS:=by rw[← hfs];exact List.mem_map_of_mem hp
      obtain⟨s,h2,h3⟩:=List.mem_map.1 h1;exact hs (wiw (h3.trans e) ▸ h2)
     refine⟨trivial,trivial,⟨hkr,hno⟩,⟨by omega,rfl,by omega⟩,⟨⟨lR7 _,rfl⟩,rfl,by omega,by omega⟩,⟨hkr,hno⟩,by simp only[inR];omega,⟨esB B vs++[(keyS (whr (atM M k)),default)],(esB B vs).length,[atM M k],k+1⟩,?_,rfl⟩;rw[wdz];refine⟨rfl,rfl,rfl,rQ7,rfl,rfl,⟨rfl,rfl,rfl,rfl,rfl,λi hi=>?_⟩,trivial⟩;have hi:i<1:=hi;have:i=0:=by omega
     subst this;rfl
    ·subst hi';have hset2:∀v:Value,esB (wal (mnL K M (k+1))) (vs++[v])=esB B vs++[(keyS (whr (atM M k)),v)]:=λv=>by rw[hbk,hnew,esB_sn hv]
     have hset3:∀v:Value,fmB (wal (mnL K M (k+1))) (vs++[v])=fmB B vs++[(v,1,waa (atM [atM M k]))]:=λv=>by rw[hbk,hnew,fmB_sn hv];rfl
     refine .inr ⟨fmB B vs,[],4,5,1,(esB B vs).length,waa (atM [atM M k]),esB B vs++[(keyS (whr (atM M k)),default)],by simp,by simp,by decide,rfl,rfl,Nat.zero_lt_one,λi _=>rfl,λv=>?_⟩;have e:(esB B vs++[(keyS (whr (atM M k)),(default:Value))]).set (esB B vs).length (((esB B vs++[(keyS (whr (atM M k)),(default:Value))])[(esB B vs).length]'(by simp)).1,v)=esB B vs++[(keyS (whr (atM M k)),v)]:=by
      rw[List.set_append_right _ _ (lR7 _),Nat.sub_self];simp
     obtain⟨ρ2,hw2⟩:=wd4 (te:=te) (m:=0) (F:=[3,4,25,26,27,2]) (s:=⟨[(3,.ptr 0 0),(4,.map 1),(25,.own 2 M.length),(26,.int .i64 M.length),(27,.int .i64 ((k+1:Nat):Int)),(2,.ptr 3 0)],[(4,.rmap ((esB B vs++[(keyS (whr (atM M k)),(default:Value))]).set (esB B vs).length (((esB B vs++[(keyS (whr (atM M k)),(default:Value))])[(esB B vs).length]'(by simp)).1,v)) (esB B vs).length none),(0,.cells [.map 4,.nil] 72),(1,.amap (entG keyD .bool K)),(2,.row 47 15 M.length (waa (atM M)) false),(3,.cells [.nilmap,.nil] 72)],6,[]⟩) (s':=S_ob (esB B vs++[(keyS (whr (atM M k)),v)]) (esB B vs).length K M (k+1)) (by
      rw[e,nf_ow,wdz];exact⟨rfl,rfl,rfl,rQ7,rfl,rfl,trivial⟩) (wb8 (wie _ _ K M (k+1))).1
     refine⟨_,ρ2,hw2,⟨k+1,vs++[v],(esB B vs).length⟩,⟨by show k+1<=_;omega,?_⟩,by show M.length - (k+1)<M.length - k;omega,?_,?_⟩
     ·show (vs++[v]).length=(wal (mnL K M (k+1))).length;rw[hbk,hnew,lA7,lA7,hv];rfl
     ·show _=S_ob (esB (wal (mnL K M (k+1))) (vs++[v])) _ K M (k+1);rw[hset2]
     ·show _=fmB (wal (mnL K M (k+1))) (vs++[v]);rw[hset3]
 ·have hkn:k=M.length:=by omega
  subst hkn;refine AWX.round (prg hP) _ 0 hc _ [3,4,25,26,27,2] [3,2] [] (S_ob (esB (wal (mnL K M M.length)) vs) j K M) (λ_=>False) (Q_ob (esB (wal (mnL K M M.length)) vs) j) ?_ (λk=>wie _ _ _ _ k) (λk' hk'=>hk'.elim) (λe s' _ h=>?_)
  ·rw[wuj];exact wag (λh1=>absurd h1 (by omega)) (λh1=>⟨rfl,rfl⟩)
  ·have he:=h.1;subst he;exact⟨vs,j,hv,rfl,h⟩
theorem ob_loop(hP:C.P=Tryz.prog)(K:List ((List UInt8×Int)×Bool))(M:List MG):wah C 0 72 (wai Tryz.f38 9) (L_ob K M):=by
 rintro st Q ⟨h0,hn,hK,hQ⟩;refine AWP.canonIs [3,4,25,26,27,2] h0 ?_ ⟨λ_ _=>rfl,trivial⟩;refine AWP.toR 4 rfl ?_;refine AWX.start (t:=47) (sz:=15) (Q:=obX K M) ?_ (λe F s' h=>?_)
 ·obtain⟨ρ,hw⟩:=wd4 (te:=te) (m:=0) (F:=[3,4,25,26,27,2]) (s:=⟨[(3,.ptr 0 0),(4,.map 1),(25,.own 2 M.length),(26,.q M.length),(27,.q ((0:Nat):Int)),(2,.ptr 3 0)],[(4,.rmap [] 0 none),(0,.cells [.map 4,.nil] 72),(1,.amap (entG keyD .bool K)),(2,.row 47 15 M.length (waa (atM M)) false),(3,.cells [.nilmap,.nil] 72)],5,[]⟩) (s':=S_ob [] 0 K M 0) (by
   rw[nf_ow,wdz];exact⟨rfl,rfl,rfl,rQ7,rfl,rfl,trivial⟩) (wb8 (wie _ _ K M 0)).1
  exact AWX.loop (obS K M) (obF K M) (obI K M) (λi=>M.length - i.k) ⟨0,[],0⟩ ⟨zL7 _,rfl⟩ hw rfl (λi hi=>wzz hP hn hK i hi)
 ·obtain⟨vs,j,hv,rfl,rfl,rfl⟩:=h;generalize wal (mnL K M M.length)=B at *;have hlen:(entG keyS vwM B).length=B.length:=by simp[entG]
  refine⟨2,j,esB B vs,entG keyS vwM B,rfl,by rw[hlen,wrt hv],by rw[wv5 hv,wrt hv],λi p x p' h1 h2 h3=>?_,hQ⟩;have hi:i<B.length:=by rw[← hlen];exact(List.getElem?_eq_some_iff.1 h3).1
  have hi':i<vs.length:=by omega
  rw[esB_at hi hi'] at h1;rw[fmB_at hi hi'] at h2;have h4:(entG keyS vwM B)[i]?=some (keyS (B[i]).1,vwM (B[i]).2):=by
   unfold entG;rw[List.getElem?_map,List.getElem?_eq_getElem hi];rfl
  rw[h4] at h3;rw[← oJ7 h1, ← oJ7 h2, ← oJ7 h3];exact⟨rfl,rfl⟩
def atBk(B:List (SL×List MG))(i:Nat):SL×List MG:=B.getD i default
theorem w5t{B:List (SL×List MG)}{i:Nat}(h:i<B.length):(entG keyS vwM B).getD i (.any,.any)=(keyS (atBk B i).1,vwM (atBk B i).2):=by
 simp[entG,atBk,h]
theorem w67{B:List (SL×List MG)}{i:Nat}(h:i<B.length):atBk B i∈B:=by
 unfold atBk;rw[List.getD_eq_getElem?_getD,List.getElem?_eq_getElem h];exact List.getElem_mem h
theorem ixo_has(l:List MG):(0<=ixB (λi=>isV (atM l i)) l.length)↔hasV l=true:=by
 rw[(wre (q:=λi=>isV (atM l i)) (n:=l.length)).1];obtain⟨h1,h2⟩:=wg0 (λi=>isV (atM l i)) l.length;unfold hasV;rw[List.any_eq_true]
 constructor
 ·intro h;exact⟨_,wgb h,h2 h⟩
 ·rintro⟨m,hm,hv⟩;obtain⟨i,hi,rfl⟩:=mem_atM hm
  rcases Nat.lt_or_ge i (fstB (λi=>isV (atM l i)) l.length) with q | q
  ·have:=h1 i q;rw[show isV (atM l i)=false from this] at hv;cases hv
  ·omega
structure OdI (B:List (SL×List MG)) (i:OI):Prop where
 e:∃E:List (SL×List MG),(E++i.left.map (atBk B)).Perm B/\lst i.h i.c=(E.filter λx=>hasV x.2).map Prod.fst
 lt:∀x∈i.left,x<B.length
theorem od_loop(hP:C.P=Tryz.prog)(B:List (SL×List MG)):wah C 0 72 (wai Tryz.f38 15) (L_od B):=by
 have _:C.Loose:=inferInstance;rintro st Q ⟨h0,hn,hl,hQ⟩;refine AWP.ownNilP 3 1 78 3 ?_;have hlen:(entG keyS vwM B).length=B.length:=by simp[entG]
 refine wah.mk (prg hP) [(60,.det wn6)] 0 (.cons (cfo_ok hP) .nil) [3,54,2] [3,2] [] (S_od B) (OdI B) (λi=>i.left.length) ⟨0,λ_=>default,B.length,List.range B.length⟩ ⟨⟨[],?_,rfl⟩,λx hx=>List.mem_range.1 hx⟩ h0 (λi hi=>?_) (λi=>⟨λ_ _=>rfl,trivial⟩)
 ·have:(List.range B.length).map (atBk B)=B:=by
   apply List.ext_getElem
   ·simp
   ·intro i h1 h2;simp[atBk,h2]
  rw[List.nil_append,this]
 obtain⟨⟨E,hp,hh⟩,hlt⟩:=hi;have hcl:i.c+i.left.length<=B.length:=by
  have h1:=hp.length_eq;have h2:=congrArg List.length hh;have h3:=List.length_filter_le (λx:SL×List MG=>hasV x.2) E;simp[lst] at h1 h2 h3;omega
 rw[w1m];refine⟨hlen.symm,λhnil=>?_,λj hj=>?_⟩
 ·rw[wi9];rw[hnil,List.map_nil,List.append_nil] at hp;exact⟨λ_ _=>rfl,_,waz _,hQ E i.h i.c hp hh⟩
 ·have hjl:=hlt j hj;rw[w5t hjl,wi9,wi9];have herase:(i.left.erase j).length+1=i.left.length:=by
   rw[List.length_erase_of_mem hj];have:=List.length_pos_of_mem hj;omega
  have hpe:((E++[atBk B j])++(i.left.erase j).map (atBk B)).Perm B:=by
   rw[List.append_assoc,List.singleton_append, ← List.map_cons];exact(((List.perm_cons_erase hj).map (atBk B)).symm.append_left _).trans hp
  have hxl:=hl _ (w67 hjl);generalize atBk B j=x at *;have hhas:=ixo_has x.2;refine⟨⟨hlen.symm,hjl,rfl,rfl⟩,⟨?_,rfl⟩,wag (λh=>?_) (λh=>?_)⟩
  ·show x.2.length<=1000000;omega
  ·have hv:=hhas.1 h;refine⟨⟨by omega,rfl,by omega⟩,⟨⟨lR7 _,rfl⟩,lR7 _,rfl,rfl,rfl,by omega,?_⟩,⟨i.c+1,λk=>if k<i.c then i.h k else x.1,j,i.left.erase j⟩,⟨rfl,rfl,rfl,rfl,rfl,⟨rfl,rfl,rfl,rfl,rfl,λk hk=>?_⟩,trivial⟩,⟨⟨E++[x],hpe,?_⟩,λy hy=>hlt y (List.mem_of_mem_erase hy)⟩,by show (i.left.erase j).length<_;omega⟩
   ·show (i.c+1) * 40<=_;omega
   ·have hk:k<i.c+1:=hk;unfold apF wau
    by_cases h:k<i.c
    ·simp only[h,if_true]
    ·have:k=i.c:=by omega
     subst this;simp only[Nat.lt_irrefl,if_false,Nat.sub_self];rfl
   ·show lst (λk=>if k<i.c then i.h k else x.1) (i.c+1)=_
    rw[we2,if_neg (Nat.lt_irrefl _),List.filter_append,List.map_append,List.filter_cons_of_pos (by exact hv), ← hh];have e1:lst (λk=>if k<i.c then i.h k else x.1) i.c=lst i.h i.c:=List.map_congr_left λk hk=>by rw[if_pos (List.mem_range.1 hk)]
    rw[e1];rfl
  ·have hv:hasV x.2=false:=by
    cases hq:hasV x.2 with
    |false=>rfl
    |true=>exact absurd (hhas.2 hq) h
   refine⟨⟨i.c,i.h,j,i.left.erase j⟩,⟨rfl,rfl,rfl,rfl,rfl,⟨rfl,rfl,rfl,rfl,rfl,λk hk=>rfl⟩,trivial⟩,⟨⟨E++[x],hpe,?_⟩,λy hy=>hlt y (List.mem_of_mem_erase hy)⟩,by show (i.left.erase j).length<_;omega⟩;show lst i.h i.c=_;rw[List.filter_append,List.filter_cons_of_neg (by rw[hv];exact Bool.false_ne_true),hh];simp
end Go.Eng
