/- Cloned: the marks that different messages have. -/
import Derived.Test.YtmcdngcjakjnmaaGreatDoorJvx
namespace Go.Eng
open Go.Proofs Go.RowKit
variable {C:Ctx} [C.Loose]
set_option maxRecDepth 20000
theorem nf_rs1(m:MG)(x:VT)(R:oR7):wpFn te [] [] 0 Tryz.f61 [.agg [.str m.dev,.q m.seq,.q m.kind,.str m.v.o,.str m.v.p,.q m.v.per,.q m.v.day,.q m.v.st,.q m.v.pr,.str m.v.rep,.str m.d.o,.str m.d.p,.q m.d.per,.str m.d.dev,.q m.d.num],.ptr 0 0] [.cells [.str x.o,.str x.p,.q x.per,.q x.day,.q x.st,.q x.pr,.str x.rep] 43] R=(letI z0:=([(0,.cells [.str x.o,.str x.p,.q x.per,.q x.day,.q x.st,.q x.pr,.str x.rep] 43)]:oL7);wab (!decide (m.v.st=x.st)) (R (.bool true) z0) (wab (!decide (m.v.pr=x.pr)) (R (.bool true) z0) (R (.bool !decide (m.v.rep=x.rep)) z0))):=by kernel_rfl
theorem nf_rs2(m:MG)(x:DT)(R:oR7):wpFn te [(64,.det wcz)] [] 0 Tryz.f63 [.agg [.str m.dev,.q m.seq,.q m.kind,.str m.v.o,.str m.v.p,.q m.v.per,.q m.v.day,.q m.v.st,.q m.v.pr,.str m.v.rep,.str m.d.o,.str m.d.p,.q m.d.per,.str m.d.dev,.q m.d.num],.ptr 0 0] [.cells [.str x.o,.str x.p,.q x.per,.str x.dev,.q x.num] 45] R=(True/\R (.bool (decide (m.dev=x.dev) && decide (m.seq=x.num))) [(0,.cells [.str x.o,.str x.p,.q x.per,.str x.dev,.q x.num] 45)]):=by kernel_rfl
theorem nf_ixs1(x:VT)(g:Nat->MG)(n:Nat)(R:oR7):wpFn te [(61,.det whl)] [(2,wpg x g n)] 0 Tryz.f62 [.view 15 n (waa g),.func 61 [.ptr 0 0]] [.cells [.str x.o,.str x.p,.q x.per,.q x.day,.q x.st,.q x.pr,.str x.rep] 43] R=(letI z0:=([(0,.cells [.str x.o,.str x.p,.q x.per,.q x.day,.q x.st,.q x.pr,.str x.rep] 43)]:oL7);some (St.mk [(0,.view 15 n (waa g)),(1,.func 61 [.ptr 0 0]),(7,.q (n:Int)),(8,.q 0)] z0 1 [])=some (St.mk [(0,.view 15 n (waa g)),(1,.func 61 [.ptr 0 0]),(7,.q (n:Int)),(8,.q (↑0:Int))] z0 1 [])/\n<=1000000/\wab (decide (fstB (λ(i:Nat)=>difF x (g i)) n<n)) (R (.q (↑(fstB (λ(i:Nat)=>difF x (g i)) n):Int)) z0) (R (.q (-1:Int)) z0)):=by kernel_rfl
theorem w15(x:VT)(g:Nat->MG)(n k:Nat)(P:Nat->Prop)(R:eR7):wat ⟨te,[(61,.det whl)],[],1,19,0⟩ (wav Tryz.f62 2) [0,1,7,8] [] [4] (wnh x g n) P R (wnh x g n k)=(letI z1:=(g (k:Int).toNat);letI z0:=([(0,.cells [.str x.o,.str x.p,.q x.per,.q x.day,.q x.st,.q x.pr,.str x.rep] 43)]:oL7);wab (decide ((k:Int)<(n:Int))) (((0:Int)<=(k:Int)/\(k:Int)<(n:Int)/\15=15)/\43=43/\wab (difF (VT.mk x.o x.p x.per x.day x.st x.pr x.rep) (MG.mk z1.dev z1.seq z1.kind (VT.mk z1.v.o z1.v.p z1.v.per z1.v.day z1.v.st z1.v.pr z1.v.rep) (DT.mk z1.d.o z1.d.p z1.d.per z1.d.dev z1.d.num))) (R .ret (St.mk [(4,.q (k:Int))] z0 1 [])) (inR .i64 ((k:Int)+1)/\∃(i':Nat),some (St.mk [(0,.view 15 n (waa g)),(1,.func 61 [.ptr 0 0]),(7,.q (n:Int)),(8,.q ((k:Int)+1))] z0 1 [])=some (St.mk [(0,.view 15 n (waa g)),(1,.func 61 [.ptr 0 0]),(7,.q (n:Int)),(8,.q (i':Int))] z0 1 [])/\P i')) (R (.exit 0) (St.mk [] z0 1 []))):=by kernel_rfl
theorem nf_ixs2(x:DT)(g:Nat->MG)(n:Nat)(R:oR7):wpFn te [(63,.det whk)] [(2,wpf x g n)] 0 Tryz.f62 [.view 15 n (waa g),.func 63 [.ptr 0 0]] [.cells [.str x.o,.str x.p,.q x.per,.str x.dev,.q x.num] 45] R=(letI z0:=([(0,.cells [.str x.o,.str x.p,.q x.per,.str x.dev,.q x.num] 45)]:oL7);some (St.mk [(0,.view 15 n (waa g)),(1,.func 63 [.ptr 0 0]),(7,.q (n:Int)),(8,.q 0)] z0 1 [])=some (St.mk [(0,.view 15 n (waa g)),(1,.func 63 [.ptr 0 0]),(7,.q (n:Int)),(8,.q (↑0:Int))] z0 1 [])/\n<=1000000/\wab (decide (fstB (λ(i:Nat)=>namF x (g i)) n<n)) (R (.q (↑(fstB (λ(i:Nat)=>namF x (g i)) n):Int)) z0) (R (.q (-1:Int)) z0)):=by kernel_rfl
theorem w14(x:DT)(g:Nat->MG)(n k:Nat)(P:Nat->Prop)(R:eR7):wat ⟨te,[(63,.det whk)],[],1,19,0⟩ (wav Tryz.f62 2) [0,1,7,8] [] [4] (wng x g n) P R (wng x g n k)=(letI z1:=([(0,.cells [.str x.o,.str x.p,.q x.per,.str x.dev,.q x.num] 45)]:oL7);letI z0:=(g (k:Int).toNat);wab (decide ((k:Int)<(n:Int))) (((0:Int)<=(k:Int)/\(k:Int)<(n:Int)/\15=15)/\45=45/\wab (namF (DT.mk x.o x.p x.per x.dev x.num) (MG.mk z0.dev z0.seq z0.kind (VT.mk z0.v.o z0.v.p z0.v.per z0.v.day z0.v.st z0.v.pr z0.v.rep) (DT.mk z0.d.o z0.d.p z0.d.per z0.d.dev z0.d.num))) (R .ret (St.mk [(4,.q (k:Int))] z1 1 [])) (inR .i64 ((k:Int)+1)/\∃(i':Nat),some (St.mk [(0,.view 15 n (waa g)),(1,.func 63 [.ptr 0 0]),(7,.q (n:Int)),(8,.q ((k:Int)+1))] z1 1 [])=some (St.mk [(0,.view 15 n (waa g)),(1,.func 63 [.ptr 0 0]),(7,.q (n:Int)),(8,.q (i':Int))] z1 1 [])/\P i')) (R (.exit 0) (St.mk [] z1 1 []))):=by kernel_rfl
theorem nf_cf1(x:VT)(g:Nat->MG)(n:Nat)(R:oR7):wpFn te [(62,.det wnn)] [] 0 Tryz.f60 [.view 15 n (waa g),.func 61 [.ptr 0 0]] [.cells [.str x.o,.str x.p,.q x.per,.q x.day,.q x.st,.q x.pr,.str x.rep] 43] R=((43=43/\n<=1000000/\waa g=waa (mgOf (waa g)))/\R (.bool (decide ((0:Int)<=ixB (λ(i:Nat)=>difF (VT.mk x.o x.p x.per x.day x.st x.pr x.rep) (mgOf (waa g) i)) n))) [(0,.cells [.str x.o,.str x.p,.q x.per,.q x.day,.q x.st,.q x.pr,.str x.rep] 43)]):=by kernel_rfl
theorem rs1_ok(hP:C.P=Tryz.prog):wad C 61 whl:=by
 have _:C.Loose:=inferInstance;rintro args objs U Os vc h hvc;unfold whl at h;split at h<;>simp only[sI7,pI7,reduceCtorEq] at h;rename_i dev seq kind o p per day st pr rep o' p' per' dev' num xo xp xper xday xst xpr xrep t;obtain⟨rfl,rfl,rfl⟩:=h;have hvc:t=_:=hvc;subst hvc;have hn:=nf_rs1 ⟨dev,seq,kind,⟨o,p,per,day,st,pr,rep⟩,⟨o',p',per',dev',num⟩⟩ ⟨xo,xp,xper,xday,xst,xpr,xrep⟩;dsimp only at hn;refine wad.wp0 (prg hP) [] 0 .nil (hP ▸ Tryz.func61) rfl rfl rfl ?_;rw[hn];unfold difF;exact wax (λq=>by rw[decide_eq_false q];exact⟨rfl,rfl⟩) (λq1=>wax (λq=>by rw[decide_eq_true q1,decide_eq_false q];exact⟨rfl,rfl⟩) (λq2=>by rw[decide_eq_true q1,decide_eq_true q2];exact⟨rfl,rfl⟩))
theorem w4p(hP:C.P=Tryz.prog)(x:VT)(g:Nat->MG)(n:Nat):wah C 1 19 (wai Tryz.f62 2) (wpg x g n):=by
 rintro st Q ⟨h0,hn,hQ⟩;have hR:=wbq hQ;refine wah.mk (prg hP) [(61,.det whl)] 0 (.cons (rs1_ok hP) .nil) [0,1,7,8] [] [4] (wnh x g n) (λk=>k<=n/\fstB (λi=>difF x (g i)) k=k) (λk=>n - k) 0 ⟨zL7 _,rfl⟩ h0 (λk hk=>?_);obtain⟨hkn,hok⟩:=hk;rw[w15,tN7];refine wag (λh1=>?_) (λh1=>?_)
 ·refine⟨⟨by omega,by omega,rfl⟩,rfl,wan (λh2=>?_) (λh2=>⟨by simp only[inR];omega,k+1,rfl,⟨by omega,wdi hok h2⟩,by omega⟩)⟩;have e:=wej hok h2 n (by omega);have:=hR.1 (by rw[e,decide_eq_true];omega);rw[e] at this;exact this
 ·have:k=n:=by omega
  subst this;exact hR.2 (by rw[hok,decide_eq_false];omega)
theorem ix1_ok(hP:C.P=Tryz.prog):wad C 62 wnn:=by
 rintro args objs U Os vc h hvc;unfold wnn at h;split at h<;>cases h;rename_i n f xo xp xper xday xst xpr xrep t;obtain⟨rfl,hn,hf⟩:=hvc;generalize mgOf f=g at *;subst hf;have hnf:=λR=>nf_ixs1 ⟨xo,xp,xper,xday,xst,xpr,xrep⟩ g n R;dsimp only at hnf;refine wad.wpL (prg hP) [(61,.det whl)] [(2,wpg ⟨xo,xp,xper,xday,xst,xpr,xrep⟩ g n)] 0 (.cons (rs1_ok hP) .nil) (hP ▸ Tryz.func62) rfl rfl rfl [(wai Tryz.f62 2,wpg ⟨xo,xp,xper,xday,xst,xpr,xrep⟩ g n)] (by kernel_rfl) ⟨w4p hP _ g n,trivial⟩ ?_;rw[hnf];unfold ixB;refine⟨rfl,hn,wag (λh=>?_) (λh=>?_)⟩
 ·rw[decide_eq_true h];exact⟨rfl,rfl⟩
 ·rw[decide_eq_false h];exact⟨rfl,rfl⟩
theorem rs2_ok(hP:C.P=Tryz.prog):wad C 63 whk:=by
 rintro args objs U Os vc h hvc;unfold whk at h;split at h<;>simp only[sI7,pI7,reduceCtorEq] at h;rename_i dev seq kind o p per day st pr rep o' p' per' dev' num xo xp xper xdev xnum t;obtain⟨rfl,rfl,rfl⟩:=h;have hvc:t=_:=hvc;subst hvc;have hn:=nf_rs2 ⟨dev,seq,kind,⟨o,p,per,day,st,pr,rep⟩,⟨o',p',per',dev',num⟩⟩ ⟨xo,xp,xper,xdev,xnum⟩;dsimp only at hn;refine wad.wp0 (prg hP) [(64,.det wcz)] 0 (.cons (wkp hP) .nil) (hP ▸ Tryz.func63) rfl rfl rfl ?_;rw[hn];exact⟨trivial,rfl,rfl⟩
theorem w4o(hP:C.P=Tryz.prog)(x:DT)(g:Nat->MG)(n:Nat):wah C 1 19 (wai Tryz.f62 2) (wpf x g n):=by
 rintro st Q ⟨h0,hn,hQ⟩;have hR:=wbq hQ;refine wah.mk (prg hP) [(63,.det whk)] 0 (.cons (rs2_ok hP) .nil) [0,1,7,8] [] [4] (wng x g n) (λk=>k<=n/\fstB (λi=>namF x (g i)) k=k) (λk=>n - k) 0 ⟨zL7 _,rfl⟩ h0 (λk hk=>?_);obtain⟨hkn,hok⟩:=hk;rw[w14,tN7];refine wag (λh1=>?_) (λh1=>?_)
 ·refine⟨⟨by omega,by omega,rfl⟩,rfl,wan (λh2=>?_) (λh2=>⟨by simp only[inR];omega,k+1,rfl,⟨by omega,wdi hok h2⟩,by omega⟩)⟩;have e:=wej hok h2 n (by omega);have:=hR.1 (by rw[e,decide_eq_true];omega);rw[e] at this;exact this
 ·have:k=n:=by omega
  subst this;exact hR.2 (by rw[hok,decide_eq_false];omega)
theorem ix2_ok(hP:C.P=Tryz.prog):wad C 62 wnm:=by
 rintro args objs U Os vc h hvc;unfold wnm at h;split at h<;>cases h;rename_i n f xo xp xper xdev xnum t;obtain⟨rfl,hn,hf⟩:=hvc;generalize mgOf f=g at *;subst hf;have hnf:=λR=>nf_ixs2 ⟨xo,xp,xper,xdev,xnum⟩ g n R;dsimp only at hnf;refine wad.wpL (prg hP) [(63,.det whk)] [(2,wpf ⟨xo,xp,xper,xdev,xnum⟩ g n)] 0 (.cons (rs2_ok hP) .nil) (hP ▸ Tryz.func62) rfl rfl rfl [(wai Tryz.f62 2,wpf ⟨xo,xp,xper,xdev,xnum⟩ g n)] (by kernel_rfl) ⟨w4o hP _ g n,trivial⟩ ?_;rw[hnf];unfold ixB;refine⟨rfl,hn,wag (λh=>?_) (λh=>?_)⟩
 ·rw[decide_eq_true h];exact⟨rfl,rfl⟩
 ·rw[decide_eq_false h];exact⟨rfl,rfl⟩
theorem cf1_ok(hP:C.P=Tryz.prog):wad C 60 wn7:=by
 rintro args objs U Os vc h hvc;unfold wn7 at h;split at h<;>cases h;rename_i n f xo xp xper xday xst xpr xrep t;obtain⟨rfl,hn,hf⟩:=hvc;generalize mgOf f=g at *;subst hf;have hnf:=λR=>nf_cf1 ⟨xo,xp,xper,xday,xst,xpr,xrep⟩ g n R;dsimp only at hnf;refine wad.wp0 (prg hP) [(62,.det wnn)] 0 (.cons (ix1_ok hP) .nil) (hP ▸ Tryz.func60) rfl rfl rfl ?_;rw[hnf];exact⟨⟨rfl,hn,rfl⟩,rfl,rfl⟩
end Go.Eng
namespace Go.Eng
open Go.Proofs Go.RowKit Go.Sort
variable {C:Ctx}
set_option maxRecDepth 20000
theorem nf_whr(m:MG)(R:oR7):wpFn te [] [] 0 Tryz.f77 [.agg [.str m.dev,.q m.seq,.q m.kind,.str m.v.o,.str m.v.p,.q m.v.per,.q m.v.day,.q m.v.st,.q m.v.pr,.str m.v.rep,.str m.d.o,.str m.d.p,.q m.d.per,.str m.d.dev,.q m.d.num]] [] R=(wab (decide (m.kind=2)) ((True/\True)/\R (.agg [.str m.d.o,.str m.d.p,.q m.d.per]) []) ((True/\True)/\R (.agg [.str m.v.o,.str m.v.p,.q m.v.per]) [])):=by kernel_rfl
theorem nf_op1(m:MG)(R:oR7):wpFn te [] [] 0 Tryz.f78 [.agg [.str m.dev,.q m.seq,.q m.kind,.str m.v.o,.str m.v.p,.q m.v.per,.q m.v.day,.q m.v.st,.q m.v.pr,.str m.v.rep,.str m.d.o,.str m.d.p,.q m.d.per,.str m.d.dev,.q m.d.num]] [] R=(R (.bool (decide (m.kind=1))) []):=by kernel_rfl
theorem nf_ixo(g:Nat->MG)(n:Nat)(R:oR7):wpFn te [(78,.det whs)] [(2,wpi g n)] 0 Tryz.f62 [.view 15 n (waa g),.func 78 []] [] R=(some (St.mk [(0,.view 15 n (waa g)),(1,.func 78 []),(7,.q (n:Int)),(8,.q 0)] [] 0 [])=some (St.mk [(0,.view 15 n (waa g)),(1,.func 78 []),(7,.q (n:Int)),(8,.q (↑0:Int))] [] 0 [])/\n<=1000000/\wab (decide (fstB (λ(i:Nat)=>isV (g i)) n<n)) (R (.q (↑(fstB (λ(i:Nat)=>isV (g i)) n):Int)) []) (R (.q (-1:Int)) [])):=by kernel_rfl
theorem w17(g:Nat->MG)(n k:Nat)(P:Nat->Prop)(R:eR7):wat ⟨te,[(78,.det whs)],[],0,19,0⟩ (wav Tryz.f62 2) [0,1,7,8] [] [4] (wnj g n) P R (wnj g n k)=(wab (decide ((k:Int)<(n:Int))) (((0:Int)<=(k:Int)/\(k:Int)<(n:Int)/\15=15)/\True/\wab (decide ((g (k:Int).toNat).kind=1)) (R .ret (St.mk [(4,.q (k:Int))] [] 0 [])) (inR .i64 ((k:Int)+1)/\∃(i':Nat),some (St.mk [(0,.view 15 n (waa g)),(1,.func 78 []),(7,.q (n:Int)),(8,.q ((k:Int)+1))] [] 0 [])=some (St.mk [(0,.view 15 n (waa g)),(1,.func 78 []),(7,.q (n:Int)),(8,.q (i':Int))] [] 0 [])/\P i')) (R (.exit 0) (St.mk [] [] 0 []))):=by kernel_rfl
theorem nf_cfo(g:Nat->MG)(n:Nat)(R:oR7):wpFn te [(62,.det wnk)] [] 0 Tryz.f60 [.view 15 n (waa g),.func 78 []] [] R=((n<=1000000/\waa g=waa (mgOf (waa g)))/\R (.bool (decide ((0:Int)<=ixB (λ(i:Nat)=>isV (mgOf (waa g) i)) n))) []):=by kernel_rfl
theorem w0u(o p:List UInt8)(per:Int)(o' p':List UInt8)(per':Int)(R:oR7):wpFn te [(80,.det whh),(81,.det wd9),(79,.det S_or)] [] 0 Tryz.f42 [.agg [.str o,.str p,.q per],.agg [.str o',.str p',.q per']] [] R=(letI z0:=war (TI.sz (TI.mk (TypeDesc.int IntKind.i64) 1 8 (Value.int IntKind.i64 0) false)) (.q (cmpS o o'):: .q (cmpS p p'):: .q (cmpI per per')::List.append [] (List.flatten (List.replicate (nat_lit 0) [.q 0])));True/\True/\True/\(3<=16777216/\1=1/\3<=9223372036854775807)/\(∀(i:Nat),i<3->true=true)/\(3=3/\false=false/\3=3/\3<=100/\∀(i:Nat),i<3->[AV.q (List.getD [cmpS o o',cmpS p p',cmpI per per'] i (0:Int))]=[.q (vInt z0 i)])/\(∀(i:Nat),i<3->true=true)/\R (.q (orN (vInt z0) 3)) []):=by kernel_rfl
theorem w2l(v:VT)(R:oR7):wpFn te [] [] 0 Tryz.f40 [.agg [.str v.o,.str v.p,.q v.per,.q v.day,.q v.st,.q v.pr,.str v.rep]] [] R=(wab (decide (v.st=4)) (R (.bool true) []) (R (.bool (decide (v.st=5))) [])):=by kernel_rfl
theorem whr_ok(hP:C.P=Tryz.prog):wad C 77 wen:=by
 rintro args objs U Os vc h hvc;unfold wen at h;split at h<;>simp only[sI7,pI7,reduceCtorEq] at h;rename_i dev seq kind o p per day st pr rep o' p' per' dev' num;obtain⟨rfl,rfl,rfl⟩:=h;have hn:=nf_whr ⟨dev,seq,kind,⟨o,p,per,day,st,pr,rep⟩,⟨o',p',per',dev',num⟩⟩;dsimp only at hn;refine wad.wp0 (prg hP) [] 0 .nil (hP ▸ Tryz.func77) rfl rfl rfl ?_;rw[hn];unfold whr;exact wag (λq=>by rw[decide_eq_true q];exact⟨⟨trivial,trivial⟩,rfl,rfl⟩) (λq=>by rw[decide_eq_false q];exact⟨⟨trivial,trivial⟩,rfl,rfl⟩)
theorem op1_ok(hP:C.P=Tryz.prog):wad C 78 whs:=by
 rintro args objs U Os vc h hvc;unfold whs at h;split at h<;>simp only[sI7,pI7,reduceCtorEq] at h;rename_i dev seq kind o p per day st pr rep o' p' per' dev' num;obtain⟨rfl,rfl,rfl⟩:=h;have hn:=nf_op1 ⟨dev,seq,kind,⟨o,p,per,day,st,pr,rep⟩,⟨o',p',per',dev',num⟩⟩;dsimp only at hn;refine wad.wp0 (prg hP) [] 0 .nil (hP ▸ Tryz.func78) rfl rfl rfl ?_;rw[hn];exact⟨rfl,rfl⟩
theorem w4r(hP:C.P=Tryz.prog)(g:Nat->MG)(n:Nat):wah C 0 19 (wai Tryz.f62 2) (wpi g n):=by
 rintro st Q ⟨h0,hn,hQ⟩;have hR:=wbq hQ;refine wah.mk (prg hP) [(78,.det whs)] 0 (.cons (op1_ok hP) .nil) [0,1,7,8] [] [4] (wnj g n) (λk=>k<=n/\fstB (λi=>isV (g i)) k=k) (λk=>n - k) 0 ⟨zL7 _,rfl⟩ h0 (λk hk=>?_);obtain⟨hkn,hok⟩:=hk;rw[w17,tN7];refine wag (λh1=>?_) (λh1=>?_)
 ·refine⟨⟨by omega,by omega,rfl⟩,trivial,wan (λh2=>?_) (λh2=>⟨by simp only[inR];omega,k+1,rfl,⟨by omega,wdi hok h2⟩,by omega⟩)⟩;have e:=wej hok h2 n (by omega);have:=hR.1 (by rw[e,decide_eq_true];omega);rw[e] at this;exact this
 ·have:k=n:=by omega
  subst this;exact hR.2 (by rw[hok,decide_eq_false];omega)
theorem ixo_ok(hP:C.P=Tryz.prog):wad C 62 wnk:=by
 rintro args objs U Os vc h hvc;unfold wnk at h;split at h<;>cases h;rename_i n f;obtain⟨hn,hf⟩:=hvc;generalize mgOf f=g at *;subst hf;refine wad.wpL (prg hP) [(78,.det whs)] [(2,wpi g n)] 0 (.cons (op1_ok hP) .nil) (hP ▸ Tryz.func62) rfl rfl rfl [(wai Tryz.f62 2,wpi g n)] (by kernel_rfl) ⟨w4r hP g n,trivial⟩ ?_;rw[nf_ixo];unfold ixB;refine⟨rfl,hn,wag (λh=>?_) (λh=>?_)⟩
 ·rw[decide_eq_true h];exact⟨rfl,rfl⟩
 ·rw[decide_eq_false h];exact⟨rfl,rfl⟩
theorem cfo_ok(hP:C.P=Tryz.prog):wad C 60 wn6:=by
 rintro args objs U Os vc h hvc;unfold wn6 at h;split at h<;>cases h;rename_i n f;obtain⟨hn,hf⟩:=hvc;generalize mgOf f=g at *;subst hf;refine wad.wp0 (prg hP) [(62,.det wnk)] 0 (.cons (ixo_ok hP) .nil) (hP ▸ Tryz.func60) rfl rfl rfl ?_;rw[nf_cfo];exact⟨⟨hn,rfl⟩,rfl,rfl⟩
theorem wp6(hP:C.P=Tryz.prog):wad C 42 whg:=by
 rintro args objs U Os vc h hvc;unfold whg at h;split at h<;>simp only[sI7,pI7,reduceCtorEq] at h;rename_i o p per o' p' per';obtain⟨rfl,rfl,rfl⟩:=h;refine wad.wp0 (prg hP) [(80,.det whh),(81,.det wd9),(79,.det S_or)] 0 (.cons (wtd hP) (.cons (wvm hP) (.cons (or_ok hP) .nil))) (hP ▸ Tryz.func42) rfl rfl rfl ?_;rw[w0u,wqi];have three:∀ {p:Nat->Prop},p 0->p 1->p 2->∀i,i<3->p i:=λh0 h1 h2 i hi=>by
  match i,hi with
  |0,_=>exact h0
  |1,_=>exact h1
  |2,_=>exact h2
 exact⟨trivial,trivial,trivial,⟨by omega,rfl,by omega⟩,three rfl rfl rfl,⟨rfl,rfl,rfl,by omega,three rfl rfl rfl⟩,three rfl rfl rfl,rfl,rfl⟩
theorem ws1(hP:C.P=Tryz.prog):wa8 C 43 wh2:=by
 rintro args objs R h;unfold wh2 at h;split at h
 ·rename_i n t m f fr;obtain⟨rfl,rfl,rfl,hn,hf,hR⟩:=h;generalize slOf f=g at *;subst hf;have hS:=waw.sortK (C:=C) slC 3 (λ_=>rfl) (λx u hu=>by
    simp only[slC,List.mem_cons,List.not_mem_nil,or_false] at hu
    rcases hu with rfl | rfl | rfl<;>rfl) ordS (t:=78) (fS:=43) (g:=42)
   ⟨_,hP ▸ Tryz.func43,rfl,by decide⟩
   (λblk cap d w h1 h2 h3 h4=>by
    rw[hP] at h1 ⊢;exact AnyQ.slices_SortFunc Tryz.sort43 3 Tryz.isAgg78 Tryz.sizeOf78 _ (λ_=>rfl) (λx v hv=>by
     simp only[encV,slC,List.map_cons,List.map_nil,List.mem_cons,List.not_mem_nil,or_false] at hv
     rcases hv with rfl | rfl | rfl<;>rfl) ordS (swo_of wb0) 42 #[] blk 0 cap d w (enters_of Tryz.func42 (by kernel_rfl) rfl) h1 h2 h3 h4)
   (λp cap fv w=>by
    rw[hP];exact AnyF.slices_SortFunc_none Tryz.sort43 p cap fv w)
   (λx y=>wp6 (C:=Ctx.bare C.P C.mixed) hP _ _ _ _ _ rfl trivial) g (n:=n) (by omega)
  refine hS.mono ?_;rintro u O ⟨rfl,f',hp,hs,rfl⟩;exact hR f' hp hs
 ·exact h.elim
theorem w5n(hP:C.P=Tryz.prog):wad C 40 wnz:=by
 rintro args objs U Os vc h hvc;unfold wnz at h;split at h<;>cases h;rename_i o p per day st pr rep;have hn:=w2l ⟨o,p,per,day,st,pr,rep⟩;dsimp only at hn;refine wad.wp0 (prg hP) [] 0 .nil (hP ▸ Tryz.func40) rfl rfl rfl ?_;rw[hn];unfold finB;exact wag (λq=>by rw[decide_eq_true q];exact⟨rfl,rfl⟩) (λq=>by rw[decide_eq_false q];exact⟨rfl,rfl⟩)
end Go.Eng
namespace Go.Eng
open Go.Proofs Go.RowKit
variable {C:Ctx} [C.Loose]
set_option maxRecDepth 20000
theorem w06(g:Nat->MG)(n:Nat)(R:oR7):wpFn te [(76,.det wfk),(90,.det whz),(91,.rel woq)] [] 0 Tryz.f58 [.view 15 n (waa g)] [] R=(letI z0:=mrgL (mgOf (waa g)) n noM 0;letI z3:=mgOf (waa (atM z0));letI z2:=(∀(i:Nat),i<z0.length->true=true:Prop);letI z1:=(List.map (λ(p:AV×AV)=>(AV.rn (idxN [0,32,16]) p.1,AV.rn (idxN [0,32,16]) p.2)) (List.map (λ(p:AV×AV)=>(AV.rn (sig [0] 16) p.1,AV.rn (sig [0] 16) p.2)) (entM (cntL z3 z0.length))));(n<=100000/\waa g=waa (mgOf (waa g))/\∀(i:Nat),i<n->MG.Sm (mgOf (waa g) i))/\z2/\z2/\(47=47/\false=false/\z0.length=z0.length/\z0.length<=1000000/\waa (atM z0)=waa z3)/\z2/\z2/\47=47/\126=126/\false=false/\z0.length=z0.length/\z0.length<=1000000/\waa (atM z0)=waa z3/\EsOK z1/\∀(k:Nat) (h:Nat->MG),lst h k=kpL z1 z3 z0.length->(∀(i:Nat),i<k->true=true)/\(∀(i:Nat),i<k->true=true)/\∃(O':oL7),wac [(0,.row 47 15 k (waa h) false)] O'/\R (.own 0 k) O'):=by kernel_rfl
theorem wqt(hP:C.P=Tryz.prog)(hL:∀w,C.laid w->LaidW w):wad C 76 wfk:=by
 rintro args objs U Os vc h hvc;unfold wfk at h;split at h<;>cases h;rename_i n f;obtain⟨hn,hf,hs⟩:=hvc;refine waw.nilArg 15 (waa noM) ?_;exact mrg_ok hP hL _ _ _ _ _ rfl ⟨hn,zL7 _,hf,rfl,hs,λi hi=>absurd hi (nZ7 i)⟩
theorem w59(L:List ((List UInt8×Int)×Int))(x:MG):cntE (entM L) x=getC L (mk2 x):=by
 unfold cntE;have F1:Option.getD (mget (entM L) (.agg [.str x.dev,.q x.seq])) (.q 0)= .q (getC L (mk2 x)):=wis (mk2 x) L;rw[F1];rfl
theorem wfu(g:Nat->MG)(n:Nat)(h:Nat->MG)(m:Nat):(mrgL g n h m).length<=n+m:=by
 have:=wuq (lst g n++lst h m);have e:(lst g n++lst h m).length=n+m:=by simp[lst]
 unfold mrgL;omega
theorem wzb(hP:C.P=Tryz.prog)(hL:∀w,C.laid w->LaidW w):wad C 58 wda:=by
 rintro args objs U Os vc h hvc;unfold wda at h;split at h<;>cases h;rename_i n f;obtain⟨hn,hf,hs⟩:=hvc;generalize mgOf f=g at *;subst hf;refine waw.frzO 0 ?_;refine wa8.wpL (prg hP) [(76,.det wfk),(90,.det whz),(91,.rel woq)] [] 0 (.cons (wqt hP hL) (.cons (wwr hP) (.cons (delF_ok hP) .nil))) (hP ▸ Tryz.func58) rfl rfl rfl [] (by kernel_rfl) trivial ?_;rw[w06]
 repeat rw[wcy]
 have hlen:=wfu g n noM 0;have hM:mrgL (mgOf (waa g)) n noM 0=mrgL g n noM 0:=rfl;have hR:wae g n=(mrgL g n noM 0).filter λx=> !decide (1<numC (atM (mrgL g n noM 0)) (mk2 x) (mrgL g n noM 0).length):=rfl;rw[hM];generalize mrgL g n noM 0=M at *;refine⟨⟨hn,rfl,hs⟩,λ_ _=>rfl,λ_ _=>rfl,⟨rfl,rfl,rfl,by omega,rfl⟩,λ_ _=>rfl,λ_ _=>rfl,rfl,rfl,rfl,rfl,by omega,rfl,⟨cntL (atM M) M.length,rfl,wlt _ _⟩,λk h hd=>?_⟩;have hd:lst h k=kpL (entM (cntL (atM M) M.length)) (atM M) M.length:=hd;have e:kpL (entM (cntL (atM M) M.length)) (atM M) M.length=wae g n:=by
  unfold kpL;rw[wds,hR];refine List.filter_congr λx _=>?_;unfold delF;rw[w59,wla]
 rw[e] at hd;generalize wae g n=L at *;obtain⟨rfl,hat⟩:=wu3 hd;refine⟨λ_ _=>rfl,λ_ _=>rfl,[(0,.row 47 15 L.length (waa (atM L)) false)],⟨⟨rfl,rfl,rfl,rfl,rfl,λi hi=>?_⟩,trivial⟩,λ_ _=>rfl,?_⟩
 ·unfold waa;rw[hat i hi]
 ·have hb:Nat.ble L.length L.length=true:=Nat.ble_eq_true_of_le (lR7 _)
  constructor
  ·simp[frzC,frzA,frz,hb]
  ·rfl
theorem nf_cand(o p:List UInt8)(per:Int)(g:Nat->MG)(n:Nat)(R:oR7):wpFn te [] [(3,wfo o p per g n)] 0 Tryz.f59 [.view 15 n (waa g),.str o,.str p,.q per] [] R=(letI z0:=canL o p per g n;(TEq [(1,.str o),(2,.str p),(3,.q per),(9,.own 0 0),(13,.view 15 n (waa g)),(14,.q (n:Int)),(15,.q 0)] [(1,.str o),(2,.str p),(3,.q per),(9,.own 0 0),(13,.view 15 n (waa g)),(14,.q (n:Int)),(15,.q (↑0:Int))]/\wac [(0,.row 47 15 0 (λ(_x:Nat)=>[]) false)] [(0,.row 47 15 0 (waa (atM (canL o p per g 0))) false)])/\n<=1000000/\(∀(i:Nat),i<z0.length->true=true)/\∃(O':oL7),wac [(0,.row 47 15 z0.length (waa (atM z0)) false)] O'/\R (.own 0 z0.length) O'):=by kernel_rfl
theorem w25(o p:List UInt8)(per:Int)(g:Nat->MG)(n k:Nat)(P:Nat->Prop)(R:eR7):wat ⟨te,[],[],0,68,0⟩ (wav Tryz.f59 3) [1,2,3,9,13,14,15] [9] [] (wgh o p per g n) P R (wgh o p per g n k)=(letI z8:=(15<=16777216/\15=15/\1<=9223372036854775807:Prop);letI z5:=canL o p per g k;letI z7:=z5.length;letI z9:=([(0,.row 47 15 z7 (waa (atM z5)) false)]:oL7);letI z4:=(g (k:Int).toNat);letI z3:=(z7:Int);letI z6:=(z3 - (1:Int));letI z2:=(war (TI.sz wde) (.str z4.dev:: .q z4.seq:: .q z4.kind:: .str z4.v.o:: .str z4.v.p:: .q z4.v.per:: .q z4.v.day:: .q z4.v.st:: .q z4.v.pr:: .str z4.v.rep:: .str z4.d.o:: .str z4.d.p:: .q z4.d.per:: .str z4.d.dev:: .q z4.d.num::List.append [] wbn));letI z1:=(z8/\((1<=1/\15=15)/\z5.length<=z5.length/\15=15/\47=47/\15=15/\z5.length+1<=9223372036854775807/\(z5.length+1) * TI.bytes wde<=140737488355328)/\inR .i64 ((k:Int)+1)/\∃(i':Nat),(TEq [(1,.str o),(2,.str p),(3,.q per),(9,.own 0 (z5.length+1)),(13,.view 15 n (waa g)),(14,.q (n:Int)),(15,.q ((k:Int)+1))] [(1,.str o),(2,.str p),(3,.q per),(9,.own 0 (canL o p per g i').length),(13,.view 15 n (waa g)),(14,.q (n:Int)),(15,.q (i':Int))]/\wac [(0,.row 47 15 (z5.length+1) (apF z7 (waa (atM z5)) z2) false)] [(0,.row 47 15 (canL o p per g i').length (waa (atM (canL o p per g i'))) false)])/\P i':Prop);letI z0:=(inR .i64 ((k:Int)+1)/\∃(i':Nat),(TEq [(1,.str o),(2,.str p),(3,.q per),(9,.own 0 z7),(13,.view 15 n (waa g)),(14,.q (n:Int)),(15,.q ((k:Int)+1))] [(1,.str o),(2,.str p),(3,.q per),(9,.own 0 (canL o p per g i').length),(13,.view 15 n (waa g)),(14,.q (n:Int)),(15,.q (i':Int))]/\wac z9 [(0,.row 47 15 (canL o p per g i').length (waa (atM (canL o p per g i'))) false)])/\P i');wab (decide ((k:Int)<(n:Int))) (((0:Int)<=(k:Int)/\(k:Int)<(n:Int)/\15=15)/\wab (!decide (z4.kind=1)) z0 (wab (!decide (z4.v.o=o)) z0 (wab (!decide (z4.v.p=p)) z0 (wab (!decide (z4.v.per=per)) z0 (wab (decide ((0:Int)<z3)) (inR .i64 z6/\((0:Int)<=z3 - (1:Int)/\z3 - (1:Int)<z3)/\(z6.toNat<z5.length/\15=15)/\wab (decide ((atM z5 z6.toNat).dev=z4.dev)) (inR .i64 z6/\((0:Int)<=z3 - (1:Int)/\z3 - (1:Int)<=z3)/\z8/\((1<=1/\15=15)/\z6.toNat<=z5.length/\15=15/\47=47/\15=15/\z6.toNat+1<=9223372036854775807/\(z6.toNat+1) * TI.bytes wde<=140737488355328)/\inR .i64 ((k:Int)+1)/\∃(i':Nat),(TEq [(1,.str o),(2,.str p),(3,.q per),(9,.own 0 (z6.toNat+1)),(13,.view 15 n (waa g)),(14,.q (n:Int)),(15,.q ((k:Int)+1))] [(1,.str o),(2,.str p),(3,.q per),(9,.own 0 (canL o p per g i').length),(13,.view 15 n (waa g)),(14,.q (n:Int)),(15,.q (i':Int))]/\wac [(0,.row 47 15 (z6.toNat+1) (apF z6.toNat (waa (atM z5)) z2) false)] [(0,.row 47 15 (canL o p per g i').length (waa (atM (canL o p per g i'))) false)])/\P i') z1) z1))))) ((∀(i:Nat),i<z5.length->true=true)/\∃(O':oL7),wac z9 O'/\R (.exit 0) (St.mk [(9,.own 0 z7)] O' 1 []))):=by kernel_rfl
theorem snocM{L:List MG}{m:MG}{t:Nat}(ht:t<=L.length)(ch:Nat->List AV)(hch:ch 0=mgC m)(j:Nat)(hj:j<t+1):apF t (waa (atM L)) ch j=waa (atM (L.take t++[m])) j:=by
 have hl:(L.take t).length=t:=by simp[ht]
 unfold apF
 by_cases h:j<t
 ·rw[if_pos h];have e:atM (L.take t++[m]) j=atM L j:=by
   unfold atM;rw[List.getD_eq_getElem?_getD,List.getD_eq_getElem?_getD,List.getElem?_append_left (by omega),List.getElem?_take,if_pos h]
  unfold waa;rw[e]
 ·have:j=t:=by omega
  subst this;rw[if_neg h,Nat.sub_self,hch];have e:atM (L.take j++[m]) j=m:=by
   unfold atM;rw[List.getD_eq_getElem?_getD,List.getElem?_append_right (by omega),hl,Nat.sub_self];rfl
  unfold waa;rw[e];rfl
theorem wyb(L:List MG)(m:MG):(stpC L m).length<=L.length+1:=by
 unfold stpC
 cases decide (0<L.length) && decide ((atM L (L.length - 1)).dev=m.dev) with
 |true=>simp
 |false=>simp
theorem wje(o p:List UInt8)(per:Int)(g:Nat->MG):∀k,(canL o p per g k).length<=k
 |0=>lR7 _
 |k+1=>by
  have ih:=wje o p per g k;rw[canL]
  cases selF o p per (g k) with
  |true=>have:=wyb (canL o p per g k) (g k);show (stpC _ _).length<=_;omega
  |false=>show (canL o p per g k).length<=_;omega
theorem w6a(hP:C.P=Tryz.prog)(o p:List UInt8)(per:Int)(g:Nat->MG)(n:Nat):wah C 0 68 (wai Tryz.f59 3) (wfo o p per g n):=by
 have _:C.Loose:=inferInstance;rintro st Q ⟨h0,hn,hQ⟩;refine AWP.ownNil 9 47 15 ?_;refine wah.mk (prg hP) [] 0 .nil [1,2,3,9,13,14,15] [9] [] (wgh o p per g n) (λk=>k<=n) (λk=>n - k) 0 (zL7 _) h0 (λk hk=>?_) (λi=>⟨λ_ _=>rfl,trivial⟩);have hlen:=wje o p per g k;rw[w25,tN7];have skip:selF o p per (g k)=false->canL o p per g (k+1)=canL o p per g k:=λh=>by rw[canL,h];rfl
 have go:selF o p per (g k)=true->canL o p per g (k+1)=stpC (canL o p per g k) (g k):=λh=>by rw[canL,h];rfl
 generalize hC:canL o p per g k=L at *;have no:k<n->selF o p per (g k)=false->inR .i64 ((k:Int)+1)/\∃i':Nat,(TEq [(1,.str o),(2,.str p),(3,.q per),(9,.own 0 L.length),(13,.view 15 n (waa g)),(14,.q (n:Int)),(15,.q ((k:Int)+1))] [(1,.str o),(2,.str p),(3,.q per),(9,.own 0 (canL o p per g i').length),(13,.view 15 n (waa g)),(14,.q (n:Int)),(15,.q (i':Int))]/\
   wac [(0,.row 47 15 L.length (waa (atM L)) false)] [(0,.row 47 15 (canL o p per g i').length (waa (atM (canL o p per g i'))) false)])/\(i'<=n/\n - i'<n - k):=λhk' h=>by
  refine⟨by simp only[inR];omega,k+1,?_,by omega,by omega⟩;rw[skip h];exact⟨rfl,rQ7,trivial⟩
 refine wag (λh1=>⟨⟨by omega,by omega,rfl⟩,wax (λq=>no (by omega) (by unfold selF;rw[decide_eq_false q];rfl)) (λq1=>wax (λq=>no (by omega) (by unfold selF;rw[decide_eq_true q1,decide_eq_false q];rfl)) (λq2=>wax (λq=>no (by omega) (by unfold selF;rw[decide_eq_true q1,decide_eq_true q2,decide_eq_false q];rfl)) (λq3=>wax (λq=>no (by omega) (by unfold selF;rw[decide_eq_true q1,decide_eq_true q2,decide_eq_true q3,decide_eq_false q];rfl)) (λq4=>?_))))⟩) (λh1=>?_)
 ·have hg:=go (by unfold selF;rw[decide_eq_true q1,decide_eq_true q2,decide_eq_true q3,decide_eq_true q4];rfl);have app:canL o p per g (k+1)=L++[g k]->∀ch:Nat->List AV,ch 0=mgC (g k)->∃i':Nat,(TEq [(1,.str o),(2,.str p),(3,.q per),(9,.own 0 (L.length+1)),(13,.view 15 n (waa g)),(14,.q (n:Int)),(15,.q ((k:Int)+1))] [(1,.str o),(2,.str p),(3,.q per),(9,.own 0 (canL o p per g i').length),(13,.view 15 n (waa g)),(14,.q (n:Int)),(15,.q (i':Int))]/\
    wac [(0,.row 47 15 (L.length+1) (apF L.length (waa (atM L)) ch) false)] [(0,.row 47 15 (canL o p per g i').length (waa (atM (canL o p per g i'))) false)])/\(i'<=n/\n - i'<n - k):=λe ch hch=>by
   refine⟨k+1,?_,by omega,by omega⟩;rw[e,lA7];refine⟨rfl,⟨rfl,rfl,rfl,rfl,rfl,λj hj=>?_⟩,trivial⟩;have:=snocM (lR7 L.length) ch hch j hj;rw[List.take_length] at this;exact this
  refine wag (λr1=>?_) (λr1=>?_)
  ·have e1:((L.length:Int) - 1).toNat=L.length - 1:=by omega
   rw[e1];refine⟨by simp only[inR];omega,⟨by omega,by omega⟩,⟨by omega,rfl⟩,wag (λr2=>?_) (λr2=>?_)⟩
   ·have e:canL o p per g (k+1)=L.take (L.length - 1)++[g k]:=by rw[hg,stpC,decide_eq_true (show 0<L.length by omega),decide_eq_true r2];rfl
    have hl:(L.take (L.length - 1)).length=L.length - 1:=by simp
    refine⟨by simp only[inR];omega,⟨by omega,by omega⟩,⟨by omega,rfl,by omega⟩,⟨⟨lR7 _,rfl⟩,by omega,rfl,rfl,rfl,by omega,?_⟩,by simp only[inR];omega,k+1,?_,by omega,by omega⟩
    ·show (L.length - 1+1) * 176<=_;omega
    ·rw[e,lA7,hl];exact⟨rfl,⟨rfl,rfl,rfl,rfl,rfl,λj hj=>snocM (by omega) _ rfl j hj⟩,trivial⟩
   ·have e:canL o p per g (k+1)=L++[g k]:=by rw[hg,stpC,decide_eq_false r2,Bool.and_false];rfl
    refine⟨⟨by omega,rfl,by omega⟩,⟨⟨lR7 _,rfl⟩,lR7 _,rfl,rfl,rfl,by omega,?_⟩,by simp only[inR];omega,app e _ rfl⟩;show (L.length+1) * 176<=_;omega
  ·have e:canL o p per g (k+1)=L++[g k]:=by rw[hg,stpC,decide_eq_false (show ¬ 0<L.length by omega)];rfl
   refine⟨⟨by omega,rfl,by omega⟩,⟨⟨lR7 _,rfl⟩,lR7 _,rfl,rfl,rfl,by omega,?_⟩,by simp only[inR];omega,app e _ rfl⟩;show (L.length+1) * 176<=_;omega
 ·have:k=n:=by omega
  subst this;rw[hC] at hQ;exact⟨λ_ _=>rfl,_,waz _,hQ⟩
theorem cand_ok(hP:C.P=Tryz.prog):wad C 59 woa:=by
 rintro args objs U Os vc h hvc;unfold woa at h;split at h<;>cases h;rename_i n f o p per;obtain⟨hn,hf⟩:=hvc;generalize mgOf f=g at *;subst hf;refine waw.frzO 0 ?_;refine wa8.wpL (prg hP) [] [(3,wfo o p per g n)] 0 .nil (hP ▸ Tryz.func59) rfl rfl rfl [(wai Tryz.f59 3,wfo o p per g n)] (by kernel_rfl) ⟨w6a hP o p per g n,trivial⟩ ?_;rw[nf_cand];generalize canL o p per g n=L at *;refine⟨⟨rfl,⟨rfl,rfl,rfl,rfl,rfl,λi hi=>absurd hi (nZ7 i)⟩,trivial⟩,hn,λ_ _=>rfl,_,waz _,λ_ _=>rfl,?_⟩;have hb:Nat.ble L.length L.length=true:=Nat.ble_eq_true_of_le (lR7 _)
 constructor
 ·simp[frzC,frzA,frz,hb]
 ·rfl
theorem wdn(g:Nat->MG)(n:Nat):(wae g n).length<=n:=by
 have:=List.length_filter_le (λx=> !decide (1<numC (atM (mrgL g n noM 0)) (mk2 x) (mrgL g n noM 0).length)) (mrgL g n noM 0);have:=wfu g n noM 0;unfold wae;omega
theorem w2y(g:Nat->MG)(n:Nat)(R:oR7):letI z1:=mrgL g n noM 0;letI z3:=z1.length;letI z0:=mrgL (mgOf (waa g)) n noM 0;letI z4:=z0.length;letI z2:=(∀(i:Nat),i<z0.length->true=true:Prop);wpFn te [(76,.det wfk),(90,.det whz)] [(5,L_cn z1)] 0 Tryz.f75 [.view 15 n (waa g)] [] R=((n<=100000/\waa g=waa (mgOf (waa g))/\∀(i:Nat),i<n->MG.Sm (mgOf (waa g) i))/\z2/\z2/\(47=47/\false=false/\z0.length=z0.length/\z0.length<=1000000/\waa (atM z0)=waa (mgOf (waa (atM z0))))/\z2/\(TEq [(4,.map 0),(5,.own 1 0),(13,.own 2 z4),(14,.q (z4:Int)),(15,.q 0)] [(4,.map 0),(5,.own 1 0),(13,.own 2 z3),(14,.q (z3:Int)),(15,.q (↑0:Int))]/\wac [(0,.amap (List.map (λ(p:AV×AV)=>(AV.rn (ren 0 [(16,0),(32,1),(0,2)]) p.1,AV.rn (ren 0 [(16,0),(32,1),(0,2)]) p.2)) (List.map (λ(p:AV×AV)=>(AV.rn (sig [0] 16) p.1,AV.rn (sig [0] 16) p.2)) (entM (cntL (mgOf (waa (atM z0))) z4))))),(1,.row 103 2 0 (λ(_x:Nat)=>[]) false),(2,.row 47 15 z4 (waa (atM z0)) false)] [(0,.amap (entM (cntL (atM z1) z3))),(1,.row 103 2 0 (wch (atK (clnP z1 0))) false),(2,.row 47 15 z3 (waa (atM z1)) false)])/\z1.length<=100000/\(∀(i:Nat),i<(clnP z1 z3).length->true=true)/\∃(O':oL7),wac [(0,.row 103 2 (clnP z1 z3).length (wch (atK (clnP z1 z3))) false)] O'/\R (.own 0 (clnP z1 z3).length) O'):=by kernel_rfl
theorem w2x(M : List MG)(k : Nat)(P : Nat -> Prop)(R : Exit -> St -> Prop) : wat ⟨te, [(64, .det wcz)], [], 0, 46, 0⟩ (wav Tryz.f75 5) [4, 5, 13, 14, 15] [5] [] (S_cn M) P R (S_cn M k) = (letI z10 := wch (atK (clnP M k)); letI z9 := (clnP M k).length + 1; letI z6 := (atM M (↑k : Int).toNat); letI z5 := (TI.mk (TypeDesc.struct #[Field.mk "Device" (9 : TypeId) 0 false "" "" 0, Field.mk "Sequence" (3 : TypeId) 1 false "" "" 16]) 2 24 (Value.agg #[Value.string (ByteArray.mk #[]), Value.int IntKind.i64 0]) true); letI z4 := M.length; letI z7 := entM (cntL (atM M) z4); letI z3 := (clnP M k).length; letI z8 := (atK (clnP M k) ((↑z3 : Int) - (1 : Int)).toNat); letI z2 := (mget z7 (.agg [.str z6.dev, .q z6.seq])); letI z1 := (inR .i64 ((↑k : Int) + (1 : Int)) /\ ∃(i' : Nat), (TEq [(4, .map 0), (5, .own 1 z3), (13, .own 2 z4), (14, .q (↑z4 : Int)), (15, .q ((↑k : Int) + (1 : Int)))] [(4, .map 0), (5, .own 1 (clnP M i').length), (13, .own 2 z4), (14, .q (↑z4 : Int)), (15, .q (↑i' : Int))] /\ wac [(0, .amap (List.map (λ(p : AV × AV) => (AV.rn (ren 0 [(0, 0), (1, 1), (2, 2)]) p.1, AV.rn (ren 0 [(0, 0), (1, 1), (2, 2)]) p.2)) z7)), (1, .row 103 2 z3 z10 false), (2, .row 47 15 z4 (waa (atM M)) false)] [(0, .amap z7), (1, .row 103 2 (clnP M i').length (wch (atK (clnP M i'))) false), (2, .row 47 15 z4 (waa (atM M)) false)]) /\ P i'); letI z0 := ((2 <= 16777216 /\ 2 = 2 /\ 1 <= 9223372036854775807) /\ ((1 <= 1 /\ 2 = 2) /\ (clnP M k).length <= (clnP M k).length /\ 2 = 2 /\ 103 = 103 /\ 2 = 2 /\ (clnP M k).length + 1 <= 9223372036854775807 /\ z9 * TI.bytes z5 <= 140737488355328) /\ inR .i64 ((↑k : Int) + (1 : Int)) /\ ∃(i' : Nat), (TEq [(4, .map 0), (5, .own 1 z9), (13, .own 2 z4), (14, .q (↑z4 : Int)), (15, .q ((↑k : Int) + (1 : Int)))] [(4, .map 0), (5, .own 1 (clnP M i').length), (13, .own 2 z4), (14, .q (↑z4 : Int)), (15, .q (↑i' : Int))] /\ wac [(0, .amap (List.map (λ(p : AV × AV) => (AV.rn (ren 0 [(0, 0), (328, 1), (2, 2)]) p.1, AV.rn (ren 0 [(0, 0), (328, 1), (2, 2)]) p.2)) z7)), (1, .row 103 2 z9 (apF z3 z10 (war (TI.sz z5) (.str z6.dev :: .q z6.seq :: List.append [] (List.flatten (List.replicate (nat_lit 0) [.str ([]), .q 0]))))) false), (2, .row 47 15 z4 (waa (atM M)) false)] [(0, .amap z7), (1, .row 103 2 (clnP M i').length (wch (atK (clnP M i'))) false), (2, .row 47 15 z4 (waa (atM M)) false)]) /\ P i' : Prop); wab (decide ((↑k : Int) < (↑z4 : Int))) (((0 : Int) <= (↑k : Int) /\ (↑k : Int) < (↑z4 : Int)) /\ ((↑k : Int).toNat < M.length /\ 15 = 15) /\ True /\ (wa9 (Env.te (Env.mk te [(64, CSpec.det wcz)] [] 0 46 0)) 103 z7 /\ .q (way (Option.getD z2 (zvA (.q 0)))) = Option.getD z2 (zvA (.q 0))) /\ wab (decide ((1 : Int) < way (Option.getD z2 (zvA (.q 0))))) (wab (decide ((↑z3 : Int) = (0 : Int))) z0 (inR .i64 ((↑z3 : Int) - (1 : Int)) /\ ((0 : Int) <= (↑z3 : Int) - (1 : Int) /\ (↑z3 : Int) - (1 : Int) < (↑z3 : Int)) /\ (((↑z3 : Int) - (1 : Int)).toNat < (clnP M k).length /\ 2 = 2) /\ wab (!(decide (z8.1 = z6.dev) && decide (z8.2 = z6.seq))) z0 z1)) z1) ((∀(i : Nat), i < (clnP M k).length -> true = true) /\ ∃(O' : List (Nat × AObj)), wac [(0, .row 103 2 z3 z10 false)] O' /\ R (.exit 0) (St.mk [(5, .own 0 z3)] O' 1 []))) := by kernel_rfl
theorem cn_loop(hP:C.P=Tryz.prog)(M:List MG):wah C 0 46 (wai Tryz.f75 5) (L_cn M):=by
 rintro st Q ⟨h0,hn,hQ⟩;refine AWP.ownNil 5 103 2 ?_;refine wah.mk (prg hP) [(64,.det wcz)] 0 (.cons (wkp hP) .nil) [4,5,13,14,15] [5] [] (S_cn M) (λk=>k<=M.length) (λk=>M.length - k) 0 (zL7 _) h0 (λk hk=>?_) (λi=>⟨λ_ _=>rfl,λ_ _=>rfl,trivial⟩);rw[w2x,tN7];have hlen:=wlw M k;have F1:Option.getD (mget (entM (cntL (atM M) M.length)) (.agg [.str (atM M k).dev,.q (atM M k).seq])) (.q 0)= .q (getC (cntL (atM M) M.length) (mk2 (atM M k))):=wis (mk2 (atM M k)) _;rw[wla] at F1;have zz:zvA (.q 0)= .q 0:=rfl;have e1:(((clnP M k).length:Int) - 1).toNat=(clnP M k).length - 1:=by omega
 simp only[zz,F1,way,e1,wcy];have K1:=wlp (wlt (atM M) M.length);have step:clnP M (k+1)=bif decide (1<numC (atM M) (mk2 (atM M k)) M.length) && (decide ((clnP M k).length=0) || !smK (atK (clnP M k) ((clnP M k).length - 1)) (mk2 (atM M k))) then clnP M k++[mk2 (atM M k)] else clnP M k:=rfl
 have no:clnP M (k+1)=clnP M k->k<M.length->inR .i64 ((k:Int)+1)/\∃i':Nat,(TEq [(4,.map 0),(5,.own 1 (clnP M k).length),(13,.own 2 M.length),(14,.q (M.length:Int)),(15,.q ((k:Int)+1))] [(4,.map 0),(5,.own 1 (clnP M i').length),(13,.own 2 M.length),(14,.q (M.length:Int)),(15,.q (i':Int))]/\
   wac [(0,.amap (entM (cntL (atM M) M.length))),(1,.row 103 2 (clnP M k).length (wch (atK (clnP M k))) false),(2,.row 47 15 M.length (waa (atM M)) false)] [(0,.amap (entM (cntL (atM M) M.length))),(1,.row 103 2 (clnP M i').length (wch (atK (clnP M i'))) false),(2,.row 47 15 M.length (waa (atM M)) false)])/\(i'<=M.length/\M.length - i'<M.length - k):=λh hk'=>by
  refine⟨by simp only[inR];omega,k+1,?_,by omega,by omega⟩;rw[h];exact⟨rfl,rfl,rQ7,rQ7,trivial⟩
 refine wag (λh1=>?_) (λh1=>?_)
 ·have hk':k<M.length:=by omega
  refine⟨⟨by omega,by omega⟩,⟨by omega,trivial⟩,trivial,⟨K1,trivial⟩,wag (λh2=>wag (λh3=>?_) (λh3=>⟨by simp only[inR];omega,⟨by omega,by omega⟩,⟨by omega,trivial⟩,wcb (λh4=>?_) (λh4=>?_)⟩)) (λh2=>?_)⟩
  ·have h:clnP M (k+1)=clnP M k++[mk2 (atM M k)]:=by rw[step,decide_eq_true h2,decide_eq_true (show (clnP M k).length=0 by omega)];rfl
   refine⟨⟨by omega,trivial,by omega⟩,⟨⟨lR7 _,trivial⟩,lR7 _,trivial,trivial,trivial,by omega,?_⟩,by simp only[inR];omega,k+1,?_,by omega,by omega⟩
   ·show ((clnP M k).length+1) * 24<=_;omega
   ·rw[h,lA7];exact⟨rfl,rfl,⟨rfl,rfl,rfl,rfl,rfl,λj hj=>wj8 (λx:List UInt8×Int=>[AV.str x.1,.q x.2]) (clnP M k) (mk2 (atM M k)) _ rfl j hj⟩,rQ7,trivial⟩
  ·have h:clnP M (k+1)=clnP M k++[mk2 (atM M k)]:=by
    rw[step,decide_eq_true h2,show smK (atK (clnP M k) ((clnP M k).length - 1)) (mk2 (atM M k))=false from h4];simp
   refine⟨⟨by omega,trivial,by omega⟩,⟨⟨lR7 _,trivial⟩,lR7 _,trivial,trivial,trivial,by omega,?_⟩,by simp only[inR];omega,k+1,?_,by omega,by omega⟩
   ·show ((clnP M k).length+1) * 24<=_;omega
   ·rw[h,lA7];exact⟨rfl,rfl,⟨rfl,rfl,rfl,rfl,rfl,λj hj=>wj8 (λx:List UInt8×Int=>[AV.str x.1,.q x.2]) (clnP M k) (mk2 (atM M k)) _ rfl j hj⟩,rQ7,trivial⟩
  ·exact no (by rw[step,decide_eq_true h2,decide_eq_false (show ¬ (clnP M k).length=0 by omega),show smK (atK (clnP M k) ((clnP M k).length - 1)) (mk2 (atM M k))=true from h4];rfl) hk'
  ·exact no (by rw[step,decide_eq_false h2];rfl) hk'
 ·have:k=M.length:=by omega
  subst this;exact⟨λ_ _=>trivial,_,waz _,hQ⟩
theorem w6f(hP:C.P=Tryz.prog)(hL:∀w,C.laid w->LaidW w):wad C 75 wn5:=by
 rintro args objs U Os vc h hvc;unfold wn5 at h;split at h<;>cases h;rename_i n f;obtain⟨hn,hf,hs⟩:=hvc;generalize mgOf f=g at *;subst hf;refine waw.frzO 0 ?_;refine wa8.wpL (prg hP) [(76,.det wfk),(90,.det whz)] [(5,L_cn (mrgL g n noM 0))] 0 (.cons (wqt hP hL) (.cons (wwr hP) .nil)) (hP ▸ Tryz.func75) rfl rfl rfl [(wai Tryz.f75 5,L_cn (mrgL g n noM 0))] (by kernel_rfl) ⟨cn_loop hP _,trivial⟩ ?_;rw[w2y]
 repeat rw[wcy]
 have h1:=wfu g n noM 0;have h2:=wlw (mrgL g n noM 0) (mrgL g n noM 0).length;refine⟨⟨hn,rfl,hs⟩,λ_ _=>rfl,λ_ _=>rfl,⟨rfl,rfl,rfl,by show (mrgL g n noM 0).length<=_;omega,rfl⟩,λ_ _=>rfl,⟨rfl,rfl,⟨rfl,rfl,rfl,rfl,rfl,λi hi=>absurd hi (nZ7 i)⟩,rQ7,trivial⟩,by omega,λ_ _=>rfl,_,waz _,?_⟩;show frzO _ _ _ _;unfold wcc;generalize clnP (mrgL g n noM 0) (mrgL g n noM 0).length=L;refine⟨λ_ _=>rfl,?_⟩;have hb:Nat.ble L.length L.length=true:=Nat.ble_eq_true_of_le (lR7 _)
 constructor
 ·simp[frzC,frzA,frz,hb]
 ·rfl
end Go.Eng
