/- collection.Candidates. -/
import Derived.Test.YtmcdngcjakjnmaaGreatDoorJrw
namespace Go.Eng
open Go.Proofs Go.RowKit
variable {C:Ctx} [C.Loose]
set_option maxRecDepth 20000
theorem wyk(m:MG)(es:List (AV×AV))(R:oR7):wpFn te [(64,.det wdk)] [] 0 Tryz.f92 [.agg [.str m.dev,.q m.seq,.q m.kind,.str m.v.o,.str m.v.p,.q m.v.per,.q m.v.day,.q m.v.st,.q m.v.pr,.str m.v.rep,.str m.d.o,.str m.d.p,.q m.d.per,.str m.d.dev,.q m.d.num],.ptr 0 0] [.cells [.map 1] 126,.amap es] R=(letI z1:=(ren (List.length [AObj.cells [.map 1] (126:TypeId),.amap es]) []);letI z0:=mget es (.agg [.str m.dev,.q m.seq]);True/\(wa5 te 103 es/\.q (wau (Option.getD z0 (zvA (.q 0))))=Option.getD z0 (zvA (.q 0)))/\R (.bool (decide ((1:Int)<wau (Option.getD z0 (zvA (.q 0)))))) [(0,.cells [.map 1] 126),(1,.amap (List.map (λ(p:AV×AV)=>(AV.rn z1 p.1,AV.rn z1 p.2)) es))]):=by kernel_rfl
theorem nf_ixr(es:List (AV×AV))(g:Nat->MG)(n:Nat)(R:oR7):wpFn te [(92,.det wep)] [(2,wng es g n)] 0 Tryz.f62 [.own 0 n,.func 92 [.ptr 1 0]] [.row 47 15 n (waa g) false,.cells [.map 2] 126,.amap es] R=(letI z1:=(ren (List.length [AObj.row (47:TypeId) 15 n (waa g) false,.cells [.map 2] (126:TypeId),.amap es]) []);letI z0:=([(0,.row 47 15 n (waa g) false),(1,.cells [.map 2] 126),(List.length [AObj.cells [.map 2] (126:TypeId),.amap es],.amap (List.map (λ(p:AV×AV)=>(AV.rn z1 p.1,AV.rn z1 p.2)) es))]:oL7);(TEq [(0,.own 0 n),(1,.func 92 [.ptr 1 0]),(7,.q (n:Int)),(8,.q 0)] [(0,.own 0 n),(1,.func 92 [.ptr 1 0]),(7,.q (n:Int)),(8,.q (↑0:Int))]/\wad [(0,.row 47 15 n (waa g) false),(1,.cells [.map 2] 126),(2,.amap (List.map (λ(p:AV×AV)=>(AV.rn (ren 3 []) p.1,AV.rn (ren 3 []) p.2)) es))] [(0,.row 47 15 n (waa g) false),(1,.cells [.map 2] 126),(2,.amap es)])/\n<=1000000/\EsOK es/\wab (decide (fstB (λ(i:Nat)=>delF es (g i)) n<n)) ((∀(i:Nat),i<n->true=true)/\∃(O':oL7),wad z0 O'/\R (.q (↑(fstB (λ(i:Nat)=>delF es (g i)) n):Int)) O') ((∀(i:Nat),i<n->true=true)/\∃(O':oL7),wad z0 O'/\R (.q (-1:Int)) O')):=by kernel_rfl
theorem wzc(es:List (AV×AV))(g:Nat->MG)(n k:Nat)(P:Nat->Prop)(R:eR7):wav ⟨te,[(92,.det wep)],[],3,19,0⟩ (wax Tryz.f62 2) [0,1,7,8] [] [4] (wlx es g n) P R (wlx es g n k)=(letI z2:=(List.map (λ(p:AV×AV)=>(AV.rn (idxN [1,2]) p.1,AV.rn (idxN [1,2]) p.2)) es);letI z1:=(g (k:Int).toNat);letI z0:=([(0,.row 47 15 n (waa g) false),(1,.cells [.map 2] 126),(2,.amap (List.map (λ(p:AV×AV)=>(AV.rn (ren 3 []) p.1,AV.rn (ren 3 []) p.2)) (List.map (λ(p:AV×AV)=>(AV.rn (sig [1,2] 3) p.1,AV.rn (sig [1,2] 3) p.2)) z2)))]:oL7);wab (decide ((k:Int)<(n:Int))) (((0:Int)<=(k:Int)/\(k:Int)<(n:Int))/\((k:Int).toNat<n/\15=15)/\(126=126/\EsOK z2)/\wab (delF z2 (MG.mk z1.dev z1.seq z1.kind (VT.mk z1.v.o z1.v.p z1.v.per z1.v.day z1.v.st z1.v.pr z1.v.rep) (DT.mk z1.d.o z1.d.p z1.d.per z1.d.dev z1.d.num))) ((∀(i:Nat),i<n->true=true)/\∃(O':oL7),wad z0 O'/\R .ret (St.mk [(4,.q (k:Int))] O' 3 [])) (inR .i64 ((k:Int)+1)/\∃(i':Nat),(TEq [(0,.own 0 n),(1,.func 92 [.ptr 1 0]),(7,.q (n:Int)),(8,.q ((k:Int)+1))] [(0,.own 0 n),(1,.func 92 [.ptr 1 0]),(7,.q (n:Int)),(8,.q (i':Int))]/\wad z0 [(0,.row 47 15 n (waa g) false),(1,.cells [.map 2] 126),(2,.amap es)])/\P i')) ((∀(i:Nat),i<n->true=true)/\∃(O':oL7),wad [(0,.row 47 15 n (waa g) false),(1,.cells [.map 2] 126),(2,.amap (List.map (λ(p:AV×AV)=>(AV.rn (ren 3 []) p.1,AV.rn (ren 3 []) p.2)) es))] O'/\R (.exit 0) (St.mk [] O' 3 []))):=by kernel_rfl
theorem nf_df(es:List (AV×AV))(g:Nat->MG)(n:Nat)(R:oR7):wpFn te [(62,.det wl0)] [(5,L_df es g n (fstB (λi=>delF es (g i)) n))] 0 Tryz.f91 [.own 0 n,.func 92 [.ptr 1 0]] [.row 47 15 n (waa g) false,.cells [.map 2] 126,.amap es] R=(letI z7:=(fstB (λ(i:Nat)=>delF es (g i)) n);letI z4:=(∀(i:Nat),i<n->true=true:Prop);letI z2:=(CI.mk (fstB (λ(i:Nat)=>delF es (g i)) n+1) z7 g);letI z1:=(ren (List.length [AObj.row (47:TypeId) 15 n (waa g) false,.cells [.map 2] (126:TypeId),.amap es]) []);letI z0:=(List.map (λ(p:AV×AV)=>(AV.rn (idxN [0,1,2]) p.1,AV.rn (idxN [0,1,2]) p.2)) es);letI z5:=(ixB (λ(i:Nat)=>delF z0 (mgOf (waa g) i)) n+1);letI z3:=(List.map (λ(p:AV×AV)=>(AV.rn (sig [0,1,2] 3) p.1,AV.rn (sig [0,1,2] 3) p.2)) z0);z4/\(47=47/\126=126/\false=false/\n=n/\n<=1000000/\waa g=waa (mgOf (waa g))/\EsOK z0)/\z4/\wab (decide (ixB (λ(i:Nat)=>delF z0 (mgOf (waa g) i)) n=(-1:Int))) (z4/\∃(O':oL7),wad [(0,.row 47 15 n (waa g) false),(1,.cells [.map 2] 126),(List.length [AObj.cells [.map 2] (126:TypeId),.amap es],.amap (List.map (λ(p:AV×AV)=>(AV.rn z1 p.1,AV.rn z1 p.2)) z3))] O'/\R (.own 0 n) O') (inR .i64 z5/\(TEq [(0,.own 0 n),(1,.func 92 [.ptr 1 0]),(5,.q (ixB (λ(i:Nat)=>delF z0 (mgOf (waa g) i)) n)),(6,.q z5)] [(0,.own 0 n),(1,.func 92 [.ptr 1 0]),(5,.q (↑(CI.w z2):Int)),(6,.q (↑(CI.k z2):Int))]/\wad [(0,.row 47 15 n (waa g) false),(1,.cells [.map 2] 126),(2,.amap (List.map (λ(p:AV×AV)=>(AV.rn (ren 3 []) p.1,AV.rn (ren 3 []) p.2)) z3))] [(0,.row 47 15 n (waa (CI.h z2)) false),(1,.cells [.map 2] 126),(2,.amap es)])/\(fstB (λ(i:Nat)=>delF es (g i)) n<n/\n<=1000000)/\EsOK es/\(∀(j:Nat),j<fstB (λ(i:Nat)=>delF es (g i)) n->delF es (g j)=false)/\delF es (g z7)=true/\∀(w:Nat) (h:Nat->MG),letI z6:=((0:Int)<=(w:Int)/\(w:Int)<=(n:Int):Prop);w<=n->lst h w=kpL es g n->z6/\(w:Int).toNat<=n/\z6/\(∀(i:Nat),i<(w:Int).toNat->true=true)/\∃(O':oL7),wad [(0,.row 47 15 (w:Int).toNat (waa h) false),(1,.cells [.map 2] 126),(List.length [AObj.cells [.map 2] (126:TypeId),.amap es],.amap (List.map (λ(p:AV×AV)=>(AV.rn z1 p.1,AV.rn z1 p.2)) es))] O'/\R (.own 0 (w:Int).toNat) O')):=by kernel_rfl
theorem wzr(es:List (AV×AV))(n:Nat)(i:CI)(P:CI->Prop)(R:eR7):wav ⟨te,[(92,.det wep)],[],3,42,0⟩ (wax Tryz.f91 5) [0,1,5,6] [0,5] [] (S_df es n) P R (S_df es n i)=(letI z4:=(↑(CI.w i):Int);letI z3:=(↑(CI.k i):Int);letI z5:=(z3+1);letI z1:=(List.map (λ(p:AV×AV)=>(AV.rn (idxN [1,2]) p.1,AV.rn (idxN [1,2]) p.2)) es);letI z2:=(List.map (λ(p:AV×AV)=>(AV.rn (ren 3 []) p.1,AV.rn (ren 3 []) p.2)) (List.map (λ(p:AV×AV)=>(AV.rn (sig [1,2] 5) p.1,AV.rn (sig [1,2] 5) p.2)) z1));letI z0:=(CI.h i z3.toNat);wab (decide (z3<(n:Int))) (((0:Int)<=z3/\z3<(n:Int))/\(z3.toNat<n/\15=15)/\(126=126/\EsOK z1)/\wab (!delF z1 (MG.mk z0.dev z0.seq z0.kind (VT.mk z0.v.o z0.v.p z0.v.per z0.v.day z0.v.st z0.v.pr z0.v.rep) (DT.mk z0.d.o z0.d.p z0.d.per z0.d.dev z0.d.num))) (((0:Int)<=z4/\z4<(n:Int))/\(List.length [AV.str z0.dev,.q z0.seq,.q z0.kind,.str z0.v.o,.str z0.v.p,.q z0.v.per,.q z0.v.day,.q z0.v.st,.q z0.v.pr,.str z0.v.rep,.str z0.d.o,.str z0.d.p,.q z0.d.per,.str z0.d.dev,.q z0.d.num]=15/\z4.toNat<n/\15=15)/\inR .i64 (z4+1)/\inR .i64 z5/\∃(i':CI),(TEq [(0,.own 0 n),(1,.func 92 [.ptr 1 0]),(5,.q (z4+1)),(6,.q z5)] [(0,.own 0 n),(1,.func 92 [.ptr 1 0]),(5,.q (↑(CI.w i'):Int)),(6,.q (↑(CI.k i'):Int))]/\wad [(0,.row 47 15 n (λ(k:Nat)=>if k=Int.toNat z4 then [.str z0.dev,.q z0.seq,.q z0.kind,.str z0.v.o,.str z0.v.p,.q z0.v.per,.q z0.v.day,.q z0.v.st,.q z0.v.pr,.str z0.v.rep,.str z0.d.o,.str z0.d.p,.q z0.d.per,.str z0.d.dev,.q z0.d.num] else waa (CI.h i) k) false),(1,.cells [.map 2] 126),(2,.amap z2)] [(0,.row 47 15 n (waa (CI.h i')) false),(1,.cells [.map 2] 126),(2,.amap es)])/\P i') (inR .i64 z5/\∃(i':CI),(TEq [(0,.own 0 n),(1,.func 92 [.ptr 1 0]),(5,.q z4),(6,.q z5)] [(0,.own 0 n),(1,.func 92 [.ptr 1 0]),(5,.q (↑(CI.w i'):Int)),(6,.q (↑(CI.k i'):Int))]/\wad [(0,.row 47 15 n (waa (CI.h i)) false),(1,.cells [.map 2] 126),(2,.amap z2)] [(0,.row 47 15 n (waa (CI.h i')) false),(1,.cells [.map 2] 126),(2,.amap es)])/\P i')) ((∀(i:Nat),i<n->true=true)/\∃(O':oL7),wad [(0,.row 47 15 n (waa (CI.h i)) false),(1,.cells [.map 2] 126),(2,.amap (List.map (λ(p:AV×AV)=>(AV.rn (ren 3 []) p.1,AV.rn (ren 3 []) p.2)) es))] O'/\R (.exit 0) (St.mk [(0,.own 0 n),(5,.q z4)] O' 3 []))):=by kernel_rfl
theorem woa(hP:C.P=Tryz.prog):wac C 92 wep:=by
 rintro args objs U Os vc h hvc;unfold wep at h;split at h<;>simp only[sI7,pI7,reduceCtorEq] at h;rename_i dev seq kind o p per day st pr rep o' p' per' dev' num t es;obtain⟨rfl,rfl,rfl⟩:=h;obtain⟨rfl,L,rfl,hnd⟩:=hvc;refine wac.wp0 (prg hP) [(64,.det wdk)] 0 (.cons (wja hP) .nil) (hP ▸ Tryz.func92) rfl rfl rfl ?_;have hn:=wyk ⟨dev,seq,kind,⟨o,p,per,day,st,pr,rep⟩,⟨o',p',per',dev',num⟩⟩ (entM L);dsimp only at hn;have zz:zvA (.q 0)= .q 0:=rfl;rw[hn,wcn,zz];have F1:Option.getD (mget (entM L) (.agg [.str dev,.q seq])) (.q 0)= .q (getC L (dev,seq)):=whf (dev,seq) L;refine⟨trivial,⟨wj6 hnd,?_⟩,rfl,rfl⟩;rw[F1];rfl
theorem w1e(hP:C.P=Tryz.prog)(es:List (AV×AV))(g:Nat->MG)(n:Nat):wah C 3 19 (waj Tryz.f62 2) (wng es g n):=by
 rintro st Q ⟨h0,hn,⟨L,rfl,hnd⟩,hQ⟩;have hR:=wbt hQ;refine wah.mk (prg hP) [(92,.det wep)] 0 (.cons (woa hP) .nil) [0,1,7,8] [] [4] (wlx (entM L) g n) (λk=>k<=n/\fstB (λi=>delF (entM L) (g i)) k=k) (λk=>n - k) 0 ⟨zL7 _,rfl⟩ h0 (λk hk=>?_) (λi=>⟨λ_ _=>rfl,trivial⟩);obtain⟨hkn,hok⟩:=hk;rw[wzc,tN7]
 repeat rw[wcn]
 refine wag (λh1=>?_) (λh1=>?_)
 ·refine⟨⟨by omega,by omega⟩,⟨by omega,rfl⟩,⟨rfl,L,rfl,hnd⟩,wam (λh2=>?_) (λh2=>⟨by simp only[inR];omega,k+1,⟨rfl,rQ7,rfl,rfl,trivial⟩,⟨by omega,weg hok h2⟩,by omega⟩)⟩;have e:=weh hok h2 n (by omega);have:=hR.1 (by rw[e,decide_eq_true];omega);rw[e] at this;exact⟨λ_ _=>rfl,_,wa0 _,this⟩
 ·have:k=n:=by omega
  subst this;exact⟨λ_ _=>rfl,_,wa0 _,hR.2 (by rw[hok,decide_eq_false];omega)⟩
theorem ixR_ok(hP:C.P=Tryz.prog):wac C 62 wl0:=by
 rintro args objs U Os vc h hvc;unfold wl0 at h;split at h<;>cases h;rename_i n t m f fr t2 es;obtain⟨rfl,rfl,rfl,rfl,hn,hf,L,rfl,hnd⟩:=hvc;generalize mgOf f=g at *;subst hf;refine wac.wpL (prg hP) [(92,.det wep)] [(2,wng (entM L) g n)] 0 (.cons (woa hP) .nil) (hP ▸ Tryz.func62) rfl rfl rfl [(waj Tryz.f62 2,wng (entM L) g n)] (by kernel_rfl) ⟨w1e hP _ g n,trivial⟩ ?_;rw[nf_ixr]
 repeat rw[wcn]
 unfold ixB;refine⟨⟨rfl,rQ7,rfl,rfl,trivial⟩,hn,⟨L,rfl,hnd⟩,wag (λh=>?_) (λh=>?_)⟩
 ·rw[decide_eq_true h];exact⟨λ_ _=>rfl,_,wa0 _,rfl,rfl⟩
 ·rw[decide_eq_false h];exact⟨λ_ _=>rfl,_,wa0 _,rfl,rfl⟩
theorem wjh(es:List (AV×AV))(g:Nat->MG)(k:Nat):kpL es g (k+1)=kpL es g k++bif delF es (g k) then [] else [g k]:=by
 unfold kpL;rw[wdv,List.filter_append]
 cases h:delF es (g k)<;>simp[h]
theorem wo6{es:List (AV×AV)}{g:Nat->MG}:∀ {k:Nat},(∀j,j<k->delF es (g j)=false)->kpL es g k=lst g k
 |0,_=>rfl
 |k+1,h=>by
  rw[wjh,wo6 λj hj=>h j (by omega),h k (by omega),wdv];rfl
theorem df_loop(hP:C.P=Tryz.prog)(es:List (AV×AV))(g:Nat->MG)(n i0:Nat):wah C 3 42 (waj Tryz.f91 5) (L_df es g n i0):=by
 rintro st Q ⟨h0,⟨hi0,hn⟩,⟨L,rfl,hnd⟩,hall,hdel,hQ⟩
 refine wah.mk (prg hP) [(92,.det wep)] 0 (.cons (woa hP) .nil) [0,1,5,6] [0,5] [] (S_df (entM L) n) (λi=>i.k<=n/\i.w<i.k/\lst i.h i.w=kpL (entM L) g i.k/\∀j,i.w<=j->i.h j=g j) (λi=>n - i.k) ⟨i0+1,i0,g⟩
  ⟨hi0,Nat.lt_succ_self _,?_,λ_ _=>rfl⟩ h0 (λi hi=>?_) (λi=>⟨λ_ _=>rfl,trivial⟩)
 ·show lst g i0=kpL (entM L) g (i0+1);rw[wjh,hdel,wo6 hall];simp
 obtain⟨k,w,h⟩:=i;obtain⟨i1,i2,i3,i4⟩:=hi;dsimp only at i1 i2 i3 i4;rw[wzr];dsimp only
 rw[tN7,tN7]
 repeat rw[wcn]
 refine wag (λh1=>?_) (λh1=>?_)
 ·have hk:k<n:=by omega
  have r1:h k=g k:=i4 _ (by omega);refine⟨⟨by omega,by omega⟩,⟨by omega,rfl⟩,⟨rfl,L,rfl,hnd⟩,wct (λq=>?_) (λq=>?_)⟩
  ·have q:delF (entM L) (h k)=false:=q;rw[r1] at q;refine⟨⟨by omega,by omega⟩,⟨rfl,by omega,rfl⟩,by simp only[inR];omega,by simp only[inR];omega,⟨k+1,w+1,λj=>if j=w then h k else h j⟩,⟨rfl,⟨rfl,rfl,rfl,rfl,rfl,λj hj=>?_⟩,rfl,rfl,trivial⟩,⟨hk,?_,?_,λj hj=>?_⟩,?_⟩
   ·unfold waa
    by_cases e:j=w
    ·simp only[e,if_true]
    ·simp only[e,if_false]
   ·show w+1<k+1;omega
   ·show lst (λj=>if j=w then h k else h j) (w+1)=kpL (entM L) g (k+1)
    have e:lst (λj=>if j=w then h k else h j) w=lst h w:=List.map_congr_left λj hj=>by
     have:=List.mem_range.1 hj;rw[if_neg (by omega)]
    rw[wdv,wjh,q,e,i3,if_pos rfl,r1];rfl
   ·have hj:w+1<=j:=hj;show (if j=w then h k else h j)=g j
    rw[if_neg (by omega)];exact i4 j (by omega)
   ·show n - (k+1)<n - k;omega
  ·have q:delF (entM L) (h k)=true:=q;rw[r1] at q;refine⟨by simp only[inR];omega,⟨k+1,w,h⟩,⟨rfl,rQ7,rfl,rfl,trivial⟩,⟨hk,?_,?_,i4⟩,?_⟩
   ·show w<k+1;omega
   ·show lst h w=kpL (entM L) g (k+1);rw[wjh,q,i3];simp
   ·show n - (k+1)<n - k;omega
 ·have:k=n:=by omega
  subst this;exact⟨λ_ _=>rfl,_,wa0 _,hQ w h (by omega) i3⟩
theorem delF_ok(hP:C.P=Tryz.prog):wbi C 91 wmy:=by
 rintro args objs R h;unfold wmy at h;split at h
 ·rename_i n t m f fr t2 es;obtain⟨rfl,rfl,rfl,rfl,hn,hf,⟨L,rfl,hnd⟩,hR⟩:=h;generalize mgOf f=g at *;subst hf;refine wbi.wpL (prg hP) [(62,.det wl0)] [(5,L_df (entM L) g n (fstB (λi=>delF (entM L) (g i)) n))] 0 (.cons (ixR_ok hP) .nil) (hP ▸ Tryz.func91) rfl rfl rfl [(waj Tryz.f91 5,L_df (entM L) g n (fstB (λi=>delF (entM L) (g i)) n))] (by kernel_rfl) ⟨df_loop hP _ g n _,trivial⟩ ?_;rw[nf_df]
  repeat rw[wcn]
  have hg:mgOf (waa g)=g:=rfl;rw[hg];obtain⟨f1,f2⟩:=wf4 (λi=>delF (entM L) (g i)) n;have fle:=wjv (λi=>delF (entM L) (g i)) n
  by_cases hlt:fstB (λi=>delF (entM L) (g i)) n<n
  ·have hix:ixB (λi=>delF (entM L) (g i)) n=(fstB (λi=>delF (entM L) (g i)) n:Int):=by unfold ixB;rw[decide_eq_true hlt];rfl
   rw[hix];have f2:=f2 hlt;generalize fstB (λi=>delF (entM L) (g i)) n=i0 at *;refine⟨λ_ _=>rfl,⟨rfl,rfl,rfl,rfl,hn,rfl,L,rfl,hnd⟩,λ_ _=>rfl,wag (λq=>absurd q (by omega)) (λ_=>⟨by simp only[inR];omega,⟨rfl,rQ7,rfl,rfl,trivial⟩,⟨hlt,hn⟩,⟨L,rfl,hnd⟩,f1,f2,λw h hw hl=>?_⟩)⟩;rw[tN7];exact⟨⟨by omega,by omega⟩,hw,⟨by omega,by omega⟩,λ_ _=>rfl,_,wa0 _,hR w h hl⟩
  ·have hix:ixB (λi=>delF (entM L) (g i)) n= -1:=by unfold ixB;rw[decide_eq_false hlt];rfl
   rw[hix];have e0:fstB (λi=>delF (entM L) (g i)) n=n:=by omega
   rw[e0] at f1;exact⟨λ_ _=>rfl,⟨rfl,rfl,rfl,rfl,hn,rfl,L,rfl,hnd⟩,λ_ _=>rfl,wag (λ_=>⟨λ_ _=>rfl,_,wa0 _,hR n g (wo6 f1).symm⟩) (λq=>absurd rfl q)⟩
 ·exact h.elim
theorem nf_rs1(m:MG)(x:VT)(R:oR7):wpFn te [] [] 0 Tryz.f61 [.agg [.str m.dev,.q m.seq,.q m.kind,.str m.v.o,.str m.v.p,.q m.v.per,.q m.v.day,.q m.v.st,.q m.v.pr,.str m.v.rep,.str m.d.o,.str m.d.p,.q m.d.per,.str m.d.dev,.q m.d.num],.ptr 0 0] [.cells [.str x.o,.str x.p,.q x.per,.q x.day,.q x.st,.q x.pr,.str x.rep] 43] R=(letI z0:=([(0,.cells [.str x.o,.str x.p,.q x.per,.q x.day,.q x.st,.q x.pr,.str x.rep] 43)]:oL7);wab (!decide (m.v.st=x.st)) (R (.bool true) z0) (wab (!decide (m.v.pr=x.pr)) (R (.bool true) z0) (R (.bool !decide (m.v.rep=x.rep)) z0))):=by kernel_rfl
theorem nf_rs2(m:MG)(x:DT)(R:oR7):wpFn te [(64,.det wdk)] [] 0 Tryz.f63 [.agg [.str m.dev,.q m.seq,.q m.kind,.str m.v.o,.str m.v.p,.q m.v.per,.q m.v.day,.q m.v.st,.q m.v.pr,.str m.v.rep,.str m.d.o,.str m.d.p,.q m.d.per,.str m.d.dev,.q m.d.num],.ptr 0 0] [.cells [.str x.o,.str x.p,.q x.per,.str x.dev,.q x.num] 45] R=(True/\R (.bool (decide (m.dev=x.dev) && decide (m.seq=x.num))) [(0,.cells [.str x.o,.str x.p,.q x.per,.str x.dev,.q x.num] 45)]):=by kernel_rfl
theorem nf_ixs1(x:VT)(g:Nat->MG)(n:Nat)(R:oR7):wpFn te [(61,.det wgk)] [(2,wnf x g n)] 0 Tryz.f62 [.view 15 n (waa g),.func 61 [.ptr 0 0]] [.cells [.str x.o,.str x.p,.q x.per,.q x.day,.q x.st,.q x.pr,.str x.rep] 43] R=(letI z0:=([(0,.cells [.str x.o,.str x.p,.q x.per,.q x.day,.q x.st,.q x.pr,.str x.rep] 43)]:oL7);some (St.mk [(0,.view 15 n (waa g)),(1,.func 61 [.ptr 0 0]),(7,.q (n:Int)),(8,.q 0)] z0 1 [])=some (St.mk [(0,.view 15 n (waa g)),(1,.func 61 [.ptr 0 0]),(7,.q (n:Int)),(8,.q (↑0:Int))] z0 1 [])/\n<=1000000/\wab (decide (fstB (λ(i:Nat)=>difF x (g i)) n<n)) (R (.q (↑(fstB (λ(i:Nat)=>difF x (g i)) n):Int)) z0) (R (.q (-1:Int)) z0)):=by kernel_rfl
theorem wzb(x:VT)(g:Nat->MG)(n k:Nat)(P:Nat->Prop)(R:eR7):wav ⟨te,[(61,.det wgk)],[],1,19,0⟩ (wax Tryz.f62 2) [0,1,7,8] [] [4] (wlw x g n) P R (wlw x g n k)=(letI z1:=(g (k:Int).toNat);letI z0:=([(0,.cells [.str x.o,.str x.p,.q x.per,.q x.day,.q x.st,.q x.pr,.str x.rep] 43)]:oL7);wab (decide ((k:Int)<(n:Int))) (((0:Int)<=(k:Int)/\(k:Int)<(n:Int)/\15=15)/\43=43/\wab (difF (VT.mk x.o x.p x.per x.day x.st x.pr x.rep) (MG.mk z1.dev z1.seq z1.kind (VT.mk z1.v.o z1.v.p z1.v.per z1.v.day z1.v.st z1.v.pr z1.v.rep) (DT.mk z1.d.o z1.d.p z1.d.per z1.d.dev z1.d.num))) (R .ret (St.mk [(4,.q (k:Int))] z0 1 [])) (inR .i64 ((k:Int)+1)/\∃(i':Nat),some (St.mk [(0,.view 15 n (waa g)),(1,.func 61 [.ptr 0 0]),(7,.q (n:Int)),(8,.q ((k:Int)+1))] z0 1 [])=some (St.mk [(0,.view 15 n (waa g)),(1,.func 61 [.ptr 0 0]),(7,.q (n:Int)),(8,.q (i':Int))] z0 1 [])/\P i')) (R (.exit 0) (St.mk [] z0 1 []))):=by kernel_rfl
theorem nf_ixs2(x:DT)(g:Nat->MG)(n:Nat)(R:oR7):wpFn te [(63,.det wgj)] [(2,wne x g n)] 0 Tryz.f62 [.view 15 n (waa g),.func 63 [.ptr 0 0]] [.cells [.str x.o,.str x.p,.q x.per,.str x.dev,.q x.num] 45] R=(letI z0:=([(0,.cells [.str x.o,.str x.p,.q x.per,.str x.dev,.q x.num] 45)]:oL7);some (St.mk [(0,.view 15 n (waa g)),(1,.func 63 [.ptr 0 0]),(7,.q (n:Int)),(8,.q 0)] z0 1 [])=some (St.mk [(0,.view 15 n (waa g)),(1,.func 63 [.ptr 0 0]),(7,.q (n:Int)),(8,.q (↑0:Int))] z0 1 [])/\n<=1000000/\wab (decide (fstB (λ(i:Nat)=>namF x (g i)) n<n)) (R (.q (↑(fstB (λ(i:Nat)=>namF x (g i)) n):Int)) z0) (R (.q (-1:Int)) z0)):=by kernel_rfl
theorem wza(x:DT)(g:Nat->MG)(n k:Nat)(P:Nat->Prop)(R:eR7):wav ⟨te,[(63,.det wgj)],[],1,19,0⟩ (wax Tryz.f62 2) [0,1,7,8] [] [4] (wlv x g n) P R (wlv x g n k)=(letI z1:=([(0,.cells [.str x.o,.str x.p,.q x.per,.str x.dev,.q x.num] 45)]:oL7);letI z0:=(g (k:Int).toNat);wab (decide ((k:Int)<(n:Int))) (((0:Int)<=(k:Int)/\(k:Int)<(n:Int)/\15=15)/\45=45/\wab (namF (DT.mk x.o x.p x.per x.dev x.num) (MG.mk z0.dev z0.seq z0.kind (VT.mk z0.v.o z0.v.p z0.v.per z0.v.day z0.v.st z0.v.pr z0.v.rep) (DT.mk z0.d.o z0.d.p z0.d.per z0.d.dev z0.d.num))) (R .ret (St.mk [(4,.q (k:Int))] z1 1 [])) (inR .i64 ((k:Int)+1)/\∃(i':Nat),some (St.mk [(0,.view 15 n (waa g)),(1,.func 63 [.ptr 0 0]),(7,.q (n:Int)),(8,.q ((k:Int)+1))] z1 1 [])=some (St.mk [(0,.view 15 n (waa g)),(1,.func 63 [.ptr 0 0]),(7,.q (n:Int)),(8,.q (i':Int))] z1 1 [])/\P i')) (R (.exit 0) (St.mk [] z1 1 []))):=by kernel_rfl
theorem nf_cf1(x:VT)(g:Nat->MG)(n:Nat)(R:oR7):wpFn te [(62,.det wl2)] [] 0 Tryz.f60 [.view 15 n (waa g),.func 61 [.ptr 0 0]] [.cells [.str x.o,.str x.p,.q x.per,.q x.day,.q x.st,.q x.pr,.str x.rep] 43] R=((43=43/\n<=1000000/\waa g=waa (mgOf (waa g)))/\R (.bool (decide ((0:Int)<=ixB (λ(i:Nat)=>difF (VT.mk x.o x.p x.per x.day x.st x.pr x.rep) (mgOf (waa g) i)) n))) [(0,.cells [.str x.o,.str x.p,.q x.per,.q x.day,.q x.st,.q x.pr,.str x.rep] 43)]):=by kernel_rfl
theorem rs1_ok(hP:C.P=Tryz.prog):wac C 61 wgk:=by
 have _:C.Loose:=inferInstance;rintro args objs U Os vc h hvc;unfold wgk at h;split at h<;>simp only[sI7,pI7,reduceCtorEq] at h;rename_i dev seq kind o p per day st pr rep o' p' per' dev' num xo xp xper xday xst xpr xrep t;obtain⟨rfl,rfl,rfl⟩:=h;have hvc:t=_:=hvc;subst hvc;have hn:=nf_rs1 ⟨dev,seq,kind,⟨o,p,per,day,st,pr,rep⟩,⟨o',p',per',dev',num⟩⟩ ⟨xo,xp,xper,xday,xst,xpr,xrep⟩;dsimp only at hn;refine wac.wp0 (prg hP) [] 0 .nil (hP ▸ Tryz.func61) rfl rfl rfl ?_;rw[hn];unfold difF;exact wbf (λq=>by rw[decide_eq_false q];exact⟨rfl,rfl⟩) (λq1=>wbf (λq=>by rw[decide_eq_true q1,decide_eq_false q];exact⟨rfl,rfl⟩) (λq2=>by rw[decide_eq_true q1,decide_eq_true q2];exact⟨rfl,rfl⟩))
theorem w1d(hP:C.P=Tryz.prog)(x:VT)(g:Nat->MG)(n:Nat):wah C 1 19 (waj Tryz.f62 2) (wnf x g n):=by
 rintro st Q ⟨h0,hn,hQ⟩;have hR:=wbt hQ;refine wah.mk (prg hP) [(61,.det wgk)] 0 (.cons (rs1_ok hP) .nil) [0,1,7,8] [] [4] (wlw x g n) (λk=>k<=n/\fstB (λi=>difF x (g i)) k=k) (λk=>n - k) 0 ⟨zL7 _,rfl⟩ h0 (λk hk=>?_);obtain⟨hkn,hok⟩:=hk;rw[wzb,tN7];refine wag (λh1=>?_) (λh1=>?_)
 ·refine⟨⟨by omega,by omega,rfl⟩,rfl,wam (λh2=>?_) (λh2=>⟨by simp only[inR];omega,k+1,rfl,⟨by omega,weg hok h2⟩,by omega⟩)⟩;have e:=weh hok h2 n (by omega);have:=hR.1 (by rw[e,decide_eq_true];omega);rw[e] at this;exact this
 ·have:k=n:=by omega
  subst this;exact hR.2 (by rw[hok,decide_eq_false];omega)
theorem ix1_ok(hP:C.P=Tryz.prog):wac C 62 wl2:=by
 rintro args objs U Os vc h hvc;unfold wl2 at h;split at h<;>cases h;rename_i n f xo xp xper xday xst xpr xrep t;obtain⟨rfl,hn,hf⟩:=hvc;generalize mgOf f=g at *;subst hf;have hnf:=λR=>nf_ixs1 ⟨xo,xp,xper,xday,xst,xpr,xrep⟩ g n R;dsimp only at hnf;refine wac.wpL (prg hP) [(61,.det wgk)] [(2,wnf ⟨xo,xp,xper,xday,xst,xpr,xrep⟩ g n)] 0 (.cons (rs1_ok hP) .nil) (hP ▸ Tryz.func62) rfl rfl rfl [(waj Tryz.f62 2,wnf ⟨xo,xp,xper,xday,xst,xpr,xrep⟩ g n)] (by kernel_rfl) ⟨w1d hP _ g n,trivial⟩ ?_;rw[hnf];unfold ixB;refine⟨rfl,hn,wag (λh=>?_) (λh=>?_)⟩
 ·rw[decide_eq_true h];exact⟨rfl,rfl⟩
 ·rw[decide_eq_false h];exact⟨rfl,rfl⟩
theorem rs2_ok(hP:C.P=Tryz.prog):wac C 63 wgj:=by
 rintro args objs U Os vc h hvc;unfold wgj at h;split at h<;>simp only[sI7,pI7,reduceCtorEq] at h;rename_i dev seq kind o p per day st pr rep o' p' per' dev' num xo xp xper xdev xnum t;obtain⟨rfl,rfl,rfl⟩:=h;have hvc:t=_:=hvc;subst hvc;have hn:=nf_rs2 ⟨dev,seq,kind,⟨o,p,per,day,st,pr,rep⟩,⟨o',p',per',dev',num⟩⟩ ⟨xo,xp,xper,xdev,xnum⟩;dsimp only at hn;refine wac.wp0 (prg hP) [(64,.det wdk)] 0 (.cons (wja hP) .nil) (hP ▸ Tryz.func63) rfl rfl rfl ?_;rw[hn];exact⟨trivial,rfl,rfl⟩
theorem w1c(hP:C.P=Tryz.prog)(x:DT)(g:Nat->MG)(n:Nat):wah C 1 19 (waj Tryz.f62 2) (wne x g n):=by
 rintro st Q ⟨h0,hn,hQ⟩;have hR:=wbt hQ;refine wah.mk (prg hP) [(63,.det wgj)] 0 (.cons (rs2_ok hP) .nil) [0,1,7,8] [] [4] (wlv x g n) (λk=>k<=n/\fstB (λi=>namF x (g i)) k=k) (λk=>n - k) 0 ⟨zL7 _,rfl⟩ h0 (λk hk=>?_);obtain⟨hkn,hok⟩:=hk;rw[wza,tN7];refine wag (λh1=>?_) (λh1=>?_)
 ·refine⟨⟨by omega,by omega,rfl⟩,rfl,wam (λh2=>?_) (λh2=>⟨by simp only[inR];omega,k+1,rfl,⟨by omega,weg hok h2⟩,by omega⟩)⟩;have e:=weh hok h2 n (by omega);have:=hR.1 (by rw[e,decide_eq_true];omega);rw[e] at this;exact this
 ·have:k=n:=by omega
  subst this;exact hR.2 (by rw[hok,decide_eq_false];omega)
theorem ix2_ok(hP:C.P=Tryz.prog):wac C 62 wl1:=by
 rintro args objs U Os vc h hvc;unfold wl1 at h;split at h<;>cases h;rename_i n f xo xp xper xdev xnum t;obtain⟨rfl,hn,hf⟩:=hvc;generalize mgOf f=g at *;subst hf;have hnf:=λR=>nf_ixs2 ⟨xo,xp,xper,xdev,xnum⟩ g n R;dsimp only at hnf;refine wac.wpL (prg hP) [(63,.det wgj)] [(2,wne ⟨xo,xp,xper,xdev,xnum⟩ g n)] 0 (.cons (rs2_ok hP) .nil) (hP ▸ Tryz.func62) rfl rfl rfl [(waj Tryz.f62 2,wne ⟨xo,xp,xper,xdev,xnum⟩ g n)] (by kernel_rfl) ⟨w1c hP _ g n,trivial⟩ ?_;rw[hnf];unfold ixB;refine⟨rfl,hn,wag (λh=>?_) (λh=>?_)⟩
 ·rw[decide_eq_true h];exact⟨rfl,rfl⟩
 ·rw[decide_eq_false h];exact⟨rfl,rfl⟩
theorem cf1_ok(hP:C.P=Tryz.prog):wac C 60 wmk:=by
 rintro args objs U Os vc h hvc;unfold wmk at h;split at h<;>cases h;rename_i n f xo xp xper xday xst xpr xrep t;obtain⟨rfl,hn,hf⟩:=hvc;generalize mgOf f=g at *;subst hf;have hnf:=λR=>nf_cf1 ⟨xo,xp,xper,xday,xst,xpr,xrep⟩ g n R;dsimp only at hnf;refine wac.wp0 (prg hP) [(62,.det wl2)] 0 (.cons (ix1_ok hP) .nil) (hP ▸ Tryz.func60) rfl rfl rfl ?_;rw[hnf];exact⟨⟨rfl,hn,rfl⟩,rfl,rfl⟩
end Go.Eng
namespace Go.Eng
open Go.Proofs Go.RowKit Go.Sort
variable {C:Ctx}
set_option maxRecDepth 20000
theorem nf_whr(m:MG)(R:oR7):wpFn te [] [] 0 Tryz.f77 [.agg [.str m.dev,.q m.seq,.q m.kind,.str m.v.o,.str m.v.p,.q m.v.per,.q m.v.day,.q m.v.st,.q m.v.pr,.str m.v.rep,.str m.d.o,.str m.d.p,.q m.d.per,.str m.d.dev,.q m.d.num]] [] R=(wab (decide (m.kind=2)) ((True/\True)/\R (.agg [.str m.d.o,.str m.d.p,.q m.d.per]) []) ((True/\True)/\R (.agg [.str m.v.o,.str m.v.p,.q m.v.per]) [])):=by kernel_rfl
theorem nf_op1(m:MG)(R:oR7):wpFn te [] [] 0 Tryz.f78 [.agg [.str m.dev,.q m.seq,.q m.kind,.str m.v.o,.str m.v.p,.q m.v.per,.q m.v.day,.q m.v.st,.q m.v.pr,.str m.v.rep,.str m.d.o,.str m.d.p,.q m.d.per,.str m.d.dev,.q m.d.num]] [] R=(R (.bool (decide (m.kind=1))) []):=by kernel_rfl
theorem nf_ixo(g:Nat->MG)(n:Nat)(R:oR7):wpFn te [(78,.det wgl)] [(2,wnh g n)] 0 Tryz.f62 [.view 15 n (waa g),.func 78 []] [] R=(some (St.mk [(0,.view 15 n (waa g)),(1,.func 78 []),(7,.q (n:Int)),(8,.q 0)] [] 0 [])=some (St.mk [(0,.view 15 n (waa g)),(1,.func 78 []),(7,.q (n:Int)),(8,.q (↑0:Int))] [] 0 [])/\n<=1000000/\wab (decide (fstB (λ(i:Nat)=>isV (g i)) n<n)) (R (.q (↑(fstB (λ(i:Nat)=>isV (g i)) n):Int)) []) (R (.q (-1:Int)) [])):=by kernel_rfl
theorem wzd(g:Nat->MG)(n k:Nat)(P:Nat->Prop)(R:eR7):wav ⟨te,[(78,.det wgl)],[],0,19,0⟩ (wax Tryz.f62 2) [0,1,7,8] [] [4] (wly g n) P R (wly g n k)=(wab (decide ((k:Int)<(n:Int))) (((0:Int)<=(k:Int)/\(k:Int)<(n:Int)/\15=15)/\True/\wab (decide ((g (k:Int).toNat).kind=1)) (R .ret (St.mk [(4,.q (k:Int))] [] 0 [])) (inR .i64 ((k:Int)+1)/\∃(i':Nat),some (St.mk [(0,.view 15 n (waa g)),(1,.func 78 []),(7,.q (n:Int)),(8,.q ((k:Int)+1))] [] 0 [])=some (St.mk [(0,.view 15 n (waa g)),(1,.func 78 []),(7,.q (n:Int)),(8,.q (i':Int))] [] 0 [])/\P i')) (R (.exit 0) (St.mk [] [] 0 []))):=by kernel_rfl
theorem nf_cfo(g:Nat->MG)(n:Nat)(R:oR7):wpFn te [(62,.det wlz)] [] 0 Tryz.f60 [.view 15 n (waa g),.func 78 []] [] R=((n<=1000000/\waa g=waa (mgOf (waa g)))/\R (.bool (decide ((0:Int)<=ixB (λ(i:Nat)=>isV (mgOf (waa g) i)) n))) []):=by kernel_rfl
theorem wye(o p:List UInt8)(per:Int)(o' p':List UInt8)(per':Int)(R:oR7):wpFn te [(80,.det wgh),(81,.det wdl),(79,.det S_or)] [] 0 Tryz.f42 [.agg [.str o,.str p,.q per],.agg [.str o',.str p',.q per']] [] R=(letI z0:=waw 1 (.q (cmpS o o'):: .q (cmpS p p'):: .q (cmpI per per')::List.append [] (List.flatten (List.replicate (nat_lit 0) [.q 0])));True/\True/\True/\(3<=16777216/\1=1/\3<=9223372036854775807)/\(∀(i:Nat),i<3->true=true)/\(3=3/\false=false/\3=3/\3<=100/\∀(i:Nat),i<3->[AV.q (List.getD [cmpS o o',cmpS p p',cmpI per per'] i (0:Int))]=[.q (vInt z0 i)])/\(∀(i:Nat),i<3->true=true)/\R (.q (orN (vInt z0) 3)) []):=by kernel_rfl
theorem wzp(v:VT)(R:oR7):wpFn te [] [] 0 Tryz.f40 [.agg [.str v.o,.str v.p,.q v.per,.q v.day,.q v.st,.q v.pr,.str v.rep]] [] R=(wab (decide (v.st=4)) (R (.bool true) []) (R (.bool (decide (v.st=5))) [])):=by kernel_rfl
theorem nf_ixv(g:Nat->VT)(n:Nat)(R:oR7):wpFn te [(40,.det wev)] [(2,wnd g n)] 0 Tryz.f65 [.view 7 n (wae g),.func 40 []] [] R=(some (St.mk [(0,.view 7 n (wae g)),(1,.func 40 []),(7,.q (n:Int)),(8,.q 0)] [] 0 [])=some (St.mk [(0,.view 7 n (wae g)),(1,.func 40 []),(7,.q (n:Int)),(8,.q (↑0:Int))] [] 0 [])/\n<=1000000/\wab (decide (fstB (λ(i:Nat)=>finB (g i)) n<n)) (R (.q (↑(fstB (λ(i:Nat)=>finB (g i)) n):Int)) []) (R (.q (-1:Int)) [])):=by kernel_rfl
theorem wy9(g:Nat->VT)(n k:Nat)(P:Nat->Prop)(R:eR7):wav ⟨te,[(40,.det wev)],[],0,19,0⟩ (wax Tryz.f65 2) [0,1,7,8] [] [4] (wlt g n) P R (wlt g n k)=(letI z0:=(g (k:Int).toNat);wab (decide ((k:Int)<(n:Int))) (((0:Int)<=(k:Int)/\(k:Int)<(n:Int)/\7=7)/\True/\wab (finB (VT.mk z0.o z0.p z0.per z0.day z0.st z0.pr z0.rep)) (R .ret (St.mk [(4,.q (k:Int))] [] 0 [])) (inR .i64 ((k:Int)+1)/\∃(i':Nat),some (St.mk [(0,.view 7 n (wae g)),(1,.func 40 []),(7,.q (n:Int)),(8,.q ((k:Int)+1))] [] 0 [])=some (St.mk [(0,.view 7 n (wae g)),(1,.func 40 []),(7,.q (n:Int)),(8,.q (i':Int))] [] 0 [])/\P i')) (R (.exit 0) (St.mk [] [] 0 []))):=by kernel_rfl
theorem whr_ok(hP:C.P=Tryz.prog):wac C 77 wge:=by
 rintro args objs U Os vc h hvc;unfold wge at h;split at h<;>simp only[sI7,pI7,reduceCtorEq] at h;rename_i dev seq kind o p per day st pr rep o' p' per' dev' num;obtain⟨rfl,rfl,rfl⟩:=h;have hn:=nf_whr ⟨dev,seq,kind,⟨o,p,per,day,st,pr,rep⟩,⟨o',p',per',dev',num⟩⟩;dsimp only at hn;refine wac.wp0 (prg hP) [] 0 .nil (hP ▸ Tryz.func77) rfl rfl rfl ?_;rw[hn];unfold whr;exact wag (λq=>by rw[decide_eq_true q];exact⟨⟨trivial,trivial⟩,rfl,rfl⟩) (λq=>by rw[decide_eq_false q];exact⟨⟨trivial,trivial⟩,rfl,rfl⟩)
theorem op1_ok(hP:C.P=Tryz.prog):wac C 78 wgl:=by
 rintro args objs U Os vc h hvc;unfold wgl at h;split at h<;>simp only[sI7,pI7,reduceCtorEq] at h;rename_i dev seq kind o p per day st pr rep o' p' per' dev' num;obtain⟨rfl,rfl,rfl⟩:=h;have hn:=nf_op1 ⟨dev,seq,kind,⟨o,p,per,day,st,pr,rep⟩,⟨o',p',per',dev',num⟩⟩;dsimp only at hn;refine wac.wp0 (prg hP) [] 0 .nil (hP ▸ Tryz.func78) rfl rfl rfl ?_;rw[hn];exact⟨rfl,rfl⟩
theorem w1f(hP:C.P=Tryz.prog)(g:Nat->MG)(n:Nat):wah C 0 19 (waj Tryz.f62 2) (wnh g n):=by
 rintro st Q ⟨h0,hn,hQ⟩;have hR:=wbt hQ;refine wah.mk (prg hP) [(78,.det wgl)] 0 (.cons (op1_ok hP) .nil) [0,1,7,8] [] [4] (wly g n) (λk=>k<=n/\fstB (λi=>isV (g i)) k=k) (λk=>n - k) 0 ⟨zL7 _,rfl⟩ h0 (λk hk=>?_);obtain⟨hkn,hok⟩:=hk;rw[wzd,tN7];refine wag (λh1=>?_) (λh1=>?_)
 ·refine⟨⟨by omega,by omega,rfl⟩,trivial,wam (λh2=>?_) (λh2=>⟨by simp only[inR];omega,k+1,rfl,⟨by omega,weg hok h2⟩,by omega⟩)⟩;have e:=weh hok h2 n (by omega);have:=hR.1 (by rw[e,decide_eq_true];omega);rw[e] at this;exact this
 ·have:k=n:=by omega
  subst this;exact hR.2 (by rw[hok,decide_eq_false];omega)
theorem ixo_ok(hP:C.P=Tryz.prog):wac C 62 wlz:=by
 rintro args objs U Os vc h hvc;unfold wlz at h;split at h<;>cases h;rename_i n f;obtain⟨hn,hf⟩:=hvc;generalize mgOf f=g at *;subst hf;refine wac.wpL (prg hP) [(78,.det wgl)] [(2,wnh g n)] 0 (.cons (op1_ok hP) .nil) (hP ▸ Tryz.func62) rfl rfl rfl [(waj Tryz.f62 2,wnh g n)] (by kernel_rfl) ⟨w1f hP g n,trivial⟩ ?_;rw[nf_ixo];unfold ixB;refine⟨rfl,hn,wag (λh=>?_) (λh=>?_)⟩
 ·rw[decide_eq_true h];exact⟨rfl,rfl⟩
 ·rw[decide_eq_false h];exact⟨rfl,rfl⟩
theorem cfo_ok(hP:C.P=Tryz.prog):wac C 60 wmj:=by
 rintro args objs U Os vc h hvc;unfold wmj at h;split at h<;>cases h;rename_i n f;obtain⟨hn,hf⟩:=hvc;generalize mgOf f=g at *;subst hf;refine wac.wp0 (prg hP) [(62,.det wlz)] 0 (.cons (ixo_ok hP) .nil) (hP ▸ Tryz.func60) rfl rfl rfl ?_;rw[nf_cfo];exact⟨⟨hn,rfl⟩,rfl,rfl⟩
theorem wn6(hP:C.P=Tryz.prog):wac C 42 wgg:=by
 rintro args objs U Os vc h hvc;unfold wgg at h;split at h<;>simp only[sI7,pI7,reduceCtorEq] at h;rename_i o p per o' p' per';obtain⟨rfl,rfl,rfl⟩:=h;refine wac.wp0 (prg hP) [(80,.det wgh),(81,.det wdl),(79,.det S_or)] 0 (.cons (wrc hP) (.cons (wtf hP) (.cons (or_ok hP) .nil))) (hP ▸ Tryz.func42) rfl rfl rfl ?_;rw[wye,wog];have three:∀ {p:Nat->Prop},p 0->p 1->p 2->∀i,i<3->p i:=λh0 h1 h2 i hi=>by
  match i,hi with
  |0,_=>exact h0
  |1,_=>exact h1
  |2,_=>exact h2
 exact⟨trivial,trivial,trivial,⟨by omega,rfl,by omega⟩,three rfl rfl rfl,⟨rfl,rfl,rfl,by omega,three rfl rfl rfl⟩,three rfl rfl rfl,rfl,rfl⟩
theorem wq3(hP:C.P=Tryz.prog):wbi C 43 wgu:=by
 rintro args objs R h;unfold wgu at h;split at h
 ·rename_i n t m f fr;obtain⟨rfl,rfl,rfl,hn,hf,hR⟩:=h;generalize slOf f=g at *;subst hf;have hS:=war.sortK (C:=C) slC 3 (λ_=>rfl) (λx u hu=>by
    simp only[slC,List.mem_cons,List.not_mem_nil,or_false] at hu
    rcases hu with rfl | rfl | rfl<;>rfl) ordS (t:=78) (fS:=43) (g:=42)
   ⟨_,hP ▸ Tryz.func43,rfl,by decide⟩
   (λblk cap d w h1 h2 h3 h4=>by
    rw[hP] at h1 ⊢;exact AnyQ.slices_SortFunc Tryz.sort43 3 Tryz.isAgg78 Tryz.sizeOf78 _ (λ_=>rfl) (λx v hv=>by
     simp only[encV,slC,List.map_cons,List.map_nil,List.mem_cons,List.not_mem_nil,or_false] at hv
     rcases hv with rfl | rfl | rfl<;>rfl) ordS (swo_of wch) 42 #[] blk 0 cap d w (enters_of Tryz.func42 (by kernel_rfl) rfl) h1 h2 h3 h4)
   (λp cap fv w=>by
    rw[hP];exact AnyF.slices_SortFunc_none Tryz.sort43 p cap fv w)
   (λx y=>wn6 (C:=Ctx.bare C.P C.mixed) hP _ _ _ _ _ rfl trivial) g (n:=n) (by omega)
  refine hS.mono ?_;rintro u O ⟨rfl,f',hp,hs,rfl⟩;exact hR f' hp hs
 ·exact h.elim
theorem wpq(hP:C.P=Tryz.prog):wac C 40 wev:=by
 rintro args objs U Os vc h hvc;unfold wev at h;split at h<;>cases h;rename_i o p per day st pr rep;have hn:=wzp ⟨o,p,per,day,st,pr,rep⟩;dsimp only at hn;refine wac.wp0 (prg hP) [] 0 .nil (hP ▸ Tryz.func40) rfl rfl rfl ?_;rw[hn];unfold finB;exact wag (λq=>by rw[decide_eq_true q];exact⟨rfl,rfl⟩) (λq=>by rw[decide_eq_false q];exact⟨rfl,rfl⟩)
theorem w1b(hP:C.P=Tryz.prog)(g:Nat->VT)(n:Nat):wah C 0 19 (waj Tryz.f65 2) (wnd g n):=by
 rintro st Q ⟨h0,hn,hQ⟩;have hR:=wbt hQ;refine wah.mk (prg hP) [(40,.det wev)] 0 (.cons (wpq hP) .nil) [0,1,7,8] [] [4] (wlt g n) (λk=>k<=n/\fstB (λi=>finB (g i)) k=k) (λk=>n - k) 0 ⟨zL7 _,rfl⟩ h0 (λk hk=>?_);obtain⟨hkn,hok⟩:=hk;rw[wy9,tN7];refine wag (λh1=>?_) (λh1=>?_)
 ·refine⟨⟨by omega,by omega,rfl⟩,trivial,wam (λh2=>?_) (λh2=>⟨by simp only[inR];omega,k+1,rfl,⟨by omega,weg hok h2⟩,by omega⟩)⟩;have e:=weh hok h2 n (by omega);have:=hR.1 (by rw[e,decide_eq_true];omega);rw[e] at this;exact this
 ·have:k=n:=by omega
  subst this;exact hR.2 (by rw[hok,decide_eq_false];omega)
theorem ixv_ok(hP:C.P=Tryz.prog):wac C 65 wlu:=by
 rintro args objs U Os vc h hvc;unfold wlu at h;split at h<;>cases h;rename_i n f;obtain⟨hn,hf⟩:=hvc;generalize vtOf f=g at *;subst hf;refine wac.wpL (prg hP) [(40,.det wev)] [(2,wnd g n)] 0 (.cons (wpq hP) .nil) (hP ▸ Tryz.func65) rfl rfl rfl [(waj Tryz.f65 2,wnd g n)] (by kernel_rfl) ⟨w1b hP g n,trivial⟩ ?_;rw[nf_ixv];unfold ixB;refine⟨rfl,hn,wag (λh=>?_) (λh=>?_)⟩
 ·rw[decide_eq_true h];exact⟨rfl,rfl⟩
 ·rw[decide_eq_false h];exact⟨rfl,rfl⟩
end Go.Eng
namespace Go.Eng
open Go.Proofs Go.RowKit
variable {C:Ctx} [C.Loose]
set_option maxRecDepth 20000
theorem wyl(g:Nat->MG)(n:Nat)(R:oR7):wpFn te [(76,.det wes),(90,.det wgs),(91,.rel wmy)] [] 0 Tryz.f58 [.view 15 n (waa g)] [] R=(letI z0:=mrgL (mgOf (waa g)) n noM 0;letI z3:=mgOf (waa (atM z0));letI z2:=(∀(i:Nat),i<z0.length->true=true:Prop);letI z1:=(List.map (λ(p:AV×AV)=>(AV.rn (idxN [0,32,16]) p.1,AV.rn (idxN [0,32,16]) p.2)) (List.map (λ(p:AV×AV)=>(AV.rn (sig [0] 16) p.1,AV.rn (sig [0] 16) p.2)) (entM (cntL z3 z0.length))));(n<=100000/\waa g=waa (mgOf (waa g))/\∀(i:Nat),i<n->MG.Sm (mgOf (waa g) i))/\z2/\z2/\(47=47/\false=false/\z0.length=z0.length/\z0.length<=1000000/\waa (atM z0)=waa z3)/\z2/\z2/\47=47/\126=126/\false=false/\z0.length=z0.length/\z0.length<=1000000/\waa (atM z0)=waa z3/\EsOK z1/\∀(k:Nat) (h:Nat->MG),lst h k=kpL z1 z3 z0.length->(∀(i:Nat),i<k->true=true)/\(∀(i:Nat),i<k->true=true)/\∃(O':oL7),wad [(0,.row 47 15 k (waa h) false)] O'/\R (.own 0 k) O'):=by kernel_rfl
theorem woo(hP:C.P=Tryz.prog)(hL:∀w,C.laid w->LaidW w):wac C 76 wes:=by
 rintro args objs U Os vc h hvc;unfold wes at h;split at h<;>cases h;rename_i n f;obtain⟨hn,hf,hs⟩:=hvc;refine war.nilArg 15 (waa noM) ?_;exact mrg_ok hP hL _ _ _ _ _ rfl ⟨hn,zL7 _,hf,rfl,hs,λi hi=>absurd hi (nZ7 i)⟩
theorem w2u(L:List ((List UInt8×Int)×Int))(x:MG):cntE (entM L) x=getC L (mk2 x):=by
 unfold cntE;have F1:Option.getD (mget (entM L) (.agg [.str x.dev,.q x.seq])) (.q 0)= .q (getC L (mk2 x)):=whf (mk2 x) L;rw[F1];rfl
theorem wfw(g:Nat->MG)(n:Nat)(h:Nat->MG)(m:Nat):(mrgL g n h m).length<=n+m:=by
 have:=w0l (lst g n++lst h m);have e:(lst g n++lst h m).length=n+m:=by simp[lst]
 unfold mrgL;omega
theorem ww1(hP:C.P=Tryz.prog)(hL:∀w,C.laid w->LaidW w):wac C 58 wla:=by
 rintro args objs U Os vc h hvc;unfold wla at h;split at h<;>cases h;rename_i n f;obtain⟨hn,hf,hs⟩:=hvc;generalize mgOf f=g at *;subst hf;refine war.frzO 0 ?_;refine wbi.wpL (prg hP) [(76,.det wes),(90,.det wgs),(91,.rel wmy)] [] 0 (.cons (woo hP hL) (.cons (wun hP) (.cons (delF_ok hP) .nil))) (hP ▸ Tryz.func58) rfl rfl rfl [] (by kernel_rfl) trivial ?_;rw[wyl]
 repeat rw[wcn]
 have hlen:=wfw g n noM 0;have hM:mrgL (mgOf (waa g)) n noM 0=mrgL g n noM 0:=rfl;have hR:wak g n=(mrgL g n noM 0).filter λx=> !decide (1<numC (atM (mrgL g n noM 0)) (mk2 x) (mrgL g n noM 0).length):=rfl;rw[hM];generalize mrgL g n noM 0=M at *;refine⟨⟨hn,rfl,hs⟩,λ_ _=>rfl,λ_ _=>rfl,⟨rfl,rfl,rfl,by omega,rfl⟩,λ_ _=>rfl,λ_ _=>rfl,rfl,rfl,rfl,rfl,by omega,rfl,⟨cntL (atM M) M.length,rfl,wkb _ _⟩,λk h hd=>?_⟩;have hd:lst h k=kpL (entM (cntL (atM M) M.length)) (atM M) M.length:=hd;have e:kpL (entM (cntL (atM M) M.length)) (atM M) M.length=wak g n:=by
  unfold kpL;rw[wc4,hR];refine List.filter_congr λx _=>?_;unfold delF;rw[w2u,wjs]
 rw[e] at hd;generalize wak g n=L at *;obtain⟨rfl,hat⟩:=wsu hd;refine⟨λ_ _=>rfl,λ_ _=>rfl,[(0,.row 47 15 L.length (waa (atM L)) false)],⟨⟨rfl,rfl,rfl,rfl,rfl,λi hi=>?_⟩,trivial⟩,λ_ _=>rfl,?_⟩
 ·unfold waa;rw[hat i hi]
 ·have hb:Nat.ble L.length L.length=true:=Nat.ble_eq_true_of_le (lR7 _)
  constructor
  ·simp[frzC,frzA,frz,hb]
  ·rfl
theorem nf_cand(o p:List UInt8)(per:Int)(g:Nat->MG)(n:Nat)(R:oR7):wpFn te [] [(3,wnn o p per g n)] 0 Tryz.f59 [.view 15 n (waa g),.str o,.str p,.q per] [] R=(letI z0:=canL o p per g n;(TEq [(1,.str o),(2,.str p),(3,.q per),(9,.own 0 0),(13,.view 15 n (waa g)),(14,.q (n:Int)),(15,.q 0)] [(1,.str o),(2,.str p),(3,.q per),(9,.own 0 0),(13,.view 15 n (waa g)),(14,.q (n:Int)),(15,.q (↑0:Int))]/\wad [(0,.row 47 15 0 (λ(_x:Nat)=>[]) false)] [(0,.row 47 15 0 (waa (atM (canL o p per g 0))) false)])/\n<=1000000/\(∀(i:Nat),i<z0.length->true=true)/\∃(O':oL7),wad [(0,.row 47 15 z0.length (waa (atM z0)) false)] O'/\R (.own 0 z0.length) O'):=by kernel_rfl
theorem wz3(o p:List UInt8)(per:Int)(g:Nat->MG)(n k:Nat)(P:Nat->Prop)(R:eR7):wav ⟨te,[],[],0,68,0⟩ (wax Tryz.f59 3) [1,2,3,9,13,14,15] [9] [] (wmh o p per g n) P R (wmh o p per g n k)=(letI z8:=(15<=16777216/\15=15/\1<=9223372036854775807:Prop);letI z5:=canL o p per g k;letI z7:=z5.length;letI z9:=([(0,.row 47 15 z7 (waa (atM z5)) false)]:oL7);letI z3:=(z7:Int);letI z6:=(z3 - (1:Int));letI z2:=(g (k:Int).toNat);letI z4:=waw 15 (.str z2.dev:: .q z2.seq:: .q z2.kind:: .str z2.v.o:: .str z2.v.p:: .q z2.v.per:: .q z2.v.day:: .q z2.v.st:: .q z2.v.pr:: .str z2.v.rep:: .str z2.d.o:: .str z2.d.p:: .q z2.d.per:: .str z2.d.dev:: .q z2.d.num::List.append [] wfr);letI z1:=(z8/\((1<=1/\15=15)/\z5.length<=z5.length/\15=15/\47=47/\15=15/\z5.length+1<=9223372036854775807/\(z5.length+1) * 176<=140737488355328)/\inR .i64 ((k:Int)+1)/\∃(i':Nat),(TEq [(1,.str o),(2,.str p),(3,.q per),(9,.own 0 (z5.length+1)),(13,.view 15 n (waa g)),(14,.q (n:Int)),(15,.q ((k:Int)+1))] [(1,.str o),(2,.str p),(3,.q per),(9,.own 0 (canL o p per g i').length),(13,.view 15 n (waa g)),(14,.q (n:Int)),(15,.q (i':Int))]/\wad [(0,.row 47 15 (z5.length+1) (apF z7 (waa (atM z5)) z4) false)] [(0,.row 47 15 (canL o p per g i').length (waa (atM (canL o p per g i'))) false)])/\P i':Prop);letI z0:=(inR .i64 ((k:Int)+1)/\∃(i':Nat),(TEq [(1,.str o),(2,.str p),(3,.q per),(9,.own 0 z7),(13,.view 15 n (waa g)),(14,.q (n:Int)),(15,.q ((k:Int)+1))] [(1,.str o),(2,.str p),(3,.q per),(9,.own 0 (canL o p per g i').length),(13,.view 15 n (waa g)),(14,.q (n:Int)),(15,.q (i':Int))]/\wad z9 [(0,.row 47 15 (canL o p per g i').length (waa (atM (canL o p per g i'))) false)])/\P i');wab (decide ((k:Int)<(n:Int))) (((0:Int)<=(k:Int)/\(k:Int)<(n:Int)/\15=15)/\wab (!decide (z2.kind=1)) z0 (wab (!decide (z2.v.o=o)) z0 (wab (!decide (z2.v.p=p)) z0 (wab (!decide (z2.v.per=per)) z0 (wab (decide ((0:Int)<z3)) (inR .i64 z6/\((0:Int)<=z3 - (1:Int)/\z3 - (1:Int)<z3)/\(z6.toNat<z5.length/\15=15)/\wab (decide ((atM z5 z6.toNat).dev=z2.dev)) (inR .i64 z6/\((0:Int)<=z3 - (1:Int)/\z3 - (1:Int)<=z3)/\z8/\((1<=1/\15=15)/\z6.toNat<=z5.length/\15=15/\47=47/\15=15/\z6.toNat+1<=9223372036854775807/\(z6.toNat+1) * 176<=140737488355328)/\inR .i64 ((k:Int)+1)/\∃(i':Nat),(TEq [(1,.str o),(2,.str p),(3,.q per),(9,.own 0 (z6.toNat+1)),(13,.view 15 n (waa g)),(14,.q (n:Int)),(15,.q ((k:Int)+1))] [(1,.str o),(2,.str p),(3,.q per),(9,.own 0 (canL o p per g i').length),(13,.view 15 n (waa g)),(14,.q (n:Int)),(15,.q (i':Int))]/\wad [(0,.row 47 15 (z6.toNat+1) (apF z6.toNat (waa (atM z5)) z4) false)] [(0,.row 47 15 (canL o p per g i').length (waa (atM (canL o p per g i'))) false)])/\P i') z1) z1))))) ((∀(i:Nat),i<z5.length->true=true)/\∃(O':oL7),wad z9 O'/\R (.exit 0) (St.mk [(9,.own 0 z7)] O' 1 []))):=by kernel_rfl
theorem snocM{L:List MG}{m:MG}{t:Nat}(ht:t<=L.length)(ch:Nat->List AV)(hch:ch 0=mgC m)(j:Nat)(hj:j<t+1):apF t (waa (atM L)) ch j=waa (atM (L.take t++[m])) j:=by
 have hl:(L.take t).length=t:=by simp[ht]
 unfold apF
 by_cases h:j<t
 ·rw[if_pos h];have e:atM (L.take t++[m]) j=atM L j:=by
   unfold atM;rw[List.getD_eq_getElem?_getD,List.getD_eq_getElem?_getD,List.getElem?_append_left (by omega),List.getElem?_take,if_pos h]
  unfold waa;rw[e]
 ·have:j=t:=by omega
  subst this;rw[if_neg h,Nat.sub_self,hch];have e:atM (L.take j++[m]) j=m:=by
   unfold atM;rw[List.getD_eq_getElem?_getD,List.getElem?_append_right (by omega),hl,Nat.sub_self];rfl
  unfold waa;rw[e];rfl
theorem wv8(L:List MG)(m:MG):(stpC L m).length<=L.length+1:=by
 unfold stpC
 cases decide (0<L.length) && decide ((atM L (L.length - 1)).dev=m.dev) with
 |true=>simp
 |false=>simp
theorem wp7(o p:List UInt8)(per:Int)(g:Nat->MG):∀k,(canL o p per g k).length<=k
 |0=>lR7 _
 |k+1=>by
  have ih:=wp7 o p per g k;rw[canL]
  cases selF o p per (g k) with
  |true=>have:=wv8 (canL o p per g k) (g k);show (stpC _ _).length<=_;omega
  |false=>show (canL o p per g k).length<=_;omega
theorem w2v(hP:C.P=Tryz.prog)(o p:List UInt8)(per:Int)(g:Nat->MG)(n:Nat):wah C 0 68 (waj Tryz.f59 3) (wnn o p per g n):=by
 have _:C.Loose:=inferInstance;rintro st Q ⟨h0,hn,hQ⟩;refine AWP.ownNil 9 47 15 ?_;refine wah.mk (prg hP) [] 0 .nil [1,2,3,9,13,14,15] [9] [] (wmh o p per g n) (λk=>k<=n) (λk=>n - k) 0 (zL7 _) h0 (λk hk=>?_) (λi=>⟨λ_ _=>rfl,trivial⟩);have hlen:=wp7 o p per g k;rw[wz3,tN7];have skip:selF o p per (g k)=false->canL o p per g (k+1)=canL o p per g k:=λh=>by rw[canL,h];rfl
 have go:selF o p per (g k)=true->canL o p per g (k+1)=stpC (canL o p per g k) (g k):=λh=>by rw[canL,h];rfl
 generalize hC:canL o p per g k=L at *;have no:k<n->selF o p per (g k)=false->inR .i64 ((k:Int)+1)/\∃i':Nat,(TEq [(1,.str o),(2,.str p),(3,.q per),(9,.own 0 L.length),(13,.view 15 n (waa g)),(14,.q (n:Int)),(15,.q ((k:Int)+1))] [(1,.str o),(2,.str p),(3,.q per),(9,.own 0 (canL o p per g i').length),(13,.view 15 n (waa g)),(14,.q (n:Int)),(15,.q (i':Int))]/\
   wad [(0,.row 47 15 L.length (waa (atM L)) false)] [(0,.row 47 15 (canL o p per g i').length (waa (atM (canL o p per g i'))) false)])/\(i'<=n/\n - i'<n - k):=λhk' h=>by
  refine⟨by simp only[inR];omega,k+1,?_,by omega,by omega⟩;rw[skip h];exact⟨rfl,rQ7,trivial⟩
 refine wag (λh1=>⟨⟨by omega,by omega,rfl⟩,wbf (λq=>no (by omega) (by unfold selF;rw[decide_eq_false q];rfl)) (λq1=>wbf (λq=>no (by omega) (by unfold selF;rw[decide_eq_true q1,decide_eq_false q];rfl)) (λq2=>wbf (λq=>no (by omega) (by unfold selF;rw[decide_eq_true q1,decide_eq_true q2,decide_eq_false q];rfl)) (λq3=>wbf (λq=>no (by omega) (by unfold selF;rw[decide_eq_true q1,decide_eq_true q2,decide_eq_true q3,decide_eq_false q];rfl)) (λq4=>?_))))⟩) (λh1=>?_)
 ·have hg:=go (by unfold selF;rw[decide_eq_true q1,decide_eq_true q2,decide_eq_true q3,decide_eq_true q4];rfl);have app:canL o p per g (k+1)=L++[g k]->∀ch:Nat->List AV,ch 0=mgC (g k)->∃i':Nat,(TEq [(1,.str o),(2,.str p),(3,.q per),(9,.own 0 (L.length+1)),(13,.view 15 n (waa g)),(14,.q (n:Int)),(15,.q ((k:Int)+1))] [(1,.str o),(2,.str p),(3,.q per),(9,.own 0 (canL o p per g i').length),(13,.view 15 n (waa g)),(14,.q (n:Int)),(15,.q (i':Int))]/\
    wad [(0,.row 47 15 (L.length+1) (apF L.length (waa (atM L)) ch) false)] [(0,.row 47 15 (canL o p per g i').length (waa (atM (canL o p per g i'))) false)])/\(i'<=n/\n - i'<n - k):=λe ch hch=>by
   refine⟨k+1,?_,by omega,by omega⟩;rw[e,lA7];refine⟨rfl,⟨rfl,rfl,rfl,rfl,rfl,λj hj=>?_⟩,trivial⟩;have:=snocM (lR7 L.length) ch hch j hj;rw[List.take_length] at this;exact this
  refine wag (λr1=>?_) (λr1=>?_)
  ·have e1:((L.length:Int) - 1).toNat=L.length - 1:=by omega
   rw[e1];refine⟨by simp only[inR];omega,⟨by omega,by omega⟩,⟨by omega,rfl⟩,wag (λr2=>?_) (λr2=>?_)⟩
   ·have e:canL o p per g (k+1)=L.take (L.length - 1)++[g k]:=by rw[hg,stpC,decide_eq_true (show 0<L.length by omega),decide_eq_true r2];rfl
    have hl:(L.take (L.length - 1)).length=L.length - 1:=by simp
    refine⟨by simp only[inR];omega,⟨by omega,by omega⟩,⟨by omega,rfl,by omega⟩,⟨⟨lR7 _,rfl⟩,by omega,rfl,rfl,rfl,by omega,?_⟩,by simp only[inR];omega,k+1,?_,by omega,by omega⟩
    ·show (L.length - 1+1) * 176<=_;omega
    ·rw[e,lA7,hl];exact⟨rfl,⟨rfl,rfl,rfl,rfl,rfl,λj hj=>snocM (by omega) _ rfl j hj⟩,trivial⟩
   ·have e:canL o p per g (k+1)=L++[g k]:=by rw[hg,stpC,decide_eq_false r2,Bool.and_false];rfl
    refine⟨⟨by omega,rfl,by omega⟩,⟨⟨lR7 _,rfl⟩,lR7 _,rfl,rfl,rfl,by omega,?_⟩,by simp only[inR];omega,app e _ rfl⟩;show (L.length+1) * 176<=_;omega
  ·have e:canL o p per g (k+1)=L++[g k]:=by rw[hg,stpC,decide_eq_false (show ¬ 0<L.length by omega)];rfl
   refine⟨⟨by omega,rfl,by omega⟩,⟨⟨lR7 _,rfl⟩,lR7 _,rfl,rfl,rfl,by omega,?_⟩,by simp only[inR];omega,app e _ rfl⟩;show (L.length+1) * 176<=_;omega
 ·have:k=n:=by omega
  subst this;rw[hC] at hQ;exact⟨λ_ _=>rfl,_,wa0 _,hQ⟩
theorem cand_ok(hP:C.P=Tryz.prog):wac C 59 wmm:=by
 rintro args objs U Os vc h hvc;unfold wmm at h;split at h<;>cases h;rename_i n f o p per;obtain⟨hn,hf⟩:=hvc;generalize mgOf f=g at *;subst hf;refine war.frzO 0 ?_;refine wbi.wpL (prg hP) [] [(3,wnn o p per g n)] 0 .nil (hP ▸ Tryz.func59) rfl rfl rfl [(waj Tryz.f59 3,wnn o p per g n)] (by kernel_rfl) ⟨w2v hP o p per g n,trivial⟩ ?_;rw[nf_cand];generalize canL o p per g n=L at *;refine⟨⟨rfl,⟨rfl,rfl,rfl,rfl,rfl,λi hi=>absurd hi (nZ7 i)⟩,trivial⟩,hn,λ_ _=>rfl,_,wa0 _,λ_ _=>rfl,?_⟩;have hb:Nat.ble L.length L.length=true:=Nat.ble_eq_true_of_le (lR7 _)
 constructor
 ·simp[frzC,frzA,frz,hb]
 ·rfl
theorem wrq(g:Nat->MG)(n:Nat):(wak g n).length<=n:=by
 have:=List.length_filter_le (λx=> !decide (1<numC (atM (mrgL g n noM 0)) (mk2 x) (mrgL g n noM 0).length)) (mrgL g n noM 0);have:=wfw g n noM 0;unfold wak;omega
end Go.Eng
