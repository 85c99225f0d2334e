/- Resolve: what it answers. -/
import Derived.Test.YtmcdngcjakjnmaaGreatDoorJuw
namespace Go.Eng
open Go.Proofs Go.RowKit Go.Sort
variable {C:Ctx}
set_option maxRecDepth 20000
theorem nf_whr(m:MG)(R:oR7):wpFn te [] [] 0 Tryz.f77 [.agg [.str m.dev,.q m.seq,.q m.kind,.str m.v.o,.str m.v.p,.q m.v.per,.q m.v.day,.q m.v.st,.q m.v.pr,.str m.v.rep,.str m.d.o,.str m.d.p,.q m.d.per,.str m.d.dev,.q m.d.num]] [] R=(wab (decide (m.kind=2)) ((True/\True)/\R (.agg [.str m.d.o,.str m.d.p,.q m.d.per]) []) ((True/\True)/\R (.agg [.str m.v.o,.str m.v.p,.q m.v.per]) [])):=by kernel_rfl
theorem nf_op1(m:MG)(R:oR7):wpFn te [] [] 0 Tryz.f78 [.agg [.str m.dev,.q m.seq,.q m.kind,.str m.v.o,.str m.v.p,.q m.v.per,.q m.v.day,.q m.v.st,.q m.v.pr,.str m.v.rep,.str m.d.o,.str m.d.p,.q m.d.per,.str m.d.dev,.q m.d.num]] [] R=(R (.bool (decide (m.kind=1))) []):=by kernel_rfl
theorem nf_ixo(g:Nat->MG)(n:Nat)(R:oR7):wpFn te [(78,.det wgo)] [(2,wnn g n)] 0 Tryz.f62 [.view 15 n (waa g),.func 78 []] [] R=(some (St.mk [(0,.view 15 n (waa g)),(1,.func 78 []),(7,.q (n:Int)),(8,.q 0)] [] 0 [])=some (St.mk [(0,.view 15 n (waa g)),(1,.func 78 []),(7,.q (n:Int)),(8,.q (↑0:Int))] [] 0 [])/\n<=1000000/\wab (decide (fstB (λ(i:Nat)=>isV (g i)) n<n)) (R (.q (↑(fstB (λ(i:Nat)=>isV (g i)) n):Int)) []) (R (.q (-1:Int)) [])):=by kernel_rfl
theorem wzc(g:Nat->MG)(n k:Nat)(P:Nat->Prop)(R:eR7):wav ⟨te,[(78,.det wgo)],[],0,19,0⟩ (wax Tryz.f62 2) [0,1,7,8] [] [4] (wl0 g n) P R (wl0 g n k)=(wab (decide ((k:Int)<(n:Int))) (((0:Int)<=(k:Int)/\(k:Int)<(n:Int)/\15=15)/\True/\wab (decide ((g (k:Int).toNat).kind=1)) (R .ret (St.mk [(4,.q (k:Int))] [] 0 [])) (inR .i64 ((k:Int)+1)/\∃(i':Nat),some (St.mk [(0,.view 15 n (waa g)),(1,.func 78 []),(7,.q (n:Int)),(8,.q ((k:Int)+1))] [] 0 [])=some (St.mk [(0,.view 15 n (waa g)),(1,.func 78 []),(7,.q (n:Int)),(8,.q (i':Int))] [] 0 [])/\P i')) (R (.exit 0) (St.mk [] [] 0 []))):=by kernel_rfl
theorem nf_cfo(g:Nat->MG)(n:Nat)(R:oR7):wpFn te [(62,.det wl1)] [] 0 Tryz.f60 [.view 15 n (waa g),.func 78 []] [] R=((n<=1000000/\waa g=waa (mgOf (waa g)))/\R (.bool (decide ((0:Int)<=ixB (λ(i:Nat)=>isV (mgOf (waa g) i)) n))) []):=by kernel_rfl
theorem wyg(o p:List UInt8)(per:Int)(o' p':List UInt8)(per':Int)(R:oR7):wpFn te [(80,.det wgi),(81,.det wdp),(79,.det S_or)] [] 0 Tryz.f42 [.agg [.str o,.str p,.q per],.agg [.str o',.str p',.q per']] [] R=(letI z0:=wau 1 (.q (cmpS o o'):: .q (cmpS p p'):: .q (cmpI per per')::List.append [] (List.flatten (List.replicate (nat_lit 0) [.q 0])));True/\True/\True/\(3<=16777216/\1=1/\3<=9223372036854775807)/\(∀(i:Nat),i<3->true=true)/\(3=3/\false=false/\3=3/\3<=100/\∀(i:Nat),i<3->[AV.q (List.getD [cmpS o o',cmpS p p',cmpI per per'] i (0:Int))]=[.q (vInt z0 i)])/\(∀(i:Nat),i<3->true=true)/\R (.q (orN (vInt z0) 3)) []):=by kernel_rfl
theorem wzo(v:VT)(R:oR7):wpFn te [] [] 0 Tryz.f40 [.agg [.str v.o,.str v.p,.q v.per,.q v.day,.q v.st,.q v.pr,.str v.rep]] [] R=(wab (decide (v.st=4)) (R (.bool true) []) (R (.bool (decide (v.st=5))) [])):=by kernel_rfl
theorem whr_ok(hP:C.P=Tryz.prog):wae C 77 wgf:=by
 rintro args objs U Os vc h hvc;unfold wgf at h;split at h<;>simp only[sI7,pI7,reduceCtorEq] at h;rename_i dev seq kind o p per day st pr rep o' p' per' dev' num;obtain⟨rfl,rfl,rfl⟩:=h;have hn:=nf_whr ⟨dev,seq,kind,⟨o,p,per,day,st,pr,rep⟩,⟨o',p',per',dev',num⟩⟩;dsimp only at hn;refine wae.wp0 (prg hP) [] 0 .nil (hP ▸ Tryz.func77) rfl rfl rfl ?_;rw[hn];unfold whr;exact waj (λq=>by rw[decide_eq_true q];exact⟨⟨trivial,trivial⟩,rfl,rfl⟩) (λq=>by rw[decide_eq_false q];exact⟨⟨trivial,trivial⟩,rfl,rfl⟩)
theorem op1_ok(hP:C.P=Tryz.prog):wae C 78 wgo:=by
 rintro args objs U Os vc h hvc;unfold wgo at h;split at h<;>simp only[sI7,pI7,reduceCtorEq] at h;rename_i dev seq kind o p per day st pr rep o' p' per' dev' num;obtain⟨rfl,rfl,rfl⟩:=h;have hn:=nf_op1 ⟨dev,seq,kind,⟨o,p,per,day,st,pr,rep⟩,⟨o',p',per',dev',num⟩⟩;dsimp only at hn;refine wae.wp0 (prg hP) [] 0 .nil (hP ▸ Tryz.func78) rfl rfl rfl ?_;rw[hn];exact⟨rfl,rfl⟩
theorem w1j(hP:C.P=Tryz.prog)(g:Nat->MG)(n:Nat):wai C 0 19 (wak Tryz.f62 2) (wnn g n):=by
 rintro st Q ⟨h0,hn,hQ⟩;have hR:=wb0 hQ;refine wai.mk (prg hP) [(78,.det wgo)] 0 (.cons (op1_ok hP) .nil) [0,1,7,8] [] [4] (wl0 g n) (λk=>k<=n/\fstB (λi=>isV (g i)) k=k) (λk=>n - k) 0 ⟨zL7 _,rfl⟩ h0 (λk hk=>?_);obtain⟨hkn,hok⟩:=hk;rw[wzc,tN7];refine waj (λh1=>?_) (λh1=>?_)
 ·refine⟨⟨by omega,by omega,rfl⟩,trivial,war (λh2=>?_) (λh2=>⟨by simp only[inR];omega,k+1,rfl,⟨by omega,wfg hok h2⟩,by omega⟩)⟩;have e:=wf7 hok h2 n (by omega);have:=hR.1 (by rw[e,decide_eq_true];omega);rw[e] at this;exact this
 ·have:k=n:=by omega
  subst this;exact hR.2 (by rw[hok,decide_eq_false];omega)
theorem ixo_ok(hP:C.P=Tryz.prog):wae C 62 wl1:=by
 rintro args objs U Os vc h hvc;unfold wl1 at h;split at h<;>cases h;rename_i n f;obtain⟨hn,hf⟩:=hvc;generalize mgOf f=g at *;subst hf;refine wae.wpL (prg hP) [(78,.det wgo)] [(2,wnn g n)] 0 (.cons (op1_ok hP) .nil) (hP ▸ Tryz.func62) rfl rfl rfl [(wak Tryz.f62 2,wnn g n)] (by kernel_rfl) ⟨w1j hP g n,trivial⟩ ?_;rw[nf_ixo];unfold ixB;refine⟨rfl,hn,waj (λh=>?_) (λh=>?_)⟩
 ·rw[decide_eq_true h];exact⟨rfl,rfl⟩
 ·rw[decide_eq_false h];exact⟨rfl,rfl⟩
theorem cfo_ok(hP:C.P=Tryz.prog):wae C 60 wmk:=by
 rintro args objs U Os vc h hvc;unfold wmk at h;split at h<;>cases h;rename_i n f;obtain⟨hn,hf⟩:=hvc;generalize mgOf f=g at *;subst hf;refine wae.wp0 (prg hP) [(62,.det wl1)] 0 (.cons (ixo_ok hP) .nil) (hP ▸ Tryz.func60) rfl rfl rfl ?_;rw[nf_cfo];exact⟨⟨hn,rfl⟩,rfl,rfl⟩
theorem woa(hP:C.P=Tryz.prog):wae C 42 wgh:=by
 rintro args objs U Os vc h hvc;unfold wgh at h;split at h<;>simp only[sI7,pI7,reduceCtorEq] at h;rename_i o p per o' p' per';obtain⟨rfl,rfl,rfl⟩:=h;refine wae.wp0 (prg hP) [(80,.det wgi),(81,.det wdp),(79,.det S_or)] 0 (.cons (wre hP) (.cons (wtj hP) (.cons (or_ok hP) .nil))) (hP ▸ Tryz.func42) rfl rfl rfl ?_;rw[wyg,woo];have three:∀ {p:Nat->Prop},p 0->p 1->p 2->∀i,i<3->p i:=λh0 h1 h2 i hi=>by
  match i,hi with
  |0,_=>exact h0
  |1,_=>exact h1
  |2,_=>exact h2
 exact⟨trivial,trivial,trivial,⟨by omega,rfl,by omega⟩,three rfl rfl rfl,⟨rfl,rfl,rfl,by omega,three rfl rfl rfl⟩,three rfl rfl rfl,rfl,rfl⟩
theorem wq6(hP:C.P=Tryz.prog):wa8 C 43 wgx:=by
 rintro args objs R h;unfold wgx at h;split at h
 ·rename_i n t m f fr;obtain⟨rfl,rfl,rfl,hn,hf,hR⟩:=h;generalize slOf f=g at *;subst hf;have hS:=wat.sortK (C:=C) slC 3 (λ_=>rfl) (λx u hu=>by
    simp only[slC,List.mem_cons,List.not_mem_nil,or_false] at hu
    rcases hu with rfl | rfl | rfl<;>rfl) ordS (t:=78) (fS:=43) (g:=42)
   ⟨_,hP ▸ Tryz.func43,rfl,by decide⟩
   (λblk cap d w h1 h2 h3 h4=>by
    rw[hP] at h1 ⊢;exact AnyQ.slices_SortFunc Tryz.sort43 3 Tryz.isAgg78 Tryz.sizeOf78 _ (λ_=>rfl) (λx v hv=>by
     simp only[encV,slC,List.map_cons,List.map_nil,List.mem_cons,List.not_mem_nil,or_false] at hv
     rcases hv with rfl | rfl | rfl<;>rfl) ordS (swo_of wci) 42 #[] blk 0 cap d w (enters_of Tryz.func42 (by kernel_rfl) rfl) h1 h2 h3 h4)
   (λp cap fv w=>by
    rw[hP];exact AnyF.slices_SortFunc_none Tryz.sort43 p cap fv w)
   (λx y=>woa (C:=Ctx.bare C.P C.mixed) hP _ _ _ _ _ rfl trivial) g (n:=n) (by omega)
  refine hS.mono ?_;rintro u O ⟨rfl,f',hp,hs,rfl⟩;exact hR f' hp hs
 ·exact h.elim
theorem w2e(hP:C.P=Tryz.prog):wae C 40 wme:=by
 rintro args objs U Os vc h hvc;unfold wme at h;split at h<;>cases h;rename_i o p per day st pr rep;have hn:=wzo ⟨o,p,per,day,st,pr,rep⟩;dsimp only at hn;refine wae.wp0 (prg hP) [] 0 .nil (hP ▸ Tryz.func40) rfl rfl rfl ?_;rw[hn];unfold finB;exact waj (λq=>by rw[decide_eq_true q];exact⟨rfl,rfl⟩) (λq=>by rw[decide_eq_false q];exact⟨rfl,rfl⟩)
end Go.Eng
namespace Go.Eng
open Go.Proofs Go.RowKit
variable {C:Ctx} [C.Loose]
set_option maxRecDepth 20000
theorem wyl(g:Nat->MG)(n:Nat)(R:oR7):wpFn te [(76,.det wev),(90,.det wgv),(91,.rel wm2)] [] 0 Tryz.f58 [.view 15 n (waa g)] [] R=(letI z0:=mrgL (mgOf (waa g)) n noM 0;letI z3:=mgOf (waa (atM z0));letI z2:=(∀(i:Nat),i<z0.length->true=true:Prop);letI z1:=(List.map (λ(p:AV×AV)=>(AV.rn (idxN [0,32,16]) p.1,AV.rn (idxN [0,32,16]) p.2)) (List.map (λ(p:AV×AV)=>(AV.rn (sig [0] 16) p.1,AV.rn (sig [0] 16) p.2)) (entM (cntL z3 z0.length))));(n<=100000/\waa g=waa (mgOf (waa g))/\∀(i:Nat),i<n->MG.Sm (mgOf (waa g) i))/\z2/\z2/\(47=47/\false=false/\z0.length=z0.length/\z0.length<=1000000/\waa (atM z0)=waa z3)/\z2/\z2/\47=47/\126=126/\false=false/\z0.length=z0.length/\z0.length<=1000000/\waa (atM z0)=waa z3/\EsOK z1/\∀(k:Nat) (h:Nat->MG),lst h k=kpL z1 z3 z0.length->(∀(i:Nat),i<k->true=true)/\(∀(i:Nat),i<k->true=true)/\∃(O':oL7),wac [(0,.row 47 15 k (waa h) false)] O'/\R (.own 0 k) O'):=by kernel_rfl
theorem wox(hP:C.P=Tryz.prog)(hL:∀w,C.laid w->LaidW w):wae C 76 wev:=by
 rintro args objs U Os vc h hvc;unfold wev at h;split at h<;>cases h;rename_i n f;obtain⟨hn,hf,hs⟩:=hvc;refine wat.nilArg 15 (waa noM) ?_;exact mrg_ok hP hL _ _ _ _ _ rfl ⟨hn,zL7 _,hf,rfl,hs,λi hi=>absurd hi (nZ7 i)⟩
theorem w2y(L:List ((List UInt8×Int)×Int))(x:MG):cntE (entM L) x=getC L (mk2 x):=by
 unfold cntE;have F1:Option.getD (mget (entM L) (.agg [.str x.dev,.q x.seq])) (.q 0)= .q (getC L (mk2 x)):=whk (mk2 x) L;rw[F1];rfl
theorem wfz(g:Nat->MG)(n:Nat)(h:Nat->MG)(m:Nat):(mrgL g n h m).length<=n+m:=by
 have:=w0p (lst g n++lst h m);have e:(lst g n++lst h m).length=n+m:=by simp[lst]
 unfold mrgL;omega
theorem wwz(hP:C.P=Tryz.prog)(hL:∀w,C.laid w->LaidW w):wae C 58 wlh:=by
 rintro args objs U Os vc h hvc;unfold wlh at h;split at h<;>cases h;rename_i n f;obtain⟨hn,hf,hs⟩:=hvc;generalize mgOf f=g at *;subst hf;refine wat.frzO 0 ?_;refine wa8.wpL (prg hP) [(76,.det wev),(90,.det wgv),(91,.rel wm2)] [] 0 (.cons (wox hP hL) (.cons (wuq hP) (.cons (delF_ok hP) .nil))) (hP ▸ Tryz.func58) rfl rfl rfl [] (by kernel_rfl) trivial ?_;rw[wyl]
 repeat rw[wcs]
 have hlen:=wfz g n noM 0;have hM:mrgL (mgOf (waa g)) n noM 0=mrgL g n noM 0:=rfl;have hR:wah g n=(mrgL g n noM 0).filter λx=> !decide (1<numC (atM (mrgL g n noM 0)) (mk2 x) (mrgL g n noM 0).length):=rfl;rw[hM];generalize mrgL g n noM 0=M at *;refine⟨⟨hn,rfl,hs⟩,λ_ _=>rfl,λ_ _=>rfl,⟨rfl,rfl,rfl,by omega,rfl⟩,λ_ _=>rfl,λ_ _=>rfl,rfl,rfl,rfl,rfl,by omega,rfl,⟨cntL (atM M) M.length,rfl,wkg _ _⟩,λk h hd=>?_⟩;have hd:lst h k=kpL (entM (cntL (atM M) M.length)) (atM M) M.length:=hd;have e:kpL (entM (cntL (atM M) M.length)) (atM M) M.length=wah g n:=by
  unfold kpL;rw[wc9,hR];refine List.filter_congr λx _=>?_;unfold delF;rw[w2y,wjx]
 rw[e] at hd;generalize wah g n=L at *;obtain⟨rfl,hat⟩:=wsx hd;refine⟨λ_ _=>rfl,λ_ _=>rfl,[(0,.row 47 15 L.length (waa (atM L)) false)],⟨⟨rfl,rfl,rfl,rfl,rfl,λi hi=>?_⟩,trivial⟩,λ_ _=>rfl,?_⟩
 ·unfold waa;rw[hat i hi]
 ·have hb:Nat.ble L.length L.length=true:=Nat.ble_eq_true_of_le (lR7 _)
  constructor
  ·simp[frzC,frzA,frz,hb]
  ·rfl
theorem nf_cand(o p:List UInt8)(per:Int)(g:Nat->MG)(n:Nat)(R:oR7):wpFn te [] [(3,wns o p per g n)] 0 Tryz.f59 [.view 15 n (waa g),.str o,.str p,.q per] [] R=(letI z0:=canL o p per g n;(TEq [(1,.str o),(2,.str p),(3,.q per),(9,.own 0 0),(13,.view 15 n (waa g)),(14,.q (n:Int)),(15,.q 0)] [(1,.str o),(2,.str p),(3,.q per),(9,.own 0 0),(13,.view 15 n (waa g)),(14,.q (n:Int)),(15,.q (↑0:Int))]/\wac [(0,.row 47 15 0 (λ(_x:Nat)=>[]) false)] [(0,.row 47 15 0 (waa (atM (canL o p per g 0))) false)])/\n<=1000000/\(∀(i:Nat),i<z0.length->true=true)/\∃(O':oL7),wac [(0,.row 47 15 z0.length (waa (atM z0)) false)] O'/\R (.own 0 z0.length) O'):=by kernel_rfl
theorem wz3(o p:List UInt8)(per:Int)(g:Nat->MG)(n k:Nat)(P:Nat->Prop)(R:eR7):wav ⟨te,[],[],0,68,0⟩ (wax Tryz.f59 3) [1,2,3,9,13,14,15] [9] [] (wmi o p per g n) P R (wmi o p per g n k)=(letI z8:=(15<=16777216/\15=15/\1<=9223372036854775807:Prop);letI z5:=canL o p per g k;letI z7:=z5.length;letI z9:=([(0,.row 47 15 z7 (waa (atM z5)) false)]:oL7);letI z3:=(z7:Int);letI z6:=(z3 - (1:Int));letI z2:=(g (k:Int).toNat);letI z4:=wau 15 (.str z2.dev:: .q z2.seq:: .q z2.kind:: .str z2.v.o:: .str z2.v.p:: .q z2.v.per:: .q z2.v.day:: .q z2.v.st:: .q z2.v.pr:: .str z2.v.rep:: .str z2.d.o:: .str z2.d.p:: .q z2.d.per:: .str z2.d.dev:: .q z2.d.num::List.append [] wbo);letI z1:=(z8/\((1<=1/\15=15)/\z5.length<=z5.length/\15=15/\47=47/\15=15/\z5.length+1<=9223372036854775807/\(z5.length+1) * 176<=140737488355328)/\inR .i64 ((k:Int)+1)/\∃(i':Nat),(TEq [(1,.str o),(2,.str p),(3,.q per),(9,.own 0 (z5.length+1)),(13,.view 15 n (waa g)),(14,.q (n:Int)),(15,.q ((k:Int)+1))] [(1,.str o),(2,.str p),(3,.q per),(9,.own 0 (canL o p per g i').length),(13,.view 15 n (waa g)),(14,.q (n:Int)),(15,.q (i':Int))]/\wac [(0,.row 47 15 (z5.length+1) (apF z7 (waa (atM z5)) z4) false)] [(0,.row 47 15 (canL o p per g i').length (waa (atM (canL o p per g i'))) false)])/\P i':Prop);letI z0:=(inR .i64 ((k:Int)+1)/\∃(i':Nat),(TEq [(1,.str o),(2,.str p),(3,.q per),(9,.own 0 z7),(13,.view 15 n (waa g)),(14,.q (n:Int)),(15,.q ((k:Int)+1))] [(1,.str o),(2,.str p),(3,.q per),(9,.own 0 (canL o p per g i').length),(13,.view 15 n (waa g)),(14,.q (n:Int)),(15,.q (i':Int))]/\wac z9 [(0,.row 47 15 (canL o p per g i').length (waa (atM (canL o p per g i'))) false)])/\P i');wab (decide ((k:Int)<(n:Int))) (((0:Int)<=(k:Int)/\(k:Int)<(n:Int)/\15=15)/\wab (!decide (z2.kind=1)) z0 (wab (!decide (z2.v.o=o)) z0 (wab (!decide (z2.v.p=p)) z0 (wab (!decide (z2.v.per=per)) z0 (wab (decide ((0:Int)<z3)) (inR .i64 z6/\((0:Int)<=z3 - (1:Int)/\z3 - (1:Int)<z3)/\(z6.toNat<z5.length/\15=15)/\wab (decide ((atM z5 z6.toNat).dev=z2.dev)) (inR .i64 z6/\((0:Int)<=z3 - (1:Int)/\z3 - (1:Int)<=z3)/\z8/\((1<=1/\15=15)/\z6.toNat<=z5.length/\15=15/\47=47/\15=15/\z6.toNat+1<=9223372036854775807/\(z6.toNat+1) * 176<=140737488355328)/\inR .i64 ((k:Int)+1)/\∃(i':Nat),(TEq [(1,.str o),(2,.str p),(3,.q per),(9,.own 0 (z6.toNat+1)),(13,.view 15 n (waa g)),(14,.q (n:Int)),(15,.q ((k:Int)+1))] [(1,.str o),(2,.str p),(3,.q per),(9,.own 0 (canL o p per g i').length),(13,.view 15 n (waa g)),(14,.q (n:Int)),(15,.q (i':Int))]/\wac [(0,.row 47 15 (z6.toNat+1) (apF z6.toNat (waa (atM z5)) z4) false)] [(0,.row 47 15 (canL o p per g i').length (waa (atM (canL o p per g i'))) false)])/\P i') z1) z1))))) ((∀(i:Nat),i<z5.length->true=true)/\∃(O':oL7),wac z9 O'/\R (.exit 0) (St.mk [(9,.own 0 z7)] O' 1 []))):=by kernel_rfl
theorem snocM{L:List MG}{m:MG}{t:Nat}(ht:t<=L.length)(ch:Nat->List AV)(hch:ch 0=mgC m)(j:Nat)(hj:j<t+1):apF t (waa (atM L)) ch j=waa (atM (L.take t++[m])) j:=by
 have hl:(L.take t).length=t:=by simp[ht]
 unfold apF
 by_cases h:j<t
 ·rw[if_pos h];have e:atM (L.take t++[m]) j=atM L j:=by
   unfold atM;rw[List.getD_eq_getElem?_getD,List.getD_eq_getElem?_getD,List.getElem?_append_left (by omega),List.getElem?_take,if_pos h]
  unfold waa;rw[e]
 ·have:j=t:=by omega
  subst this;rw[if_neg h,Nat.sub_self,hch];have e:atM (L.take j++[m]) j=m:=by
   unfold atM;rw[List.getD_eq_getElem?_getD,List.getElem?_append_right (by omega),hl,Nat.sub_self];rfl
  unfold waa;rw[e];rfl
theorem wv8(L:List MG)(m:MG):(stpC L m).length<=L.length+1:=by
 unfold stpC
 cases decide (0<L.length) && decide ((atM L (L.length - 1)).dev=m.dev) with
 |true=>simp
 |false=>simp
theorem wqc(o p:List UInt8)(per:Int)(g:Nat->MG):∀k,(canL o p per g k).length<=k
 |0=>lR7 _
 |k+1=>by
  have ih:=wqc o p per g k;rw[canL]
  cases selF o p per (g k) with
  |true=>have:=wv8 (canL o p per g k) (g k);show (stpC _ _).length<=_;omega
  |false=>show (canL o p per g k).length<=_;omega
theorem w2z(hP:C.P=Tryz.prog)(o p:List UInt8)(per:Int)(g:Nat->MG)(n:Nat):wai C 0 68 (wak Tryz.f59 3) (wns o p per g n):=by
 have _:C.Loose:=inferInstance;rintro st Q ⟨h0,hn,hQ⟩;refine AWP.ownNil 9 47 15 ?_;refine wai.mk (prg hP) [] 0 .nil [1,2,3,9,13,14,15] [9] [] (wmi o p per g n) (λk=>k<=n) (λk=>n - k) 0 (zL7 _) h0 (λk hk=>?_) (λi=>⟨λ_ _=>rfl,trivial⟩);have hlen:=wqc o p per g k;rw[wz3,tN7];have skip:selF o p per (g k)=false->canL o p per g (k+1)=canL o p per g k:=λh=>by rw[canL,h];rfl
 have go:selF o p per (g k)=true->canL o p per g (k+1)=stpC (canL o p per g k) (g k):=λh=>by rw[canL,h];rfl
 generalize hC:canL o p per g k=L at *;have no:k<n->selF o p per (g k)=false->inR .i64 ((k:Int)+1)/\∃i':Nat,(TEq [(1,.str o),(2,.str p),(3,.q per),(9,.own 0 L.length),(13,.view 15 n (waa g)),(14,.q (n:Int)),(15,.q ((k:Int)+1))] [(1,.str o),(2,.str p),(3,.q per),(9,.own 0 (canL o p per g i').length),(13,.view 15 n (waa g)),(14,.q (n:Int)),(15,.q (i':Int))]/\
   wac [(0,.row 47 15 L.length (waa (atM L)) false)] [(0,.row 47 15 (canL o p per g i').length (waa (atM (canL o p per g i'))) false)])/\(i'<=n/\n - i'<n - k):=λhk' h=>by
  refine⟨by simp only[inR];omega,k+1,?_,by omega,by omega⟩;rw[skip h];exact⟨rfl,rQ7,trivial⟩
 refine waj (λh1=>⟨⟨by omega,by omega,rfl⟩,wa7 (λq=>no (by omega) (by unfold selF;rw[decide_eq_false q];rfl)) (λq1=>wa7 (λq=>no (by omega) (by unfold selF;rw[decide_eq_true q1,decide_eq_false q];rfl)) (λq2=>wa7 (λq=>no (by omega) (by unfold selF;rw[decide_eq_true q1,decide_eq_true q2,decide_eq_false q];rfl)) (λq3=>wa7 (λq=>no (by omega) (by unfold selF;rw[decide_eq_true q1,decide_eq_true q2,decide_eq_true q3,decide_eq_false q];rfl)) (λq4=>?_))))⟩) (λh1=>?_)
 ·have hg:=go (by unfold selF;rw[decide_eq_true q1,decide_eq_true q2,decide_eq_true q3,decide_eq_true q4];rfl);have app:canL o p per g (k+1)=L++[g k]->∀ch:Nat->List AV,ch 0=mgC (g k)->∃i':Nat,(TEq [(1,.str o),(2,.str p),(3,.q per),(9,.own 0 (L.length+1)),(13,.view 15 n (waa g)),(14,.q (n:Int)),(15,.q ((k:Int)+1))] [(1,.str o),(2,.str p),(3,.q per),(9,.own 0 (canL o p per g i').length),(13,.view 15 n (waa g)),(14,.q (n:Int)),(15,.q (i':Int))]/\
    wac [(0,.row 47 15 (L.length+1) (apF L.length (waa (atM L)) ch) false)] [(0,.row 47 15 (canL o p per g i').length (waa (atM (canL o p per g i'))) false)])/\(i'<=n/\n - i'<n - k):=λe ch hch=>by
   refine⟨k+1,?_,by omega,by omega⟩;rw[e,lA7];refine⟨rfl,⟨rfl,rfl,rfl,rfl,rfl,λj hj=>?_⟩,trivial⟩;have:=snocM (lR7 L.length) ch hch j hj;rw[List.take_length] at this;exact this
  refine waj (λr1=>?_) (λr1=>?_)
  ·have e1:((L.length:Int) - 1).toNat=L.length - 1:=by omega
   rw[e1];refine⟨by simp only[inR];omega,⟨by omega,by omega⟩,⟨by omega,rfl⟩,waj (λr2=>?_) (λr2=>?_)⟩
   ·have e:canL o p per g (k+1)=L.take (L.length - 1)++[g k]:=by rw[hg,stpC,decide_eq_true (show 0<L.length by omega),decide_eq_true r2];rfl
    have hl:(L.take (L.length - 1)).length=L.length - 1:=by simp
    refine⟨by simp only[inR];omega,⟨by omega,by omega⟩,⟨by omega,rfl,by omega⟩,⟨⟨lR7 _,rfl⟩,by omega,rfl,rfl,rfl,by omega,?_⟩,by simp only[inR];omega,k+1,?_,by omega,by omega⟩
    ·show (L.length - 1+1) * 176<=_;omega
    ·rw[e,lA7,hl];exact⟨rfl,⟨rfl,rfl,rfl,rfl,rfl,λj hj=>snocM (by omega) _ rfl j hj⟩,trivial⟩
   ·have e:canL o p per g (k+1)=L++[g k]:=by rw[hg,stpC,decide_eq_false r2,Bool.and_false];rfl
    refine⟨⟨by omega,rfl,by omega⟩,⟨⟨lR7 _,rfl⟩,lR7 _,rfl,rfl,rfl,by omega,?_⟩,by simp only[inR];omega,app e _ rfl⟩;show (L.length+1) * 176<=_;omega
  ·have e:canL o p per g (k+1)=L++[g k]:=by rw[hg,stpC,decide_eq_false (show ¬ 0<L.length by omega)];rfl
   refine⟨⟨by omega,rfl,by omega⟩,⟨⟨lR7 _,rfl⟩,lR7 _,rfl,rfl,rfl,by omega,?_⟩,by simp only[inR];omega,app e _ rfl⟩;show (L.length+1) * 176<=_;omega
 ·have:k=n:=by omega
  subst this;rw[hC] at hQ;exact⟨λ_ _=>rfl,_,wa1 _,hQ⟩
theorem cand_ok(hP:C.P=Tryz.prog):wae C 59 wmn:=by
 rintro args objs U Os vc h hvc;unfold wmn at h;split at h<;>cases h;rename_i n f o p per;obtain⟨hn,hf⟩:=hvc;generalize mgOf f=g at *;subst hf;refine wat.frzO 0 ?_;refine wa8.wpL (prg hP) [] [(3,wns o p per g n)] 0 .nil (hP ▸ Tryz.func59) rfl rfl rfl [(wak Tryz.f59 3,wns o p per g n)] (by kernel_rfl) ⟨w2z hP o p per g n,trivial⟩ ?_;rw[nf_cand];generalize canL o p per g n=L at *;refine⟨⟨rfl,⟨rfl,rfl,rfl,rfl,rfl,λi hi=>absurd hi (nZ7 i)⟩,trivial⟩,hn,λ_ _=>rfl,_,wa1 _,λ_ _=>rfl,?_⟩;have hb:Nat.ble L.length L.length=true:=Nat.ble_eq_true_of_le (lR7 _)
 constructor
 ·simp[frzC,frzA,frz,hb]
 ·rfl
theorem wof(g:Nat->MG)(n:Nat):(wah g n).length<=n:=by
 have:=List.length_filter_le (λx=> !decide (1<numC (atM (mrgL g n noM 0)) (mk2 x) (mrgL g n noM 0).length)) (mrgL g n noM 0);have:=wfz g n noM 0;unfold wah;omega
theorem wzy(g:Nat->MG)(n:Nat)(R:oR7):letI z1:=mrgL g n noM 0;letI z3:=z1.length;letI z0:=mrgL (mgOf (waa g)) n noM 0;letI z4:=z0.length;letI z2:=(∀(i:Nat),i<z0.length->true=true:Prop);wpFn te [(76,.det wev),(90,.det wgv)] [(5,L_cn z1)] 0 Tryz.f75 [.view 15 n (waa g)] [] R=((n<=100000/\waa g=waa (mgOf (waa g))/\∀(i:Nat),i<n->MG.Sm (mgOf (waa g) i))/\z2/\z2/\(47=47/\false=false/\z0.length=z0.length/\z0.length<=1000000/\waa (atM z0)=waa (mgOf (waa (atM z0))))/\z2/\(TEq [(4,.map 0),(5,.own 1 0),(13,.own 2 z4),(14,.q (z4:Int)),(15,.q 0)] [(4,.map 0),(5,.own 1 0),(13,.own 2 z3),(14,.q (z3:Int)),(15,.q (↑0:Int))]/\wac [(0,.amap (List.map (λ(p:AV×AV)=>(AV.rn (ren 0 [(16,0),(32,1),(0,2)]) p.1,AV.rn (ren 0 [(16,0),(32,1),(0,2)]) p.2)) (List.map (λ(p:AV×AV)=>(AV.rn (sig [0] 16) p.1,AV.rn (sig [0] 16) p.2)) (entM (cntL (mgOf (waa (atM z0))) z4))))),(1,.row 103 2 0 (λ(_x:Nat)=>[]) false),(2,.row 47 15 z4 (waa (atM z0)) false)] [(0,.amap (entM (cntL (atM z1) z3))),(1,.row 103 2 0 (wcb (atK (clnP z1 0))) false),(2,.row 47 15 z3 (waa (atM z1)) false)])/\z1.length<=100000/\(∀(i:Nat),i<(clnP z1 z3).length->true=true)/\∃(O':oL7),wac [(0,.row 103 2 (clnP z1 z3).length (wcb (atK (clnP z1 z3))) false)] O'/\R (.own 0 (clnP z1 z3).length) O'):=by kernel_rfl
theorem wzx(M:List MG)(k:Nat)(P:Nat->Prop)(R:eR7):wav ⟨te,[(64,.det wdo)],[],0,46,0⟩ (wax Tryz.f75 5) [4,5,13,14,15] [5] [] (S_cn M) P R (S_cn M k)=(letI z9:=wcb (atK (clnP M k));letI z8:=(clnP M k).length+1;letI z5:=(atM M (k:Int).toNat);letI z4:=M.length;letI z6:=entM (cntL (atM M) z4);letI z3:=(clnP M k).length;letI z7:=(atK (clnP M k) ((z3:Int) - (1:Int)).toNat);letI z2:=(mget z6 (.agg [.str z5.dev,.q z5.seq]));letI z1:=(inR .i64 ((k:Int)+1)/\∃(i':Nat),(TEq [(4,.map 0),(5,.own 1 z3),(13,.own 2 z4),(14,.q (z4:Int)),(15,.q ((k:Int)+1))] [(4,.map 0),(5,.own 1 (clnP M i').length),(13,.own 2 z4),(14,.q (z4:Int)),(15,.q (i':Int))]/\wac [(0,.amap (List.map (λ(p:AV×AV)=>(AV.rn (ren 0 [(0,0),(1,1),(2,2)]) p.1,AV.rn (ren 0 [(0,0),(1,1),(2,2)]) p.2)) z6)),(1,.row 103 2 z3 z9 false),(2,.row 47 15 z4 (waa (atM M)) false)] [(0,.amap z6),(1,.row 103 2 (clnP M i').length (wcb (atK (clnP M i'))) false),(2,.row 47 15 z4 (waa (atM M)) false)])/\P i');letI z0:=((2<=16777216/\2=2/\1<=9223372036854775807)/\((1<=1/\2=2)/\(clnP M k).length<=(clnP M k).length/\2=2/\103=103/\2=2/\(clnP M k).length+1<=9223372036854775807/\z8 * 24<=140737488355328)/\inR .i64 ((k:Int)+1)/\∃(i':Nat),(TEq [(4,.map 0),(5,.own 1 z8),(13,.own 2 z4),(14,.q (z4:Int)),(15,.q ((k:Int)+1))] [(4,.map 0),(5,.own 1 (clnP M i').length),(13,.own 2 z4),(14,.q (z4:Int)),(15,.q (i':Int))]/\wac [(0,.amap (List.map (λ(p:AV×AV)=>(AV.rn (ren 0 [(0,0),(328,1),(2,2)]) p.1,AV.rn (ren 0 [(0,0),(328,1),(2,2)]) p.2)) z6)),(1,.row 103 2 z8 (apF z3 z9 (wau 2 (.str z5.dev:: .q z5.seq::List.append [] (List.flatten (List.replicate (nat_lit 0) [.str ([]),.q 0]))))) false),(2,.row 47 15 z4 (waa (atM M)) false)] [(0,.amap z6),(1,.row 103 2 (clnP M i').length (wcb (atK (clnP M i'))) false),(2,.row 47 15 z4 (waa (atM M)) false)])/\P i':Prop);wab (decide ((k:Int)<(z4:Int))) (((0:Int)<=(k:Int)/\(k:Int)<(z4:Int))/\((k:Int).toNat<M.length/\15=15)/\True/\(wa6 te 103 z6/\.q (wam (Option.getD z2 (zvA (.q 0))))=Option.getD z2 (zvA (.q 0)))/\wab (decide ((1:Int)<wam (Option.getD z2 (zvA (.q 0))))) (wab (decide ((z3:Int)=0)) z0 (inR .i64 ((z3:Int) - (1:Int))/\((0:Int)<=(z3:Int) - (1:Int)/\(z3:Int) - (1:Int)<(z3:Int))/\(((z3:Int) - (1:Int)).toNat<(clnP M k).length/\2=2)/\wab (!(decide (z7.1=z5.dev) && decide (z7.2=z5.seq))) z0 z1)) z1) ((∀(i:Nat),i<(clnP M k).length->true=true)/\∃(O':oL7),wac [(0,.row 103 2 z3 z9 false)] O'/\R (.exit 0) (St.mk [(5,.own 0 z3)] O' 1 []))):=by kernel_rfl
theorem cn_loop(hP:C.P=Tryz.prog)(M:List MG):wai C 0 46 (wak Tryz.f75 5) (L_cn M):=by
 rintro st Q ⟨h0,hn,hQ⟩;refine AWP.ownNil 5 103 2 ?_;refine wai.mk (prg hP) [(64,.det wdo)] 0 (.cons (wjd hP) .nil) [4,5,13,14,15] [5] [] (S_cn M) (λk=>k<=M.length) (λk=>M.length - k) 0 (zL7 _) h0 (λk hk=>?_) (λi=>⟨λ_ _=>rfl,λ_ _=>rfl,trivial⟩);rw[wzx,tN7];have hlen:=wkj M k;have F1:Option.getD (mget (entM (cntL (atM M) M.length)) (.agg [.str (atM M k).dev,.q (atM M k).seq])) (.q 0)= .q (getC (cntL (atM M) M.length) (mk2 (atM M k))):=whk (mk2 (atM M k)) _;rw[wjx] at F1;have zz:zvA (.q 0)= .q 0:=rfl;have e1:(((clnP M k).length:Int) - 1).toNat=(clnP M k).length - 1:=by omega
 simp only[zz,F1,wam,e1,wcs];have K1:=wkb (wkg (atM M) M.length);have step:clnP M (k+1)=bif decide (1<numC (atM M) (mk2 (atM M k)) M.length) && (decide ((clnP M k).length=0) || !smK (atK (clnP M k) ((clnP M k).length - 1)) (mk2 (atM M k))) then clnP M k++[mk2 (atM M k)] else clnP M k:=rfl
 have no:clnP M (k+1)=clnP M k->k<M.length->inR .i64 ((k:Int)+1)/\∃i':Nat,(TEq [(4,.map 0),(5,.own 1 (clnP M k).length),(13,.own 2 M.length),(14,.q (M.length:Int)),(15,.q ((k:Int)+1))] [(4,.map 0),(5,.own 1 (clnP M i').length),(13,.own 2 M.length),(14,.q (M.length:Int)),(15,.q (i':Int))]/\
   wac [(0,.amap (entM (cntL (atM M) M.length))),(1,.row 103 2 (clnP M k).length (wcb (atK (clnP M k))) false),(2,.row 47 15 M.length (waa (atM M)) false)] [(0,.amap (entM (cntL (atM M) M.length))),(1,.row 103 2 (clnP M i').length (wcb (atK (clnP M i'))) false),(2,.row 47 15 M.length (waa (atM M)) false)])/\(i'<=M.length/\M.length - i'<M.length - k):=λh hk'=>by
  refine⟨by simp only[inR];omega,k+1,?_,by omega,by omega⟩;rw[h];exact⟨rfl,rfl,rQ7,rQ7,trivial⟩
 refine waj (λh1=>?_) (λh1=>?_)
 ·have hk':k<M.length:=by omega
  refine⟨⟨by omega,by omega⟩,⟨by omega,trivial⟩,trivial,⟨K1,trivial⟩,waj (λh2=>waj (λh3=>?_) (λh3=>⟨by simp only[inR];omega,⟨by omega,by omega⟩,⟨by omega,trivial⟩,wct (λh4=>?_) (λh4=>?_)⟩)) (λh2=>?_)⟩
  ·have h:clnP M (k+1)=clnP M k++[mk2 (atM M k)]:=by rw[step,decide_eq_true h2,decide_eq_true (show (clnP M k).length=0 by omega)];rfl
   refine⟨⟨by omega,trivial,by omega⟩,⟨⟨lR7 _,trivial⟩,lR7 _,trivial,trivial,trivial,by omega,?_⟩,by simp only[inR];omega,k+1,?_,by omega,by omega⟩
   ·show ((clnP M k).length+1) * 24<=_;omega
   ·rw[h,lA7];exact⟨rfl,rfl,⟨rfl,rfl,rfl,rfl,rfl,λj hj=>wry (λx:List UInt8×Int=>[AV.str x.1,.q x.2]) (clnP M k) (mk2 (atM M k)) _ rfl j hj⟩,rQ7,trivial⟩
  ·have h:clnP M (k+1)=clnP M k++[mk2 (atM M k)]:=by
    rw[step,decide_eq_true h2,show smK (atK (clnP M k) ((clnP M k).length - 1)) (mk2 (atM M k))=false from h4];simp
   refine⟨⟨by omega,trivial,by omega⟩,⟨⟨lR7 _,trivial⟩,lR7 _,trivial,trivial,trivial,by omega,?_⟩,by simp only[inR];omega,k+1,?_,by omega,by omega⟩
   ·show ((clnP M k).length+1) * 24<=_;omega
   ·rw[h,lA7];exact⟨rfl,rfl,⟨rfl,rfl,rfl,rfl,rfl,λj hj=>wry (λx:List UInt8×Int=>[AV.str x.1,.q x.2]) (clnP M k) (mk2 (atM M k)) _ rfl j hj⟩,rQ7,trivial⟩
  ·exact no (by rw[step,decide_eq_true h2,decide_eq_false (show ¬ (clnP M k).length=0 by omega),show smK (atK (clnP M k) ((clnP M k).length - 1)) (mk2 (atM M k))=true from h4];rfl) hk'
  ·exact no (by rw[step,decide_eq_false h2];rfl) hk'
 ·have:k=M.length:=by omega
  subst this;exact⟨λ_ _=>trivial,_,wa1 _,hQ⟩
theorem w23(hP:C.P=Tryz.prog)(hL:∀w,C.laid w->LaidW w):wae C 75 wmj:=by
 rintro args objs U Os vc h hvc;unfold wmj at h;split at h<;>cases h;rename_i n f;obtain⟨hn,hf,hs⟩:=hvc;generalize mgOf f=g at *;subst hf;refine wat.frzO 0 ?_;refine wa8.wpL (prg hP) [(76,.det wev),(90,.det wgv)] [(5,L_cn (mrgL g n noM 0))] 0 (.cons (wox hP hL) (.cons (wuq hP) .nil)) (hP ▸ Tryz.func75) rfl rfl rfl [(wak Tryz.f75 5,L_cn (mrgL g n noM 0))] (by kernel_rfl) ⟨cn_loop hP _,trivial⟩ ?_;rw[wzy]
 repeat rw[wcs]
 have h1:=wfz g n noM 0;have h2:=wkj (mrgL g n noM 0) (mrgL g n noM 0).length;refine⟨⟨hn,rfl,hs⟩,λ_ _=>rfl,λ_ _=>rfl,⟨rfl,rfl,rfl,by show (mrgL g n noM 0).length<=_;omega,rfl⟩,λ_ _=>rfl,⟨rfl,rfl,⟨rfl,rfl,rfl,rfl,rfl,λi hi=>absurd hi (nZ7 i)⟩,rQ7,trivial⟩,by omega,λ_ _=>rfl,_,wa1 _,?_⟩;show frzO _ _ _ _;unfold wb7;generalize clnP (mrgL g n noM 0) (mrgL g n noM 0).length=L;refine⟨λ_ _=>rfl,?_⟩;have hb:Nat.ble L.length L.length=true:=Nat.ble_eq_true_of_le (lR7 _)
 constructor
 ·simp[frzC,frzA,frz,hb]
 ·rfl
theorem wyo(g:Nat->MG)(n:Nat)(o p:List UInt8)(per:Int)(R:oR7):letI z8:=atM (wah g n);letI z7:=(wah g n).length;letI z6:=wah (mgOf (waa g)) n;letI z4:=([.str [],.str [],.q 0,.q 0,.q 0,.q 0,.str []]:List AV);letI z1:=canL o p per z8 z7;letI z5:=(dcF o p per z1 z8 0).1;letI z3:=(dcF o p per z1 z8 z7).1;letI z0:=canL o p per (mgOf (waa (atM z6))) z6.length;letI z9:=z0.length;letI z2:=(atM z0 (0:Int).toNat).v;wpFn te [(58,.det wlh),(59,.det wmn),(60,.det wml)] [(10,L_rl o p per (canL o p per z8 (wah g n).length) (wah g n))] 0 Tryz.f29 [.view 15 n (waa g),.str o,.str p,.q per] [] R=((n<=100000/\waa g=waa (mgOf (waa g))/\∀(i:Nat),i<n->MG.Sm (mgOf (waa g) i))/\(z6.length<=1000000/\waa (atM z6)=waa (mgOf (waa (atM z6))))/\wab (decide ((z9:Int)=0)) ((True/\True)/\R (.tuple [.agg z4,.q 0]) []) (((0:Int)<=0/\(0:Int)<(z9:Int)/\15=15)/\(43=43/\z0.length<=1000000/\waa (atM z0)=waa (mgOf (waa (atM z0))))/\wab (!decide ((0:Int)<=ixB (λ(i:Nat)=>difF (VT.mk z2.o z2.p z2.per z2.day z2.st z2.pr z2.rep) (mgOf (waa (atM z0)) i)) z9)) ((True/\True)/\R (.tuple [.agg [.str z2.o,.str z2.p,.q z2.per,.q z2.day,.q z2.st,.q z2.pr,.str z2.rep],.q 1]) []) (some (St.mk [(1,.str o),(2,.str p),(3,.q per),(8,.ptr 0 0),(11,.view 15 z9 (waa (atM z0))),(13,.ptr 1 0),(14,.q (-1:Int)),(40,.view 15 z6.length (waa (atM z6))),(41,.q (z6.length:Int)),(42,.q 0)] [(0,.cells z4 43),(1,.cells z4 43)] 2 [])=some (St.mk [(1,.str o),(2,.str p),(3,.q per),(8,.ptr 0 0),(11,.view 15 z1.length (waa (atM z1))),(13,.ptr 1 0),(14,.q (dcF o p per z1 z8 0).2),(40,.view 15 z7 (waa z8)),(41,.q (z7:Int)),(42,.q (↑0:Int))] [(0,.cells z4 43),(1,.cells [.str z5.o,.str z5.p,.q z5.per,.q z5.day,.q z5.st,.q z5.pr,.str z5.rep] 43)] 2 [])/\(wah g n).length<=1000000/\z1.length<=1000000/\wab (decide ((dcF o p per z1 z8 z7).2<0)) ((True/\True)/\R (.tuple [.agg z4,.q 2]) []) ((True/\True)/\R (.tuple [.agg [.str z3.o,.str z3.p,.q z3.per,.q z3.day,.q z3.st,.q z3.pr,.str z3.rep],.q 1]) [])))):=by kernel_rfl
theorem wyj(o p:List UInt8)(per:Int)(C R:List MG)(k:Nat)(P:Nat->Prop)(Q:eR7):wav ⟨te,[(62,.det wl3)],[],0,92,0⟩ (wax Tryz.f29 10) [1,2,3,8,11,13,14,40,41,42] [8,13,14] [] (S_rl o p per C R) P Q (S_rl o p per C R k)=(letI z10:=R.length;letI z9:=C.length;letI z8:=waa (atM C);letI z7:=(z10:Int);letI z6:=dcF o p per C (atM R) k;letI z5:=([.str [],.str [],.q 0,.q 0,.q 0,.q 0,.str []]:List AV);letI z4:=(atM R (k:Int).toNat);letI z3:=([(0,.cells z5 43),(1,.cells [.str z6.1.o,.str z6.1.p,.q z6.1.per,.q z6.1.day,.q z6.1.st,.q z6.1.pr,.str z6.1.rep] 43)]:oL7);letI z1:=(DT.mk z4.d.o z4.d.p z4.d.per z4.d.dev z4.d.num);letI z2:=(atM C (ixB (λ(i:Nat)=>namF z1 (mgOf z8 i)) z9).toNat).v;letI z0:=(inR .i64 ((k:Int)+1)/\∃(i':Nat),some (St.mk [(1,.str o),(2,.str p),(3,.q per),(8,.ptr 0 0),(11,.view 15 z9 z8),(13,.ptr 1 0),(14,.q z6.2),(40,.view 15 z10 (waa (atM R))),(41,.q z7),(42,.q ((k:Int)+1))] z3 2 [])=some (St.mk [(1,.str o),(2,.str p),(3,.q per),(8,.ptr 0 0),(11,.view 15 z9 z8),(13,.ptr 1 0),(14,.q (dcF o p per C (atM R) i').2),(40,.view 15 z10 (waa (atM R))),(41,.q z7),(42,.q (i':Int))] [(0,.cells z5 43),(1,.cells [.str (dcF o p per C (atM R) i').1.o,.str (dcF o p per C (atM R) i').1.p,.q (dcF o p per C (atM R) i').1.per,.q (dcF o p per C (atM R) i').1.day,.q (dcF o p per C (atM R) i').1.st,.q (dcF o p per C (atM R) i').1.pr,.str (dcF o p per C (atM R) i').1.rep] 43)] 2 [])/\P i');wab (decide ((k:Int)<z7)) (((0:Int)<=(k:Int)/\(k:Int)<z7/\15=15)/\wab (!decide (z4.kind=2)) z0 (wab (!decide (z4.d.o=o)) z0 (wab (!decide (z4.d.p=p)) z0 (wab (!decide (z4.d.per=per)) z0 (wab (decide (z4.seq<z6.2)) z0 ((45=45/\C.length<=1000000/\waa (atM C)=waa (mgOf z8))/\wab (decide ((0:Int)<=ixB (λ(i:Nat)=>namF z1 (mgOf z8 i)) z9)) (((0:Int)<=ixB (λ(i:Nat)=>namF z1 (mgOf z8 i)) z9/\ixB (λ(i:Nat)=>namF z1 (mgOf z8 i)) z9<(z9:Int)/\15=15)/\inR .i64 ((k:Int)+1)/\∃(i':Nat),some (St.mk [(1,.str o),(2,.str p),(3,.q per),(8,.ptr 0 0),(11,.view 15 z9 z8),(13,.ptr 1 0),(14,.q z4.seq),(40,.view 15 z10 (waa (atM R))),(41,.q z7),(42,.q ((k:Int)+1))] [(0,.cells z5 43),(1,.cells [.str z2.o,.str z2.p,.q z2.per,.q z2.day,.q z2.st,.q z2.pr,.str z2.rep] 43)] 2 [])=some (St.mk [(1,.str o),(2,.str p),(3,.q per),(8,.ptr 0 0),(11,.view 15 z9 z8),(13,.ptr 1 0),(14,.q (dcF o p per C (atM R) i').2),(40,.view 15 z10 (waa (atM R))),(41,.q z7),(42,.q (i':Int))] [(0,.cells z5 43),(1,.cells [.str (dcF o p per C (atM R) i').1.o,.str (dcF o p per C (atM R) i').1.p,.q (dcF o p per C (atM R) i').1.per,.q (dcF o p per C (atM R) i').1.day,.q (dcF o p per C (atM R) i').1.st,.q (dcF o p per C (atM R) i').1.pr,.str (dcF o p per C (atM R) i').1.rep] 43)] 2 [])/\P i') z0)))))) (Q (.exit 0) (St.mk [(8,.ptr 0 0),(13,.ptr 1 0),(14,.q z6.2)] z3 2 []))):=by kernel_rfl
theorem wph{q:Nat->Bool}{n:Nat}:(0<=ixB q n↔fstB q n<n)/\(fstB q n<n->ixB q n=(fstB q n:Int)):=by
 unfold ixB
 by_cases h:fstB q n<n
 ·rw[decide_eq_true h];refine⟨⟨λ_=>h,λ_=>?_⟩,λ_=>rfl⟩;show (0:Int)<=(fstB q n:Int);omega
 ·rw[decide_eq_false h];refine⟨⟨λk=>?_,λk=>absurd k h⟩,λk=>absurd k h⟩;have k:(0:Int)<= -1:=k;omega
theorem rl_loop(hP:C.P=Tryz.prog)(o p:List UInt8)(per:Int)(L R:List MG):wai C 0 92 (wak Tryz.f29 10) (L_rl o p per L R):=by
 rintro st Q ⟨h0,hR,hC,hQ⟩;refine wai.mk (prg hP) [(62,.det wl3)] 0 (.cons (ix2_ok hP) .nil) [1,2,3,8,11,13,14,40,41,42] [8,13,14] [] (S_rl o p per L R) (λk=>k<=R.length) (λk=>R.length - k) 0 (zL7 _) h0 (λk hk=>?_);rw[wyj,tN7];have mk:∀r:VT×Int,dcF o p per L (atM R) (k+1)=r->some (St.mk [(1,.str o),(2,.str p),(3,.q per),(8,.ptr 0 0),(11,.view 15 L.length (waa (atM L))),(13,.ptr 1 0),(14,.q r.2),(40,.view 15 R.length (waa (atM R))),(41,.q (R.length:Int)),(42,.q ((k:Int)+1))] [(0,.cells [.str [],.str [],.q 0,.q 0,.q 0,.q 0,.str []] 43),(1,.cells [.str r.1.o,.str r.1.p,.q r.1.per,.q r.1.day,.q r.1.st,.q r.1.pr,.str r.1.rep] 43)] 2 [])=some (S_rl o p per L R (k+1)):=λr e=>by
  unfold S_rl;rw[e];rfl
 have no:k<R.length->(wcl o p per (dcF o p per L (atM R) k).2 (atM R k) && decide (fstB (λi=>namF (atM R k).d (atM L i)) L.length<L.length))=false->inR .i64 ((k:Int)+1)/\∃i':Nat,some (St.mk [(1,.str o),(2,.str p),(3,.q per),(8,.ptr 0 0),(11,.view 15 L.length (waa (atM L))),(13,.ptr 1 0),(14,.q (dcF o p per L (atM R) k).2),(40,.view 15 R.length (waa (atM R))),(41,.q (R.length:Int)),(42,.q ((k:Int)+1))] [(0,.cells [.str [],.str [],.q 0,.q 0,.q 0,.q 0,.str []] 43),(1,.cells [.str (dcF o p per L (atM R) k).1.o,.str (dcF o p per L (atM R) k).1.p,.q (dcF o p per L (atM R) k).1.per,.q (dcF o p per L (atM R) k).1.day,.q (dcF o p per L (atM R) k).1.st,.q (dcF o p per L (atM R) k).1.pr,.str (dcF o p per L (atM R) k).1.rep] 43)] 2 [])=some (S_rl o p per L R i')/\(i'<=R.length/\R.length - i'<R.length - k):=λhk' h=>
  ⟨by simp only[inR];omega,k+1,mk _ (by rw[dcF,h];rfl),by omega,by omega⟩
 refine waj (λh1=>⟨⟨by omega,by omega,rfl⟩,wa7 (λq=>no (by omega) (by unfold wcl;rw[decide_eq_false q];rfl)) (λq1=>wa7 (λq=>no (by omega) (by unfold wcl;rw[decide_eq_true q1,decide_eq_false q];rfl)) (λq2=>wa7 (λq=>no (by omega) (by unfold wcl;rw[decide_eq_true q1,decide_eq_true q2,decide_eq_false q];rfl)) (λq3=>wa7 (λq=>no (by omega) (by unfold wcl;rw[decide_eq_true q1,decide_eq_true q2,decide_eq_true q3,decide_eq_false q];rfl))
  (λq4=>waj (λq=>no (by omega) (by unfold wcl;rw[decide_eq_true q1,decide_eq_true q2,decide_eq_true q3,decide_eq_true q4,decide_eq_true q];rfl)) (λq5=>⟨⟨rfl,hC,rfl⟩,waj (λq=>?_) (λq=>?_)⟩)))))⟩) (λh1=>?_)
 ·have q:0<=ixB (λi=>namF (atM R k).d (atM L i)) L.length:=q;obtain⟨x1,x2⟩:=wph (q:=λi=>namF (atM R k).d (atM L i)) (n:=L.length);have hlt:=x1.1 q;have hx:=x2 hlt;have hd:dcF o p per L (atM R) (k+1)=((atM L (ixB (λi=>namF (atM R k).d (atM L i)) L.length).toNat).v,(atM R k).seq):=by
   rw[dcF,decide_eq_true hlt,hx,tN7];unfold wcl;rw[decide_eq_true q1,decide_eq_true q2,decide_eq_true q3,decide_eq_true q4,decide_eq_false q5];rfl
  refine⟨⟨q,?_,rfl⟩,by simp only[inR];omega,k+1,mk _ hd,by omega,by omega⟩;show ixB (λi=>namF (atM R k).d (atM L i)) L.length<_;omega
 ·have q:¬ 0<=ixB (λi=>namF (atM R k).d (atM L i)) L.length:=q;obtain⟨x1,_⟩:=wph (q:=λi=>namF (atM R k).d (atM L i)) (n:=L.length);exact no (by omega) (by rw[decide_eq_false (λh=>q (x1.2 h)),Bool.and_false])
 ·have:k=R.length:=by omega
  subst this;exact hQ
theorem ww7(hP:C.P=Tryz.prog)(hL:∀w,C.laid w->LaidW w):wae C 29 wli:=by
 rintro args objs U Os vc h hvc;unfold wli at h;split at h<;>cases h;rename_i n f o p per;obtain⟨hn,hf,hs⟩:=hvc;generalize mgOf f=g at *;subst hf;refine wae.wpL (prg hP) [(58,.det wlh),(59,.det wmn),(60,.det wml)] [(10,L_rl o p per (canL o p per (atM (wah g n)) (wah g n).length) (wah g n))] 0 (.cons (wwz hP hL) (.cons (cand_ok hP) (.cons (cf1_ok hP) .nil))) (hP ▸ Tryz.func29) rfl rfl rfl [(wak Tryz.f29 10,L_rl o p per (canL o p per (atM (wah g n)) (wah g n).length) (wah g n))] (by kernel_rfl) ⟨rl_loop hP o p per _ _,trivial⟩ ?_;rw[wyo];have hg:mgOf (waa g)=g:=rfl;have hgR:mgOf (waa (atM (wah g n)))=atM (wah g n):=rfl;rw[hg,hgR];have hr:(wah g n).length<=n:=by
  have:=List.length_filter_le (λx=> !decide (1<numC (atM (mrgL g n noM 0)) (mk2 x) (mrgL g n noM 0).length)) (mrgL g n noM 0);have:=wfz g n noM 0;unfold wah;omega
 unfold resF;have hc:=wqc o p per (atM (wah g n)) (wah g n).length;generalize canL o p per (atM (wah g n)) (wah g n).length=L at *;generalize wah g n=R at *;refine⟨⟨hn,rfl,hs⟩,⟨by omega,rfl⟩,waj (λq=>?_) (λq=>⟨⟨by omega,by omega,rfl⟩,⟨rfl,by omega,rfl⟩,wa7 (λq2=>?_) (λq2=>⟨rfl,by omega,by omega,waj (λq3=>?_) (λq3=>?_)⟩)⟩)⟩
 ·have e:resR o p per R L=(we2,0):=by unfold resR;rw[decide_eq_true (show L.length=0 by omega)];rfl
  rw[e];exact⟨⟨trivial,trivial⟩,rfl,rfl⟩
 ·have q2:¬ 0<=ixB (λi=>difF (atM L 0).v (atM L i)) L.length:=q2;have e:resR o p per R L=((atM L 0).v,1):=by unfold resR;rw[decide_eq_false (show ¬ L.length=0 by omega),decide_eq_false q2];rfl
  rw[e];exact⟨⟨trivial,trivial⟩,rfl,rfl⟩
 ·have q2:0<=ixB (λi=>difF (atM L 0).v (atM L i)) L.length:=q2;have e:resR o p per R L=(we2,2):=by unfold resR;rw[decide_eq_false (show ¬ L.length=0 by omega),decide_eq_true q2,decide_eq_true q3];rfl
  rw[e];exact⟨⟨trivial,trivial⟩,rfl,rfl⟩
 ·have q2:0<=ixB (λi=>difF (atM L 0).v (atM L i)) L.length:=q2;have e:resR o p per R L=((dcF o p per L (atM R) R.length).1,1):=by unfold resR;rw[decide_eq_false (show ¬ L.length=0 by omega),decide_eq_true q2,decide_eq_false q3];rfl
  rw[e];exact⟨⟨trivial,trivial⟩,rfl,rfl⟩
end Go.Eng
