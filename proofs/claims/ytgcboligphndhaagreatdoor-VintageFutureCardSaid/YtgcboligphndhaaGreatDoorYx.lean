/- What is in a file. -/
import Derived.Test.YtgcboligphndhaaGreatDoorYu
import Derived.Test.YtgcboligphndhaaGreatDoorYw
namespace Go.Eng
open Go.Proofs Go.RowKit
variable {C:Ctx} [C.Loose]
set_option maxRecDepth 20000
theorem nf_k1 (m:MG) (R:AV→List (Nat×AObj)→Prop):wpFn te [(72,.det wff)] [] 0 Tryz.f125 [.agg [.str m.dev,.int .i64 m.seq,.int .i64 m.kind,.str m.v.o,.str m.v.p,.int .i64 m.v.per,.int .i64 m.v.day,.int .i64 m.v.st,.int .i64 m.v.pr,.str m.v.rep,.str m.d.o,.str m.d.p,.int .i64 m.d.per,.str m.d.dev,.int .i64 m.d.num]] [] R=((List.length (MG.dev m)<4294967281∧List.length (VT.o (MG.v m))<4294967281∧List.length (DT.o (MG.d m))<4294967281∧List.length (DT.dev (MG.d m))<4294967281)∧R (.bool !decide (msgF (MG.mk (MG.dev m) (MG.seq m) (MG.kind m) (VT.mk (VT.o (MG.v m)) (VT.p (MG.v m)) (VT.per (MG.v m)) (VT.day (MG.v m)) (VT.st (MG.v m)) (VT.pr (MG.v m)) (VT.rep (MG.v m))) (DT.mk (DT.o (MG.d m)) (DT.p (MG.d m)) (DT.per (MG.d m)) (DT.dev (MG.d m)) (DT.num (MG.d m))))=(0:Int))) []):=by kernel_rfl
theorem nf_k2 (t:RT) (R:AV→List (Nat×AObj)→Prop):wpFn te [(108,.det wlx)] [] 0 Tryz.f127 [.agg [.str t.o,.str t.p,.int .i64 t.per,.int .i64 t.st,.view 2 t.bs.length (wa0 (atB t.bs))]] [] R=(letI z0:=lst (bkOf (wa0 (atB (RT.bs t)))) (List.length (RT.bs t));(List.length (RT.o t)<4294967281∧wa0 (atB (RT.bs t))=wa0 (atB z0))∧R (.bool !rtOK (RT.mk (RT.o t) (RT.p t) (RT.per t) (RT.st t) z0)) []):=by kernel_rfl
theorem nf_ik1 (g:Nat→MG) (n:Nat) (R:AV→List (Nat×AObj)→Prop):wpFn te [(125,.det S_k1)] [(2,wod g n)] 0 Tryz.f70 [.view 15 n (wag g),.func 125 []] [] R=(some (St.mk [(0,.view 15 n (wag g)),(1,.func 125 []),(7,.int .i64 (↑n:Int)),(8,.int .i64 0)] [] 0 [])=some (St.mk [(0,.view 15 n (wag g)),(1,.func 125 []),(7,.int .i64 (↑n:Int)),(8,.int .i64 (↑0:Int))] [] 0 [])∧n≤1000000∧(∀ (i:Nat),i<n→MG.Sm (g i))∧wad (decide (fstB (fun (i:Nat)=>badM (g i)) n<n)) (R (.int .i64 (↑(fstB (fun (i:Nat)=>badM (g i)) n):Int)) []) (R (.int .i64 (-1:Int)) [])):=by kernel_rfl
theorem wzt (g:Nat→MG) (n k:Nat) (P:Nat→Prop) (R:Exit→St→Prop):wa2 ⟨te,[(125,.det S_k1)],[],0,19,0⟩ (wa3 Tryz.f70 2) [0,1,7,8] [] [4] (wmm g n) P R (wmm g n k)=(letI z0:=(g (Int.toNat (↑k:Int)));wad (decide ((↑k:Int)<(↑n:Int))) (((0:Int)≤(↑k:Int)∧(↑k:Int)<(↑n:Int)∧15=15)∧(List.length (MG.dev z0)<4294967281∧List.length (VT.o (MG.v z0))<4294967281∧List.length (DT.o (MG.d z0))<4294967281∧List.length (DT.dev (MG.d z0))<4294967281)∧wad (badM (MG.mk (MG.dev z0) (MG.seq z0) (MG.kind z0) (VT.mk (VT.o (MG.v z0)) (VT.p (MG.v z0)) (VT.per (MG.v z0)) (VT.day (MG.v z0)) (VT.st (MG.v z0)) (VT.pr (MG.v z0)) (VT.rep (MG.v z0))) (DT.mk (DT.o (MG.d z0)) (DT.p (MG.d z0)) (DT.per (MG.d z0)) (DT.dev (MG.d z0)) (DT.num (MG.d z0))))) (R .ret (St.mk [(4,.int .i64 (↑k:Int))] [] 0 [])) (inR .i64 ((↑k:Int)+(1:Int))∧∃ (i':Nat),some (St.mk [(0,.view 15 n (wag g)),(1,.func 125 []),(7,.int .i64 (↑n:Int)),(8,.int .i64 ((↑k:Int)+(1:Int)))] [] 0 [])=some (St.mk [(0,.view 15 n (wag g)),(1,.func 125 []),(7,.int .i64 (↑n:Int)),(8,.int .i64 (↑i':Int))] [] 0 [])∧P i')) (R (.exit 0) (St.mk [] [] 0 []))):=by kernel_rfl
theorem nf_ck1 (g:Nat→MG) (n:Nat) (R:AV→List (Nat×AObj)→Prop):wpFn te [(70,.det wmo)] [] 0 Tryz.f68 [.view 15 n (wag g),.func 125 []] [] R=((n≤1000000∧wag g=wag (mgOf (wag g))∧∀ (i:Nat),i<n→MG.Sm (mgOf (wag g) i))∧R (.bool (decide ((0:Int)≤ixB (fun (i:Nat)=>badM (mgOf (wag g) i)) n))) []):=by kernel_rfl
theorem nf_ik2 (g:Nat→RT) (n:Nat) (R:AV→List (Nat×AObj)→Prop):wpFn te [(127,.det S_k2)] [(2,woc g n)] 0 Tryz.f161 [.view 5 n (wah g),.func 127 []] [] R=(some (St.mk [(0,.view 5 n (wah g)),(1,.func 127 []),(7,.int .i64 (↑n:Int)),(8,.int .i64 0)] [] 0 [])=some (St.mk [(0,.view 5 n (wah g)),(1,.func 127 []),(7,.int .i64 (↑n:Int)),(8,.int .i64 (↑0:Int))] [] 0 [])∧n≤1000000∧(∀ (i:Nat),i<n→RT.Sm (g i))∧wad (decide (fstB (fun (i:Nat)=>badT (g i)) n<n)) (R (.int .i64 (↑(fstB (fun (i:Nat)=>badT (g i)) n):Int)) []) (R (.int .i64 (-1:Int)) [])):=by kernel_rfl
theorem wzs (g:Nat→RT) (n k:Nat) (P:Nat→Prop) (R:Exit→St→Prop):wa2 ⟨te,[(127,.det S_k2)],[],0,19,0⟩ (wa3 Tryz.f161 2) [0,1,7,8] [] [4] (wml g n) P R (wml g n k)=(letI z0:=(g (Int.toNat (↑k:Int)));letI z1:=lst (bkOf (wa0 (atB (RT.bs z0)))) (List.length (RT.bs z0));wad (decide ((↑k:Int)<(↑n:Int))) (((0:Int)≤(↑k:Int)∧(↑k:Int)<(↑n:Int)∧5=5)∧(List.length (RT.o z0)<4294967281∧wa0 (atB (RT.bs z0))=wa0 (atB z1))∧wad (badT (RT.mk (RT.o z0) (RT.p z0) (RT.per z0) (RT.st z0) z1)) (R .ret (St.mk [(4,.int .i64 (↑k:Int))] [] 0 [])) (inR .i64 ((↑k:Int)+(1:Int))∧∃ (i':Nat),some (St.mk [(0,.view 5 n (wah g)),(1,.func 127 []),(7,.int .i64 (↑n:Int)),(8,.int .i64 ((↑k:Int)+(1:Int)))] [] 0 [])=some (St.mk [(0,.view 5 n (wah g)),(1,.func 127 []),(7,.int .i64 (↑n:Int)),(8,.int .i64 (↑i':Int))] [] 0 [])∧P i')) (R (.exit 0) (St.mk [] [] 0 []))):=by kernel_rfl
theorem nf_ck2 (g:Nat→RT) (n:Nat) (R:AV→List (Nat×AObj)→Prop):wpFn te [(161,.det wmn)] [] 0 Tryz.f126 [.view 5 n (wah g),.func 127 []] [] R=((n≤1000000∧wah g=wah (rtOf (wah g))∧∀ (i:Nat),i<n→RT.Sm (rtOf (wah g) i))∧R (.bool (decide ((0:Int)≤ixB (fun (i:Nat)=>badT (rtOf (wah g) i)) n))) []):=by kernel_rfl
theorem wz6 (F:FL) (R:AV→List (Nat×AObj)→Prop):wpFn te [(68,.det wm6),(126,.det wm5),(105,.det wlq)] [] 0 Tryz.f74 [.agg [.str F.id,.int .i64 F.ver,.int .i64 F.day,.int .i64 F.kind,.view 15 F.ms.length (wag (atM F.ms)),.view 5 F.rs.length (wai (atR F.rs)),.view 5 F.ts.length (wah (atT F.ts))]] [] R=(letI z6:=wah (atT (FL.ts F));letI z5:=wai (atR (FL.rs F));letI z4:=wag (atM (FL.ms F));letI z3:=R (.bool false) [];letI z2:=(↑(List.length (FL.ms F)):Int);letI z1:=(↑(List.length (FL.ts F)):Int);letI z0:=(↑(List.length (FL.rs F)):Int);wad (decide (FL.kind F=(1:Int))) (inR .i64 (z0+z1)∧wad (decide (z0+z1=(0:Int))) (wad (decide (z2≤(400:Int))) ((List.length (FL.ms F)≤1000000∧wag (atM (FL.ms F))=wag (mgOf z4)∧∀ (i:Nat),i<List.length (FL.ms F)→MG.Sm (mgOf z4 i))∧R (.bool !decide ((0:Int)≤ixB (fun (i:Nat)=>badM (mgOf z4 i)) (List.length (FL.ms F)))) []) z3) z3) (wad (decide (FL.kind F=(2:Int))) (inR .i64 (z2+z1)∧wad (decide (z2+z1=(0:Int))) (wad (decide (z0≤(400:Int))) ((List.length (FL.rs F)≤1000000∧wai (atR (FL.rs F))=wai (rwOf z5)∧∀ (i:Nat),i<List.length (FL.rs F)→List.length (RW.o (rwOf z5 i))<4294967281)∧R (.bool (decide (svF (rwOf z5) (List.length (FL.rs F))=(0:Int)))) []) z3) z3) (inR .i64 (z2+z0)∧wad (decide (z2+z0=(0:Int))) (wad (decide (z1≤(400:Int))) ((List.length (FL.ts F)≤1000000∧wah (atT (FL.ts F))=wah (rtOf z6)∧∀ (i:Nat),i<List.length (FL.ts F)→RT.Sm (rtOf z6 i))∧R (.bool !decide ((0:Int)≤ixB (fun (i:Nat)=>badT (rtOf z6 i)) (List.length (FL.ts F)))) []) z3) z3))):=by kernel_rfl
theorem nf_vin (F:FL) (R:AV→List (Nat×AObj)→Prop):wpFn te [(72,.det wff),(73,.det wg6),(74,.det wm1)] [] 0 Tryz.f29 [.agg [.str F.id,.int .i64 F.ver,.int .i64 F.day,.int .i64 F.kind,.view 15 F.ms.length (wag (atM F.ms)),.view 5 F.rs.length (wai (atR F.rs)),.view 5 F.ts.length (wah (atT F.ts))]] [] R=(letI z2:=R (.int .i64 151) [];letI z1:=flV (FL.id F) (FL.ver F) (FL.day F) (FL.kind F) (List.length (FL.ms F)) (wag (atM (FL.ms F))) (List.length (FL.rs F)) (wai (atR (FL.rs F))) (List.length (FL.ts F)) (wah (atT (FL.ts F)));letI z0:=(True∧wad (decide ((bif decide ((0:Int)≤FL.day F) && decide (FL.day F≤(182620:Int)) then FL.day F % (7:Int) else (-1:Int))<(0:Int))) (R (.int .i64 152) []) (wad (decide (FL.kind F<(1:Int))) (R (.int .i64 153) []) (wad (decide ((3:Int)<FL.kind F)) (R (.int .i64 153) []) ((FlC (List.length (FL.ms F)) (wag (atM (FL.ms F))) (List.length (FL.rs F)) (wai (atR (FL.rs F))) (List.length (FL.ts F)) (wah (atT (FL.ts F)))∧FL.Sm z1)∧wad (!ctF z1) (R (.int .i64 154) []) (R (.int .i64 0) [])))));(List.length (FL.id F)<4294967281∧0<4294967281∧0<4294967281∧0<4294967281)∧wad (decide (msgF (MG.mk (FL.id F) (0:Int) (0:Int) (VT.mk [] [] (0:Int) (0:Int) (0:Int) (0:Int) []) (DT.mk [] [] (0:Int) [] (0:Int)))=(110:Int))) (R (.int .i64 150) []) (wad (decide (FL.ver F<(1:Int))) z2 (wad (decide ((1000:Int)<FL.ver F)) z2 (wad (decide (FL.kind F=(1:Int))) (wad (!decide (FL.ver F=(1:Int))) z2 z0) z0)))):=by kernel_rfl
theorem ix_any {q:Nat→Bool}:∀ n,decide (0≤ixB q n)=(List.range n).any q:=by
 intro n
 unfold ixB
 obtain ⟨h1,h2⟩:=wki q n
 have hle:=wil q n
 by_cases h:fstB q n<n
 ·rw [decide_eq_true h]
  have:(List.range n).any q=true:=List.any_eq_true.2 ⟨_,List.mem_range.2 h,h2 h⟩
  rw [this,decide_eq_true]
  show (0:Int)≤(fstB q n:Int)
  omega
 ·rw [decide_eq_false h]
  have:(List.range n).any q=false:=List.any_eq_false.2 fun j hj=>by
   rw [h1 j (by have:=List.mem_range.1 hj;omega)];exact Bool.false_ne_true
  rw [this]
  exact decide_eq_false (show ¬ (0:Int)≤ -1 by decide)
theorem ix_all {α:Type} (ok:α→Bool) (L:List α) (d:α):decide (0≤ixB (fun i=> !ok (L.getD i d)) L.length)= !L.all ok:=by
 rw [ix_any]
 have e:L=(List.range L.length).map fun i=>L.getD i d:=(wep L d).symm
 have:L.all ok=(List.range L.length).all fun i=>ok (L.getD i d):=by
  conv=>lhs;rw [e]
  rw [List.all_map];rfl
 rw [this,List.any_eq_not_all_not]
 simp
theorem atT_sm {F:FL} (h:F.Sm) {i:Nat} (hi:i<F.ts.length):(atT F.ts i).Sm:=h.t.2 _ (wv6 hi)
theorem atM_sm {F:FL} (h:F.Sm) {i:Nat} (hi:i<F.ms.length):(atM F.ms i).Sm:=h.m.2 _ (wv7 hi)
theorem atR_sm {F:FL} (h:F.Sm) {i:Nat} (hi:i<F.rs.length):(atR F.rs i).o.length<4294967281:=h.r.2 _ (by unfold atR;simp [List.getD,hi])
theorem k1_ok (hP:C.P=Tryz.prog) (hL:∀ w,C.laid w→LaidW w):waf C 125 S_k1:=by
 rintro args objs U Os vc h hvc
 unfold S_k1 at h
 split at h<;>simp only [Option.some.injEq,Prod.mk.injEq,reduceCtorEq] at h
 rename_i dev seq kind o p per day st pr rep o' p' per' dev' num
 obtain ⟨rfl,rfl,rfl⟩:=h
 have hn:=nf_k1 ⟨dev,seq,kind,⟨o,p,per,day,st,pr,rep⟩,⟨o',p',per',dev',num⟩⟩
 dsimp only at hn
 refine waf.wp0 (prg hP) [(72,.det wff)] 0 (.cons (wpm hP hL) .nil) (hP ▸ Tryz.func125) rfl rfl rfl ?_
 rw [hn]
 exact ⟨hvc,rfl,rfl⟩
theorem k2_ok (hP:C.P=Tryz.prog) (hL:∀ w,C.laid w→LaidW w):waf C 127 S_k2:=by
 rintro args objs U Os vc h hvc
 unfold S_k2 at h
 split at h<;>simp only [Option.some.injEq,Prod.mk.injEq,reduceCtorEq] at h
 rename_i o p per st n f
 obtain ⟨rfl,rfl,rfl⟩:=h
 obtain ⟨ho,hf⟩:=hvc
 have hl:(lst (bkOf f) n).length=n:=by simp [lst]
 generalize hb:lst (bkOf f) n=bs at *
 subst hl
 subst hf
 have hn:=nf_k2 ⟨o,p,per,st,bs⟩
 dsimp only at hn
 refine waf.wp0 (prg hP) [(108,.det wlx)] 0 (.cons (wxp hP hL) .nil) (hP ▸ Tryz.func127) rfl rfl rfl ?_
 rw [hn,wk6]
 exact ⟨⟨ho,rfl⟩,rfl,rfl⟩
theorem w1y (hP:C.P=Tryz.prog) (hL:∀ w,C.laid w→LaidW w) (g:Nat→MG) (n:Nat):waj C 0 19 (wam Tryz.f70 2) (wod g n):=by
 rintro st Q ⟨h0,hn,hs,hQ⟩
 have hR:=wcb hQ
 refine waj.mk (prg hP) [(125,.det S_k1)] 0 (.cons (k1_ok hP hL) .nil) [0,1,7,8] [] [4] (wmm g n) (fun k=>k≤n∧fstB (fun i=>badM (g i)) k=k) (fun k=>n - k) 0 ⟨Nat.zero_le _,rfl⟩ h0 (fun k hk=>?_)
 obtain ⟨hkn,hok⟩:=hk
 rw [wzt,Int.toNat_natCast]
 refine wak (fun h1=>?_) (fun h1=>?_)
 ·have hlt:k<n:=by omega
  refine ⟨⟨by omega,by omega,rfl⟩,⟨(hs k hlt).1,(hs k hlt).2,(hs k hlt).3,(hs k hlt).4⟩,waz (fun h2=>?_) (fun h2=>⟨by simp only [inR];omega,k+1,rfl,⟨by omega,wik hok h2⟩,by omega⟩)⟩
  have e:=wim hok h2 n (by omega)
  have:=hR.1 (by rw [e,decide_eq_true];omega)
  rw [e] at this
  exact this
 ·have:k=n:=by omega
  subst this
  exact hR.2 (by rw [hok,decide_eq_false];omega)
theorem ik1_ok (hP:C.P=Tryz.prog) (hL:∀ w,C.laid w→LaidW w):waf C 70 wmo:=by
 rintro args objs U Os vc h hvc
 unfold wmo at h
 split at h<;>simp only [Option.some.injEq,Prod.mk.injEq,reduceCtorEq] at h
 rename_i n f
 obtain ⟨rfl,rfl,rfl⟩:=h
 obtain ⟨hn,hf,hs⟩:=hvc
 generalize mgOf f=g at *
 subst hf
 refine waf.wpL (prg hP) [(125,.det S_k1)] [(2,wod g n)] 0 (.cons (k1_ok hP hL) .nil) (hP ▸ Tryz.func70) rfl rfl rfl [(wam Tryz.f70 2,wod g n)] (by kernel_rfl) ⟨w1y hP hL g n,trivial⟩ ?_
 rw [nf_ik1]
 unfold ixB
 refine ⟨rfl,hn,hs,wak (fun h=>?_) (fun h=>?_)⟩
 ·rw [decide_eq_true h];exact ⟨rfl,rfl⟩
 ·rw [decide_eq_false h];exact ⟨rfl,rfl⟩
theorem ck1_ok (hP:C.P=Tryz.prog) (hL:∀ w,C.laid w→LaidW w):waf C 68 wm6:=by
 rintro args objs U Os vc h hvc
 unfold wm6 at h
 split at h<;>simp only [Option.some.injEq,Prod.mk.injEq,reduceCtorEq] at h
 rename_i n f
 obtain ⟨rfl,rfl,rfl⟩:=h
 obtain ⟨hn,hf,hs⟩:=hvc
 generalize hg:mgOf f=g at *
 subst hf
 refine waf.wp0 (prg hP) [(70,.det wmo)] 0 (.cons (ik1_ok hP hL) .nil) (hP ▸ Tryz.func68) rfl rfl rfl ?_
 rw [nf_ck1]
 exact ⟨⟨hn,rfl,hs⟩,rfl,rfl⟩
theorem w1x (hP:C.P=Tryz.prog) (hL:∀ w,C.laid w→LaidW w) (g:Nat→RT) (n:Nat):waj C 0 19 (wam Tryz.f161 2) (woc g n):=by
 rintro st Q ⟨h0,hn,hs,hQ⟩
 have hR:=wcb hQ
 refine waj.mk (prg hP) [(127,.det S_k2)] 0 (.cons (k2_ok hP hL) .nil) [0,1,7,8] [] [4] (wml g n) (fun k=>k≤n∧fstB (fun i=>badT (g i)) k=k) (fun k=>n - k) 0 ⟨Nat.zero_le _,rfl⟩ h0 (fun k hk=>?_)
 obtain ⟨hkn,hok⟩:=hk
 rw [wzs,Int.toNat_natCast]
 refine wak (fun h1=>?_) (fun h1=>?_)
 ·have hlt:k<n:=by omega
  rw [wk6]
  refine ⟨⟨by omega,by omega,rfl⟩,⟨(hs k hlt).o,rfl⟩,waz (fun h2=>?_) (fun h2=>⟨by simp only [inR];omega,k+1,rfl,⟨by omega,wik hok h2⟩,by omega⟩)⟩
  have e:=wim hok h2 n (by omega)
  have:=hR.1 (by rw [e,decide_eq_true];omega)
  rw [e] at this
  exact this
 ·have:k=n:=by omega
  subst this
  exact hR.2 (by rw [hok,decide_eq_false];omega)
theorem ik2_ok (hP:C.P=Tryz.prog) (hL:∀ w,C.laid w→LaidW w):waf C 161 wmn:=by
 rintro args objs U Os vc h hvc
 unfold wmn at h
 split at h<;>simp only [Option.some.injEq,Prod.mk.injEq,reduceCtorEq] at h
 rename_i n f
 obtain ⟨rfl,rfl,rfl⟩:=h
 obtain ⟨hn,hf,hs⟩:=hvc
 generalize rtOf f=g at *
 subst hf
 refine waf.wpL (prg hP) [(127,.det S_k2)] [(2,woc g n)] 0 (.cons (k2_ok hP hL) .nil) (hP ▸ Tryz.func161) rfl rfl rfl [(wam Tryz.f161 2,woc g n)] (by kernel_rfl) ⟨w1x hP hL g n,trivial⟩ ?_
 rw [nf_ik2]
 unfold ixB
 refine ⟨rfl,hn,hs,wak (fun h=>?_) (fun h=>?_)⟩
 ·rw [decide_eq_true h];exact ⟨rfl,rfl⟩
 ·rw [decide_eq_false h];exact ⟨rfl,rfl⟩
theorem ck2_ok (hP:C.P=Tryz.prog) (hL:∀ w,C.laid w→LaidW w):waf C 126 wm5:=by
 rintro args objs U Os vc h hvc
 unfold wm5 at h
 split at h<;>simp only [Option.some.injEq,Prod.mk.injEq,reduceCtorEq] at h
 rename_i n f
 obtain ⟨rfl,rfl,rfl⟩:=h
 obtain ⟨hn,hf,hs⟩:=hvc
 generalize hg:rtOf f=g at *
 subst hf
 refine waf.wp0 (prg hP) [(161,.det wmn)] 0 (.cons (ik2_ok hP hL) .nil) (hP ▸ Tryz.func126) rfl rfl rfl ?_
 rw [nf_ck2]
 rw [wjn]
 exact ⟨⟨hn,rfl,hs⟩,rfl,rfl⟩
theorem w3x (L:List RW):wdd (atR L) L.length=L.all rowF:=by
 have go:∀ (g:Nat→RW) n,wdd g n=((List.range n).map g).all rowF:=by
  intro g n
  induction n with
  |zero=>rfl
  |succ n ih=>rw [wdd,ih,List.range_succ,List.map_append,List.all_append];simp
 rw [go]
 exact congrArg (fun l=>l.all rowF) (wep L default)
theorem w2u (hP:C.P=Tryz.prog) (hL:∀ w,C.laid w→LaidW w):waf C 74 wm1:=by
 rintro args objs U Os vc h hvc
 unfold wm1 at h
 split at h<;>simp only [Option.some.injEq,Prod.mk.injEq,reduceCtorEq] at h
 rename_i id ver day kind nm fm nr fr nt ft
 obtain ⟨rfl,rfl,rfl⟩:=h
 obtain ⟨hc,hs⟩:=hvc
 have l1:(lst (mgOf fm) nm).length=nm:=by simp [lst]
 have l2:(lst (rwOf fr) nr).length=nr:=by simp [lst]
 have l3:(lst (rtOf ft) nt).length=nt:=by simp [lst]
 obtain ⟨c1,c2,c3⟩:=hc
 unfold flV at hs ⊢
 generalize lst (mgOf fm) nm=ms at *
 generalize lst (rwOf fr) nr=rs at *
 generalize lst (rtOf ft) nt=ts at *
 subst l1;subst l2;subst l3;subst c1;subst c2;subst c3
 have hn:=wz6 ⟨id,ver,day,kind,ms,rs,ts⟩
 dsimp only at hn
 refine waf.wp0 (prg hP) [(68,.det wm6),(126,.det wm5),(105,.det wlq)] 0 (.cons (ck1_ok hP hL) (.cons (ck2_ok hP hL) (.cons (wr0 hP hL) .nil))) (hP ▸ Tryz.func74) rfl rfl rfl ?_
 rw [hn]
 have m1:=hs.m.1
 have r1:=hs.r.1
 have t1:=hs.t.1
 dsimp only at m1 r1 t1
 have e1:decide (0≤ixB (fun i=>badM (mgOf (wag (atM ms)) i)) ms.length)= !ms.all fun m=>decide (msgF m=0):=ix_all (fun m=>decide (msgF m=0)) ms default
 have e3:decide (0≤ixB (fun i=>badT (rtOf (wah (atT ts)) i)) ts.length)= !ts.all rtOK:=by rw [wjn];exact ix_all rtOK ts whn
 have e2:rs.length≤400→decide (svF (rwOf (wai (atR rs))) rs.length=0)=rs.all rowF:=fun h=>by
  show decide (svF (atR rs) rs.length=0)=_
  unfold svF
  rw [decide_eq_false (show ¬ 24000<rs.length by omega),w3x]
  cases rs.all rowF<;>rfl
 rw [e1,e3,wjn]
 unfold ctF
 dsimp only
 refine wak (fun k1=>?_) (fun k1=>wak (fun k2=>?_) (fun k2=>?_))
 ·rw [decide_eq_true k1]
  refine ⟨by simp only [inR];omega,wak (fun z=>wak (fun y=>⟨⟨by omega,rfl,fun i hi=>atM_sm hs hi⟩,?_⟩) (fun y=>?_)) (fun z=>?_)⟩
  ·rw [decide_eq_true (show rs.length+ts.length=0 by omega),decide_eq_true (show ms.length≤400 by omega),Bool.not_not];exact ⟨rfl,rfl⟩
  ·rw [decide_eq_true (show rs.length+ts.length=0 by omega),decide_eq_false (show ¬ ms.length≤400 by omega)];exact ⟨rfl,rfl⟩
  ·rw [decide_eq_false (show ¬ rs.length+ts.length=0 by omega)];exact ⟨rfl,rfl⟩
 ·rw [decide_eq_false k1,decide_eq_true k2]
  refine ⟨by simp only [inR];omega,wak (fun z=>wak (fun y=>⟨⟨by omega,rfl,fun i hi=>atR_sm hs hi⟩,?_⟩) (fun y=>?_)) (fun z=>?_)⟩
  ·rw [decide_eq_true (show ms.length+ts.length=0 by omega),decide_eq_true (show rs.length≤400 by omega),e2 (by omega)];exact ⟨rfl,rfl⟩
  ·rw [decide_eq_true (show ms.length+ts.length=0 by omega),decide_eq_false (show ¬ rs.length≤400 by omega)];exact ⟨rfl,rfl⟩
  ·rw [decide_eq_false (show ¬ ms.length+ts.length=0 by omega)];exact ⟨rfl,rfl⟩
 ·rw [decide_eq_false k1,decide_eq_false k2]
  refine ⟨by simp only [inR];omega,wak (fun z=>wak (fun y=>⟨⟨by omega,rfl,fun i hi=>atT_sm hs hi⟩,?_⟩) (fun y=>?_)) (fun z=>?_)⟩
  ·rw [decide_eq_true (show ms.length+rs.length=0 by omega),decide_eq_true (show ts.length≤400 by omega),Bool.not_not];exact ⟨rfl,rfl⟩
  ·rw [decide_eq_true (show ms.length+rs.length=0 by omega),decide_eq_false (show ¬ ts.length≤400 by omega)];exact ⟨rfl,rfl⟩
  ·rw [decide_eq_false (show ¬ ms.length+rs.length=0 by omega)];exact ⟨rfl,rfl⟩
end Go.Eng
