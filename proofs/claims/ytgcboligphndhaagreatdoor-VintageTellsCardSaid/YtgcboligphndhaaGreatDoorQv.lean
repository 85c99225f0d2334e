/- The laws of messages: their helpers. -/
import Derived.Test.YtgcboligphndhaaGreatDoorQs
import Derived.Test.YtgcboligphndhaaGreatDoorQu
import Derived.Test.YtgcboligphndhaaGreatDoorQt
import Derived.Test.YtgcboligphndhaaGreatDoorQq
namespace Go.Eng
open Go.Proofs Go.RowKit
variable {C:Ctx} [C.Loose]
set_option maxRecDepth 20000
theorem wxk (s:List UInt8) (R:AV→List (Nat×AObj)→Prop):wpFn te [(72,.det we7)] [] 0 Tryz.f178 [.str s] [] R=((List.length s<4294967281∧0<4294967281∧0<4294967281∧0<4294967281)∧R (.bool !decide (msgF (MG.mk s (0:Int) (0:Int) (VT.mk [] [] (0:Int) (0:Int) (0:Int) (0:Int) []) (DT.mk [] [] (0:Int) [] (0:Int)))=(110:Int))) []):=by kernel_rfl
theorem ww8 (o p:List UInt8) (per u tv:Int) (R:AV→List (Nat×AObj)→Prop):wpFn te [(178,.det wk9),(160,.det wdy)] [] 0 Tryz.f145 [.agg [.str o,.str p,.int .i64 per,.int .i64 u,.int .i64 tv]] [] R=(letI z0:=R (.bool false) [];List.length o<4294967281∧wac (wa5 o) (True∧wac (wbg p) (wac (decide ((0:Int)≤per)) (wac (decide (per≤(5999:Int))) (wac (decide ((1:Int)≤min u tv)) (R (.bool (decide (max u tv≤(1099511627776:Int)))) []) z0) z0) z0) z0) z0):=by kernel_rfl
theorem nf_sv (g:Nat→RW) (n:Nat) (R:AV→List (Nat×AObj)→Prop):wpFn te [(145,.det wgv)] [(4,L_sv g n)] 0 Tryz.f105 [.view 5 n (wah g)] [] R=(wac (decide ((24000:Int)<(↑n:Int))) (R (.int .i64 130) []) (some (St.mk [(8,.view 5 n (wah g)),(9,.int .i64 (↑n:Int)),(10,.int .i64 0)] [] 0 [])=some (St.mk [(8,.view 5 n (wah g)),(9,.int .i64 (↑n:Int)),(10,.int .i64 (↑0:Int))] [] 0 [])∧n≤24000∧(∀ (i:Nat),i<n→List.length (RW.o (g i))<4294967281)∧wac (wda g n) (R (.int .i64 0) []) (R (.int .i64 131) []))):=by kernel_rfl
theorem wxj (g:Nat→RW) (n k:Nat) (P:Nat→Prop) (R:Exit→St→Prop):wa6 ⟨te,[(145,.det wgv)],[],0,18,0⟩ (wa8 Tryz.f105 4) [8,9,10] [] [2] (S_sv g n) P R (S_sv g n k)=(letI z0:=(g (Int.toNat (↑k:Int)));wac (decide ((↑k:Int)<(↑n:Int))) (((0:Int)≤(↑k:Int)∧(↑k:Int)<(↑n:Int)∧5=5)∧List.length (RW.o z0)<4294967281∧wac (!rowF (RW.mk (RW.o z0) (RW.p z0) (RW.per z0) (RW.u z0) (RW.tv z0))) (R .ret (St.mk [(2,.int .i64 131)] [] 0 [])) (inR .i64 ((↑k:Int)+(1:Int))∧∃ (i':Nat),some (St.mk [(8,.view 5 n (wah g)),(9,.int .i64 (↑n:Int)),(10,.int .i64 ((↑k:Int)+(1:Int)))] [] 0 [])=some (St.mk [(8,.view 5 n (wah g)),(9,.int .i64 (↑n:Int)),(10,.int .i64 (↑i':Int))] [] 0 [])∧P i')) (R (.exit 0) (St.mk [] [] 0 []))):=by kernel_rfl
theorem wxx (n:Nat) (v:Nat→Int) (a:Int) (R:AV→List (Nat×AObj)→Prop):wpFn te [(42,.det wbf)] [] 0 Tryz.f80 [.ptr 0 0] [.cells [.view 1 n (waa v),.int .i64 a] 27] R=((3≤16777216∧1=1∧3≤9223372036854775807)∧(27=27∧1=1∧waa v=waa (vInt (waa v))∧((1:Int)≤(3:Int)∧(3:Int)≤(1000000:Int))∧(0:Int)≤a∧a≤(4611686018427387904:Int))∧((0:Int)≤wab n (vInt (waa v)) a (3:Int)∧wab n (vInt (waa v)) a (3:Int)<(↑3:Int))∧(Int.toNat (wab n (vInt (waa v)) a (3:Int))<3∧1=1)∧R (.str (List.getD [[(111:UInt8),49],[(111:UInt8),50],[(112:UInt8)]] (Int.toNat (wab n (vInt (waa v)) a (3:Int))) [])) [(0,.cells [.view 1 n (waa v),.int .i64 (a+(1:Int))] 27)]):=by kernel_rfl
theorem wxh (n:Nat) (v:Nat→Int) (a:Int) (R:AV→List (Nat×AObj)→Prop):wpFn te [(42,.det wbf),(43,.det S_id)] [] 0 Tryz.f81 [.ptr 0 0] [.cells [.view 1 n (waa v),.int .i64 a] 27] R=((27=27∧1=1∧waa v=waa (vInt (waa v))∧((1:Int)≤(4:Int)∧(4:Int)≤(1000000:Int))∧(0:Int)≤a∧a≤(4611686018427387904:Int))∧True∧R (.str (idF (wab n (vInt (waa v)) a (4:Int)))) [(0,.cells [.view 1 n (waa v),.int .i64 (a+(1:Int))] 27)]):=by kernel_rfl
theorem nf_trow (n:Nat) (v:Nat→Int) (a:Int) (R:AV→List (Nat×AObj)→Prop):wpFn te [(42,.det wbf),(80,.det wcy),(81,.det wcx)] [] 0 Tryz.f37 [.ptr 0 0] [.cells [.view 1 n (waa v),.int .i64 a] 27] R=(letI z2:=(a+(1:Int)+(1:Int)+(1:Int)+(1:Int)+(1:Int));letI z1:=(4611686018427387904:Int);letI z0:=(a+(1:Int)+(1:Int)+(1:Int)+(1:Int));(27=27∧1=1∧waa v=waa (vInt (waa v))∧((1:Int)≤(20:Int)∧(20:Int)≤(1000000:Int))∧(0:Int)≤a∧a≤z1)∧inR .i64 ((1:Int)+wab n (vInt (waa v)) a (20:Int))∧(27=27∧1=1∧waa v=waa (vInt (waa v))∧(0:Int)≤a+(1:Int)∧a+(1:Int)≤(4611686018427387000:Int))∧(27=27∧1=1∧waa v=waa (vInt (waa v))∧(0:Int)≤a+(1:Int)+(1:Int)∧a+(1:Int)+(1:Int)≤(4611686018427387000:Int))∧(27=27∧1=1∧waa v=waa (vInt (waa v))∧((1:Int)≤(4:Int)∧(4:Int)≤(1000000:Int))∧(0:Int)≤a+(1:Int)+(1:Int)+(1:Int)∧a+(1:Int)+(1:Int)+(1:Int)≤z1)∧inR .i64 ((1440:Int)+wab n (vInt (waa v)) (a+(1:Int)+(1:Int)+(1:Int)) (4:Int))∧(27=27∧1=1∧waa v=waa (vInt (waa v))∧((1:Int)≤(30:Int)∧(30:Int)≤(1000000:Int))∧(0:Int)≤a+(1:Int)+(1:Int)+(1:Int)+(1:Int)∧a+(1:Int)+(1:Int)+(1:Int)+(1:Int)≤z1)∧inR .i64 ((90:Int)+wab n (vInt (waa v)) z0 (30:Int))∧inR .i64 (((1:Int)+wab n (vInt (waa v)) a (20:Int)) * ((90:Int)+wab n (vInt (waa v)) z0 (30:Int)))∧(27=27∧1=1∧waa v=waa (vInt (waa v))∧((1:Int)≤(3:Int)∧(3:Int)≤(1000000:Int))∧(0:Int)≤a+(1:Int)+(1:Int)+(1:Int)+(1:Int)+(1:Int)∧a+(1:Int)+(1:Int)+(1:Int)+(1:Int)+(1:Int)≤z1)∧inR .i64 (((1:Int)+wab n (vInt (waa v)) a (20:Int)) * ((90:Int)+wab n (vInt (waa v)) z0 (30:Int))+wab n (vInt (waa v)) z2 (3:Int))∧(True∧True)∧R (.agg [.str (outF (wab n (vInt (waa v)) (a+(1:Int)) (3:Int))),.str (idF (wab n (vInt (waa v)) (a+(1:Int)+(1:Int)) (4:Int))),.int .i64 ((1440:Int)+wab n (vInt (waa v)) (a+(1:Int)+(1:Int)+(1:Int)) (4:Int)),.int .i64 ((1:Int)+wab n (vInt (waa v)) a (20:Int)),.int .i64 (((1:Int)+wab n (vInt (waa v)) a (20:Int)) * ((90:Int)+wab n (vInt (waa v)) z0 (30:Int))+wab n (vInt (waa v)) z2 (3:Int))]) [(0,.cells [.view 1 n (waa v),.int .i64 (a+(1:Int)+(1:Int)+(1:Int)+(1:Int)+(1:Int)+(1:Int))] 27)]):=by kernel_rfl
theorem wwb (hP:C.P=Tryz.prog) (hL:∀ w,C.laid w→LaidW w):wae C 178 wk9:=by
 rintro args objs U Os vc h hvc
 unfold wk9 at h
 split at h<;>simp only [Option.some.injEq,Prod.mk.injEq,reduceCtorEq] at h
 rename_i s
 obtain ⟨rfl,rfl,rfl⟩:=h
 refine wae.wp0 (prg hP) [(72,.det we7)] 0 (.cons (wot hP hL) .nil) (hP ▸ Tryz.func178) rfl rfl rfl ?_
 rw [wxk]
 refine ⟨⟨hvc,by omega,by omega,by omega⟩,?_,rfl⟩
 unfold msgF
 cases wa5 s<;>rfl
theorem wqu (hP:C.P=Tryz.prog) (hL:∀ w,C.laid w→LaidW w):wae C 145 wgv:=by
 rintro args objs U Os vc h hvc
 unfold wgv at h
 split at h<;>simp only [Option.some.injEq,Prod.mk.injEq,reduceCtorEq] at h
 rename_i o p per u tv
 obtain ⟨rfl,rfl,rfl⟩:=h
 refine wae.wp0 (prg hP) [(178,.det wk9),(160,.det wdy)] 0 (.cons (wwb hP hL) (.cons (wix hP (whe hP)) .nil)) (hP ▸ Tryz.func145) rfl rfl rfl ?_
 rw [ww8]
 unfold rowF wby
 dsimp only
 generalize wa5 o=b1,wbg p=b2,decide (0≤per)=b3,decide (per≤5999)=b4,decide (1≤min u tv)=b5,decide (max u tv≤1099511627776)=b6
 refine ⟨hvc,?_⟩
 cases b1
 ·exact ⟨rfl,rfl⟩
 refine ⟨trivial,?_⟩
 cases b2
 ·exact ⟨rfl,rfl⟩
 cases b3
 ·exact ⟨rfl,rfl⟩
 cases b4
 ·exact ⟨rfl,rfl⟩
 cases b5<;>exact ⟨rfl,rfl⟩
theorem wva {g:Nat→RW} {k:Nat} (h:rowF (g k)=false):∀ n,k<n→wda g n=false
 |0,hn=>by omega
 |n+1,hn=>by
  rw [wda]
  by_cases e:k=n
  ·subst e;rw [h,Bool.and_false]
  ·rw [wva h n (by omega),Bool.false_and]
theorem sv_loop (hP:C.P=Tryz.prog) (hL:∀ w,C.laid w→LaidW w) (g:Nat→RW) (n:Nat):waj C 0 18 (wao Tryz.f105 4) (L_sv g n):=by
 rintro st Q ⟨h0,hn,hs,hQ⟩
 have hR:=wb7 hQ
 refine waj.mk (prg hP) [(145,.det wgv)] 0 (.cons (wqu hP hL) .nil) [8,9,10] [] [2] (S_sv g n) (fun k=>k≤n∧wda g k=true) (fun k=>n - k) 0 ⟨Nat.zero_le _,rfl⟩ h0 (fun k hk=>?_)
 obtain ⟨hkn,hok⟩:=hk
 rw [wxj,Int.toNat_natCast]
 refine wal (fun h1=>?_) (fun h1=>?_)
 ·refine ⟨⟨by omega,by omega,rfl⟩,hs k (by omega),wcw (fun h2=>hR.2 (wva h2 n (by omega))) (fun h2=>⟨by simp only [inR];omega,k+1,rfl,⟨by omega,?_⟩,by omega⟩)⟩
  rw [wda,hok];exact h2
 ·have:k=n:=by omega
  subst this
  exact hR.1 hok
theorem wq5 (hP:C.P=Tryz.prog) (hL:∀ w,C.laid w→LaidW w):wae C 105 wk6:=by
 rintro args objs U Os vc h hvc
 unfold wk6 at h
 split at h<;>simp only [Option.some.injEq,Prod.mk.injEq,reduceCtorEq] at h
 rename_i n f
 obtain ⟨rfl,rfl,rfl⟩:=h
 obtain ⟨hn,hf,hs⟩:=hvc
 generalize rwOf f=g at *
 subst hf
 unfold svF
 refine wae.wpL (prg hP) [(145,.det wgv)] [(4,L_sv g n)] 0 (.cons (wqu hP hL) .nil) (hP ▸ Tryz.func105) rfl rfl rfl [(wao Tryz.f105 4,L_sv g n)] (by kernel_rfl) ⟨sv_loop hP hL g n,trivial⟩ ?_
 rw [nf_sv]
 refine wal (fun h1=>?_) (fun h1=>⟨rfl,by omega,hs,wax (fun h2=>?_) (fun h2=>?_)⟩)
 ·rw [decide_eq_true (show 24000<n by omega)];exact ⟨rfl,rfl⟩
 ·rw [decide_eq_false (show ¬ 24000<n by omega),h2];exact ⟨rfl,rfl⟩
 ·rw [decide_eq_false (show ¬ 24000<n by omega),h2];exact ⟨rfl,rfl⟩
theorem wgd (hP:C.P=Tryz.prog):wae C 80 wcy:=by
 rintro args objs U Os vc h hvc
 unfold wcy at h
 split at h<;>simp only [Option.some.injEq,Prod.mk.injEq,reduceCtorEq] at h
 rename_i sz n f a t
 obtain ⟨rfl,rfl,rfl⟩:=h
 obtain ⟨rfl,rfl,hf,h1,h2⟩:=hvc
 rw [hf]
 generalize vInt f=v
 have hw:vInt (waa v)=v:=rfl
 refine wae.wp0 (prg hP) [(42,.det wbf)] 0 (.cons (wco hP) .nil) (hP ▸ Tryz.func80) rfl rfl rfl ?_
 rw [wxx]
 have r:=wav (show (1:Int)≤3 by omega) n v a
 exact ⟨⟨by omega,rfl,by omega⟩,⟨rfl,rfl,rfl,⟨by omega,by omega⟩,by omega,by omega⟩,⟨r.1,r.2⟩,⟨by rw [hw];omega,rfl⟩,rfl,rfl⟩
theorem wf4 (hP:C.P=Tryz.prog):wae C 81 wcx:=by
 rintro args objs U Os vc h hvc
 unfold wcx at h
 split at h<;>simp only [Option.some.injEq,Prod.mk.injEq,reduceCtorEq] at h
 rename_i sz n f a t
 obtain ⟨rfl,rfl,rfl⟩:=h
 obtain ⟨rfl,rfl,hf,h1,h2⟩:=hvc
 rw [hf]
 generalize vInt f=v
 have hw:vInt (waa v)=v:=rfl
 refine wae.wp0 (prg hP) [(42,.det wbf),(43,.det S_id)] 0 (.cons (wco hP) (.cons (id_ok hP) .nil)) (hP ▸ Tryz.func81) rfl rfl rfl ?_
 rw [wxh]
 exact ⟨⟨rfl,rfl,rfl,⟨by omega,by omega⟩,by omega,by omega⟩,trivial,rfl,rfl⟩
theorem wrx (n:Nat) (v:Nat→Int) (a:Int):1≤(rowV n v a).u∧(rowV n v a).u≤20∧90≤(rowV n v a).tv∧(rowV n v a).tv≤2382:=by
 have r1:=wav (show (1:Int)≤20 by omega) n v a
 have r2:=wav (show (1:Int)≤30 by omega) n v (a+1+1+1+1)
 have r3:=wav (show (1:Int)≤3 by omega) n v (a+1+1+1+1+1)
 have b1:(1+wab n v a 20) * (90+wab n v (a+1+1+1+1) 30)≤20 * 119:=Int.mul_le_mul (by omega) (by omega) (by omega) (by omega)
 have b2:1 * 90≤(1+wab n v a 20) * (90+wab n v (a+1+1+1+1) 30):=Int.mul_le_mul (by omega) (by omega) (by omega) (by omega)
 unfold rowV
 dsimp only
 refine ⟨by omega,by omega,?_,?_⟩<;>omega
theorem whp:∀ i,i<3→wa5 (List.getD [[111,49],[111,50],[112]] i [])=true∧(List.getD [[111,49],[111,50],[112]] i ([]:List UInt8)).length≤2:=by decide+kernel
theorem wof (n:Nat) (v:Nat→Int) (a:Int):rowF (rowV n v a)=true∧(rowV n v a).o.length≤2:=by
 obtain ⟨b1,b2,b3,b4⟩:=wrx n v a
 have r1:=wav (show (1:Int)≤3 by omega) n v (a+1)
 have r2:=wav (show (1:Int)≤4 by omega) n v (a+1+1+1)
 have ho:=whp (wab n v (a+1) 3).toNat (by omega)
 refine ⟨?_,ho.2⟩
 unfold rowF wby
 rw [show wa5 (rowV n v a).o=true from ho.1,show wbg (rowV n v a).p=true from wee _,decide_eq_true (show 0≤(rowV n v a).per by show 0≤1440+wab n v (a+1+1+1) 4;omega),decide_eq_true (show (rowV n v a).per≤5999 by show 1440+wab n v (a+1+1+1) 4≤5999;omega),
  decide_eq_true (show 1≤min (rowV n v a).u (rowV n v a).tv by omega),decide_eq_true (show max (rowV n v a).u (rowV n v a).tv≤1099511627776 by omega)]
 rfl
theorem wn0 (hP:C.P=Tryz.prog):wae C 37 we6:=by
 rintro args objs U Os vc h hvc
 unfold we6 at h
 split at h<;>simp only [Option.some.injEq,Prod.mk.injEq,reduceCtorEq] at h
 rename_i sz n f a t
 obtain ⟨rfl,rfl,rfl⟩:=h
 obtain ⟨rfl,rfl,hf,h1,h2⟩:=hvc
 rw [hf]
 generalize vInt f=v
 have hw:vInt (waa v)=v:=rfl
 refine wae.wp0 (prg hP) [(42,.det wbf),(80,.det wcy),(81,.det wcx)] 0 (.cons (wco hP) (.cons (wgd hP) (.cons (wf4 hP) .nil))) (hP ▸ Tryz.func37) rfl rfl rfl ?_
 rw [nf_trow,hw]
 have r1:=wav (show (1:Int)≤20 by omega) n v a
 have r2:=wav (show (1:Int)≤30 by omega) n v (a+1+1+1+1)
 have r3:=wav (show (1:Int)≤3 by omega) n v (a+1+1+1+1+1)
 have r4:=wav (show (1:Int)≤4 by omega) n v (a+1+1+1)
 have b1:(1+wab n v a 20) * (90+wab n v (a+1+1+1+1) 30)≤20 * 119:=Int.mul_le_mul (by omega) (by omega) (by omega) (by omega)
 have b2:1 * 90≤(1+wab n v a 20) * (90+wab n v (a+1+1+1+1) 30):=Int.mul_le_mul (by omega) (by omega) (by omega) (by omega)
 exact ⟨⟨rfl,rfl,rfl,⟨by omega,by omega⟩,by omega,by omega⟩,by simp only [inR];omega,⟨rfl,rfl,rfl,by omega,by omega⟩,⟨rfl,rfl,rfl,by omega,by omega⟩,⟨rfl,rfl,rfl,⟨by omega,by omega⟩,by omega,by omega⟩,by simp only [inR];omega,⟨rfl,rfl,rfl,⟨by omega,by omega⟩,by omega,by omega⟩,by simp only [inR];omega,by simp only [inR];omega,⟨rfl,rfl,rfl,⟨by omega,by omega⟩,by omega,by omega⟩,by simp only [inR];omega,⟨trivial,trivial⟩,rfl,rfl⟩
theorem nf_rws (n:Nat) (v:Nat→Int) (a most:Int) (R:AV→List (Nat×AObj)→Prop):wpFn te [(37,.det we6),(42,.det wbf)] [(3,wm2 n v (a+1) (wab n v a (most+1)))] 0 Tryz.f79 [.ptr 0 0,.int .i64 most] [.cells [.view 1 n (waa v),.int .i64 a] 27] R=(letI z1:=(most+(1:Int));letI z0:=(RwS.mk 0 (fun (_x:Nat)=>default) (a+(1:Int)));inR .i64 z1∧(27=27∧1=1∧waa v=waa (vInt (waa v))∧((1:Int)≤most+(1:Int)∧most+(1:Int)≤(1000000:Int))∧(0:Int)≤a∧a≤(4611686018427387904:Int))∧(TEq [(0,.ptr 0 0),(5,.own 1 0),(9,.int .i64 (wab n (vInt (waa v)) a z1)),(10,.int .i64 0)] [(0,.ptr 0 0),(5,.own 1 0),(9,.int .i64 (wab n v a z1)),(10,.int .i64 (↑(RwS.c z0):Int))]∧wag [(0,.cells [.view 1 n (waa v),.int .i64 (a+(1:Int))] 27),(1,.row 61 5 0 (fun (_x:Nat)=>[]) false)] [(0,.cells [.view 1 n (waa v),.int .i64 (RwS.a z0)] 27),(1,.row 61 5 0 (wah (RwS.g z0)) false)])∧((0:Int)≤wab n v a z1∧wab n v a z1≤(100:Int))∧((0:Int)≤a+(1:Int)∧a+(1:Int)≤(4611686018427375000:Int))∧∀ (i:RwS),RwS.c i=Int.toNat (wab n v a z1)→RwS.a i=a+(1:Int)+(6:Int) * (↑(RwS.c i):Int)→(∀ (j:Nat),j<RwS.c i→RW.Made (RwS.g i j))→(∀ (i_1:Nat),i_1<RwS.c i→true=true)∧∃ (O':List (Nat×AObj)),wag [(0,.cells [.view 1 n (waa v),.int .i64 (RwS.a i)] 27),(1,.row 61 5 (RwS.c i) (wah (RwS.g i)) false)] O'∧R (.own 1 (RwS.c i)) O'):=by kernel_rfl
theorem wxo (n:Nat) (v:Nat→Int) (N:Int) (i:RwS) (P:RwS→Prop) (R:Exit→St→Prop):wa6 ⟨te,[(37,.det we6)],[],1,19,0⟩ (wa8 Tryz.f79 3) [0,5,9,10] [5] [] (wlb n v N) P R (wlb n v N i)=(letI z0:=rowV n (vInt (waa v)) (RwS.a i);wac (decide ((↑(RwS.c i):Int)<N)) ((27=27∧1=1∧waa v=waa (vInt (waa v))∧(0:Int)≤RwS.a i∧RwS.a i≤(4611686018427380000:Int))∧(5≤16777216∧5=5∧1≤9223372036854775807)∧((1≤1∧5=5)∧RwS.c i≤RwS.c i∧5=5∧61=61∧5=5∧RwS.c i+1≤9223372036854775807∧(RwS.c i+1) * TI.bytes wc3≤140737488355328)∧inR .i64 ((↑(RwS.c i):Int)+(1:Int))∧∃ (i':RwS),(TEq [(0,.ptr 0 0),(5,.own 1 (RwS.c i+1)),(9,.int .i64 N),(10,.int .i64 ((↑(RwS.c i):Int)+(1:Int)))] [(0,.ptr 0 0),(5,.own 1 (RwS.c i')),(9,.int .i64 N),(10,.int .i64 (↑(RwS.c i'):Int))]∧wag [(0,.cells [.view 1 n (waa v),.int .i64 (RwS.a i+(1:Int)+(1:Int)+(1:Int)+(1:Int)+(1:Int)+(1:Int))] 27),(1,.row 61 5 (RwS.c i+1) (apF (RwS.c i) (wah (RwS.g i)) (waz (TI.sz wc3) (.str (RW.o z0):: .str (RW.p z0):: .int .i64 (RW.per z0):: .int .i64 (RW.u z0):: .int .i64 (RW.tv z0)::List.append [] (List.flatten (List.replicate (nat_lit 0) [.str ([]),.str ([]),.int .i64 0,.int .i64 0,.int .i64 0]))))) false)] [(0,.cells [.view 1 n (waa v),.int .i64 (RwS.a i')] 27),(1,.row 61 5 (RwS.c i') (wah (RwS.g i')) false)])∧P i') ((∀ (i_1:Nat),i_1<RwS.c i→true=true)∧∃ (O':List (Nat×AObj)),wag [(0,.cells [.view 1 n (waa v),.int .i64 (RwS.a i)] 27),(1,.row 61 5 (RwS.c i) (wah (RwS.g i)) false)] O'∧R (.exit 0) (St.mk [(5,.own 1 (RwS.c i))] O' 2 []))):=by kernel_rfl
theorem put_ap (g:Nat→RW) (k:Nat) (r:RW) (ch:Nat→List AV) (hch:ch 0=[.str r.o,.str r.p,.int .i64 r.per,.int .i64 r.u,.int .i64 r.tv]) (j:Nat) (hj:j<k+1):apF k (wah g) ch j=wah (RW.put g k r) j:=by
 unfold apF wah RW.put
 by_cases h:j<k
 ·rw [if_pos h,if_pos h]
 ·have:j=k:=by omega
  rw [if_neg h,if_neg h,this,Nat.sub_self,hch]
theorem wzj (n:Nat) (v:Nat→Int) (a:Int):(rowV n v a).Made:=by
 obtain ⟨b1,b2,b3,b4⟩:=wrx n v a
 obtain ⟨c1,c2⟩:=wof n v a
 exact ⟨c1,c2,⟨b1,b2⟩,by omega,by omega⟩
theorem wwg (hP:C.P=Tryz.prog) (n:Nat) (v:Nat→Int) (a N:Int):waj C 1 19 (wao Tryz.f79 3) (wm2 n v a N):=by
 rintro st Q ⟨h0,hN,ha,hQ⟩
 refine AWP.ownNil 5 61 5 ?_
 refine waj.mk (prg hP) [(37,.det we6)] 0 (.cons (wn0 hP) .nil) [0,5,9,10] [5] [] (wlb n v N) (fun i=>(i.c:Int)≤N∧i.a=a+6 * i.c∧∀ j,j<i.c→(i.g j).Made) (fun i=>N.toNat - i.c) ⟨0,fun _=>default,a⟩
  ⟨hN.1,by show a=a+6 * ((0:Nat):Int);omega,fun j hj=>absurd hj (Nat.not_lt_zero j)⟩ h0 (fun i hi=>?_) (fun i=>⟨fun _ _=>rfl,trivial⟩)
 obtain ⟨h1,h2,h3⟩:=hi
 have hw:vInt (waa v)=v:=rfl
 rw [wxo,hw]
 refine wal (fun q=>?_) (fun q=>⟨fun _ _=>rfl,_,wan _,hQ i (by omega) h2 h3⟩)
 refine ⟨⟨rfl,rfl,rfl,by omega,by omega⟩,⟨by omega,rfl,by omega⟩,⟨⟨Nat.le_refl _,rfl⟩,Nat.le_refl _,rfl,rfl,rfl,by omega,?_⟩,by simp only [inR];omega,⟨i.c+1,RW.put i.g i.c (rowV n v i.a),i.a+1+1+1+1+1+1⟩,⟨rfl,rfl,⟨rfl,rfl,rfl,rfl,rfl,fun j hj=>?_⟩,trivial⟩,⟨?_,?_,fun j hj=>?_⟩,?_⟩
 ·show (i.c+1) * 56≤_
  omega
 ·exact put_ap i.g i.c _ _ rfl j hj
 ·show ((i.c+1:Nat):Int)≤N
  omega
 ·show i.a+1+1+1+1+1+1=a+6 * ((i.c+1:Nat):Int)
  omega
 ·show (RW.put i.g i.c (rowV n v i.a) j).Made
  unfold RW.put
  by_cases h:j<i.c
  ·rw [if_pos h];exact h3 j h
  ·rw [if_neg h];exact wzj n v i.a
 ·show N.toNat - (i.c+1)<N.toNat - i.c
  omega
theorem rows_ok (hP:C.P=Tryz.prog):wbc C 79 wmq:=by
 rintro args objs R h
 unfold wmq at h
 split at h
 ·rename_i most sz n f a t
  obtain ⟨rfl,rfl,hf,ha,hm,hR⟩:=h
  rw [hf] at hR ⊢
  generalize vInt f=v at *
  have hw:vInt (waa v)=v:=rfl
  refine wbc.wpL (prg hP) [(37,.det we6),(42,.det wbf)] [(3,wm2 n v (a+1) (wab n v a (most+1)))] 0 (.cons (wn0 hP) (.cons (wco hP) .nil)) (hP ▸ Tryz.func79) rfl rfl rfl [(wao Tryz.f79 3,wm2 n v (a+1) (wab n v a (most+1)))] (by kernel_rfl) ⟨wwg hP _ _ _ _,trivial⟩ ?_
  rw [nf_rws,hw]
  have r:=wav (show (1:Int)≤most+1 by omega) n v a
  exact ⟨by simp only [inR];omega,⟨rfl,rfl,rfl,⟨by omega,by omega⟩,by omega,by omega⟩,⟨rfl,rfl,⟨rfl,rfl,rfl,rfl,rfl,fun i hi=>absurd hi (Nat.not_lt_zero i)⟩,trivial⟩,⟨by omega,by omega⟩,⟨by omega,by omega⟩,fun i h1 h2 h3=>⟨fun _ _=>rfl,_,wan _,hR i.c i.g i.a (by omega) ⟨by omega,by omega⟩ h3⟩⟩
 ·exact h.elim
theorem wyp (n:Nat) (v:Nat→Int) (a:Int) (R:AV→List (Nat×AObj)→Prop):wpFn te [(42,.det wbf)] [] 0 Tryz.f88 [.ptr 0 0] [.cells [.view 1 n (waa v),.int .i64 a] 27] R=((3≤16777216∧1=1∧3≤9223372036854775807)∧(27=27∧1=1∧waa v=waa (vInt (waa v))∧((1:Int)≤(3:Int)∧(3:Int)≤(1000000:Int))∧(0:Int)≤a∧a≤(4611686018427387904:Int))∧((0:Int)≤wab n (vInt (waa v)) a (3:Int)∧wab n (vInt (waa v)) a (3:Int)<(↑3:Int))∧(Int.toNat (wab n (vInt (waa v)) a (3:Int))<3∧1=1)∧R (.str (List.getD [[(97:UInt8)],[(98:UInt8)],[(99:UInt8)]] (Int.toNat (wab n (vInt (waa v)) a (3:Int))) [])) [(0,.cells [.view 1 n (waa v),.int .i64 (a+(1:Int))] 27)]):=by kernel_rfl
theorem wsh (n:Nat) (v:Nat→Int) (a:Int) (R:AV→List (Nat×AObj)→Prop):wpFn te [(42,.det wbf),(80,.det wcy),(81,.det wcx),(43,.det S_id)] [] 3 Tryz.f89 [.ptr 0 0] [.cells [.view 1 n (waa v),.int .i64 a] 27] R=(letI z18:=((1:Int)≤(4:Int)∧(4:Int)≤(1000000:Int):Prop);letI z17:=(4611686018427387904:Int);letI z16:=(4611686018427387000:Int);letI z14:=(Int.toNat ((48:Int)+Prod.fst (cdF (id7 (4:Int)))));letI z12:=([(0,.cells [.view 1 n (waa v),.int .i64 (a+(1:Int)+(1:Int)+(1:Int)+(1:Int)+(1:Int)+(1:Int)+(1:Int))] 27)]:List (Nat×AObj));letI z11:=(a+(1:Int)+(1:Int));letI z10:=(a+(1:Int)+(1:Int)+(1:Int)+(1:Int));letI z19:=(wab n (vInt (waa v)) z10 (7:Int));letI z9:=(outF (wab n (vInt (waa v)) a (3:Int)));letI z8:=(a+(1:Int)+(1:Int)+(1:Int));letI z7:=(a+(1:Int)+(1:Int)+(1:Int)+(1:Int)+(1:Int)+(1:Int));letI z15:=([(0,.cells [.view 1 n (waa v),.int .i64 z7] 27)]:List (Nat×AObj));letI z6:=(wab n (vInt (waa v)) (a+(1:Int)) (4:Int));letI z5:=(a+(1:Int)+(1:Int)+(1:Int)+(1:Int)+(1:Int));letI z4:=(Int.toNat z19);letI z13:=(decide ((1:Int)+List.getD [(0:Int),(0:Int),(0:Int),(1:Int),(2:Int),(3:Int),(4:Int)] z4 (0:Int)=(5:Int)));letI z3:=((True∧True)∧R (.agg [.str z9,.str (idF z6),.int .i64 ((1440:Int)+wab n (vInt (waa v)) z11 (4:Int)),.int .i64 ((43830:Int)+wab n (vInt (waa v)) z8 (100:Int)),.int .i64 ((1:Int)+List.getD [(0:Int),(0:Int),(0:Int),(1:Int),(2:Int),(3:Int),(4:Int)] z4 (0:Int)),.int .i64 0,.str [(fun (i:Nat)=>UInt8.ofNat (Int.toNat (was (List.headD (wbk (idV (4:Int)) i) .any)))) (nat_lit 0),(fun (i:Nat)=>UInt8.ofNat (Int.toNat (was (List.headD (wbk (idV (4:Int)) i) .any)))) (nat_lit 1),(fun (i:Nat)=>UInt8.ofNat (Int.toNat (was (List.headD (wbk (idV (4:Int)) i) .any)))) (nat_lit 2),(fun (i:Nat)=>UInt8.ofNat (Int.toNat (was (List.headD (wbk (idV (4:Int)) i) .any)))) (nat_lit 3),(fun (i:Nat)=>UInt8.ofNat (Int.toNat (was (List.headD (wbk (idV (4:Int)) i) .any)))) (nat_lit 4),(fun (i:Nat)=>UInt8.ofNat (Int.toNat (was (List.headD (wbk (idV (4:Int)) i) .any)))) (nat_lit 5),(fun (i:Nat)=>UInt8.ofNat (Int.toNat (was (List.headD (wbk (idV (4:Int)) i) .any)))) (nat_lit 6),UInt8.ofNat z14]]) z15:Prop);letI z2:=((True∧True)∧R (.agg [.str z9,.str (idF z6),.int .i64 ((1440:Int)+wab n (vInt (waa v)) z11 (4:Int)),.int .i64 ((43830:Int)+wab n (vInt (waa v)) z8 (100:Int)),.int .i64 ((1:Int)+List.getD [(0:Int),(0:Int),(0:Int),(1:Int),(2:Int),(3:Int),(4:Int)] z4 (0:Int)),.int .i64 ((100:Int)+wab n (vInt (waa v)) z5 (4:Int) * (5:Int)),.str [(fun (i:Nat)=>UInt8.ofNat (Int.toNat (was (List.headD (wbk (idV (4:Int)) i) .any)))) (nat_lit 0),(fun (i:Nat)=>UInt8.ofNat (Int.toNat (was (List.headD (wbk (idV (4:Int)) i) .any)))) (nat_lit 1),(fun (i:Nat)=>UInt8.ofNat (Int.toNat (was (List.headD (wbk (idV (4:Int)) i) .any)))) (nat_lit 2),(fun (i:Nat)=>UInt8.ofNat (Int.toNat (was (List.headD (wbk (idV (4:Int)) i) .any)))) (nat_lit 3),(fun (i:Nat)=>UInt8.ofNat (Int.toNat (was (List.headD (wbk (idV (4:Int)) i) .any)))) (nat_lit 4),(fun (i:Nat)=>UInt8.ofNat (Int.toNat (was (List.headD (wbk (idV (4:Int)) i) .any)))) (nat_lit 5),(fun (i:Nat)=>UInt8.ofNat (Int.toNat (was (List.headD (wbk (idV (4:Int)) i) .any)))) (nat_lit 6),UInt8.ofNat z14]]) z12:Prop);letI z1:=(decide ([(fun (i:Nat)=>UInt8.ofNat (Int.toNat (was (List.headD (wbk (idV (4:Int)) i) .any)))) (nat_lit 0),(fun (i:Nat)=>UInt8.ofNat (Int.toNat (was (List.headD (wbk (idV (4:Int)) i) .any)))) (nat_lit 1),(fun (i:Nat)=>UInt8.ofNat (Int.toNat (was (List.headD (wbk (idV (4:Int)) i) .any)))) (nat_lit 2),(fun (i:Nat)=>UInt8.ofNat (Int.toNat (was (List.headD (wbk (idV (4:Int)) i) .any)))) (nat_lit 3),(fun (i:Nat)=>UInt8.ofNat (Int.toNat (was (List.headD (wbk (idV (4:Int)) i) .any)))) (nat_lit 4),(fun (i:Nat)=>UInt8.ofNat (Int.toNat (was (List.headD (wbk (idV (4:Int)) i) .any)))) (nat_lit 5),(fun (i:Nat)=>UInt8.ofNat (Int.toNat (was (List.headD (wbk (idV (4:Int)) i) .any)))) (nat_lit 6),UInt8.ofNat z14]=idF z6));letI z0:=(wac z13 ((27=27∧1=1∧waa v=waa (vInt (waa v))∧(0:Int)≤a+(1:Int)+(1:Int)+(1:Int)+(1:Int)+(1:Int)∧a+(1:Int)+(1:Int)+(1:Int)+(1:Int)+(1:Int)≤z16)∧wac (decide (idF (wab n (vInt (waa v)) z5 (4:Int))=idF z6)) (True∧wac z1 (True∧wac z1 (True∧False) z3) z3) ((True∧True)∧R (.agg [.str z9,.str (idF z6),.int .i64 ((1440:Int)+wab n (vInt (waa v)) z11 (4:Int)),.int .i64 ((43830:Int)+wab n (vInt (waa v)) z8 (100:Int)),.int .i64 ((1:Int)+List.getD [(0:Int),(0:Int),(0:Int),(1:Int),(2:Int),(3:Int),(4:Int)] z4 (0:Int)),.int .i64 0,.str (idF (wab n (vInt (waa v)) z5 (4:Int)))]) z15)) ((True∧True)∧R (.agg [.str z9,.str (idF z6),.int .i64 ((1440:Int)+wab n (vInt (waa v)) z11 (4:Int)),.int .i64 ((43830:Int)+wab n (vInt (waa v)) z8 (100:Int)),.int .i64 ((1:Int)+List.getD [(0:Int),(0:Int),(0:Int),(1:Int),(2:Int),(3:Int),(4:Int)] z4 (0:Int)),.int .i64 0,.str []]) [(0,.cells [.view 1 n (waa v),.int .i64 z5] 27)]));(27=27∧1=1∧waa v=waa (vInt (waa v))∧(0:Int)≤a∧a≤z16)∧(27=27∧1=1∧waa v=waa (vInt (waa v))∧(0:Int)≤a+(1:Int)∧a+(1:Int)≤z16)∧(27=27∧1=1∧waa v=waa (vInt (waa v))∧z18∧(0:Int)≤a+(1:Int)+(1:Int)∧a+(1:Int)+(1:Int)≤z17)∧inR .i64 ((1440:Int)+wab n (vInt (waa v)) z11 (4:Int))∧(27=27∧1=1∧waa v=waa (vInt (waa v))∧((1:Int)≤(100:Int)∧(100:Int)≤(1000000:Int))∧(0:Int)≤a+(1:Int)+(1:Int)+(1:Int)∧a+(1:Int)+(1:Int)+(1:Int)≤z17)∧inR .i64 ((43830:Int)+wab n (vInt (waa v)) z8 (100:Int))∧(7≤16777216∧1=1∧7≤9223372036854775807)∧(27=27∧1=1∧waa v=waa (vInt (waa v))∧((1:Int)≤(7:Int)∧(7:Int)≤(1000000:Int))∧(0:Int)≤a+(1:Int)+(1:Int)+(1:Int)+(1:Int)∧a+(1:Int)+(1:Int)+(1:Int)+(1:Int)≤z17)∧((0:Int)≤wab n (vInt (waa v)) z10 (7:Int)∧wab n (vInt (waa v)) z10 (7:Int)<(↑7:Int))∧(Int.toNat z19<7∧1=1)∧inR .i64 ((1:Int)+List.getD [(0:Int),(0:Int),(0:Int),(1:Int),(2:Int),(3:Int),(4:Int)] z4 (0:Int))∧wac (!decide ((1:Int)+List.getD [(0:Int),(0:Int),(0:Int),(1:Int),(2:Int),(3:Int),(4:Int)] z4 (0:Int)=(3:Int))) (wac (!decide ((1:Int)+List.getD [(0:Int),(0:Int),(0:Int),(1:Int),(2:Int),(3:Int),(4:Int)] z4 (0:Int)=(4:Int))) ((27=27∧1=1∧waa v=waa (vInt (waa v))∧z18∧(0:Int)≤a+(1:Int)+(1:Int)+(1:Int)+(1:Int)+(1:Int)∧a+(1:Int)+(1:Int)+(1:Int)+(1:Int)+(1:Int)≤z17)∧inR .i64 (wab n (vInt (waa v)) z5 (4:Int) * (5:Int))∧inR .i64 ((100:Int)+wab n (vInt (waa v)) z5 (4:Int) * (5:Int))∧wac z13 ((27=27∧1=1∧waa v=waa (vInt (waa v))∧(0:Int)≤a+(1:Int)+(1:Int)+(1:Int)+(1:Int)+(1:Int)+(1:Int)∧a+(1:Int)+(1:Int)+(1:Int)+(1:Int)+(1:Int)+(1:Int)≤z16)∧wac (decide (idF (wab n (vInt (waa v)) z7 (4:Int))=idF z6)) (True∧wac z1 (True∧wac z1 (True∧False) z2) z2) ((True∧True)∧R (.agg [.str z9,.str (idF z6),.int .i64 ((1440:Int)+wab n (vInt (waa v)) z11 (4:Int)),.int .i64 ((43830:Int)+wab n (vInt (waa v)) z8 (100:Int)),.int .i64 ((1:Int)+List.getD [(0:Int),(0:Int),(0:Int),(1:Int),(2:Int),(3:Int),(4:Int)] z4 (0:Int)),.int .i64 ((100:Int)+wab n (vInt (waa v)) z5 (4:Int) * (5:Int)),.str (idF (wab n (vInt (waa v)) z7 (4:Int)))]) z12)) ((True∧True)∧R (.agg [.str z9,.str (idF z6),.int .i64 ((1440:Int)+wab n (vInt (waa v)) z11 (4:Int)),.int .i64 ((43830:Int)+wab n (vInt (waa v)) z8 (100:Int)),.int .i64 ((1:Int)+List.getD [(0:Int),(0:Int),(0:Int),(1:Int),(2:Int),(3:Int),(4:Int)] z4 (0:Int)),.int .i64 ((100:Int)+wab n (vInt (waa v)) z5 (4:Int) * (5:Int)),.str []]) z15)) z0) z0):=by kernel_rfl
theorem nf_mmsg (n:Nat) (v:Nat→Int) (a:Int) (R:AV→List (Nat×AObj)→Prop):wpFn te [(42,.det wbf),(80,.det wcy),(81,.det wcx),(88,.det wg2),(89,.rel wmo)] [] 0 Tryz.f36 [.ptr 0 0] [.cells [.view 1 n (waa v),.int .i64 a] 27] R=(letI z5:=(devF (wab n (vInt (waa v)) a (3:Int)));letI z4:=((1:Int)≤(9:Int)∧(9:Int)≤(1000000:Int):Prop);letI z3:=(a+(1:Int)+(1:Int)+(1:Int)+(1:Int)+(1:Int));letI z2:=(4611686018427387904:Int);letI z1:=(4611686018427387000:Int);letI z0:=(a+(1:Int)+(1:Int)+(1:Int)+(1:Int)+(1:Int)+(1:Int)+(1:Int));(27=27∧1=1∧waa v=waa (vInt (waa v))∧(0:Int)≤a∧a≤z1)∧(27=27∧1=1∧waa v=waa (vInt (waa v))∧z4∧(0:Int)≤a+(1:Int)∧a+(1:Int)≤z2)∧inR .i64 ((1:Int)+wab n (vInt (waa v)) (a+(1:Int)) (9:Int))∧(27=27∧1=1∧waa v=waa (vInt (waa v))∧((1:Int)≤(5:Int)∧(5:Int)≤(1000000:Int))∧(0:Int)≤a+(1:Int)+(1:Int)∧a+(1:Int)+(1:Int)≤z2)∧wac (decide (wab n (vInt (waa v)) (a+(1:Int)+(1:Int)) (5:Int)=(0:Int))) ((27=27∧1=1∧waa v=waa (vInt (waa v))∧(0:Int)≤a+(1:Int)+(1:Int)+(1:Int)∧a+(1:Int)+(1:Int)+(1:Int)≤z1)∧(27=27∧1=1∧waa v=waa (vInt (waa v))∧(0:Int)≤a+(1:Int)+(1:Int)+(1:Int)+(1:Int)∧a+(1:Int)+(1:Int)+(1:Int)+(1:Int)≤z1)∧(27=27∧1=1∧waa v=waa (vInt (waa v))∧((1:Int)≤(4:Int)∧(4:Int)≤(1000000:Int))∧(0:Int)≤a+(1:Int)+(1:Int)+(1:Int)+(1:Int)+(1:Int)∧a+(1:Int)+(1:Int)+(1:Int)+(1:Int)+(1:Int)≤z2)∧inR .i64 ((1440:Int)+wab n (vInt (waa v)) z3 (4:Int))∧(27=27∧1=1∧waa v=waa (vInt (waa v))∧(0:Int)≤a+(1:Int)+(1:Int)+(1:Int)+(1:Int)+(1:Int)+(1:Int)∧a+(1:Int)+(1:Int)+(1:Int)+(1:Int)+(1:Int)+(1:Int)≤z1)∧(27=27∧1=1∧waa v=waa (vInt (waa v))∧z4∧(0:Int)≤a+(1:Int)+(1:Int)+(1:Int)+(1:Int)+(1:Int)+(1:Int)+(1:Int)∧a+(1:Int)+(1:Int)+(1:Int)+(1:Int)+(1:Int)+(1:Int)+(1:Int)≤z2)∧inR .i64 ((1:Int)+wab n (vInt (waa v)) z0 (9:Int))∧(True∧True)∧R (.agg [.str z5,.int .i64 ((1:Int)+wab n (vInt (waa v)) (a+(1:Int)) (9:Int)),.int .i64 2,.str [],.str [],.int .i64 0,.int .i64 0,.int .i64 0,.int .i64 0,.str [],.str (outF (wab n (vInt (waa v)) (a+(1:Int)+(1:Int)+(1:Int)) (3:Int))),.str (idF (wab n (vInt (waa v)) (a+(1:Int)+(1:Int)+(1:Int)+(1:Int)) (4:Int))),.int .i64 ((1440:Int)+wab n (vInt (waa v)) z3 (4:Int)),.str (devF (wab n (vInt (waa v)) (a+(1:Int)+(1:Int)+(1:Int)+(1:Int)+(1:Int)+(1:Int)) (3:Int))),.int .i64 ((1:Int)+wab n (vInt (waa v)) z0 (9:Int))]) [(0,.cells [.view 1 n (waa v),.int .i64 (a+(1:Int)+(1:Int)+(1:Int)+(1:Int)+(1:Int)+(1:Int)+(1:Int)+(1:Int))] 27)]) (27=27∧1=1∧waa v=waa (vInt (waa v))∧((0:Int)≤a+(1:Int)+(1:Int)+(1:Int)∧a+(1:Int)+(1:Int)+(1:Int)≤(4611686018427386000:Int))∧∀ (x:VT) (a':Int),VT.Made x→a+(1:Int)+(1:Int)+(1:Int)≤a'∧a'≤a+(1:Int)+(1:Int)+(1:Int)+(7:Int)→(True∧True)∧R (.agg [.str z5,.int .i64 ((1:Int)+wab n (vInt (waa v)) (a+(1:Int)) (9:Int)),.int .i64 1,.str (VT.o x),.str (VT.p x),.int .i64 (VT.per x),.int .i64 (VT.day x),.int .i64 (VT.st x),.int .i64 (VT.pr x),.str (VT.rep x),.str [],.str [],.int .i64 0,.str [],.int .i64 0]) [(0,.cells [.view 1 n (waa v),.int .i64 a'] 27)])):=by kernel_rfl
theorem wum (hP:C.P=Tryz.prog):wae C 88 wg2:=by
 rintro args objs U Os vc h hvc
 unfold wg2 at h
 split at h<;>simp only [Option.some.injEq,Prod.mk.injEq,reduceCtorEq] at h
 rename_i sz n f a t
 obtain ⟨rfl,rfl,rfl⟩:=h
 obtain ⟨rfl,rfl,hf,h1,h2⟩:=hvc
 rw [hf]
 generalize vInt f=v
 have hw:vInt (waa v)=v:=rfl
 refine wae.wp0 (prg hP) [(42,.det wbf)] 0 (.cons (wco hP) .nil) (hP ▸ Tryz.func88) rfl rfl rfl ?_
 rw [wyp]
 have r:=wav (show (1:Int)≤3 by omega) n v a
 exact ⟨⟨by omega,rfl,by omega⟩,⟨rfl,rfl,rfl,⟨by omega,by omega⟩,by omega,by omega⟩,⟨r.1,r.2⟩,⟨by rw [hw];omega,rfl⟩,rfl,rfl⟩
theorem stF:∀ i:Nat,i<7→1≤1+List.getD [(0:Int),0,0,1,2,3,4] i 0∧1+List.getD [(0:Int),0,0,1,2,3,4] i 0≤5:=by decide
theorem wjz {x:Int} (h:0≤x∧x<4):¬ idF 4=idF x:=by
 have:=idF4 x.toNat (by omega)
 rwa [show ((x.toNat:Nat):Int)=x by omega] at this
theorem wqt {o p:List UInt8} {per day st pr:Int} {rep:List UInt8} (ho:wa5 o=true) (hp:wbg p=true) (hper:0≤per∧per≤5999) (hday:0≤day∧day≤182620)
  (h:((st=1∨st=2)∧(1≤pr∧pr≤1099511627776)∧rep=[])∨((st=3∨st=4)∧pr=0∧rep=[])∨(st=5∧(1≤pr∧pr≤1099511627776)∧wbg rep=true∧¬ rep=p)):visF ⟨o,p,per,day,st,pr,rep⟩=true:=by
 unfold visF wby
 dsimp only
 rw [ho,hp,decide_eq_true hper.1,decide_eq_true hper.2,decide_eq_true hday.1,decide_eq_true hday.2]
 rcases h with ⟨q | q,⟨h1,h2⟩,h3⟩ | ⟨q | q,h1,h2⟩ | ⟨q,⟨h1,h2⟩,h3,h4⟩
 ·subst q;subst h3;rw [decide_eq_true h1,decide_eq_true h2];rfl
 ·subst q;subst h3;rw [decide_eq_true h1,decide_eq_true h2];rfl
 ·subst q;subst h1;subst h2;rfl
 ·subst q;subst h1;subst h2;rfl
 ·subst q;rw [decide_eq_true h1,decide_eq_true h2,h3,decide_eq_false h4];rfl
theorem wsn {dev:List UInt8} {seq:Int} {x:VT} (hd:wa5 dev=true) (hs:1≤seq∧seq≤1048576) (hx:visF x=true):msgF ⟨dev,seq,1,x,⟨[],[],0,[],0⟩⟩=0:=by
 unfold msgF numF
 dsimp only
 rw [hd,hx,decide_eq_true hs.1,decide_eq_true hs.2];rfl
theorem wso {dev:List UInt8} {seq:Int} {o p:List UInt8} {per:Int} {dd:List UInt8} {num:Int} (hd:wa5 dev=true) (hs:1≤seq∧seq≤1048576) (h:wby o p per=true) (h':wa5 dd=true) (hn:1≤num∧num≤1048576):
  msgF ⟨dev,seq,2,⟨[],[],0,0,0,0,[]⟩,⟨o,p,per,dd,num⟩⟩=0:=by
 unfold msgF numF
 dsimp only
 rw [hd,h,h',decide_eq_true hs.1,decide_eq_true hs.2,decide_eq_true hn.1,decide_eq_true hn.2];rfl
theorem wrg {o p:List UInt8} {per:Int} (ho:wa5 o=true) (hp:wbg p=true) (hper:0≤per∧per≤5999):wby o p per=true:=by
 unfold wby
 rw [ho,hp,decide_eq_true hper.1,decide_eq_true hper.2];rfl
theorem wza (hP:C.P=Tryz.prog):wbc C 89 wmo:=by
 rintro args objs R h
 unfold wmo at h
 split at h
 ·rename_i sz n f a t
  obtain ⟨rfl,rfl,hf,ha,hR⟩:=h
  rw [hf] at hR ⊢
  generalize vInt f=v at *
  have hw:vInt (waa v)=v:=rfl
  refine wbc.wpL (prg hP) [(42,.det wbf),(80,.det wcy),(81,.det wcx),(43,.det S_id)] [] 3 (.cons (wco hP) (.cons (wgd hP) (.cons (wf4 hP) (.cons (id_ok hP) .nil)))) (hP ▸ Tryz.func89) rfl rfl rfl [] (by kernel_rfl) trivial ?_
  rw [wsh,hw]
  have r1:=wav (show (1:Int)≤3 by omega) n v a
  have r2:=wav (show (1:Int)≤4 by omega) n v (a+1)
  have r3:=wav (show (1:Int)≤4 by omega) n v (a+1+1)
  have r4:=wav (show (1:Int)≤100 by omega) n v (a+1+1+1)
  have r5:=wav (show (1:Int)≤7 by omega) n v (a+1+1+1+1)
  have r6:=wav (show (1:Int)≤4 by omega) n v (a+1+1+1+1+1)
  have hst:=stF (wab n v (a+1+1+1+1) 7).toNat (by omega)
  have ho:=whp (wab n v a 3).toNat (by omega)
  have key:∀ (st pr:Int) (rep:List UInt8) (a':Int),(((st=1∨st=2)∧(1≤pr∧pr≤1099511627776)∧rep=[])∨((st=3∨st=4)∧pr=0∧rep=[])∨(st=5∧(1≤pr∧pr≤1099511627776)∧wbg rep=true∧¬ rep=idF (wab n v (a+1) 4)))→(a≤a'∧a'≤a+7)→
    R (.agg [.str (outF (wab n v a 3)),.str (idF (wab n v (a+1) 4)),.int .i64 (1440+wab n v (a+1+1) 4),.int .i64 (43830+wab n v (a+1+1+1) 100),.int .i64 st,.int .i64 pr,.str rep]) [(0,.cells [.view 1 n (waa v),.int .i64 a'] 27)]:=fun st pr rep a' h1 h2=>
   hR ⟨outF (wab n v a 3),idF (wab n v (a+1) 4),1440+wab n v (a+1+1) 4,43830+wab n v (a+1+1+1) 100,st,pr,rep⟩ a' ⟨wqt ho.1 (wee _) (by omega) (by omega) h1,ho.2⟩ h2
  refine ⟨⟨rfl,rfl,rfl,by omega,by omega⟩,⟨rfl,rfl,rfl,by omega,by omega⟩,⟨rfl,rfl,rfl,⟨by omega,by omega⟩,by omega,by omega⟩,by simp only [inR];omega,⟨rfl,rfl,rfl,⟨by omega,by omega⟩,by omega,by omega⟩,by simp only [inR];omega,⟨by omega,rfl,by omega⟩,⟨rfl,rfl,rfl,⟨by omega,by omega⟩,by omega,by omega⟩,⟨by omega,by omega⟩,⟨by omega,rfl⟩,?_⟩
  generalize 1+List.getD [(0:Int),0,0,1,2,3,4] (wab n v (a+1+1+1+1) 7).toNat 0=st at *
  refine ⟨by simp only [inR];omega,wcc (fun s3=>wcc (fun s4=>⟨⟨rfl,rfl,rfl,⟨by omega,by omega⟩,by omega,by omega⟩,by simp only [inR];omega,by simp only [inR];omega,wal (fun s5=>⟨⟨rfl,rfl,rfl,by omega,by omega⟩,wal (fun q=>⟨trivial,wal (fun q'=>absurd q' (wjz r2)) (fun q'=>⟨⟨trivial,trivial⟩,?_⟩)⟩) (fun q=>⟨⟨trivial,trivial⟩,?_⟩)⟩) (fun s5=>⟨⟨trivial,trivial⟩,?_⟩)⟩)
   (fun s4=>wal (fun s5=>absurd s5 (by omega)) (fun s5=>⟨⟨trivial,trivial⟩,?_⟩))) (fun s3=>wal (fun s5=>absurd s5 (by omega)) (fun s5=>⟨⟨trivial,trivial⟩,?_⟩))⟩
  ·exact key st _ (idF 4) _ (.inr (.inr ⟨s5,by omega,wee _,wjz r2⟩)) (by omega)
  ·exact key st _ _ _ (.inr (.inr ⟨s5,by omega,wee _,q⟩)) (by omega)
  ·exact key st _ _ _ (.inl ⟨by omega,by omega,rfl⟩) (by omega)
  ·exact key st _ _ _ (.inr (.inl ⟨by omega,rfl,rfl⟩)) (by omega)
  ·exact key st _ _ _ (.inr (.inl ⟨by omega,rfl,rfl⟩)) (by omega)
 ·exact h.elim
theorem wsu (hP : C.P = Tryz.prog) : wbc C 36 wg7 := by
  rintro args objs R h
  unfold wg7 at h
  split at h
  · rename_i sz n f a t
    obtain ⟨rfl, rfl, hf, ha, hR⟩ := h
    rw [hf] at hR ⊢
    generalize vInt f = v at *
    have hw : vInt (waa v) = v := rfl
    refine wbc.wpL (prg hP) [(42, .det wbf), (80, .det wcy), (81, .det wcx), (88, .det wg2), (89, .rel wmo)] [] 0 (.cons (wco hP) (.cons (wgd hP) (.cons (wf4 hP) (.cons (wum hP) (.cons (wza hP) .nil))))) (hP ▸ Tryz.func36) rfl rfl rfl [] (by kernel_rfl) trivial ?_
    rw [nf_mmsg, hw]
    have r1 := wav (show (1 : Int) ≤ 3 by omega) n v a
    have r2 := wav (show (1 : Int) ≤ 9 by omega) n v (a + 1)
    have r4 := wav (show (1 : Int) ≤ 3 by omega) n v (a + 1 + 1 + 1)
    have r6 := wav (show (1 : Int) ≤ 4 by omega) n v (a + 1 + 1 + 1 + 1 + 1)
    have r7 := wav (show (1 : Int) ≤ 3 by omega) n v (a + 1 + 1 + 1 + 1 + 1 + 1)
    have r8 := wav (show (1 : Int) ≤ 9 by omega) n v (a + 1 + 1 + 1 + 1 + 1 + 1 + 1)
    have hd := wke (wab n v a 3).toNat (by omega)
    have ho := whp (wab n v (a + 1 + 1 + 1) 3).toNat (by omega)
    have hd' := wke (wab n v (a + 1 + 1 + 1 + 1 + 1 + 1) 3).toNat (by omega)
    refine ⟨⟨rfl, rfl, rfl, by omega, by omega⟩, ⟨rfl, rfl, rfl, ⟨by omega, by omega⟩, by omega, by omega⟩, by simp only [inR]; omega, ⟨rfl, rfl, rfl, ⟨by omega, by omega⟩, by omega, by omega⟩, wal (fun q => ⟨⟨rfl, rfl, rfl, by omega, by omega⟩, ⟨rfl, rfl, rfl, by omega, by omega⟩, ⟨rfl, rfl, rfl, ⟨by omega, by omega⟩, by omega, by omega⟩, by simp only [inR]; omega, ⟨rfl, rfl, rfl, by omega, by omega⟩, ⟨rfl, rfl, rfl, ⟨by omega, by omega⟩, by omega, by omega⟩, by simp only [inR]; omega, ⟨trivial, trivial⟩, ?_⟩)
      (fun q => ⟨rfl, rfl, rfl, ⟨by omega, by omega⟩, fun x a' hx ha' => ⟨⟨trivial, trivial⟩, ?_⟩⟩)⟩
    · exact hR ⟨devF (wab n v a 3), 1 + wab n v (a + 1) 9, 2, ⟨[], [], 0, 0, 0, 0, []⟩, ⟨outF (wab n v (a + 1 + 1 + 1) 3), idF (wab n v (a + 1 + 1 + 1 + 1) 4), 1440 + wab n v (a + 1 + 1 + 1 + 1 + 1) 4, devF (wab n v (a + 1 + 1 + 1 + 1 + 1 + 1) 3), 1 + wab n v (a + 1 + 1 + 1 + 1 + 1 + 1 + 1) 9⟩⟩ _
        ⟨wso hd.1 (by omega) (wrg ho.1 (wee _) (by omega)) hd'.1 (by omega), hd.2, Nat.zero_le _, ho.2, hd'.2⟩ (by omega)
    · exact hR ⟨devF (wab n v a 3), 1 + wab n v (a + 1) 9, 1, x, ⟨[], [], 0, [], 0⟩⟩ a' ⟨wsn hd.1 (by omega) hx.ok, hd.2, hx.o, Nat.zero_le _, Nat.zero_le _⟩ (by omega)
  · exact h.elim
def keyK (p:List UInt8×Int):AV:=.agg [.str p.1,.int .i64 p.2]
theorem wfr (a b:List UInt8×Int):keq (keyK a) (keyK b)=(decide (a.1=b.1) && decide (a.2=b.2)):=by simp [keyK,keq,keqL,keq0]
theorem wrn (p:List UInt8×Int):(decide (p.1=p.1) && decide (p.2=p.2))=true:=by simp
theorem wfx (σ:Nat→Option Nat) (L:List ((List UInt8×Int)×Int)):(entM L).map (fun p=>(AV.rn σ p.1,AV.rn σ p.2))=entM L:=by
 unfold entM
 rw [List.map_map]
 rfl
theorem w0x {L:List ((List UInt8×Int)×Int)} (h:(L.map Prod.fst).Nodup):wcr te 83 (entM L):=by
 refine ⟨List.all_eq_true.2 fun p hp=>?_,?_⟩
 ·obtain ⟨r,_,rfl⟩:=List.mem_map.1 hp
  have:∀ (a:List UInt8) (b:Int),keyA te 83 (.agg [.str a,.int .i64 b])=true:=fun a b=>by kernel_rfl
  exact this _ _
 ·have:(entM L).map Prod.fst=(L.map Prod.fst).map keyK:=by simp [entM,keyK]
  rw [this]
  refine List.pairwise_map.2 (h.imp fun {a b} hab he=>hab ?_)
  have q:=wfr a b
  rw [he,wfr,wrn] at q
  exact wf8.1 q.symm
theorem woy (p:List UInt8×Int):∀ L:List ((List UInt8×Int)×Int),Option.getD (mget (entM L) (keyK p)) (.int .i64 0)= .int .i64 (getC L p)
 |[]=>rfl
 |x::l=>by
  rw [getC]
  show Option.getD (match keq (keyK x.1) (keyK p) with | true=>some (.int .i64 x.2) | false=>mget (entM l) (keyK p)) _=_
  rw [wfr]
  cases decide (x.1.1=p.1) && decide (x.1.2=p.2) with
  |true=>rfl
  |false=>exact woy p l
theorem ment_K (p:List UInt8×Int):∀ L:List ((List UInt8×Int)×Int),
  Option.getD (mget (ment (.int .i64 0) (entM L) (keyK p)) (keyK p)) (.int .i64 0)= .int .i64 (getC L p)∧midx (entM L) (keyK p)<(ment (.int .i64 0) (entM L) (keyK p)).length∧
  (ment (.int .i64 0) (entM L) (keyK p)).set (midx (entM L) (keyK p)) (((ment (.int .i64 0) (entM L) (keyK p)).getD (midx (entM L) (keyK p)) (.any,.any)).1,.int .i64 (getC L p+1))=entM (addC L p)
 |[]=>by
  refine ⟨?_,Nat.zero_lt_one,rfl⟩
  show Option.getD (match keq (keyK p) (keyK p) with | true=>some (AV.int .i64 0) | false=>none) _=_
  rw [wfr,wrn];rfl
 |x::l=>by
  obtain ⟨i1,i2,i3⟩:=ment_K p l
  have e1:ment (.int .i64 0) (entM (x::l)) (keyK p)=match keq (keyK x.1) (keyK p) with | true=>(keyK x.1,AV.int .i64 x.2)::entM l | false=>(keyK x.1,AV.int .i64 x.2)::ment (.int .i64 0) (entM l) (keyK p):=rfl
  have e2:midx (entM (x::l)) (keyK p)=match keq (keyK x.1) (keyK p) with | true=>0 | false=>midx (entM l) (keyK p)+1:=rfl
  rw [e1,e2,getC,addC,wfr]
  cases h:decide (x.1.1=p.1) && decide (x.1.2=p.2) with
  |true=>
   have e:=wf8.1 h
   refine ⟨?_,Nat.succ_pos _,?_⟩
   ·show Option.getD (match keq (keyK x.1) (keyK p) with | true=>some (AV.int .i64 x.2) | false=>mget (entM l) (keyK p)) _=_
    rw [wfr,h];rfl
   ·show (keyK x.1,AV.int .i64 (x.2+1))::entM l=(keyK p,AV.int .i64 (x.2+1))::entM l
    rw [e]
  |false=>
   refine ⟨?_,Nat.succ_lt_succ i2,?_⟩
   ·show Option.getD (match keq (keyK x.1) (keyK p) with | true=>some (AV.int .i64 x.2) | false=>mget (ment (.int .i64 0) (entM l) (keyK p)) (keyK p)) _=_
    rw [wfr,h];exact i1
   ·show (keyK x.1,AV.int .i64 x.2)::(ment (.int .i64 0) (entM l) (keyK p)).set (midx (entM l) (keyK p)) (((ment (.int .i64 0) (entM l) (keyK p)).getD (midx (entM l) (keyK p)) (.any,.any)).1,.int .i64 (getC l p+1))=(keyK x.1,AV.int .i64 x.2)::entM (addC l p)
    rw [i3]
theorem nf_msgs (n:Nat) (v:Nat→Int) (a most:Int) (R:AV→List (Nat×AObj)→Prop):wpFn te [(36,.rel wg7),(42,.det wbf)] [(3,wm6 n v (a+1) (wab n v a (most+1)))] 0 Tryz.f59 [.ptr 0 0,.int .i64 most] [.cells [.view 1 n (waa v),.int .i64 a] 27] R=(letI z1:=(most+(1:Int));letI z0:=(MgS.mk 0 (fun (_x:Nat)=>default) (a+(1:Int)));inR .i64 z1∧(27=27∧1=1∧waa v=waa (vInt (waa v))∧((1:Int)≤most+(1:Int)∧most+(1:Int)≤(1000000:Int))∧(0:Int)≤a∧a≤(4611686018427387904:Int))∧(TEq [(0,.ptr 0 0),(5,.own 1 0),(9,.int .i64 (wab n (vInt (waa v)) a z1)),(10,.int .i64 0)] [(0,.ptr 0 0),(5,.own 1 0),(9,.int .i64 (wab n v a z1)),(10,.int .i64 (↑(MgS.c z0):Int))]∧wag [(0,.cells [.view 1 n (waa v),.int .i64 (a+(1:Int))] 27),(1,.row 40 15 0 (fun (_x:Nat)=>[]) false)] [(0,.cells [.view 1 n (waa v),.int .i64 (MgS.a z0)] 27),(1,.row 40 15 0 (waf (MgS.g z0)) false)])∧((0:Int)≤wab n v a z1∧wab n v a z1≤(100:Int))∧((0:Int)≤a+(1:Int)∧a+(1:Int)≤(4611686018427375000:Int))∧∀ (i:MgS),MgS.c i=Int.toNat (wab n v a z1)→a+(1:Int)≤MgS.a i∧MgS.a i≤a+(1:Int)+(10:Int) * (↑(MgS.c i):Int)→(∀ (j:Nat),j<MgS.c i→MG.Made (MgS.g i j))→(∀ (i_1:Nat),i_1<MgS.c i→true=true)∧∃ (O':List (Nat×AObj)),wag [(0,.cells [.view 1 n (waa v),.int .i64 (MgS.a i)] 27),(1,.row 40 15 (MgS.c i) (waf (MgS.g i)) false)] O'∧R (.own 1 (MgS.c i)) O'):=by kernel_rfl
theorem wx3 (n:Nat) (v:Nat→Int) (N:Int) (i:MgS) (P:MgS→Prop) (R:Exit→St→Prop):wa6 ⟨te,[(36,.rel wg7)],[],1,19,0⟩ (wa8 Tryz.f59 3) [0,5,9,10] [5] [] (wlm n v N) P R (wlm n v N i)=(wac (decide ((↑(MgS.c i):Int)<N)) (27=27∧1=1∧waa v=waa (vInt (waa v))∧((0:Int)≤MgS.a i∧MgS.a i≤(4611686018427385000:Int))∧∀ (m:MG) (a':Int),MG.Made m→MgS.a i≤a'∧a'≤MgS.a i+(10:Int)→(15≤16777216∧15=15∧1≤9223372036854775807)∧((1≤1∧15=15)∧MgS.c i≤MgS.c i∧15=15∧40=40∧15=15∧MgS.c i+1≤9223372036854775807∧(MgS.c i+1) * TI.bytes wep≤140737488355328)∧inR .i64 ((↑(MgS.c i):Int)+(1:Int))∧∃ (i':MgS),(TEq [(0,.ptr 0 0),(5,.own 1 (MgS.c i+1)),(9,.int .i64 N),(10,.int .i64 ((↑(MgS.c i):Int)+(1:Int)))] [(0,.ptr 0 0),(5,.own 1 (MgS.c i')),(9,.int .i64 N),(10,.int .i64 (↑(MgS.c i'):Int))]∧wag [(0,.cells [.view 1 n (waa v),.int .i64 a'] 27),(1,.row 40 15 (MgS.c i+1) (apF (MgS.c i) (waf (MgS.g i)) (waz (TI.sz wep) (.str (MG.dev m):: .int .i64 (MG.seq m):: .int .i64 (MG.kind m):: .str (VT.o (MG.v m)):: .str (VT.p (MG.v m)):: .int .i64 (VT.per (MG.v m)):: .int .i64 (VT.day (MG.v m)):: .int .i64 (VT.st (MG.v m)):: .int .i64 (VT.pr (MG.v m)):: .str (VT.rep (MG.v m)):: .str (DT.o (MG.d m)):: .str (DT.p (MG.d m)):: .int .i64 (DT.per (MG.d m)):: .str (DT.dev (MG.d m)):: .int .i64 (DT.num (MG.d m))::List.append [] (List.flatten (List.replicate (nat_lit 0) [.str ([]),.int .i64 0,.int .i64 0,.str ([]),.str ([]),.int .i64 0,.int .i64 0,.int .i64 0,.int .i64 0,.str ([]),.str ([]),.str ([]),.int .i64 0,.str ([]),.int .i64 0]))))) false)] [(0,.cells [.view 1 n (waa v),.int .i64 (MgS.a i')] 27),(1,.row 40 15 (MgS.c i') (waf (MgS.g i')) false)])∧P i') ((∀ (i_1:Nat),i_1<MgS.c i→true=true)∧∃ (O':List (Nat×AObj)),wag [(0,.cells [.view 1 n (waa v),.int .i64 (MgS.a i)] 27),(1,.row 40 15 (MgS.c i) (waf (MgS.g i)) false)] O'∧R (.exit 0) (St.mk [(5,.own 1 (MgS.c i))] O' 2 []))):=by kernel_rfl
theorem mput_ap (g:Nat→MG) (k:Nat) (r:MG) (ch:Nat→List AV) (hch:ch 0=mgC r) (j:Nat) (_hj:j<k+1):apF k (waf g) ch j=waf (MG.put g k r) j:=by
 unfold apF waf MG.put
 by_cases h:j<k
 ·rw [if_pos h,if_pos h]
 ·have:j=k:=by omega
  rw [if_neg h,if_neg h,this,Nat.sub_self,hch];rfl
theorem wzb (hP:C.P=Tryz.prog) (n:Nat) (v:Nat→Int) (a N:Int):waj C 1 19 (wao Tryz.f59 3) (wm6 n v a N):=by
 rintro st Q ⟨h0,hN,ha,hQ⟩
 refine AWP.ownNil 5 40 15 ?_
 refine waj.mk (prg hP) [(36,.rel wg7)] 0 (.cons (wsu hP) .nil) [0,5,9,10] [5] [] (wlm n v N) (fun i=>(i.c:Int)≤N∧(a≤i.a∧i.a≤a+10 * i.c)∧∀ j,j<i.c→(i.g j).Made) (fun i=>N.toNat - i.c) ⟨0,fun _=>default,a⟩
  ⟨hN.1,by show a≤a∧a≤a+10 * ((0:Nat):Int);omega,fun j hj=>absurd hj (Nat.not_lt_zero j)⟩ h0 (fun i hi=>?_) (fun i=>⟨fun _ _=>rfl,trivial⟩)
 obtain ⟨h1,h2,h3⟩:=hi
 rw [wx3]
 refine wal (fun q=>?_) (fun q=>⟨fun _ _=>rfl,_,wan _,hQ i (by omega) h2 h3⟩)
 refine ⟨rfl,rfl,rfl,by omega,fun m a' hm ha'=>⟨⟨by omega,rfl,by omega⟩,⟨⟨Nat.le_refl _,rfl⟩,Nat.le_refl _,rfl,rfl,rfl,by omega,?_⟩,by simp only [inR];omega,⟨i.c+1,MG.put i.g i.c m,a'⟩,⟨rfl,rfl,⟨rfl,rfl,rfl,rfl,rfl,fun j hj=>?_⟩,trivial⟩,⟨?_,?_,fun j hj=>?_⟩,?_⟩⟩
 ·show (i.c+1) * 176≤_
  omega
 ·exact mput_ap i.g i.c m _ rfl j hj
 ·show ((i.c+1:Nat):Int)≤N
  omega
 ·show a≤a'∧a'≤a+10 * ((i.c+1:Nat):Int)
  omega
 ·show (MG.put i.g i.c m j).Made
  unfold MG.put
  by_cases h:j<i.c
  ·rw [if_pos h];exact h3 j h
  ·rw [if_neg h];exact hm
 ·show N.toNat - (i.c+1)<N.toNat - i.c
  omega
theorem msgs_ok (hP:C.P=Tryz.prog):wbc C 59 wms:=by
 rintro args objs R h
 unfold wms at h
 split at h
 ·rename_i most sz n f a t
  obtain ⟨rfl,rfl,hf,ha,hm,hR⟩:=h
  rw [hf] at hR ⊢
  generalize vInt f=v at *
  have hw:vInt (waa v)=v:=rfl
  refine wbc.wpL (prg hP) [(36,.rel wg7),(42,.det wbf)] [(3,wm6 n v (a+1) (wab n v a (most+1)))] 0 (.cons (wsu hP) (.cons (wco hP) .nil)) (hP ▸ Tryz.func59) rfl rfl rfl [(wao Tryz.f59 3,wm6 n v (a+1) (wab n v a (most+1)))] (by kernel_rfl) ⟨wzb hP _ _ _ _,trivial⟩ ?_
  rw [nf_msgs,hw]
  have r:=wav (show (1:Int)≤most+1 by omega) n v a
  exact ⟨by simp only [inR];omega,⟨rfl,rfl,rfl,⟨by omega,by omega⟩,by omega,by omega⟩,⟨rfl,rfl,⟨rfl,rfl,rfl,rfl,rfl,fun i hi=>absurd hi (Nat.not_lt_zero i)⟩,trivial⟩,⟨by omega,by omega⟩,⟨by omega,by omega⟩,fun i h1 h2 h3=>⟨fun _ _=>rfl,_,wan _,hR i.c i.g i.a (by omega) ⟨by omega,by omega⟩ h3⟩⟩
 ·exact h.elim
end Go.Eng
