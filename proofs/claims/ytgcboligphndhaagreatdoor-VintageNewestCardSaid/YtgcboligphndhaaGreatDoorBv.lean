/- What is in a file. -/
import Derived.Test.YtgcboligphndhaaGreatDoorBs
import Derived.Test.YtgcboligphndhaaGreatDoorBr
import Derived.Test.YtgcboligphndhaaGreatDoorBu
import Derived.Test.YtgcboligphndhaaGreatDoorBq
import Derived.Test.YtgcboligphndhaaGreatDoorBt
namespace Go.Eng
open Go.Proofs Go.RowKit
variable {C:Ctx} [C.Loose]
set_option maxRecDepth 20000
theorem wwf (s:List UInt8) (R:AV→List (Nat×AObj)→Prop):wpFn te [(72,.det wey)] [] 0 Tryz.f178 [.str s] [] R=((List.length s<4294967281∧0<4294967281∧0<4294967281∧0<4294967281)∧R (.bool !decide (msgF (MG.mk s (0:Int) (0:Int) (VT.mk [] [] (0:Int) (0:Int) (0:Int) (0:Int) []) (DT.mk [] [] (0:Int) [] (0:Int)))=(110:Int))) []):=by kernel_rfl
theorem wv6 (o p:List UInt8) (per u tv:Int) (R:AV→List (Nat×AObj)→Prop):wpFn te [(178,.det wkr),(160,.det wdo)] [] 0 Tryz.f145 [.agg [.str o,.str p,.int .i64 per,.int .i64 u,.int .i64 tv]] [] R=(letI z0:=R (.bool false) [];List.length o<4294967281∧waa (wa7 o) (True∧waa (wbq p) (waa (decide ((0:Int)≤per)) (waa (decide (per≤(5999:Int))) (waa (decide ((1:Int)≤min u tv)) (R (.bool (decide (max u tv≤(1099511627776:Int)))) []) z0) z0) z0) z0) z0):=by kernel_rfl
theorem nf_sv (g:Nat→RW) (n:Nat) (R:AV→List (Nat×AObj)→Prop):wpFn te [(145,.det wgk)] [(4,L_sv g n)] 0 Tryz.f105 [.view 5 n (wak g)] [] R=(waa (decide ((24000:Int)<(↑n:Int))) (R (.int .i64 130) []) (some (St.mk [(8,.view 5 n (wak g)),(9,.int .i64 (↑n:Int)),(10,.int .i64 0)] [] 0 [])=some (St.mk [(8,.view 5 n (wak g)),(9,.int .i64 (↑n:Int)),(10,.int .i64 (↑0:Int))] [] 0 [])∧n≤24000∧(∀ (i:Nat),i<n→List.length (RW.o (g i))<4294967281)∧waa (wc3 g n) (R (.int .i64 0) []) (R (.int .i64 131) []))):=by kernel_rfl
theorem wwe (g:Nat→RW) (n k:Nat) (P:Nat→Prop) (R:Exit→St→Prop):wa2 ⟨te,[(145,.det wgk)],[],0,18,0⟩ (wa4 Tryz.f105 4) [8,9,10] [] [2] (S_sv g n) P R (S_sv g n k)=(letI z0:=(g (Int.toNat (↑k:Int)));waa (decide ((↑k:Int)<(↑n:Int))) (((0:Int)≤(↑k:Int)∧(↑k:Int)<(↑n:Int)∧5=5)∧List.length (RW.o z0)<4294967281∧waa (!rowF (RW.mk (RW.o z0) (RW.p z0) (RW.per z0) (RW.u z0) (RW.tv z0))) (R .ret (St.mk [(2,.int .i64 131)] [] 0 [])) (inR .i64 ((↑k:Int)+(1:Int))∧∃ (i':Nat),some (St.mk [(8,.view 5 n (wak g)),(9,.int .i64 (↑n:Int)),(10,.int .i64 ((↑k:Int)+(1:Int)))] [] 0 [])=some (St.mk [(8,.view 5 n (wak g)),(9,.int .i64 (↑n:Int)),(10,.int .i64 (↑i':Int))] [] 0 [])∧P i')) (R (.exit 0) (St.mk [] [] 0 []))):=by kernel_rfl
theorem wu7 (hP:C.P=Tryz.prog) (hL:∀ w,C.laid w→LaidW w):wad C 178 wkr:=by
 rintro args objs U Os vc h hvc
 unfold wkr at h
 split at h<;>simp only [Option.some.injEq,Prod.mk.injEq,reduceCtorEq] at h
 rename_i s
 obtain ⟨rfl,rfl,rfl⟩:=h
 refine wad.wp0 (prg hP) [(72,.det wey)] 0 (.cons (wn0 hP hL) .nil) (hP ▸ Tryz.func178) rfl rfl rfl ?_
 rw [wwf]
 refine ⟨⟨hvc,by omega,by omega,by omega⟩,?_,rfl⟩
 unfold msgF
 cases wa7 s<;>rfl
theorem wpy (hP:C.P=Tryz.prog) (hL:∀ w,C.laid w→LaidW w):wad C 145 wgk:=by
 rintro args objs U Os vc h hvc
 unfold wgk at h
 split at h<;>simp only [Option.some.injEq,Prod.mk.injEq,reduceCtorEq] at h
 rename_i o p per u tv
 obtain ⟨rfl,rfl,rfl⟩:=h
 refine wad.wp0 (prg hP) [(178,.det wkr),(160,.det wdo)] 0 (.cons (wu7 hP hL) (.cons (wik hP (wg1 hP)) .nil)) (hP ▸ Tryz.func145) rfl rfl rfl ?_
 rw [wv6]
 unfold rowF wb3
 dsimp only
 generalize wa7 o=b1,wbq p=b2,decide (0≤per)=b3,decide (per≤5999)=b4,decide (1≤min u tv)=b5,decide (max u tv≤1099511627776)=b6
 refine ⟨hvc,?_⟩
 cases b1
 ·exact ⟨rfl,rfl⟩
 refine ⟨trivial,?_⟩
 cases b2
 ·exact ⟨rfl,rfl⟩
 cases b3
 ·exact ⟨rfl,rfl⟩
 cases b4
 ·exact ⟨rfl,rfl⟩
 cases b5<;>exact ⟨rfl,rfl⟩
theorem wub {g:Nat→RW} {k:Nat} (h:rowF (g k)=false):∀ n,k<n→wc3 g n=false
 |0,hn=>by omega
 |n+1,hn=>by
  rw [wc3]
  by_cases e:k=n
  ·subst e;rw [h,Bool.and_false]
  ·rw [wub h n (by omega),Bool.false_and]
theorem sv_loop (hP:C.P=Tryz.prog) (hL:∀ w,C.laid w→LaidW w) (g:Nat→RW) (n:Nat):wae C 0 18 (wan Tryz.f105 4) (L_sv g n):=by
 rintro st Q ⟨h0,hn,hs,hQ⟩
 have hR:=wb4 hQ
 refine wae.mk (prg hP) [(145,.det wgk)] 0 (.cons (wpy hP hL) .nil) [8,9,10] [] [2] (S_sv g n) (fun k=>k≤n∧wc3 g k=true) (fun k=>n - k) 0 ⟨Nat.zero_le _,rfl⟩ h0 (fun k hk=>?_)
 obtain ⟨hkn,hok⟩:=hk
 rw [wwe,Int.toNat_natCast]
 refine war (fun h1=>?_) (fun h1=>?_)
 ·refine ⟨⟨by omega,by omega,rfl⟩,hs k (by omega),wcq (fun h2=>hR.2 (wub h2 n (by omega))) (fun h2=>⟨by simp only [inR];omega,k+1,rfl,⟨by omega,?_⟩,by omega⟩)⟩
  rw [wc3,hok];exact h2
 ·have:k=n:=by omega
  subst this
  exact hR.1 hok
theorem wp8 (hP:C.P=Tryz.prog) (hL:∀ w,C.laid w→LaidW w):wad C 105 wko:=by
 rintro args objs U Os vc h hvc
 unfold wko at h
 split at h<;>simp only [Option.some.injEq,Prod.mk.injEq,reduceCtorEq] at h
 rename_i n f
 obtain ⟨rfl,rfl,rfl⟩:=h
 obtain ⟨hn,hf,hs⟩:=hvc
 generalize rwOf f=g at *
 subst hf
 unfold svF
 refine wad.wpL (prg hP) [(145,.det wgk)] [(4,L_sv g n)] 0 (.cons (wpy hP hL) .nil) (hP ▸ Tryz.func105) rfl rfl rfl [(wan Tryz.f105 4,L_sv g n)] (by kernel_rfl) ⟨sv_loop hP hL g n,trivial⟩ ?_
 rw [nf_sv]
 refine war (fun h1=>?_) (fun h1=>⟨rfl,by omega,hs,wat (fun h2=>?_) (fun h2=>?_)⟩)
 ·rw [decide_eq_true (show 24000<n by omega)];exact ⟨rfl,rfl⟩
 ·rw [decide_eq_false (show ¬ 24000<n by omega),h2];exact ⟨rfl,rfl⟩
 ·rw [decide_eq_false (show ¬ 24000<n by omega),h2];exact ⟨rfl,rfl⟩
theorem whh {α:Type} (g:Nat→α) (n:Nat):lst g (n+1)=lst g n++[g n]:=by simp [lst,List.range_succ]
theorem lst_at {α:Type} {g:Nat→α} {L:List α} {n:Nat} (h:lst g n=L) (d:α):n=L.length∧∀ i,i<n→g i=L.getD i d:=by
 subst h
 refine ⟨by simp [lst],fun i hi=>?_⟩
 simp [lst,hi]
theorem wwk (x:Int) (R:AV→List (Nat×AObj)→Prop):wpFn te [] [] 0 Tryz.f180 [.int .i64 x] [] R=(waa (decide ((0:Int)≤x)) (R (.bool (decide (x≤(1099511627776:Int)))) []) (R (.bool false) [])):=by kernel_rfl
theorem nf_tarV (st:Int) (bs:List BK) (R:AV→List (Nat×AObj)→Prop):wpFn te [(180,.det wgl)] [(7,L_tv st bs)] 0 Tryz.f151 [.agg [.int .i64 st,.view 2 bs.length (wa6 (atB bs))]] [] R=(letI z2:=R (.int .i64 141) [];letI z1:=([(0,.cells [.int .i64 st,.view 2 (List.length bs) (wa6 (atB bs))] 95)]:List (Nat×AObj));letI z0:=(↑(List.length bs):Int);True∧waa (!(decide ((0:Int)≤st) && decide (st≤(1099511627776:Int)))) (R (.int .i64 140) []) (waa (decide (z0<(1:Int))) z2 (waa (decide ((8:Int)<z0)) z2 (some (St.mk [(1,.ptr 0 0),(3,.int .i64 0),(22,.view 2 (List.length bs) (wa6 (atB bs))),(23,.int .i64 z0),(24,.int .i64 0)] z1 1 [])=some (St.mk [(1,.ptr 0 0),(3,.int .i64 (lowB bs 0)),(22,.view 2 (List.length bs) (wa6 (atB bs))),(23,.int .i64 z0),(24,.int .i64 (↑0:Int))] z1 1 [])∧List.length bs≤8∧waa (bksB bs (List.length bs)) (R (.int .i64 0) []) z2)))):=by kernel_rfl
theorem wv8 (st:Int) (bs:List BK) (k:Nat) (P:Nat→Prop) (R:Exit→St→Prop):wa2 ⟨te,[(180,.det wgl)],[],0,65,0⟩ (wa4 Tryz.f151 7) [1,3,22,23,24] [] [2] (S_tv st bs) P R (S_tv st bs k)=(letI z5:=([(0,.cells [.int .i64 st,.view 2 (List.length bs) (wa6 (atB bs))] 95)]:List (Nat×AObj));letI z4:=R .ret (St.mk [(2,.int .i64 141)] [] 0 []);letI z3:=(↑(List.length bs):Int);letI z2:=(atB bs (Int.toNat (↑k:Int)));letI z0:=(inR .i64 ((↑k:Int)+(1:Int))∧∃ (i':Nat),some (St.mk [(1,.ptr 0 0),(3,.int .i64 (BK.up z2)),(22,.view 2 (List.length bs) (wa6 (atB bs))),(23,.int .i64 z3),(24,.int .i64 ((↑k:Int)+(1:Int)))] z5 1 [])=some (St.mk [(1,.ptr 0 0),(3,.int .i64 (lowB bs i')),(22,.view 2 (List.length bs) (wa6 (atB bs))),(23,.int .i64 z3),(24,.int .i64 (↑i':Int))] z5 1 [])∧P i');letI z1:=(waa (!decide ((↑k:Int)=z3 - (1:Int))) (waa (decide (BK.up z2≤lowB bs k)) z4 (waa (decide ((1099511627776:Int)<BK.up z2)) z4 z0)) z0);waa (decide ((↑k:Int)<z3)) (((0:Int)≤(↑k:Int)∧(↑k:Int)<z3∧2=2)∧inR .i64 (z3 - (1:Int))∧True∧waa (!(decide ((0:Int)≤BK.pr z2) && decide (BK.pr z2≤(1099511627776:Int)))) z4 (waa (decide ((↑k:Int)=z3 - (1:Int))) (waa (!decide (BK.up z2=(0:Int))) z4 z1) z1)) (R (.exit 0) (St.mk [] [] 0 []))):=by kernel_rfl
theorem wwg (o p:List UInt8) (per:Int) (R:AV→List (Nat×AObj)→Prop):wpFn te [(105,.det wkn)] [] 0 Tryz.f150 [.str o,.str p,.int .i64 per] [] R=(letI z1:=(List.flatten (List.replicate (nat_lit 0) [.str ([]),.str ([]),.int .i64 0,.int .i64 0,.int .i64 0]):List AV);letI z0:=wa0 (TI.sz we8) (.str o:: .str p:: .int .i64 per:: .int .i64 1:: .int .i64 1::List.append [] z1);(5≤16777216∧5=5∧1≤9223372036854775807)∧(∀ (i:Nat),i<1→nrefL (wa0 (TI.sz we8) (.str o:: .str p:: .int .i64 per:: .int .i64 1:: .int .i64 1::List.append [] z1) i)=true)∧(1=1∧1≤1000000∧(∀ (i:Nat),i<1→wa0 (TI.sz we8) (.str o:: .str p:: .int .i64 per:: .int .i64 1:: .int .i64 1::List.append [] z1) i=[.str (RW.o (rwOf z0 i)),.str (RW.p (rwOf z0 i)),.int .i64 (RW.per (rwOf z0 i)),.int .i64 (RW.u (rwOf z0 i)),.int .i64 (RW.tv (rwOf z0 i))])∧∀ (i:Nat),i<1→List.length (RW.o (rwOf z0 i))<4294967281)∧R (.bool (decide (svF (rwOf z0) 1=(0:Int)))) []):=by kernel_rfl
theorem wwj (t:RT) (R:AV→List (Nat×AObj)→Prop):wpFn te [(150,.det wdq),(151,.det wkm)] [] 0 Tryz.f108 [.agg [.str t.o,.str t.p,.int .i64 t.per,.int .i64 t.st,.view 2 t.bs.length (wa6 (atB t.bs))]] [] R=(letI z0:=lst (bkOf (wa6 (atB (RT.bs t)))) (List.length (RT.bs t));List.length (RT.o t)<4294967281∧waa (wb3 (RT.o t) (RT.p t) (RT.per t)) (wa6 (atB (RT.bs t))=wa6 (atB z0)∧R (.bool (decide (tfF (RT.st t) z0=(0:Int)))) []) (R (.bool false) [])):=by kernel_rfl
theorem wgf {bs:List BK} {i:Nat}:bkOK bs i=true↔0≤(atB bs i).pr∧(atB bs i).pr≤1099511627776∧(i+1=bs.length→(atB bs i).up=0)∧(¬ i+1=bs.length→lowB bs i<(atB bs i).up∧(atB bs i).up≤1099511627776):=by
 unfold bkOK
 by_cases h:i+1=bs.length
 ·rw [decide_eq_true h];simp [h]
 ·rw [decide_eq_false h];simp [h]
theorem wty {bs:List BK} {k:Nat} (e:bksB bs (k+1)=false):∀ n,k<n→bksB bs n=false
 |0,hn=>by omega
 |n+1,hn=>by
  by_cases q:k=n
  ·subst q;exact e
  ·rw [bksB,wty e n (by omega),Bool.false_and]
theorem wq5 (hP:C.P=Tryz.prog):wad C 180 wgl:=by
 have _:C.Loose:=inferInstance
 rintro args objs U Os vc h hvc
 unfold wgl at h
 split at h<;>simp only [Option.some.injEq,Prod.mk.injEq,reduceCtorEq] at h
 rename_i n
 obtain ⟨rfl,rfl,rfl⟩:=h
 refine wad.wp0 (prg hP) [] 0 .nil (hP ▸ Tryz.func180) rfl rfl rfl ?_
 rw [wwk]
 exact war (fun h=>by rw [decide_eq_true h];exact ⟨rfl,rfl⟩) (fun h=>by rw [decide_eq_false h];exact ⟨rfl,rfl⟩)
theorem tv_loop (hP:C.P=Tryz.prog) (st:Int) (bs:List BK):wae C 0 65 (wan Tryz.f151 7) (L_tv st bs):=by
 rintro s Q ⟨h0,hn,hQ⟩
 have hR:=wb4 hQ
 refine wae.mk (prg hP) [(180,.det wgl)] 0 (.cons (wq5 hP) .nil) [1,3,22,23,24] [] [2] (S_tv st bs) (fun k=>k≤bs.length∧bksB bs k=true) (fun k=>bs.length - k) 0 ⟨Nat.zero_le _,rfl⟩ h0 (fun k hk=>?_)
 obtain ⟨hkn,hok⟩:=hk
 rw [wv8,Int.toNat_natCast]
 refine war (fun h1=>?_) (fun h1=>?_)
 ·have hlt:k<bs.length:=by omega
  have bad:bkOK bs k=false→Q .ret ⟨[(2,.int .i64 141)],[],0,[]⟩:=fun h=>hR.2 (wty (k:=k) (by rw [bksB,h,Bool.and_false]) _ hlt)
  have bad':¬ bkOK bs k=true→Q .ret ⟨[(2,.int .i64 141)],[],0,[]⟩:=fun h=>bad (by cases q:bkOK bs k with
   |true=>exact absurd q h
   |false=>rfl)
  have next:bkOK bs k=true→inR .i64 ((k:Int)+1)∧∃ i':Nat,some (St.mk [(1,.ptr 0 0),(3,.int .i64 (atB bs k).up),(22,.view 2 bs.length (wa6 (atB bs))),(23,.int .i64 (bs.length:Int)),(24,.int .i64 ((k:Int)+1))] [(0,.cells [.int .i64 st,.view 2 bs.length (wa6 (atB bs))] 95)] 1 [])=
    some (St.mk [(1,.ptr 0 0),(3,.int .i64 (lowB bs i')),(22,.view 2 bs.length (wa6 (atB bs))),(23,.int .i64 (bs.length:Int)),(24,.int .i64 (i':Int))] [(0,.cells [.int .i64 st,.view 2 bs.length (wa6 (atB bs))] 95)] 1 [])∧(i'≤bs.length∧bksB bs i'=true)∧bs.length - i'<bs.length - k:=
   fun h=>⟨by simp only [inR];omega,k+1,rfl,⟨by omega,by rw [bksB,hok,h];rfl⟩,by omega⟩
  refine ⟨⟨by omega,by omega,rfl⟩,by simp only [inR];omega,trivial,wcq (fun h2=>bad' (fun h=>?_)) (fun h2=>?_)⟩
  ·rw [Bool.and_eq_false_iff,decide_eq_false_iff_not,decide_eq_false_iff_not] at h2
   have:=wgf.1 h
   omega
  ·rw [Bool.and_eq_true,decide_eq_true_eq,decide_eq_true_eq] at h2
   refine war (fun h3=>wc0 (fun h4=>bad' (fun h=>h4 ((wgf.1 h).2.2.1 (by omega)))) (fun h4=>wc0 (fun h5=>absurd h3 h5) (fun _=>next (wgf.2 ⟨h2.1,h2.2,fun _=>h4,fun h=>absurd (by omega) h⟩))))
    (fun h3=>wc0 (fun _=>war (fun h4=>bad' (fun h=>by have:=(wgf.1 h).2.2.2 (by omega);omega)) (fun h4=>war (fun h5=>bad' (fun h=>by have:=(wgf.1 h).2.2.2 (by omega);omega)) (fun h5=>next (wgf.2 ⟨h2.1,h2.2,fun h=>absurd h (by omega),fun _=>⟨by omega,by omega⟩⟩)))) (fun h5=>absurd h5 h3))
 ·have:k=bs.length:=by omega
  subst this
  exact hR.1 hok
theorem tarV_ok (hP:C.P=Tryz.prog):wad C 151 wkm:=by
 rintro args objs U Os vc h hvc
 unfold wkm at h
 split at h<;>simp only [Option.some.injEq,Prod.mk.injEq,reduceCtorEq] at h
 rename_i st n f
 obtain ⟨rfl,rfl,rfl⟩:=h
 have hl:(lst (bkOf f) n).length=n:=by simp [lst]
 generalize lst (bkOf f) n=bs at *
 subst hl
 subst hvc
 refine wad.wpL (prg hP) [(180,.det wgl)] [(7,L_tv st bs)] 0 (.cons (wq5 hP) .nil) (hP ▸ Tryz.func151) rfl rfl rfl [(wan Tryz.f151 7,L_tv st bs)] (by kernel_rfl) ⟨tv_loop hP st bs,trivial⟩ ?_
 rw [nf_tarV]
 unfold tfF
 refine ⟨trivial,wcq (fun h=>by rw [h];exact ⟨rfl,rfl⟩) (fun h=>?_)⟩
 rw [h]
 refine war (fun h1=>?_) (fun h1=>war (fun h2=>?_) (fun h2=>⟨rfl,by omega,?_⟩))
 ·rw [decide_eq_true (show bs.length<1 by omega)];exact ⟨rfl,rfl⟩
 ·rw [decide_eq_true (show 8<bs.length by omega),Bool.or_true];exact ⟨rfl,rfl⟩
 ·rw [decide_eq_false (show ¬ bs.length<1 by omega),decide_eq_false (show ¬ 8<bs.length by omega)]
  exact wat (fun q=>by rw [q];exact ⟨rfl,rfl⟩) (fun q=>by rw [q];exact ⟨rfl,rfl⟩)
theorem wu1 (hP:C.P=Tryz.prog) (hL:∀ w,C.laid w→LaidW w):wad C 105 wkn:=by
 rintro args objs U Os vc h hvc
 unfold wkn at h
 split at h<;>simp only [Option.some.injEq,Prod.mk.injEq,reduceCtorEq] at h
 rename_i n t m f fr
 obtain ⟨rfl,rfl,rfl⟩:=h
 obtain ⟨rfl,hn,hf,hs⟩:=hvc
 refine wag.rowEq 0 (f':=wak (rwOf f)) rfl (fun i hi=>(hf i hi).symm) ?_
 have hb:Nat.ble n n=true:=Nat.ble_eq_true_of_le (Nat.le_refl _)
 exact ADet.give (wp8 hP hL [.view 5 n (wak (rwOf f))] [] _ _ _ rfl ⟨hn,rfl,hs⟩) (by simp [frzC,frzA,frz,hb]) rfl rfl (fun _ _=>rfl)
theorem svF_one (o p:List UInt8) (per:Int) (g:Nat→RW) (h:g 0=⟨o,p,per,1,1⟩):decide (svF g 1=0)=wb3 o p per:=by
 unfold svF
 rw [decide_eq_false (show ¬ 24000<1 by omega)]
 simp only [cond_false,wc3,Bool.true_and,h,rowF]
 cases wb3 o p per<;>rfl
theorem wu8 (hP:C.P=Tryz.prog) (hL:∀ w,C.laid w→LaidW w):wad C 150 wdq:=by
 rintro args objs U Os vc h hvc
 unfold wdq at h
 split at h<;>simp only [Option.some.injEq,Prod.mk.injEq,reduceCtorEq] at h
 rename_i o p per
 obtain ⟨rfl,rfl,rfl⟩:=h
 refine wad.wp0 (prg hP) [(105,.det wkn)] 0 (.cons (wu1 hP hL) .nil) (hP ▸ Tryz.func150) rfl rfl rfl ?_
 rw [wwg]
 have one:∀ {p:Nat→Prop},p 0→∀ i,i<1→p i:=fun h0 i hi=>by
  match i,hi with
  |0,_=>exact h0
 refine ⟨⟨by omega,rfl,by omega⟩,one rfl,⟨rfl,by omega,one rfl,one hvc⟩,?_⟩
 rw [svF_one o p per _ rfl]
 exact ⟨rfl,rfl⟩
theorem wvj (hP:C.P=Tryz.prog) (hL:∀ w,C.laid w→LaidW w):wad C 108 wkt:=by
 rintro args objs U Os vc h hvc
 unfold wkt at h
 split at h<;>simp only [Option.some.injEq,Prod.mk.injEq,reduceCtorEq] at h
 rename_i o p per st n f
 obtain ⟨rfl,rfl,rfl⟩:=h
 obtain ⟨ho,hf⟩:=hvc
 have hl:(lst (bkOf f) n).length=n:=by simp [lst]
 generalize hb:lst (bkOf f) n=bs at *
 subst hl
 subst hf
 have hn:=wwj ⟨o,p,per,st,bs⟩
 dsimp only at hn
 refine wad.wp0 (prg hP) [(150,.det wdq),(151,.det wkm)] 0 (.cons (wu8 hP hL) (.cons (tarV_ok hP) .nil)) (hP ▸ Tryz.func108) rfl rfl rfl ?_
 rw [hn,wj8]
 unfold rtOK
 exact ⟨ho,wat (fun q=>⟨rfl,by rw [q];exact ⟨rfl,rfl⟩⟩) (fun q=>by rw [q];exact ⟨rfl,rfl⟩)⟩
def keyK (p:List UInt8×Int):AV:=.agg [.str p.1,.int .i64 p.2]
theorem wfi (a b:List UInt8×Int):keq (keyK a) (keyK b)=(decide (a.1=b.1) && decide (a.2=b.2)):=by simp [keyK,keq,keqL,keq0]
theorem wqn (p:List UInt8×Int):(decide (p.1=p.1) && decide (p.2=p.2))=true:=by simp
theorem wfn (σ:Nat→Option Nat) (L:List ((List UInt8×Int)×Int)):(entM L).map (fun p=>(AV.rn σ p.1,AV.rn σ p.2))=entM L:=by
 unfold entM
 rw [List.map_map]
 rfl
theorem wzj {L:List ((List UInt8×Int)×Int)} (h:(L.map Prod.fst).Nodup):wcl te 83 (entM L):=by
 refine ⟨List.all_eq_true.2 fun p hp=>?_,?_⟩
 ·obtain ⟨r,_,rfl⟩:=List.mem_map.1 hp
  have:∀ (a:List UInt8) (b:Int),keyA te 83 (.agg [.str a,.int .i64 b])=true:=fun a b=>by kernel_rfl
  exact this _ _
 ·have:(entM L).map Prod.fst=(L.map Prod.fst).map keyK:=by simp [entM,keyK]
  rw [this]
  refine List.pairwise_map.2 (h.imp fun {a b} hab he=>hab ?_)
  have q:=wfi a b
  rw [he,wfi,wqn] at q
  exact wee.1 q.symm
theorem wn5 (p:List UInt8×Int):∀ L:List ((List UInt8×Int)×Int),Option.getD (mget (entM L) (keyK p)) (.int .i64 0)= .int .i64 (getC L p)
 |[]=>rfl
 |x::l=>by
  rw [getC]
  show Option.getD (match keq (keyK x.1) (keyK p) with | true=>some (.int .i64 x.2) | false=>mget (entM l) (keyK p)) _=_
  rw [wfi]
  cases decide (x.1.1=p.1) && decide (x.1.2=p.2) with
  |true=>rfl
  |false=>exact wn5 p l
theorem ment_K (p:List UInt8×Int):∀ L:List ((List UInt8×Int)×Int),
  Option.getD (mget (ment (.int .i64 0) (entM L) (keyK p)) (keyK p)) (.int .i64 0)= .int .i64 (getC L p)∧midx (entM L) (keyK p)<(ment (.int .i64 0) (entM L) (keyK p)).length∧
  (ment (.int .i64 0) (entM L) (keyK p)).set (midx (entM L) (keyK p)) (((ment (.int .i64 0) (entM L) (keyK p)).getD (midx (entM L) (keyK p)) (.any,.any)).1,.int .i64 (getC L p+1))=entM (addC L p)
 |[]=>by
  refine ⟨?_,Nat.zero_lt_one,rfl⟩
  show Option.getD (match keq (keyK p) (keyK p) with | true=>some (AV.int .i64 0) | false=>none) _=_
  rw [wfi,wqn];rfl
 |x::l=>by
  obtain ⟨i1,i2,i3⟩:=ment_K p l
  have e1:ment (.int .i64 0) (entM (x::l)) (keyK p)=match keq (keyK x.1) (keyK p) with | true=>(keyK x.1,AV.int .i64 x.2)::entM l | false=>(keyK x.1,AV.int .i64 x.2)::ment (.int .i64 0) (entM l) (keyK p):=rfl
  have e2:midx (entM (x::l)) (keyK p)=match keq (keyK x.1) (keyK p) with | true=>0 | false=>midx (entM l) (keyK p)+1:=rfl
  rw [e1,e2,getC,addC,wfi]
  cases h:decide (x.1.1=p.1) && decide (x.1.2=p.2) with
  |true=>
   have e:=wee.1 h
   refine ⟨?_,Nat.succ_pos _,?_⟩
   ·show Option.getD (match keq (keyK x.1) (keyK p) with | true=>some (AV.int .i64 x.2) | false=>mget (entM l) (keyK p)) _=_
    rw [wfi,h];rfl
   ·show (keyK x.1,AV.int .i64 (x.2+1))::entM l=(keyK p,AV.int .i64 (x.2+1))::entM l
    rw [e]
  |false=>
   refine ⟨?_,Nat.succ_lt_succ i2,?_⟩
   ·show Option.getD (match keq (keyK x.1) (keyK p) with | true=>some (AV.int .i64 x.2) | false=>mget (ment (.int .i64 0) (entM l) (keyK p)) (keyK p)) _=_
    rw [wfi,h];exact i1
   ·show (keyK x.1,AV.int .i64 x.2)::(ment (.int .i64 0) (entM l) (keyK p)).set (midx (entM l) (keyK p)) (((ment (.int .i64 0) (entM l) (keyK p)).getD (midx (entM l) (keyK p)) (.any,.any)).1,.int .i64 (getC l p+1))=(keyK x.1,AV.int .i64 x.2)::entM (addC l p)
    rw [i3]
theorem nf_k1 (m:MG) (R:AV→List (Nat×AObj)→Prop):wpFn te [(72,.det wey)] [] 0 Tryz.f125 [.agg [.str m.dev,.int .i64 m.seq,.int .i64 m.kind,.str m.v.o,.str m.v.p,.int .i64 m.v.per,.int .i64 m.v.day,.int .i64 m.v.st,.int .i64 m.v.pr,.str m.v.rep,.str m.d.o,.str m.d.p,.int .i64 m.d.per,.str m.d.dev,.int .i64 m.d.num]] [] R=((List.length (MG.dev m)<4294967281∧List.length (VT.o (MG.v m))<4294967281∧List.length (DT.o (MG.d m))<4294967281∧List.length (DT.dev (MG.d m))<4294967281)∧R (.bool !decide (msgF (MG.mk (MG.dev m) (MG.seq m) (MG.kind m) (VT.mk (VT.o (MG.v m)) (VT.p (MG.v m)) (VT.per (MG.v m)) (VT.day (MG.v m)) (VT.st (MG.v m)) (VT.pr (MG.v m)) (VT.rep (MG.v m))) (DT.mk (DT.o (MG.d m)) (DT.p (MG.d m)) (DT.per (MG.d m)) (DT.dev (MG.d m)) (DT.num (MG.d m))))=(0:Int))) []):=by kernel_rfl
theorem nf_k2 (t:RT) (R:AV→List (Nat×AObj)→Prop):wpFn te [(108,.det wkt)] [] 0 Tryz.f127 [.agg [.str t.o,.str t.p,.int .i64 t.per,.int .i64 t.st,.view 2 t.bs.length (wa6 (atB t.bs))]] [] R=(letI z0:=lst (bkOf (wa6 (atB (RT.bs t)))) (List.length (RT.bs t));(List.length (RT.o t)<4294967281∧wa6 (atB (RT.bs t))=wa6 (atB z0))∧R (.bool !rtOK (RT.mk (RT.o t) (RT.p t) (RT.per t) (RT.st t) z0)) []):=by kernel_rfl
theorem nf_ik1 (g:Nat→MG) (n:Nat) (R:AV→List (Nat×AObj)→Prop):wpFn te [(125,.det S_k1)] [(2,wmx g n)] 0 Tryz.f70 [.view 15 n (wah g),.func 125 []] [] R=(some (St.mk [(0,.view 15 n (wah g)),(1,.func 125 []),(7,.int .i64 (↑n:Int)),(8,.int .i64 0)] [] 0 [])=some (St.mk [(0,.view 15 n (wah g)),(1,.func 125 []),(7,.int .i64 (↑n:Int)),(8,.int .i64 (↑0:Int))] [] 0 [])∧n≤1000000∧(∀ (i:Nat),i<n→MG.Sm (g i))∧waa (decide (fstB (fun (i:Nat)=>badM (g i)) n<n)) (R (.int .i64 (↑(fstB (fun (i:Nat)=>badM (g i)) n):Int)) []) (R (.int .i64 (-1:Int)) [])):=by kernel_rfl
theorem wxb (g:Nat→MG) (n k:Nat) (P:Nat→Prop) (R:Exit→St→Prop):wa2 ⟨te,[(125,.det S_k1)],[],0,19,0⟩ (wa4 Tryz.f70 2) [0,1,7,8] [] [4] (wlj g n) P R (wlj g n k)=(letI z0:=(g (Int.toNat (↑k:Int)));waa (decide ((↑k:Int)<(↑n:Int))) (((0:Int)≤(↑k:Int)∧(↑k:Int)<(↑n:Int)∧15=15)∧(List.length (MG.dev z0)<4294967281∧List.length (VT.o (MG.v z0))<4294967281∧List.length (DT.o (MG.d z0))<4294967281∧List.length (DT.dev (MG.d z0))<4294967281)∧waa (badM (MG.mk (MG.dev z0) (MG.seq z0) (MG.kind z0) (VT.mk (VT.o (MG.v z0)) (VT.p (MG.v z0)) (VT.per (MG.v z0)) (VT.day (MG.v z0)) (VT.st (MG.v z0)) (VT.pr (MG.v z0)) (VT.rep (MG.v z0))) (DT.mk (DT.o (MG.d z0)) (DT.p (MG.d z0)) (DT.per (MG.d z0)) (DT.dev (MG.d z0)) (DT.num (MG.d z0))))) (R .ret (St.mk [(4,.int .i64 (↑k:Int))] [] 0 [])) (inR .i64 ((↑k:Int)+(1:Int))∧∃ (i':Nat),some (St.mk [(0,.view 15 n (wah g)),(1,.func 125 []),(7,.int .i64 (↑n:Int)),(8,.int .i64 ((↑k:Int)+(1:Int)))] [] 0 [])=some (St.mk [(0,.view 15 n (wah g)),(1,.func 125 []),(7,.int .i64 (↑n:Int)),(8,.int .i64 (↑i':Int))] [] 0 [])∧P i')) (R (.exit 0) (St.mk [] [] 0 []))):=by kernel_rfl
theorem nf_ck1 (g:Nat→MG) (n:Nat) (R:AV→List (Nat×AObj)→Prop):wpFn te [(70,.det wll)] [] 0 Tryz.f68 [.view 15 n (wah g),.func 125 []] [] R=((n≤1000000∧wah g=wah (mgOf (wah g))∧∀ (i:Nat),i<n→MG.Sm (mgOf (wah g) i))∧R (.bool (decide ((0:Int)≤ixB (fun (i:Nat)=>badM (mgOf (wah g) i)) n))) []):=by kernel_rfl
theorem nf_ik2 (g:Nat→RT) (n:Nat) (R:AV→List (Nat×AObj)→Prop):wpFn te [(127,.det S_k2)] [(2,wmw g n)] 0 Tryz.f161 [.view 5 n (wai g),.func 127 []] [] R=(some (St.mk [(0,.view 5 n (wai g)),(1,.func 127 []),(7,.int .i64 (↑n:Int)),(8,.int .i64 0)] [] 0 [])=some (St.mk [(0,.view 5 n (wai g)),(1,.func 127 []),(7,.int .i64 (↑n:Int)),(8,.int .i64 (↑0:Int))] [] 0 [])∧n≤1000000∧(∀ (i:Nat),i<n→RT.Sm (g i))∧waa (decide (fstB (fun (i:Nat)=>badT (g i)) n<n)) (R (.int .i64 (↑(fstB (fun (i:Nat)=>badT (g i)) n):Int)) []) (R (.int .i64 (-1:Int)) [])):=by kernel_rfl
theorem wxa (g:Nat→RT) (n k:Nat) (P:Nat→Prop) (R:Exit→St→Prop):wa2 ⟨te,[(127,.det S_k2)],[],0,19,0⟩ (wa4 Tryz.f161 2) [0,1,7,8] [] [4] (wli g n) P R (wli g n k)=(letI z0:=(g (Int.toNat (↑k:Int)));letI z1:=lst (bkOf (wa6 (atB (RT.bs z0)))) (List.length (RT.bs z0));waa (decide ((↑k:Int)<(↑n:Int))) (((0:Int)≤(↑k:Int)∧(↑k:Int)<(↑n:Int)∧5=5)∧(List.length (RT.o z0)<4294967281∧wa6 (atB (RT.bs z0))=wa6 (atB z1))∧waa (badT (RT.mk (RT.o z0) (RT.p z0) (RT.per z0) (RT.st z0) z1)) (R .ret (St.mk [(4,.int .i64 (↑k:Int))] [] 0 [])) (inR .i64 ((↑k:Int)+(1:Int))∧∃ (i':Nat),some (St.mk [(0,.view 5 n (wai g)),(1,.func 127 []),(7,.int .i64 (↑n:Int)),(8,.int .i64 ((↑k:Int)+(1:Int)))] [] 0 [])=some (St.mk [(0,.view 5 n (wai g)),(1,.func 127 []),(7,.int .i64 (↑n:Int)),(8,.int .i64 (↑i':Int))] [] 0 [])∧P i')) (R (.exit 0) (St.mk [] [] 0 []))):=by kernel_rfl
theorem nf_ck2 (g:Nat→RT) (n:Nat) (R:AV→List (Nat×AObj)→Prop):wpFn te [(161,.det wlk)] [] 0 Tryz.f126 [.view 5 n (wai g),.func 127 []] [] R=((n≤1000000∧wai g=wai (rtOf (wai g))∧∀ (i:Nat),i<n→RT.Sm (rtOf (wai g) i))∧R (.bool (decide ((0:Int)≤ixB (fun (i:Nat)=>badT (rtOf (wai g) i)) n))) []):=by kernel_rfl
theorem wxi (F:FL) (R:AV→List (Nat×AObj)→Prop):wpFn te [(68,.det wlz),(126,.det wly),(105,.det wko)] [] 0 Tryz.f74 [.agg [.str F.id,.int .i64 F.ver,.int .i64 F.day,.int .i64 F.kind,.view 15 F.ms.length (wah (atM F.ms)),.view 5 F.rs.length (wak (atR F.rs)),.view 5 F.ts.length (wai (atT F.ts))]] [] R=(letI z6:=wai (atT (FL.ts F));letI z5:=wak (atR (FL.rs F));letI z4:=wah (atM (FL.ms F));letI z3:=R (.bool false) [];letI z2:=(↑(List.length (FL.ms F)):Int);letI z1:=(↑(List.length (FL.ts F)):Int);letI z0:=(↑(List.length (FL.rs F)):Int);waa (decide (FL.kind F=(1:Int))) (inR .i64 (z0+z1)∧waa (decide (z0+z1=(0:Int))) (waa (decide (z2≤(400:Int))) ((List.length (FL.ms F)≤1000000∧wah (atM (FL.ms F))=wah (mgOf z4)∧∀ (i:Nat),i<List.length (FL.ms F)→MG.Sm (mgOf z4 i))∧R (.bool !decide ((0:Int)≤ixB (fun (i:Nat)=>badM (mgOf z4 i)) (List.length (FL.ms F)))) []) z3) z3) (waa (decide (FL.kind F=(2:Int))) (inR .i64 (z2+z1)∧waa (decide (z2+z1=(0:Int))) (waa (decide (z0≤(400:Int))) ((List.length (FL.rs F)≤1000000∧wak (atR (FL.rs F))=wak (rwOf z5)∧∀ (i:Nat),i<List.length (FL.rs F)→List.length (RW.o (rwOf z5 i))<4294967281)∧R (.bool (decide (svF (rwOf z5) (List.length (FL.rs F))=(0:Int)))) []) z3) z3) (inR .i64 (z2+z0)∧waa (decide (z2+z0=(0:Int))) (waa (decide (z1≤(400:Int))) ((List.length (FL.ts F)≤1000000∧wai (atT (FL.ts F))=wai (rtOf z6)∧∀ (i:Nat),i<List.length (FL.ts F)→RT.Sm (rtOf z6 i))∧R (.bool !decide ((0:Int)≤ixB (fun (i:Nat)=>badT (rtOf z6 i)) (List.length (FL.ts F)))) []) z3) z3))):=by kernel_rfl
theorem nf_vin (F:FL) (R:AV→List (Nat×AObj)→Prop):wpFn te [(72,.det wey),(73,.det wgi),(74,.det wlv)] [] 0 Tryz.f29 [.agg [.str F.id,.int .i64 F.ver,.int .i64 F.day,.int .i64 F.kind,.view 15 F.ms.length (wah (atM F.ms)),.view 5 F.rs.length (wak (atR F.rs)),.view 5 F.ts.length (wai (atT F.ts))]] [] R=(letI z2:=R (.int .i64 151) [];letI z1:=flV (FL.id F) (FL.ver F) (FL.day F) (FL.kind F) (List.length (FL.ms F)) (wah (atM (FL.ms F))) (List.length (FL.rs F)) (wak (atR (FL.rs F))) (List.length (FL.ts F)) (wai (atT (FL.ts F)));letI z0:=(True∧waa (decide ((bif decide ((0:Int)≤FL.day F) && decide (FL.day F≤(182620:Int)) then FL.day F % (7:Int) else (-1:Int))<(0:Int))) (R (.int .i64 152) []) (waa (decide (FL.kind F<(1:Int))) (R (.int .i64 153) []) (waa (decide ((3:Int)<FL.kind F)) (R (.int .i64 153) []) ((FlC (List.length (FL.ms F)) (wah (atM (FL.ms F))) (List.length (FL.rs F)) (wak (atR (FL.rs F))) (List.length (FL.ts F)) (wai (atT (FL.ts F)))∧FL.Sm z1)∧waa (!ctF z1) (R (.int .i64 154) []) (R (.int .i64 0) [])))));(List.length (FL.id F)<4294967281∧0<4294967281∧0<4294967281∧0<4294967281)∧waa (decide (msgF (MG.mk (FL.id F) (0:Int) (0:Int) (VT.mk [] [] (0:Int) (0:Int) (0:Int) (0:Int) []) (DT.mk [] [] (0:Int) [] (0:Int)))=(110:Int))) (R (.int .i64 150) []) (waa (decide (FL.ver F<(1:Int))) z2 (waa (decide ((1000:Int)<FL.ver F)) z2 (waa (decide (FL.kind F=(1:Int))) (waa (!decide (FL.ver F=(1:Int))) z2 z0) z0)))):=by kernel_rfl
theorem ix_any {q:Nat→Bool}:∀ n,decide (0≤ixB q n)=(List.range n).any q:=by
 intro n
 unfold ixB
 obtain ⟨h1,h2⟩:=wjn q n
 have hle:=whw q n
 by_cases h:fstB q n<n
 ·rw [decide_eq_true h]
  have:(List.range n).any q=true:=List.any_eq_true.2 ⟨_,List.mem_range.2 h,h2 h⟩
  rw [this,decide_eq_true]
  show (0:Int)≤(fstB q n:Int)
  omega
 ·rw [decide_eq_false h]
  have:(List.range n).any q=false:=List.any_eq_false.2 fun j hj=>by
   rw [h1 j (by have:=List.mem_range.1 hj;omega)];exact Bool.false_ne_true
  rw [this]
  exact decide_eq_false (show ¬ (0:Int)≤ -1 by decide)
theorem ix_all {α:Type} (ok:α→Bool) (L:List α) (d:α):decide (0≤ixB (fun i=> !ok (L.getD i d)) L.length)= !L.all ok:=by
 rw [ix_any]
 have e:L=(List.range L.length).map fun i=>L.getD i d:=(wd3 L d).symm
 have:L.all ok=(List.range L.length).all fun i=>ok (L.getD i d):=by
  conv=>lhs;rw [e]
  rw [List.all_map];rfl
 rw [this,List.any_eq_not_all_not]
 simp
theorem atT_sm {F:FL} (h:F.Sm) {i:Nat} (hi:i<F.ts.length):(atT F.ts i).Sm:=h.t.2 _ (wt7 hi)
theorem atM_sm {F:FL} (h:F.Sm) {i:Nat} (hi:i<F.ms.length):(atM F.ms i).Sm:=h.m.2 _ (wt8 hi)
theorem atR_sm {F:FL} (h:F.Sm) {i:Nat} (hi:i<F.rs.length):(atR F.rs i).o.length<4294967281:=h.r.2 _ (by unfold atR;simp [List.getD,hi])
theorem k1_ok (hP:C.P=Tryz.prog) (hL:∀ w,C.laid w→LaidW w):wad C 125 S_k1:=by
 rintro args objs U Os vc h hvc
 unfold S_k1 at h
 split at h<;>simp only [Option.some.injEq,Prod.mk.injEq,reduceCtorEq] at h
 rename_i dev seq kind o p per day st pr rep o' p' per' dev' num
 obtain ⟨rfl,rfl,rfl⟩:=h
 have hn:=nf_k1 ⟨dev,seq,kind,⟨o,p,per,day,st,pr,rep⟩,⟨o',p',per',dev',num⟩⟩
 dsimp only at hn
 refine wad.wp0 (prg hP) [(72,.det wey)] 0 (.cons (wn0 hP hL) .nil) (hP ▸ Tryz.func125) rfl rfl rfl ?_
 rw [hn]
 exact ⟨hvc,rfl,rfl⟩
theorem k2_ok (hP:C.P=Tryz.prog) (hL:∀ w,C.laid w→LaidW w):wad C 127 S_k2:=by
 rintro args objs U Os vc h hvc
 unfold S_k2 at h
 split at h<;>simp only [Option.some.injEq,Prod.mk.injEq,reduceCtorEq] at h
 rename_i o p per st n f
 obtain ⟨rfl,rfl,rfl⟩:=h
 obtain ⟨ho,hf⟩:=hvc
 have hl:(lst (bkOf f) n).length=n:=by simp [lst]
 generalize hb:lst (bkOf f) n=bs at *
 subst hl
 subst hf
 have hn:=nf_k2 ⟨o,p,per,st,bs⟩
 dsimp only at hn
 refine wad.wp0 (prg hP) [(108,.det wkt)] 0 (.cons (wvj hP hL) .nil) (hP ▸ Tryz.func127) rfl rfl rfl ?_
 rw [hn,wj8]
 exact ⟨⟨ho,rfl⟩,rfl,rfl⟩
theorem wy3 (hP:C.P=Tryz.prog) (hL:∀ w,C.laid w→LaidW w) (g:Nat→MG) (n:Nat):wae C 0 19 (wan Tryz.f70 2) (wmx g n):=by
 rintro st Q ⟨h0,hn,hs,hQ⟩
 have hR:=wb4 hQ
 refine wae.mk (prg hP) [(125,.det S_k1)] 0 (.cons (k1_ok hP hL) .nil) [0,1,7,8] [] [4] (wlj g n) (fun k=>k≤n∧fstB (fun i=>badM (g i)) k=k) (fun k=>n - k) 0 ⟨Nat.zero_le _,rfl⟩ h0 (fun k hk=>?_)
 obtain ⟨hkn,hok⟩:=hk
 rw [wxb,Int.toNat_natCast]
 refine war (fun h1=>?_) (fun h1=>?_)
 ·have hlt:k<n:=by omega
  refine ⟨⟨by omega,by omega,rfl⟩,⟨(hs k hlt).1,(hs k hlt).2,(hs k hlt).3,(hs k hlt).4⟩,wat (fun h2=>?_) (fun h2=>⟨by simp only [inR];omega,k+1,rfl,⟨by omega,whv hok h2⟩,by omega⟩)⟩
  have e:=whx hok h2 n (by omega)
  have:=hR.1 (by rw [e,decide_eq_true];omega)
  rw [e] at this
  exact this
 ·have:k=n:=by omega
  subst this
  exact hR.2 (by rw [hok,decide_eq_false];omega)
theorem ik1_ok (hP:C.P=Tryz.prog) (hL:∀ w,C.laid w→LaidW w):wad C 70 wll:=by
 rintro args objs U Os vc h hvc
 unfold wll at h
 split at h<;>simp only [Option.some.injEq,Prod.mk.injEq,reduceCtorEq] at h
 rename_i n f
 obtain ⟨rfl,rfl,rfl⟩:=h
 obtain ⟨hn,hf,hs⟩:=hvc
 generalize mgOf f=g at *
 subst hf
 refine wad.wpL (prg hP) [(125,.det S_k1)] [(2,wmx g n)] 0 (.cons (k1_ok hP hL) .nil) (hP ▸ Tryz.func70) rfl rfl rfl [(wan Tryz.f70 2,wmx g n)] (by kernel_rfl) ⟨wy3 hP hL g n,trivial⟩ ?_
 rw [nf_ik1]
 unfold ixB
 refine ⟨rfl,hn,hs,war (fun h=>?_) (fun h=>?_)⟩
 ·rw [decide_eq_true h];exact ⟨rfl,rfl⟩
 ·rw [decide_eq_false h];exact ⟨rfl,rfl⟩
theorem ck1_ok (hP:C.P=Tryz.prog) (hL:∀ w,C.laid w→LaidW w):wad C 68 wlz:=by
 rintro args objs U Os vc h hvc
 unfold wlz at h
 split at h<;>simp only [Option.some.injEq,Prod.mk.injEq,reduceCtorEq] at h
 rename_i n f
 obtain ⟨rfl,rfl,rfl⟩:=h
 obtain ⟨hn,hf,hs⟩:=hvc
 generalize hg:mgOf f=g at *
 subst hf
 refine wad.wp0 (prg hP) [(70,.det wll)] 0 (.cons (ik1_ok hP hL) .nil) (hP ▸ Tryz.func68) rfl rfl rfl ?_
 rw [nf_ck1]
 exact ⟨⟨hn,rfl,hs⟩,rfl,rfl⟩
theorem wy2 (hP:C.P=Tryz.prog) (hL:∀ w,C.laid w→LaidW w) (g:Nat→RT) (n:Nat):wae C 0 19 (wan Tryz.f161 2) (wmw g n):=by
 rintro st Q ⟨h0,hn,hs,hQ⟩
 have hR:=wb4 hQ
 refine wae.mk (prg hP) [(127,.det S_k2)] 0 (.cons (k2_ok hP hL) .nil) [0,1,7,8] [] [4] (wli g n) (fun k=>k≤n∧fstB (fun i=>badT (g i)) k=k) (fun k=>n - k) 0 ⟨Nat.zero_le _,rfl⟩ h0 (fun k hk=>?_)
 obtain ⟨hkn,hok⟩:=hk
 rw [wxa,Int.toNat_natCast]
 refine war (fun h1=>?_) (fun h1=>?_)
 ·have hlt:k<n:=by omega
  rw [wj8]
  refine ⟨⟨by omega,by omega,rfl⟩,⟨(hs k hlt).o,rfl⟩,wat (fun h2=>?_) (fun h2=>⟨by simp only [inR];omega,k+1,rfl,⟨by omega,whv hok h2⟩,by omega⟩)⟩
  have e:=whx hok h2 n (by omega)
  have:=hR.1 (by rw [e,decide_eq_true];omega)
  rw [e] at this
  exact this
 ·have:k=n:=by omega
  subst this
  exact hR.2 (by rw [hok,decide_eq_false];omega)
theorem ik2_ok (hP:C.P=Tryz.prog) (hL:∀ w,C.laid w→LaidW w):wad C 161 wlk:=by
 rintro args objs U Os vc h hvc
 unfold wlk at h
 split at h<;>simp only [Option.some.injEq,Prod.mk.injEq,reduceCtorEq] at h
 rename_i n f
 obtain ⟨rfl,rfl,rfl⟩:=h
 obtain ⟨hn,hf,hs⟩:=hvc
 generalize rtOf f=g at *
 subst hf
 refine wad.wpL (prg hP) [(127,.det S_k2)] [(2,wmw g n)] 0 (.cons (k2_ok hP hL) .nil) (hP ▸ Tryz.func161) rfl rfl rfl [(wan Tryz.f161 2,wmw g n)] (by kernel_rfl) ⟨wy2 hP hL g n,trivial⟩ ?_
 rw [nf_ik2]
 unfold ixB
 refine ⟨rfl,hn,hs,war (fun h=>?_) (fun h=>?_)⟩
 ·rw [decide_eq_true h];exact ⟨rfl,rfl⟩
 ·rw [decide_eq_false h];exact ⟨rfl,rfl⟩
theorem ck2_ok (hP:C.P=Tryz.prog) (hL:∀ w,C.laid w→LaidW w):wad C 126 wly:=by
 rintro args objs U Os vc h hvc
 unfold wly at h
 split at h<;>simp only [Option.some.injEq,Prod.mk.injEq,reduceCtorEq] at h
 rename_i n f
 obtain ⟨rfl,rfl,rfl⟩:=h
 obtain ⟨hn,hf,hs⟩:=hvc
 generalize hg:rtOf f=g at *
 subst hf
 refine wad.wp0 (prg hP) [(161,.det wlk)] 0 (.cons (ik2_ok hP hL) .nil) (hP ▸ Tryz.func126) rfl rfl rfl ?_
 rw [nf_ck2]
 rw [wiw]
 exact ⟨⟨hn,rfl,hs⟩,rfl,rfl⟩
theorem w0v (L:List RW):wc3 (atR L) L.length=L.all rowF:=by
 have go:∀ (g:Nat→RW) n,wc3 g n=((List.range n).map g).all rowF:=by
  intro g n
  induction n with
  |zero=>rfl
  |succ n ih=>rw [wc3,ih,List.range_succ,List.map_append,List.all_append];simp
 rw [go]
 exact congrArg (fun l=>l.all rowF) (wd3 L default)
theorem wzt (hP:C.P=Tryz.prog) (hL:∀ w,C.laid w→LaidW w):wad C 74 wlv:=by
 rintro args objs U Os vc h hvc
 unfold wlv at h
 split at h<;>simp only [Option.some.injEq,Prod.mk.injEq,reduceCtorEq] at h
 rename_i id ver day kind nm fm nr fr nt ft
 obtain ⟨rfl,rfl,rfl⟩:=h
 obtain ⟨hc,hs⟩:=hvc
 have l1:(lst (mgOf fm) nm).length=nm:=by simp [lst]
 have l2:(lst (rwOf fr) nr).length=nr:=by simp [lst]
 have l3:(lst (rtOf ft) nt).length=nt:=by simp [lst]
 obtain ⟨c1,c2,c3⟩:=hc
 unfold flV at hs ⊢
 generalize lst (mgOf fm) nm=ms at *
 generalize lst (rwOf fr) nr=rs at *
 generalize lst (rtOf ft) nt=ts at *
 subst l1;subst l2;subst l3;subst c1;subst c2;subst c3
 have hn:=wxi ⟨id,ver,day,kind,ms,rs,ts⟩
 dsimp only at hn
 refine wad.wp0 (prg hP) [(68,.det wlz),(126,.det wly),(105,.det wko)] 0 (.cons (ck1_ok hP hL) (.cons (ck2_ok hP hL) (.cons (wp8 hP hL) .nil))) (hP ▸ Tryz.func74) rfl rfl rfl ?_
 rw [hn]
 have m1:=hs.m.1
 have r1:=hs.r.1
 have t1:=hs.t.1
 dsimp only at m1 r1 t1
 have e1:decide (0≤ixB (fun i=>badM (mgOf (wah (atM ms)) i)) ms.length)= !ms.all fun m=>decide (msgF m=0):=ix_all (fun m=>decide (msgF m=0)) ms default
 have e3:decide (0≤ixB (fun i=>badT (rtOf (wai (atT ts)) i)) ts.length)= !ts.all rtOK:=by rw [wiw];exact ix_all rtOK ts wif
 have e2:rs.length≤400→decide (svF (rwOf (wak (atR rs))) rs.length=0)=rs.all rowF:=fun h=>by
  show decide (svF (atR rs) rs.length=0)=_
  unfold svF
  rw [decide_eq_false (show ¬ 24000<rs.length by omega),w0v]
  cases rs.all rowF<;>rfl
 rw [e1,e3,wiw]
 unfold ctF
 dsimp only
 refine war (fun k1=>?_) (fun k1=>war (fun k2=>?_) (fun k2=>?_))
 ·rw [decide_eq_true k1]
  refine ⟨by simp only [inR];omega,war (fun z=>war (fun y=>⟨⟨by omega,rfl,fun i hi=>atM_sm hs hi⟩,?_⟩) (fun y=>?_)) (fun z=>?_)⟩
  ·rw [decide_eq_true (show rs.length+ts.length=0 by omega),decide_eq_true (show ms.length≤400 by omega),Bool.not_not];exact ⟨rfl,rfl⟩
  ·rw [decide_eq_true (show rs.length+ts.length=0 by omega),decide_eq_false (show ¬ ms.length≤400 by omega)];exact ⟨rfl,rfl⟩
  ·rw [decide_eq_false (show ¬ rs.length+ts.length=0 by omega)];exact ⟨rfl,rfl⟩
 ·rw [decide_eq_false k1,decide_eq_true k2]
  refine ⟨by simp only [inR];omega,war (fun z=>war (fun y=>⟨⟨by omega,rfl,fun i hi=>atR_sm hs hi⟩,?_⟩) (fun y=>?_)) (fun z=>?_)⟩
  ·rw [decide_eq_true (show ms.length+ts.length=0 by omega),decide_eq_true (show rs.length≤400 by omega),e2 (by omega)];exact ⟨rfl,rfl⟩
  ·rw [decide_eq_true (show ms.length+ts.length=0 by omega),decide_eq_false (show ¬ rs.length≤400 by omega)];exact ⟨rfl,rfl⟩
  ·rw [decide_eq_false (show ¬ ms.length+ts.length=0 by omega)];exact ⟨rfl,rfl⟩
 ·rw [decide_eq_false k1,decide_eq_false k2]
  refine ⟨by simp only [inR];omega,war (fun z=>war (fun y=>⟨⟨by omega,rfl,fun i hi=>atT_sm hs hi⟩,?_⟩) (fun y=>?_)) (fun z=>?_)⟩
  ·rw [decide_eq_true (show ms.length+rs.length=0 by omega),decide_eq_true (show ts.length≤400 by omega),Bool.not_not];exact ⟨rfl,rfl⟩
  ·rw [decide_eq_true (show ms.length+rs.length=0 by omega),decide_eq_false (show ¬ ts.length≤400 by omega)];exact ⟨rfl,rfl⟩
  ·rw [decide_eq_false (show ¬ ms.length+rs.length=0 by omega)];exact ⟨rfl,rfl⟩
end Go.Eng
