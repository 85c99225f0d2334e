/- What is in a file. -/
import Derived.Test.YtgcboligphndhaaGreatDoorJt
import Derived.Test.YtgcboligphndhaaGreatDoorJw
import Derived.Test.YtgcboligphndhaaGreatDoorJza
import Derived.Test.YtgcboligphndhaaGreatDoorJu
import Derived.Test.YtgcboligphndhaaGreatDoorJx
namespace Go.Eng
open Go.Proofs Go.RowKit
variable {C:Ctx} [C.Loose]
set_option maxRecDepth 20000
theorem wze (x:Int) (R:AV→List (Nat×AObj)→Prop):wpFn te [] [] 0 Tryz.f180 [.int .i64 x] [] R=(wab (decide ((0:Int)≤x)) (R (.bool (decide (x≤(1099511627776:Int)))) []) (R (.bool false) [])):=by kernel_rfl
theorem nf_tarV (st:Int) (bs:List BK) (R:AV→List (Nat×AObj)→Prop):wpFn te [(180,.det whd)] [(7,L_tv st bs)] 0 Tryz.f151 [.agg [.int .i64 st,.view 2 bs.length (waq (atB bs))]] [] R=(letI z2:=R (.int .i64 141) [];letI z1:=([(0,.cells [.int .i64 st,.view 2 (List.length bs) (waq (atB bs))] 95)]:List (Nat×AObj));letI z0:=(↑(List.length bs):Int);True∧wab (!(decide ((0:Int)≤st) && decide (st≤(1099511627776:Int)))) (R (.int .i64 140) []) (wab (decide (z0<(1:Int))) z2 (wab (decide ((8:Int)<z0)) z2 (some (St.mk [(1,.ptr 0 0),(3,.int .i64 0),(22,.view 2 (List.length bs) (waq (atB bs))),(23,.int .i64 z0),(24,.int .i64 0)] z1 1 [])=some (St.mk [(1,.ptr 0 0),(3,.int .i64 (lowB bs 0)),(22,.view 2 (List.length bs) (waq (atB bs))),(23,.int .i64 z0),(24,.int .i64 (↑0:Int))] z1 1 [])∧List.length bs≤8∧wab (bksB bs (List.length bs)) (R (.int .i64 0) []) z2)))):=by kernel_rfl
theorem wyq (st:Int) (bs:List BK) (k:Nat) (P:Nat→Prop) (R:Exit→St→Prop):wa3 ⟨te,[(180,.det whd)],[],0,65,0⟩ (wa4 Tryz.f151 7) [1,3,22,23,24] [] [2] (S_tv st bs) P R (S_tv st bs k)=(letI z5:=([(0,.cells [.int .i64 st,.view 2 (List.length bs) (waq (atB bs))] 95)]:List (Nat×AObj));letI z4:=R .ret (St.mk [(2,.int .i64 141)] [] 0 []);letI z3:=(↑(List.length bs):Int);letI z2:=(atB bs (Int.toNat (↑k:Int)));letI z0:=(inR .i64 ((↑k:Int)+(1:Int))∧∃ (i':Nat),some (St.mk [(1,.ptr 0 0),(3,.int .i64 (BK.up z2)),(22,.view 2 (List.length bs) (waq (atB bs))),(23,.int .i64 z3),(24,.int .i64 ((↑k:Int)+(1:Int)))] z5 1 [])=some (St.mk [(1,.ptr 0 0),(3,.int .i64 (lowB bs i')),(22,.view 2 (List.length bs) (waq (atB bs))),(23,.int .i64 z3),(24,.int .i64 (↑i':Int))] z5 1 [])∧P i');letI z1:=(wab (!decide ((↑k:Int)=z3 - (1:Int))) (wab (decide (BK.up z2≤lowB bs k)) z4 (wab (decide ((1099511627776:Int)<BK.up z2)) z4 z0)) z0);wab (decide ((↑k:Int)<z3)) (((0:Int)≤(↑k:Int)∧(↑k:Int)<z3∧2=2)∧inR .i64 (z3 - (1:Int))∧True∧wab (!(decide ((0:Int)≤BK.pr z2) && decide (BK.pr z2≤(1099511627776:Int)))) z4 (wab (decide ((↑k:Int)=z3 - (1:Int))) (wab (!decide (BK.up z2=(0:Int))) z4 z1) z1)) (R (.exit 0) (St.mk [] [] 0 []))):=by kernel_rfl
theorem nf_tarR (st:Int) (bs:List BK) (R:AV→List (Nat×AObj)→Prop):wpFn te [] [(7,L_tw st bs)] 0 Tryz.f131 [.agg [.int .i64 st,.view 2 bs.length (waq (atB bs))]] [] R=(letI z2:=R (.int .i64 141) [];letI z1:=([(0,.cells [.int .i64 st,.view 2 (List.length bs) (waq (atB bs))] 95)]:List (Nat×AObj));letI z0:=(↑(List.length bs):Int);wab (decide (st<(0:Int))) (R (.int .i64 140) []) (wab (decide ((1099511627776:Int)<st)) (R (.int .i64 140) []) (wab (decide (z0<(1:Int))) z2 (wab (decide ((8:Int)<z0)) z2 (some (St.mk [(1,.ptr 0 0),(3,.int .i64 0),(25,.view 2 (List.length bs) (waq (atB bs))),(26,.int .i64 z0),(27,.int .i64 0)] z1 1 [])=some (St.mk [(1,.ptr 0 0),(3,.int .i64 (lowB bs 0)),(25,.view 2 (List.length bs) (waq (atB bs))),(26,.int .i64 z0),(27,.int .i64 (↑0:Int))] z1 1 [])∧List.length bs≤8∧wab (bksB bs (List.length bs)) (R (.int .i64 0) []) z2))))):=by kernel_rfl
theorem wyp (st:Int) (bs:List BK) (k:Nat) (P:Nat→Prop) (R:Exit→St→Prop):wa3 ⟨te,[],[],0,61,0⟩ (wa4 Tryz.f131 7) [1,3,25,26,27] [] [2] (S_tw st bs) P R (S_tw st bs k)=(letI z4:=([(0,.cells [.int .i64 st,.view 2 (List.length bs) (waq (atB bs))] 95)]:List (Nat×AObj));letI z3:=(↑(List.length bs):Int);letI z2:=(atB bs (Int.toNat (↑k:Int)));letI z1:=R .ret (St.mk [(2,.int .i64 141)] [] 0 []);letI z0:=(inR .i64 ((↑k:Int)+(1:Int))∧∃ (i':Nat),some (St.mk [(1,.ptr 0 0),(3,.int .i64 (BK.up z2)),(25,.view 2 (List.length bs) (waq (atB bs))),(26,.int .i64 z3),(27,.int .i64 ((↑k:Int)+(1:Int)))] z4 1 [])=some (St.mk [(1,.ptr 0 0),(3,.int .i64 (lowB bs i')),(25,.view 2 (List.length bs) (waq (atB bs))),(26,.int .i64 z3),(27,.int .i64 (↑i':Int))] z4 1 [])∧P i');wab (decide ((↑k:Int)<z3)) (((0:Int)≤(↑k:Int)∧(↑k:Int)<z3∧2=2)∧wab (decide (BK.pr z2<(0:Int))) z1 (wab (decide ((1099511627776:Int)<BK.pr z2)) z1 (inR .i64 ((↑k:Int)+(1:Int))∧wab (decide ((↑k:Int)+(1:Int)=z3)) (wab (!decide (BK.up z2=(0:Int))) z1 z0) (wab (decide (BK.up z2≤lowB bs k)) z1 (wab (decide ((1099511627776:Int)<BK.up z2)) z1 z0))))) (R (.exit 0) (St.mk [] [] 0 []))):=by kernel_rfl
theorem wy2 (o p:List UInt8) (per:Int) (R:AV→List (Nat×AObj)→Prop):wpFn te [(105,.det wlo)] [] 0 Tryz.f150 [.str o,.str p,.int .i64 per] [] R=(letI z0:=way (TI.sz wcw) (.str o:: .str p:: .int .i64 per:: .int .i64 1:: .int .i64 1::List.append [] we6);(5≤16777216∧5=5∧1≤9223372036854775807)∧(∀ (i:Nat),i<1→nrefL (way (TI.sz wcw) (.str o:: .str p:: .int .i64 per:: .int .i64 1:: .int .i64 1::List.append [] we6) i)=true)∧(1=1∧1≤1000000∧(∀ (i:Nat),i<1→way (TI.sz wcw) (.str o:: .str p:: .int .i64 per:: .int .i64 1:: .int .i64 1::List.append [] we6) i=[.str (RW.o (rwOf z0 i)),.str (RW.p (rwOf z0 i)),.int .i64 (RW.per (rwOf z0 i)),.int .i64 (RW.u (rwOf z0 i)),.int .i64 (RW.tv (rwOf z0 i))])∧∀ (i:Nat),i<1→List.length (RW.o (rwOf z0 i))<4294967281)∧R (.bool (decide (svF (rwOf z0) 1=(0:Int)))) []):=by kernel_rfl
theorem wzb (t:RT) (R:AV→List (Nat×AObj)→Prop):wpFn te [(150,.det wec),(151,.det wfo)] [] 0 Tryz.f108 [.agg [.str t.o,.str t.p,.int .i64 t.per,.int .i64 t.st,.view 2 t.bs.length (waq (atB t.bs))]] [] R=(letI z0:=lst (bkOf (waq (atB (RT.bs t)))) (List.length (RT.bs t));List.length (RT.o t)<4294967281∧wab (wbg (RT.o t) (RT.p t) (RT.per t)) (waq (atB (RT.bs t))=waq (atB z0)∧R (.bool (decide (tfF (RT.st t) z0=(0:Int)))) []) (R (.bool false) [])):=by kernel_rfl
theorem wzc (t:RT) (R:AV→List (Nat×AObj)→Prop):wpFn te [(130,.det web),(131,.det wfo)] [] 0 Tryz.f78 [.agg [.str t.o,.str t.p,.int .i64 t.per,.int .i64 t.st,.view 2 t.bs.length (waq (atB t.bs))]] [] R=(letI z0:=lst (bkOf (waq (atB (RT.bs t)))) (List.length (RT.bs t));List.length (RT.o t)<4294967281∧wab (wbg (RT.o t) (RT.p t) (RT.per t)) (waq (atB (RT.bs t))=waq (atB z0)∧R (.bool (decide (tfF (RT.st t) z0=(0:Int)))) []) (R (.bool false) [])):=by kernel_rfl
theorem wc0 {bs:List BK} {i:Nat}:bkOK bs i=true↔0≤(atB bs i).pr∧(atB bs i).pr≤1099511627776∧(i+1=bs.length→(atB bs i).up=0)∧(¬ i+1=bs.length→lowB bs i<(atB bs i).up∧(atB bs i).up≤1099511627776):=by
 unfold bkOK
 by_cases h:i+1=bs.length
 ·rw [decide_eq_true h];simp [h]
 ·rw [decide_eq_false h];simp [h]
theorem wra {bs:List BK} {k:Nat} (e:bksB bs (k+1)=false):∀ n,k<n→bksB bs n=false
 |0,hn=>by omega
 |n+1,hn=>by
  by_cases q:k=n
  ·subst q;exact e
  ·rw [bksB,wra e n (by omega),Bool.false_and]
theorem ws7 (hP:C.P=Tryz.prog):wag C 180 whd:=by
 have _:C.Loose:=inferInstance
 rintro args objs U Os vc h hvc
 unfold whd at h
 split at h<;>simp only [Option.some.injEq,Prod.mk.injEq,reduceCtorEq] at h
 rename_i n
 obtain ⟨rfl,rfl,rfl⟩:=h
 refine wag.wp0 (prg hP) [] 0 .nil (hP ▸ Tryz.func180) rfl rfl rfl ?_
 rw [wze]
 exact waj (fun h=>by rw [decide_eq_true h];exact ⟨rfl,rfl⟩) (fun h=>by rw [decide_eq_false h];exact ⟨rfl,rfl⟩)
theorem tv_loop (hP:C.P=Tryz.prog) (st:Int) (bs:List BK):wak C 0 65 (wam Tryz.f151 7) (L_tv st bs):=by
 rintro s Q ⟨h0,hn,hQ⟩
 have hR:=wbx hQ
 refine wak.mk (prg hP) [(180,.det whd)] 0 (.cons (ws7 hP) .nil) [1,3,22,23,24] [] [2] (S_tv st bs) (fun k=>k≤bs.length∧bksB bs k=true) (fun k=>bs.length - k) 0 ⟨Nat.zero_le _,rfl⟩ h0 (fun k hk=>?_)
 obtain ⟨hkn,hok⟩:=hk
 rw [wyq,Int.toNat_natCast]
 refine waj (fun h1=>?_) (fun h1=>?_)
 ·have hlt:k<bs.length:=by omega
  have bad:bkOK bs k=false→Q .ret ⟨[(2,.int .i64 141)],[],0,[]⟩:=fun h=>hR.2 (wra (k:=k) (by rw [bksB,h,Bool.and_false]) _ hlt)
  have bad':¬ bkOK bs k=true→Q .ret ⟨[(2,.int .i64 141)],[],0,[]⟩:=fun h=>bad (by cases q:bkOK bs k with
   |true=>exact absurd q h
   |false=>rfl)
  have next:bkOK bs k=true→inR .i64 ((k:Int)+1)∧∃ i':Nat,some (St.mk [(1,.ptr 0 0),(3,.int .i64 (atB bs k).up),(22,.view 2 bs.length (waq (atB bs))),(23,.int .i64 (bs.length:Int)),(24,.int .i64 ((k:Int)+1))] [(0,.cells [.int .i64 st,.view 2 bs.length (waq (atB bs))] 95)] 1 [])=
    some (St.mk [(1,.ptr 0 0),(3,.int .i64 (lowB bs i')),(22,.view 2 bs.length (waq (atB bs))),(23,.int .i64 (bs.length:Int)),(24,.int .i64 (i':Int))] [(0,.cells [.int .i64 st,.view 2 bs.length (waq (atB bs))] 95)] 1 [])∧(i'≤bs.length∧bksB bs i'=true)∧bs.length - i'<bs.length - k:=
   fun h=>⟨by simp only [inR];omega,k+1,rfl,⟨by omega,by rw [bksB,hok,h];rfl⟩,by omega⟩
  refine ⟨⟨by omega,by omega,rfl⟩,by simp only [inR];omega,trivial,wcd (fun h2=>bad' (fun h=>?_)) (fun h2=>?_)⟩
  ·rw [Bool.and_eq_false_iff,decide_eq_false_iff_not,decide_eq_false_iff_not] at h2
   have:=wc0.1 h
   omega
  ·rw [Bool.and_eq_true,decide_eq_true_eq,decide_eq_true_eq] at h2
   refine waj (fun h3=>wb3 (fun h4=>bad' (fun h=>h4 ((wc0.1 h).2.2.1 (by omega)))) (fun h4=>wb3 (fun h5=>absurd h3 h5) (fun _=>next (wc0.2 ⟨h2.1,h2.2,fun _=>h4,fun h=>absurd (by omega) h⟩))))
    (fun h3=>wb3 (fun _=>waj (fun h4=>bad' (fun h=>by have:=(wc0.1 h).2.2.2 (by omega);omega)) (fun h4=>waj (fun h5=>bad' (fun h=>by have:=(wc0.1 h).2.2.2 (by omega);omega)) (fun h5=>next (wc0.2 ⟨h2.1,h2.2,fun h=>absurd h (by omega),fun _=>⟨by omega,by omega⟩⟩)))) (fun h5=>absurd h5 h3))
 ·have:k=bs.length:=by omega
  subst this
  exact hR.1 hok
theorem tw_loop (hP:C.P=Tryz.prog) (st:Int) (bs:List BK):wak C 0 61 (wam Tryz.f131 7) (L_tw st bs):=by
 have _:C.Loose:=inferInstance
 rintro s Q ⟨h0,hn,hQ⟩
 have hR:=wbx hQ
 refine wak.mk (prg hP) [] 0 .nil [1,3,25,26,27] [] [2] (S_tw st bs) (fun k=>k≤bs.length∧bksB bs k=true) (fun k=>bs.length - k) 0 ⟨Nat.zero_le _,rfl⟩ h0 (fun k hk=>?_)
 obtain ⟨hkn,hok⟩:=hk
 rw [wyp,Int.toNat_natCast]
 refine waj (fun h1=>?_) (fun h1=>?_)
 ·have hlt:k<bs.length:=by omega
  have bad:bkOK bs k=false→Q .ret ⟨[(2,.int .i64 141)],[],0,[]⟩:=fun h=>hR.2 (wra (k:=k) (by rw [bksB,h,Bool.and_false]) _ hlt)
  have bad':¬ bkOK bs k=true→Q .ret ⟨[(2,.int .i64 141)],[],0,[]⟩:=fun h=>bad (by cases q:bkOK bs k with
   |true=>exact absurd q h
   |false=>rfl)
  have next:bkOK bs k=true→inR .i64 ((k:Int)+1)∧∃ i':Nat,some (St.mk [(1,.ptr 0 0),(3,.int .i64 (atB bs k).up),(25,.view 2 bs.length (waq (atB bs))),(26,.int .i64 (bs.length:Int)),(27,.int .i64 ((k:Int)+1))] [(0,.cells [.int .i64 st,.view 2 bs.length (waq (atB bs))] 95)] 1 [])=
    some (St.mk [(1,.ptr 0 0),(3,.int .i64 (lowB bs i')),(25,.view 2 bs.length (waq (atB bs))),(26,.int .i64 (bs.length:Int)),(27,.int .i64 (i':Int))] [(0,.cells [.int .i64 st,.view 2 bs.length (waq (atB bs))] 95)] 1 [])∧(i'≤bs.length∧bksB bs i'=true)∧bs.length - i'<bs.length - k:=
   fun h=>⟨by simp only [inR];omega,k+1,rfl,⟨by omega,by rw [bksB,hok,h];rfl⟩,by omega⟩
  refine ⟨⟨by omega,by omega,rfl⟩,waj (fun h2=>bad' (fun h=>by have:=wc0.1 h;omega)) (fun h2=>waj (fun h3=>bad' (fun h=>by have:=wc0.1 h;omega)) (fun h3=>⟨by simp only [inR];omega,waj (fun h4=>wb3 (fun h5=>bad' (fun h=>h5 ((wc0.1 h).2.2.1 (by omega)))) (fun h5=>next (wc0.2 ⟨by omega,by omega,fun _=>h5,fun h=>absurd (by omega) h⟩)))
   (fun h4=>waj (fun h5=>bad' (fun h=>by have:=(wc0.1 h).2.2.2 (by omega);omega)) (fun h5=>waj (fun h6=>bad' (fun h=>by have:=(wc0.1 h).2.2.2 (by omega);omega)) (fun h6=>next (wc0.2 ⟨by omega,by omega,fun h=>absurd h (by omega),fun _=>⟨by omega,by omega⟩⟩))))⟩))⟩
 ·have:k=bs.length:=by omega
  subst this
  exact hR.1 hok
theorem tarV_ok (hP:C.P=Tryz.prog):wag C 151 wfo:=by
 rintro args objs U Os vc h hvc
 unfold wfo at h
 split at h<;>simp only [Option.some.injEq,Prod.mk.injEq,reduceCtorEq] at h
 rename_i st n f
 obtain ⟨rfl,rfl,rfl⟩:=h
 have hl:(lst (bkOf f) n).length=n:=by simp [lst]
 generalize lst (bkOf f) n=bs at *
 subst hl
 subst hvc
 refine wag.wpL (prg hP) [(180,.det whd)] [(7,L_tv st bs)] 0 (.cons (ws7 hP) .nil) (hP ▸ Tryz.func151) rfl rfl rfl [(wam Tryz.f151 7,L_tv st bs)] (by kernel_rfl) ⟨tv_loop hP st bs,trivial⟩ ?_
 rw [nf_tarV]
 unfold tfF
 refine ⟨trivial,wcd (fun h=>by rw [h];exact ⟨rfl,rfl⟩) (fun h=>?_)⟩
 rw [h]
 refine waj (fun h1=>?_) (fun h1=>waj (fun h2=>?_) (fun h2=>⟨rfl,by omega,?_⟩))
 ·rw [decide_eq_true (show bs.length<1 by omega)];exact ⟨rfl,rfl⟩
 ·rw [decide_eq_true (show 8<bs.length by omega),Bool.or_true];exact ⟨rfl,rfl⟩
 ·rw [decide_eq_false (show ¬ bs.length<1 by omega),decide_eq_false (show ¬ 8<bs.length by omega)]
  exact waw (fun q=>by rw [q];exact ⟨rfl,rfl⟩) (fun q=>by rw [q];exact ⟨rfl,rfl⟩)
theorem tarR_ok (hP:C.P=Tryz.prog):wag C 131 wfo:=by
 rintro args objs U Os vc h hvc
 unfold wfo at h
 split at h<;>simp only [Option.some.injEq,Prod.mk.injEq,reduceCtorEq] at h
 rename_i st n f
 obtain ⟨rfl,rfl,rfl⟩:=h
 have hl:(lst (bkOf f) n).length=n:=by simp [lst]
 generalize lst (bkOf f) n=bs at *
 subst hl
 subst hvc
 refine wag.wpL (prg hP) [] [(7,L_tw st bs)] 0 .nil (hP ▸ Tryz.func131) rfl rfl rfl [(wam Tryz.f131 7,L_tw st bs)] (by kernel_rfl) ⟨tw_loop hP st bs,trivial⟩ ?_
 rw [nf_tarR]
 unfold tfF
 refine waj (fun h=>?_) (fun h=>waj (fun h'=>?_) (fun h'=>waj (fun h1=>?_) (fun h1=>waj (fun h2=>?_) (fun h2=>⟨rfl,by omega,?_⟩))))
 ·rw [decide_eq_false (show ¬ 0≤st by omega)];exact ⟨rfl,rfl⟩
 ·rw [decide_eq_false (show ¬ st≤1099511627776 by omega),Bool.and_false];exact ⟨rfl,rfl⟩
 all_goals rw [decide_eq_true (show 0≤st by omega),decide_eq_true (show st≤1099511627776 by omega)]
 ·rw [decide_eq_true (show bs.length<1 by omega)];exact ⟨rfl,rfl⟩
 ·rw [decide_eq_true (show 8<bs.length by omega),Bool.or_true];exact ⟨rfl,rfl⟩
 ·rw [decide_eq_false (show ¬ bs.length<1 by omega),decide_eq_false (show ¬ 8<bs.length by omega)]
  exact waw (fun q=>by rw [q];exact ⟨rfl,rfl⟩) (fun q=>by rw [q];exact ⟨rfl,rfl⟩)
theorem ww5 (hP:C.P=Tryz.prog) (hL:∀ w,C.laid w→LaidW w):wag C 105 wlo:=by
 rintro args objs U Os vc h hvc
 unfold wlo at h
 split at h<;>simp only [Option.some.injEq,Prod.mk.injEq,reduceCtorEq] at h
 rename_i n t m f fr
 obtain ⟨rfl,rfl,rfl⟩:=h
 obtain ⟨rfl,hn,hf,hs⟩:=hvc
 refine wal.rowEq 0 (f':=wai (rwOf f)) rfl (fun i hi=>(hf i hi).symm) ?_
 have hb:Nat.ble n n=true:=Nat.ble_eq_true_of_le (Nat.le_refl _)
 exact ADet.give (wr8 hP hL [.view 5 n (wai (rwOf f))] [] _ _ _ rfl ⟨hn,rfl,hs⟩) (by simp [frzC,frzA,frz,hb]) rfl rfl (fun _ _=>rfl)
theorem svF_one (o p:List UInt8) (per:Int) (g:Nat→RW) (h:g 0=⟨o,p,per,1,1⟩):decide (svF g 1=0)=wbg o p per:=by
 unfold svF
 rw [decide_eq_false (show ¬ 24000<1 by omega)]
 simp only [cond_false,wdd,Bool.true_and,h,rowF]
 cases wbg o p per<;>rfl
theorem wxe (hP:C.P=Tryz.prog) (hL:∀ w,C.laid w→LaidW w):wag C 150 wec:=by
 rintro args objs U Os vc h hvc
 unfold wec at h
 split at h<;>simp only [Option.some.injEq,Prod.mk.injEq,reduceCtorEq] at h
 rename_i o p per
 obtain ⟨rfl,rfl,rfl⟩:=h
 refine wag.wp0 (prg hP) [(105,.det wlo)] 0 (.cons (ww5 hP hL) .nil) (hP ▸ Tryz.func150) rfl rfl rfl ?_
 rw [wy2]
 have one:∀ {p:Nat→Prop},p 0→∀ i,i<1→p i:=fun h0 i hi=>by
  match i,hi with
  |0,_=>exact h0
 refine ⟨⟨by omega,rfl,by omega⟩,one rfl,⟨rfl,by omega,one rfl,one hvc⟩,?_⟩
 rw [svF_one o p per _ rfl]
 exact ⟨rfl,rfl⟩
theorem wxu (hP:C.P=Tryz.prog) (hL:∀ w,C.laid w→LaidW w):wag C 108 wfq:=by
 rintro args objs U Os vc h hvc
 unfold wfq at h
 split at h<;>simp only [Option.some.injEq,Prod.mk.injEq,reduceCtorEq] at h
 rename_i o p per st n f
 obtain ⟨rfl,rfl,rfl⟩:=h
 obtain ⟨ho,hf⟩:=hvc
 have hl:(lst (bkOf f) n).length=n:=by simp [lst]
 generalize hb:lst (bkOf f) n=bs at *
 subst hl
 subst hf
 have hn:=wzb ⟨o,p,per,st,bs⟩
 dsimp only at hn
 refine wag.wp0 (prg hP) [(150,.det wec),(151,.det wfo)] 0 (.cons (wxe hP hL) (.cons (tarV_ok hP) .nil)) (hP ▸ Tryz.func108) rfl rfl rfl ?_
 rw [hn,wg8]
 unfold rtOK
 exact ⟨ho,waw (fun q=>⟨rfl,by rw [q];exact ⟨rfl,rfl⟩⟩) (fun q=>by rw [q];exact ⟨rfl,rfl⟩)⟩
theorem wxv (hP:C.P=Tryz.prog):wag C 78 wfq:=by
 rintro args objs U Os vc h hvc
 unfold wfq at h
 split at h<;>simp only [Option.some.injEq,Prod.mk.injEq,reduceCtorEq] at h
 rename_i o p per st n f
 obtain ⟨rfl,rfl,rfl⟩:=h
 obtain ⟨ho,hf⟩:=hvc
 have hl:(lst (bkOf f) n).length=n:=by simp [lst]
 generalize hb:lst (bkOf f) n=bs at *
 subst hl
 subst hf
 have hn:=wzc ⟨o,p,per,st,bs⟩
 dsimp only at hn
 refine wag.wp0 (prg hP) [(130,.det web),(131,.det wfo)] 0 (.cons (wjk hP) (.cons (tarR_ok hP) .nil)) (hP ▸ Tryz.func78) rfl rfl rfl ?_
 rw [hn,wg8]
 unfold rtOK
 exact ⟨ho,waw (fun q=>⟨rfl,by rw [q];exact ⟨rfl,rfl⟩⟩) (fun q=>by rw [q];exact ⟨rfl,rfl⟩)⟩
theorem nf_k1 (m:MG) (R:AV→List (Nat×AObj)→Prop):wpFn te [(72,.det wde)] [] 0 Tryz.f125 [.agg [.str m.dev,.int .i64 m.seq,.int .i64 m.kind,.str m.v.o,.str m.v.p,.int .i64 m.v.per,.int .i64 m.v.day,.int .i64 m.v.st,.int .i64 m.v.pr,.str m.v.rep,.str m.d.o,.str m.d.p,.int .i64 m.d.per,.str m.d.dev,.int .i64 m.d.num]] [] R=((List.length (MG.dev m)<4294967281∧List.length (VT.o (MG.v m))<4294967281∧List.length (DT.o (MG.d m))<4294967281∧List.length (DT.dev (MG.d m))<4294967281)∧R (.bool !decide (msgF (MG.mk (MG.dev m) (MG.seq m) (MG.kind m) (VT.mk (VT.o (MG.v m)) (VT.p (MG.v m)) (VT.per (MG.v m)) (VT.day (MG.v m)) (VT.st (MG.v m)) (VT.pr (MG.v m)) (VT.rep (MG.v m))) (DT.mk (DT.o (MG.d m)) (DT.p (MG.d m)) (DT.per (MG.d m)) (DT.dev (MG.d m)) (DT.num (MG.d m))))=(0:Int))) []):=by kernel_rfl
theorem nf_k2 (t:RT) (R:AV→List (Nat×AObj)→Prop):wpFn te [(108,.det wfq)] [] 0 Tryz.f127 [.agg [.str t.o,.str t.p,.int .i64 t.per,.int .i64 t.st,.view 2 t.bs.length (waq (atB t.bs))]] [] R=(letI z0:=lst (bkOf (waq (atB (RT.bs t)))) (List.length (RT.bs t));(List.length (RT.o t)<4294967281∧waq (atB (RT.bs t))=waq (atB z0))∧R (.bool !rtOK (RT.mk (RT.o t) (RT.p t) (RT.per t) (RT.st t) z0)) []):=by kernel_rfl
theorem nf_ik1 (g:Nat→MG) (n:Nat) (R:AV→List (Nat×AObj)→Prop):wpFn te [(125,.det S_k1)] [(2,woi g n)] 0 Tryz.f70 [.view 15 n (wae g),.func 125 []] [] R=(some (St.mk [(0,.view 15 n (wae g)),(1,.func 125 []),(7,.int .i64 (↑n:Int)),(8,.int .i64 0)] [] 0 [])=some (St.mk [(0,.view 15 n (wae g)),(1,.func 125 []),(7,.int .i64 (↑n:Int)),(8,.int .i64 (↑0:Int))] [] 0 [])∧n≤1000000∧(∀ (i:Nat),i<n→MG.Sm (g i))∧wab (decide (fstB (fun (i:Nat)=>badM (g i)) n<n)) (R (.int .i64 (↑(fstB (fun (i:Nat)=>badM (g i)) n):Int)) []) (R (.int .i64 (-1:Int)) [])):=by kernel_rfl
theorem wz8 (g:Nat→MG) (n k:Nat) (P:Nat→Prop) (R:Exit→St→Prop):wa3 ⟨te,[(125,.det S_k1)],[],0,19,0⟩ (wa4 Tryz.f70 2) [0,1,7,8] [] [4] (wmp g n) P R (wmp g n k)=(letI z0:=(g (Int.toNat (↑k:Int)));wab (decide ((↑k:Int)<(↑n:Int))) (((0:Int)≤(↑k:Int)∧(↑k:Int)<(↑n:Int)∧15=15)∧(List.length (MG.dev z0)<4294967281∧List.length (VT.o (MG.v z0))<4294967281∧List.length (DT.o (MG.d z0))<4294967281∧List.length (DT.dev (MG.d z0))<4294967281)∧wab (badM (MG.mk (MG.dev z0) (MG.seq z0) (MG.kind z0) (VT.mk (VT.o (MG.v z0)) (VT.p (MG.v z0)) (VT.per (MG.v z0)) (VT.day (MG.v z0)) (VT.st (MG.v z0)) (VT.pr (MG.v z0)) (VT.rep (MG.v z0))) (DT.mk (DT.o (MG.d z0)) (DT.p (MG.d z0)) (DT.per (MG.d z0)) (DT.dev (MG.d z0)) (DT.num (MG.d z0))))) (R .ret (St.mk [(4,.int .i64 (↑k:Int))] [] 0 [])) (inR .i64 ((↑k:Int)+(1:Int))∧∃ (i':Nat),some (St.mk [(0,.view 15 n (wae g)),(1,.func 125 []),(7,.int .i64 (↑n:Int)),(8,.int .i64 ((↑k:Int)+(1:Int)))] [] 0 [])=some (St.mk [(0,.view 15 n (wae g)),(1,.func 125 []),(7,.int .i64 (↑n:Int)),(8,.int .i64 (↑i':Int))] [] 0 [])∧P i')) (R (.exit 0) (St.mk [] [] 0 []))):=by kernel_rfl
theorem nf_ck1 (g:Nat→MG) (n:Nat) (R:AV→List (Nat×AObj)→Prop):wpFn te [(70,.det wmr)] [] 0 Tryz.f68 [.view 15 n (wae g),.func 125 []] [] R=((n≤1000000∧wae g=wae (mgOf (wae g))∧∀ (i:Nat),i<n→MG.Sm (mgOf (wae g) i))∧R (.bool (decide ((0:Int)≤ixB (fun (i:Nat)=>badM (mgOf (wae g) i)) n))) []):=by kernel_rfl
theorem nf_ik2 (g:Nat→RT) (n:Nat) (R:AV→List (Nat×AObj)→Prop):wpFn te [(127,.det S_k2)] [(2,woh g n)] 0 Tryz.f161 [.view 5 n (wah g),.func 127 []] [] R=(some (St.mk [(0,.view 5 n (wah g)),(1,.func 127 []),(7,.int .i64 (↑n:Int)),(8,.int .i64 0)] [] 0 [])=some (St.mk [(0,.view 5 n (wah g)),(1,.func 127 []),(7,.int .i64 (↑n:Int)),(8,.int .i64 (↑0:Int))] [] 0 [])∧n≤1000000∧(∀ (i:Nat),i<n→RT.Sm (g i))∧wab (decide (fstB (fun (i:Nat)=>badT (g i)) n<n)) (R (.int .i64 (↑(fstB (fun (i:Nat)=>badT (g i)) n):Int)) []) (R (.int .i64 (-1:Int)) [])):=by kernel_rfl
theorem wz7 (g:Nat→RT) (n k:Nat) (P:Nat→Prop) (R:Exit→St→Prop):wa3 ⟨te,[(127,.det S_k2)],[],0,19,0⟩ (wa4 Tryz.f161 2) [0,1,7,8] [] [4] (wmo g n) P R (wmo g n k)=(letI z0:=(g (Int.toNat (↑k:Int)));letI z1:=lst (bkOf (waq (atB (RT.bs z0)))) (List.length (RT.bs z0));wab (decide ((↑k:Int)<(↑n:Int))) (((0:Int)≤(↑k:Int)∧(↑k:Int)<(↑n:Int)∧5=5)∧(List.length (RT.o z0)<4294967281∧waq (atB (RT.bs z0))=waq (atB z1))∧wab (badT (RT.mk (RT.o z0) (RT.p z0) (RT.per z0) (RT.st z0) z1)) (R .ret (St.mk [(4,.int .i64 (↑k:Int))] [] 0 [])) (inR .i64 ((↑k:Int)+(1:Int))∧∃ (i':Nat),some (St.mk [(0,.view 5 n (wah g)),(1,.func 127 []),(7,.int .i64 (↑n:Int)),(8,.int .i64 ((↑k:Int)+(1:Int)))] [] 0 [])=some (St.mk [(0,.view 5 n (wah g)),(1,.func 127 []),(7,.int .i64 (↑n:Int)),(8,.int .i64 (↑i':Int))] [] 0 [])∧P i')) (R (.exit 0) (St.mk [] [] 0 []))):=by kernel_rfl
theorem nf_ck2 (g:Nat→RT) (n:Nat) (R:AV→List (Nat×AObj)→Prop):wpFn te [(161,.det wmq)] [] 0 Tryz.f126 [.view 5 n (wah g),.func 127 []] [] R=((n≤1000000∧wah g=wah (rtOf (wah g))∧∀ (i:Nat),i<n→RT.Sm (rtOf (wah g) i))∧R (.bool (decide ((0:Int)≤ixB (fun (i:Nat)=>badT (rtOf (wah g) i)) n))) []):=by kernel_rfl
theorem w0h (F:FL) (R:AV→List (Nat×AObj)→Prop):wpFn te [(68,.det wm7),(126,.det wm6),(105,.det wlp)] [] 0 Tryz.f74 [.agg [.str F.id,.int .i64 F.ver,.int .i64 F.day,.int .i64 F.kind,.view 15 F.ms.length (wae (atM F.ms)),.view 5 F.rs.length (wai (atR F.rs)),.view 5 F.ts.length (wah (atT F.ts))]] [] R=(letI z6:=wah (atT (FL.ts F));letI z5:=wai (atR (FL.rs F));letI z4:=wae (atM (FL.ms F));letI z3:=R (.bool false) [];letI z2:=(↑(List.length (FL.ms F)):Int);letI z1:=(↑(List.length (FL.ts F)):Int);letI z0:=(↑(List.length (FL.rs F)):Int);wab (decide (FL.kind F=(1:Int))) (inR .i64 (z0+z1)∧wab (decide (z0+z1=(0:Int))) (wab (decide (z2≤(400:Int))) ((List.length (FL.ms F)≤1000000∧wae (atM (FL.ms F))=wae (mgOf z4)∧∀ (i:Nat),i<List.length (FL.ms F)→MG.Sm (mgOf z4 i))∧R (.bool !decide ((0:Int)≤ixB (fun (i:Nat)=>badM (mgOf z4 i)) (List.length (FL.ms F)))) []) z3) z3) (wab (decide (FL.kind F=(2:Int))) (inR .i64 (z2+z1)∧wab (decide (z2+z1=(0:Int))) (wab (decide (z0≤(400:Int))) ((List.length (FL.rs F)≤1000000∧wai (atR (FL.rs F))=wai (rwOf z5)∧∀ (i:Nat),i<List.length (FL.rs F)→List.length (RW.o (rwOf z5 i))<4294967281)∧R (.bool (decide (svF (rwOf z5) (List.length (FL.rs F))=(0:Int)))) []) z3) z3) (inR .i64 (z2+z0)∧wab (decide (z2+z0=(0:Int))) (wab (decide (z1≤(400:Int))) ((List.length (FL.ts F)≤1000000∧wah (atT (FL.ts F))=wah (rtOf z6)∧∀ (i:Nat),i<List.length (FL.ts F)→RT.Sm (rtOf z6 i))∧R (.bool !decide ((0:Int)≤ixB (fun (i:Nat)=>badT (rtOf z6 i)) (List.length (FL.ts F)))) []) z3) z3))):=by kernel_rfl
theorem nf_vin (F:FL) (R:AV→List (Nat×AObj)→Prop):wpFn te [(72,.det wde),(73,.det whb),(74,.det wm3)] [] 0 Tryz.f29 [.agg [.str F.id,.int .i64 F.ver,.int .i64 F.day,.int .i64 F.kind,.view 15 F.ms.length (wae (atM F.ms)),.view 5 F.rs.length (wai (atR F.rs)),.view 5 F.ts.length (wah (atT F.ts))]] [] R=(letI z2:=R (.int .i64 151) [];letI z1:=flV (FL.id F) (FL.ver F) (FL.day F) (FL.kind F) (List.length (FL.ms F)) (wae (atM (FL.ms F))) (List.length (FL.rs F)) (wai (atR (FL.rs F))) (List.length (FL.ts F)) (wah (atT (FL.ts F)));letI z0:=(True∧wab (decide ((bif decide ((0:Int)≤FL.day F) && decide (FL.day F≤(182620:Int)) then FL.day F % (7:Int) else (-1:Int))<(0:Int))) (R (.int .i64 152) []) (wab (decide (FL.kind F<(1:Int))) (R (.int .i64 153) []) (wab (decide ((3:Int)<FL.kind F)) (R (.int .i64 153) []) ((FlC (List.length (FL.ms F)) (wae (atM (FL.ms F))) (List.length (FL.rs F)) (wai (atR (FL.rs F))) (List.length (FL.ts F)) (wah (atT (FL.ts F)))∧FL.Sm z1)∧wab (!ctF z1) (R (.int .i64 154) []) (R (.int .i64 0) [])))));(List.length (FL.id F)<4294967281∧0<4294967281∧0<4294967281∧0<4294967281)∧wab (decide (msgF (MG.mk (FL.id F) (0:Int) (0:Int) (VT.mk [] [] (0:Int) (0:Int) (0:Int) (0:Int) []) (DT.mk [] [] (0:Int) [] (0:Int)))=(110:Int))) (R (.int .i64 150) []) (wab (decide (FL.ver F<(1:Int))) z2 (wab (decide ((1000:Int)<FL.ver F)) z2 (wab (decide (FL.kind F=(1:Int))) (wab (!decide (FL.ver F=(1:Int))) z2 z0) z0)))):=by kernel_rfl
theorem nf_vinR (F:FL) (R:AV→List (Nat×AObj)→Prop):wpFn te [(75,.det wed)] [(14,L_w1 F),(20,L_w2 F),(26,L_w3 F)] 0 Tryz.f30 [.agg [.str F.id,.int .i64 F.ver,.int .i64 F.day,.int .i64 F.kind,.view 15 F.ms.length (wae (atM F.ms)),.view 5 F.rs.length (wai (atR F.rs)),.view 5 F.ts.length (wah (atT F.ts))]] [] R=(letI z12:=R (.int .i64 151) [];letI z11:=wah (atT (FL.ts F));letI z10:=wai (atR (FL.rs F));letI z9:=wae (atM (FL.ms F));letI z7:=List.length (FL.rs F);letI z6:=List.length (FL.ms F);letI z5:=List.length (FL.ts F);letI z4:=R (.int .i64 154) [];letI z2:=([(0,.cells [.str (FL.id F),.int .i64 (FL.ver F),.int .i64 (FL.day F),.int .i64 (FL.kind F),.view 15 z6 z9,.view 5 z7 z10,.view 5 z5 z11] 49)]:List (Nat×AObj));letI z0:=(wab (decide ((400:Int)<(↑z6:Int))) z4 (wab (decide ((400:Int)<(↑z7:Int))) z4 (wab (decide ((400:Int)<(↑z5:Int))) z4 (some (St.mk [(1,.ptr 0 0),(95,.view 15 z6 z9),(96,.int .i64 (↑z6:Int)),(97,.int .i64 0)] z2 1 [])=some (St.mk [(1,.ptr 0 0),(95,.view 15 z6 z9),(96,.int .i64 (↑z6:Int)),(97,.int .i64 (↑0:Int))] z2 1 [])∧FL.Sm F∧wab (List.all (FL.ms F) fun (m:MG)=>decide (msgF m=(0:Int))) (some (St.mk [(1,.ptr 0 0),(106,.view 5 z7 z10),(107,.int .i64 (↑z7:Int)),(108,.int .i64 0)] z2 1 [])=some (St.mk [(1,.ptr 0 0),(106,.view 5 z7 z10),(107,.int .i64 (↑z7:Int)),(108,.int .i64 (↑0:Int))] z2 1 [])∧FL.Sm F∧wab (List.all (FL.rs F) rowF) (some (St.mk [(117,.view 5 z5 z11),(118,.int .i64 (↑z5:Int)),(119,.int .i64 0)] [] 0 [])=some (St.mk [(117,.view 5 z5 z11),(118,.int .i64 (↑z5:Int)),(119,.int .i64 (↑0:Int))] [] 0 [])∧FL.Sm F∧wab (List.all (FL.ts F) rtOK) (R (.int .i64 0) []) z4) z4) z4))));letI z8:=(wab (!decide (FL.kind F=(3:Int))) (wab (decide ((0:Int)<(↑z5:Int))) z4 z0) z0);letI z1:=(wab (!decide (FL.kind F=(2:Int))) (wab (decide ((0:Int)<(↑z7:Int))) z4 z8) z8);letI z3:=(wab (decide (FL.day F<(0:Int))) (R (.int .i64 152) []) (wab (decide ((182621:Int)≤FL.day F)) (R (.int .i64 152) []) (wab (decide (FL.kind F<(1:Int))) (R (.int .i64 153) []) (wab (decide ((3:Int)<FL.kind F)) (R (.int .i64 153) []) (wab (!decide (FL.kind F=(1:Int))) (wab (decide ((0:Int)<(↑z6:Int))) z4 z1) z1)))));List.length (FL.id F)≤9223372036854775806∧wab (!wa0 (FL.id F)) (R (.int .i64 150) []) (wab (decide (FL.ver F<(1:Int))) z12 (wab (decide ((1000:Int)<FL.ver F)) z12 (wab (decide (FL.kind F=(1:Int))) (wab (!decide (FL.ver F=(1:Int))) z12 z3) z3)))):=by kernel_rfl
theorem wyh (F:FL) (k:Nat) (P:Nat→Prop) (R:Exit→St→Prop):wa3 ⟨te,[(76,.det wde)],[],0,127,0⟩ (wa4 Tryz.f30 14) [1,95,96,97] [1] [2] (S_w1 F) P R (S_w1 F k)=(letI z3:=wae (atM (FL.ms F));letI z2:=List.length (FL.ms F);letI z1:=([(0,.cells [.str (FL.id F),.int .i64 (FL.ver F),.int .i64 (FL.day F),.int .i64 (FL.kind F),.view 15 z2 z3,.view 5 (List.length (FL.rs F)) (wai (atR (FL.rs F))),.view 5 (List.length (FL.ts F)) (wah (atT (FL.ts F)))] 49)]:List (Nat×AObj));letI z0:=(atM (FL.ms F) (Int.toNat (↑k:Int)));wab (decide ((↑k:Int)<(↑z2:Int))) (((0:Int)≤(↑k:Int)∧(↑k:Int)<(↑z2:Int)∧15=15)∧(List.length (MG.dev z0)<4294967281∧List.length (VT.o (MG.v z0))<4294967281∧List.length (DT.o (MG.d z0))<4294967281∧List.length (DT.dev (MG.d z0))<4294967281)∧wab (!decide (msgF (MG.mk (MG.dev z0) (MG.seq z0) (MG.kind z0) (VT.mk (VT.o (MG.v z0)) (VT.p (MG.v z0)) (VT.per (MG.v z0)) (VT.day (MG.v z0)) (VT.st (MG.v z0)) (VT.pr (MG.v z0)) (VT.rep (MG.v z0))) (DT.mk (DT.o (MG.d z0)) (DT.p (MG.d z0)) (DT.per (MG.d z0)) (DT.dev (MG.d z0)) (DT.num (MG.d z0))))=(0:Int))) (R .ret (St.mk [(2,.int .i64 154)] [] 0 [])) (inR .i64 ((↑k:Int)+(1:Int))∧∃ (i':Nat),some (St.mk [(1,.ptr 0 0),(95,.view 15 z2 z3),(96,.int .i64 (↑z2:Int)),(97,.int .i64 ((↑k:Int)+(1:Int)))] z1 1 [])=some (St.mk [(1,.ptr 0 0),(95,.view 15 z2 z3),(96,.int .i64 (↑z2:Int)),(97,.int .i64 (↑i':Int))] z1 1 [])∧P i')) (R (.exit 0) (St.mk [(1,.ptr 0 0)] z1 1 []))):=by kernel_rfl
theorem wyg (F:FL) (k:Nat) (P:Nat→Prop) (R:Exit→St→Prop):wa3 ⟨te,[(77,.det wd9)],[],0,127,0⟩ (wa4 Tryz.f30 20) [1,106,107,108] [1] [2] (S_w2 F) P R (S_w2 F k)=(letI z3:=wai (atR (FL.rs F));letI z2:=List.length (FL.rs F);letI z1:=(atR (FL.rs F) (Int.toNat (↑k:Int)));letI z0:=([(0,.cells [.str (FL.id F),.int .i64 (FL.ver F),.int .i64 (FL.day F),.int .i64 (FL.kind F),.view 15 (List.length (FL.ms F)) (wae (atM (FL.ms F))),.view 5 z2 z3,.view 5 (List.length (FL.ts F)) (wah (atT (FL.ts F)))] 49)]:List (Nat×AObj));wab (decide ((↑k:Int)<(↑z2:Int))) (((0:Int)≤(↑k:Int)∧(↑k:Int)<(↑z2:Int)∧5=5)∧List.length (RW.o z1)<4294967281∧wab (!rowF (RW.mk (RW.o z1) (RW.p z1) (RW.per z1) (RW.u z1) (RW.tv z1))) (R .ret (St.mk [(2,.int .i64 154)] [] 0 [])) (inR .i64 ((↑k:Int)+(1:Int))∧∃ (i':Nat),some (St.mk [(1,.ptr 0 0),(106,.view 5 z2 z3),(107,.int .i64 (↑z2:Int)),(108,.int .i64 ((↑k:Int)+(1:Int)))] z0 1 [])=some (St.mk [(1,.ptr 0 0),(106,.view 5 z2 z3),(107,.int .i64 (↑z2:Int)),(108,.int .i64 (↑i':Int))] z0 1 [])∧P i')) (R (.exit 2) (St.mk [(1,.ptr 0 0)] z0 1 []))):=by kernel_rfl
theorem wyf (F:FL) (k:Nat) (P:Nat→Prop) (R:Exit→St→Prop):wa3 ⟨te,[(78,.det wfq)],[],0,127,0⟩ (wa4 Tryz.f30 26) [117,118,119] [] [2] (S_w3 F) P R (S_w3 F k)=(letI z1:=List.length (FL.ts F);letI z0:=(atT (FL.ts F) (Int.toNat (↑k:Int)));letI z2:=lst (bkOf (waq (atB (RT.bs z0)))) (List.length (RT.bs z0));wab (decide ((↑k:Int)<(↑z1:Int))) (((0:Int)≤(↑k:Int)∧(↑k:Int)<(↑z1:Int)∧5=5)∧(List.length (RT.o z0)<4294967281∧waq (atB (RT.bs z0))=waq (atB z2))∧wab (!rtOK (RT.mk (RT.o z0) (RT.p z0) (RT.per z0) (RT.st z0) z2)) (R .ret (St.mk [(2,.int .i64 154)] [] 0 [])) (inR .i64 ((↑k:Int)+(1:Int))∧∃ (i':Nat),some (St.mk [(117,.view 5 z1 (wah (atT (FL.ts F)))),(118,.int .i64 (↑z1:Int)),(119,.int .i64 ((↑k:Int)+(1:Int)))] [] 0 [])=some (St.mk [(117,.view 5 z1 (wah (atT (FL.ts F)))),(118,.int .i64 (↑z1:Int)),(119,.int .i64 (↑i':Int))] [] 0 [])∧P i')) (R (.exit 4) (St.mk [] [] 0 []))):=by kernel_rfl
theorem ix_any {q:Nat→Bool}:∀ n,decide (0≤ixB q n)=(List.range n).any q:=by
 intro n
 unfold ixB
 obtain ⟨h1,h2⟩:=wkn q n
 have hle:=wim q n
 by_cases h:fstB q n<n
 ·rw [decide_eq_true h]
  have:(List.range n).any q=true:=List.any_eq_true.2 ⟨_,List.mem_range.2 h,h2 h⟩
  rw [this,decide_eq_true]
  show (0:Int)≤(fstB q n:Int)
  omega
 ·rw [decide_eq_false h]
  have:(List.range n).any q=false:=List.any_eq_false.2 fun j hj=>by
   rw [h1 j (by have:=List.mem_range.1 hj;omega)];exact Bool.false_ne_true
  rw [this]
  exact decide_eq_false (show ¬ (0:Int)≤ -1 by decide)
theorem ix_all {α:Type} (ok:α→Bool) (L:List α) (d:α):decide (0≤ixB (fun i=> !ok (L.getD i d)) L.length)= !L.all ok:=by
 rw [ix_any]
 have e:L=(List.range L.length).map fun i=>L.getD i d:=(wdu L d).symm
 have:L.all ok=(List.range L.length).all fun i=>ok (L.getD i d):=by
  conv=>lhs;rw [e]
  rw [List.all_map];rfl
 rw [this,List.any_eq_not_all_not]
 simp
theorem atT_sm {F:FL} (h:F.Sm) {i:Nat} (hi:i<F.ts.length):(atT F.ts i).Sm:=h.t.2 _ (wv2 hi)
theorem atM_sm {F:FL} (h:F.Sm) {i:Nat} (hi:i<F.ms.length):(atM F.ms i).Sm:=h.m.2 _ (wv3 hi)
theorem atR_sm {F:FL} (h:F.Sm) {i:Nat} (hi:i<F.rs.length):(atR F.rs i).o.length<4294967281:=h.r.2 _ (by unfold atR;simp [List.getD,hi])
theorem k1_ok (hP:C.P=Tryz.prog) (hL:∀ w,C.laid w→LaidW w):wag C 125 S_k1:=by
 rintro args objs U Os vc h hvc
 unfold S_k1 at h
 split at h<;>simp only [Option.some.injEq,Prod.mk.injEq,reduceCtorEq] at h
 rename_i dev seq kind o p per day st pr rep o' p' per' dev' num
 obtain ⟨rfl,rfl,rfl⟩:=h
 have hn:=nf_k1 ⟨dev,seq,kind,⟨o,p,per,day,st,pr,rep⟩,⟨o',p',per',dev',num⟩⟩
 dsimp only at hn
 refine wag.wp0 (prg hP) [(72,.det wde)] 0 (.cons (wps hP hL) .nil) (hP ▸ Tryz.func125) rfl rfl rfl ?_
 rw [hn]
 exact ⟨hvc,rfl,rfl⟩
theorem k2_ok (hP:C.P=Tryz.prog) (hL:∀ w,C.laid w→LaidW w):wag C 127 S_k2:=by
 rintro args objs U Os vc h hvc
 unfold S_k2 at h
 split at h<;>simp only [Option.some.injEq,Prod.mk.injEq,reduceCtorEq] at h
 rename_i o p per st n f
 obtain ⟨rfl,rfl,rfl⟩:=h
 obtain ⟨ho,hf⟩:=hvc
 have hl:(lst (bkOf f) n).length=n:=by simp [lst]
 generalize hb:lst (bkOf f) n=bs at *
 subst hl
 subst hf
 have hn:=nf_k2 ⟨o,p,per,st,bs⟩
 dsimp only at hn
 refine wag.wp0 (prg hP) [(108,.det wfq)] 0 (.cons (wxu hP hL) .nil) (hP ▸ Tryz.func127) rfl rfl rfl ?_
 rw [hn,wg8]
 exact ⟨⟨ho,rfl⟩,rfl,rfl⟩
theorem w18 (hP:C.P=Tryz.prog) (hL:∀ w,C.laid w→LaidW w) (g:Nat→MG) (n:Nat):wak C 0 19 (wam Tryz.f70 2) (woi g n):=by
 rintro st Q ⟨h0,hn,hs,hQ⟩
 have hR:=wbx hQ
 refine wak.mk (prg hP) [(125,.det S_k1)] 0 (.cons (k1_ok hP hL) .nil) [0,1,7,8] [] [4] (wmp g n) (fun k=>k≤n∧fstB (fun i=>badM (g i)) k=k) (fun k=>n - k) 0 ⟨Nat.zero_le _,rfl⟩ h0 (fun k hk=>?_)
 obtain ⟨hkn,hok⟩:=hk
 rw [wz8,Int.toNat_natCast]
 refine waj (fun h1=>?_) (fun h1=>?_)
 ·have hlt:k<n:=by omega
  refine ⟨⟨by omega,by omega,rfl⟩,⟨(hs k hlt).1,(hs k hlt).2,(hs k hlt).3,(hs k hlt).4⟩,waw (fun h2=>?_) (fun h2=>⟨by simp only [inR];omega,k+1,rfl,⟨by omega,wil hok h2⟩,by omega⟩)⟩
  have e:=win hok h2 n (by omega)
  have:=hR.1 (by rw [e,decide_eq_true];omega)
  rw [e] at this
  exact this
 ·have:k=n:=by omega
  subst this
  exact hR.2 (by rw [hok,decide_eq_false];omega)
theorem ik1_ok (hP:C.P=Tryz.prog) (hL:∀ w,C.laid w→LaidW w):wag C 70 wmr:=by
 rintro args objs U Os vc h hvc
 unfold wmr at h
 split at h<;>simp only [Option.some.injEq,Prod.mk.injEq,reduceCtorEq] at h
 rename_i n f
 obtain ⟨rfl,rfl,rfl⟩:=h
 obtain ⟨hn,hf,hs⟩:=hvc
 generalize mgOf f=g at *
 subst hf
 refine wag.wpL (prg hP) [(125,.det S_k1)] [(2,woi g n)] 0 (.cons (k1_ok hP hL) .nil) (hP ▸ Tryz.func70) rfl rfl rfl [(wam Tryz.f70 2,woi g n)] (by kernel_rfl) ⟨w18 hP hL g n,trivial⟩ ?_
 rw [nf_ik1]
 unfold ixB
 refine ⟨rfl,hn,hs,waj (fun h=>?_) (fun h=>?_)⟩
 ·rw [decide_eq_true h];exact ⟨rfl,rfl⟩
 ·rw [decide_eq_false h];exact ⟨rfl,rfl⟩
theorem ck1_ok (hP:C.P=Tryz.prog) (hL:∀ w,C.laid w→LaidW w):wag C 68 wm7:=by
 rintro args objs U Os vc h hvc
 unfold wm7 at h
 split at h<;>simp only [Option.some.injEq,Prod.mk.injEq,reduceCtorEq] at h
 rename_i n f
 obtain ⟨rfl,rfl,rfl⟩:=h
 obtain ⟨hn,hf,hs⟩:=hvc
 generalize hg:mgOf f=g at *
 subst hf
 refine wag.wp0 (prg hP) [(70,.det wmr)] 0 (.cons (ik1_ok hP hL) .nil) (hP ▸ Tryz.func68) rfl rfl rfl ?_
 rw [nf_ck1]
 exact ⟨⟨hn,rfl,hs⟩,rfl,rfl⟩
theorem w17 (hP:C.P=Tryz.prog) (hL:∀ w,C.laid w→LaidW w) (g:Nat→RT) (n:Nat):wak C 0 19 (wam Tryz.f161 2) (woh g n):=by
 rintro st Q ⟨h0,hn,hs,hQ⟩
 have hR:=wbx hQ
 refine wak.mk (prg hP) [(127,.det S_k2)] 0 (.cons (k2_ok hP hL) .nil) [0,1,7,8] [] [4] (wmo g n) (fun k=>k≤n∧fstB (fun i=>badT (g i)) k=k) (fun k=>n - k) 0 ⟨Nat.zero_le _,rfl⟩ h0 (fun k hk=>?_)
 obtain ⟨hkn,hok⟩:=hk
 rw [wz7,Int.toNat_natCast]
 refine waj (fun h1=>?_) (fun h1=>?_)
 ·have hlt:k<n:=by omega
  rw [wg8]
  refine ⟨⟨by omega,by omega,rfl⟩,⟨(hs k hlt).o,rfl⟩,waw (fun h2=>?_) (fun h2=>⟨by simp only [inR];omega,k+1,rfl,⟨by omega,wil hok h2⟩,by omega⟩)⟩
  have e:=win hok h2 n (by omega)
  have:=hR.1 (by rw [e,decide_eq_true];omega)
  rw [e] at this
  exact this
 ·have:k=n:=by omega
  subst this
  exact hR.2 (by rw [hok,decide_eq_false];omega)
theorem ik2_ok (hP:C.P=Tryz.prog) (hL:∀ w,C.laid w→LaidW w):wag C 161 wmq:=by
 rintro args objs U Os vc h hvc
 unfold wmq at h
 split at h<;>simp only [Option.some.injEq,Prod.mk.injEq,reduceCtorEq] at h
 rename_i n f
 obtain ⟨rfl,rfl,rfl⟩:=h
 obtain ⟨hn,hf,hs⟩:=hvc
 generalize rtOf f=g at *
 subst hf
 refine wag.wpL (prg hP) [(127,.det S_k2)] [(2,woh g n)] 0 (.cons (k2_ok hP hL) .nil) (hP ▸ Tryz.func161) rfl rfl rfl [(wam Tryz.f161 2,woh g n)] (by kernel_rfl) ⟨w17 hP hL g n,trivial⟩ ?_
 rw [nf_ik2]
 unfold ixB
 refine ⟨rfl,hn,hs,waj (fun h=>?_) (fun h=>?_)⟩
 ·rw [decide_eq_true h];exact ⟨rfl,rfl⟩
 ·rw [decide_eq_false h];exact ⟨rfl,rfl⟩
theorem ck2_ok (hP:C.P=Tryz.prog) (hL:∀ w,C.laid w→LaidW w):wag C 126 wm6:=by
 rintro args objs U Os vc h hvc
 unfold wm6 at h
 split at h<;>simp only [Option.some.injEq,Prod.mk.injEq,reduceCtorEq] at h
 rename_i n f
 obtain ⟨rfl,rfl,rfl⟩:=h
 obtain ⟨hn,hf,hs⟩:=hvc
 generalize hg:rtOf f=g at *
 subst hf
 refine wag.wp0 (prg hP) [(161,.det wmq)] 0 (.cons (ik2_ok hP hL) .nil) (hP ▸ Tryz.func126) rfl rfl rfl ?_
 rw [nf_ck2]
 rw [wjr]
 exact ⟨⟨hn,rfl,hs⟩,rfl,rfl⟩
theorem w36 (L:List RW):wdd (atR L) L.length=L.all rowF:=by
 have go:∀ (g:Nat→RW) n,wdd g n=((List.range n).map g).all rowF:=by
  intro g n
  induction n with
  |zero=>rfl
  |succ n ih=>rw [wdd,ih,List.range_succ,List.map_append,List.all_append];simp
 rw [go]
 exact congrArg (fun l=>l.all rowF) (wdu L default)
theorem w23 (hP:C.P=Tryz.prog) (hL:∀ w,C.laid w→LaidW w):wag C 74 wm3:=by
 rintro args objs U Os vc h hvc
 unfold wm3 at h
 split at h<;>simp only [Option.some.injEq,Prod.mk.injEq,reduceCtorEq] at h
 rename_i id ver day kind nm fm nr fr nt ft
 obtain ⟨rfl,rfl,rfl⟩:=h
 obtain ⟨hc,hs⟩:=hvc
 have l1:(lst (mgOf fm) nm).length=nm:=by simp [lst]
 have l2:(lst (rwOf fr) nr).length=nr:=by simp [lst]
 have l3:(lst (rtOf ft) nt).length=nt:=by simp [lst]
 obtain ⟨c1,c2,c3⟩:=hc
 unfold flV at hs ⊢
 generalize lst (mgOf fm) nm=ms at *
 generalize lst (rwOf fr) nr=rs at *
 generalize lst (rtOf ft) nt=ts at *
 subst l1;subst l2;subst l3;subst c1;subst c2;subst c3
 have hn:=w0h ⟨id,ver,day,kind,ms,rs,ts⟩
 dsimp only at hn
 refine wag.wp0 (prg hP) [(68,.det wm7),(126,.det wm6),(105,.det wlp)] 0 (.cons (ck1_ok hP hL) (.cons (ck2_ok hP hL) (.cons (wr8 hP hL) .nil))) (hP ▸ Tryz.func74) rfl rfl rfl ?_
 rw [hn]
 have m1:=hs.m.1
 have r1:=hs.r.1
 have t1:=hs.t.1
 dsimp only at m1 r1 t1
 have e1:decide (0≤ixB (fun i=>badM (mgOf (wae (atM ms)) i)) ms.length)= !ms.all fun m=>decide (msgF m=0):=ix_all (fun m=>decide (msgF m=0)) ms default
 have e3:decide (0≤ixB (fun i=>badT (rtOf (wah (atT ts)) i)) ts.length)= !ts.all rtOK:=by rw [wjr];exact ix_all rtOK ts we0
 have e2:rs.length≤400→decide (svF (rwOf (wai (atR rs))) rs.length=0)=rs.all rowF:=fun h=>by
  show decide (svF (atR rs) rs.length=0)=_
  unfold svF
  rw [decide_eq_false (show ¬ 24000<rs.length by omega),w36]
  cases rs.all rowF<;>rfl
 rw [e1,e3,wjr]
 unfold ctF
 dsimp only
 refine waj (fun k1=>?_) (fun k1=>waj (fun k2=>?_) (fun k2=>?_))
 ·rw [decide_eq_true k1]
  refine ⟨by simp only [inR];omega,waj (fun z=>waj (fun y=>⟨⟨by omega,rfl,fun i hi=>atM_sm hs hi⟩,?_⟩) (fun y=>?_)) (fun z=>?_)⟩
  ·rw [decide_eq_true (show rs.length+ts.length=0 by omega),decide_eq_true (show ms.length≤400 by omega),Bool.not_not];exact ⟨rfl,rfl⟩
  ·rw [decide_eq_true (show rs.length+ts.length=0 by omega),decide_eq_false (show ¬ ms.length≤400 by omega)];exact ⟨rfl,rfl⟩
  ·rw [decide_eq_false (show ¬ rs.length+ts.length=0 by omega)];exact ⟨rfl,rfl⟩
 ·rw [decide_eq_false k1,decide_eq_true k2]
  refine ⟨by simp only [inR];omega,waj (fun z=>waj (fun y=>⟨⟨by omega,rfl,fun i hi=>atR_sm hs hi⟩,?_⟩) (fun y=>?_)) (fun z=>?_)⟩
  ·rw [decide_eq_true (show ms.length+ts.length=0 by omega),decide_eq_true (show rs.length≤400 by omega),e2 (by omega)];exact ⟨rfl,rfl⟩
  ·rw [decide_eq_true (show ms.length+ts.length=0 by omega),decide_eq_false (show ¬ rs.length≤400 by omega)];exact ⟨rfl,rfl⟩
  ·rw [decide_eq_false (show ¬ ms.length+ts.length=0 by omega)];exact ⟨rfl,rfl⟩
 ·rw [decide_eq_false k1,decide_eq_false k2]
  refine ⟨by simp only [inR];omega,waj (fun z=>waj (fun y=>⟨⟨by omega,rfl,fun i hi=>atT_sm hs hi⟩,?_⟩) (fun y=>?_)) (fun z=>?_)⟩
  ·rw [decide_eq_true (show ms.length+rs.length=0 by omega),decide_eq_true (show ts.length≤400 by omega),Bool.not_not];exact ⟨rfl,rfl⟩
  ·rw [decide_eq_true (show ms.length+rs.length=0 by omega),decide_eq_false (show ¬ ts.length≤400 by omega)];exact ⟨rfl,rfl⟩
  ·rw [decide_eq_false (show ¬ ms.length+rs.length=0 by omega)];exact ⟨rfl,rfl⟩
end Go.Eng
