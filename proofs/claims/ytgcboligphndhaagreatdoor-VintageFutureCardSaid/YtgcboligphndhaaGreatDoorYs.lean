/- The validation of products whose attributes are plain data. -/
import Derived.Test.YtgcboligphndhaaGreatDoorYm
import Derived.Test.YtgcboligphndhaaGreatDoorYr
import Derived.Test.YtgcboligphndhaaGreatDoorYl
import Derived.Test.YtgcboligphndhaaGreatDoorYq
namespace Go.Eng
open Go.Proofs Go.RowKit
set_option maxRecDepth 20000
theorem nf_min (n:Nat) (v:Nat→Int) (R:AV→List (Nat×AObj)→Prop):wpFn te [] [(5,L_mm n v (minV v)),(1002,fun _ _=>False)] 0 Tryz.f260 [.own 0 n] [.row 3 1 n (fun i=>[.int .i64 (v i)]) false] R=(letI z0:=([(0,.row 3 1 n (fun (i:Nat)=>[.int .i64 (v i)]) false)]:List (Nat×AObj));wad (decide ((↑n:Int)<(1:Int))) False (((0:Int)≤(0:Int)∧(0:Int)<(↑n:Int))∧(0<n∧1=1)∧(TEq [(0,.own 0 n),(3,.int .i64 (v 0)),(4,.int .i64 1)] [(0,.own 0 n),(3,.int .i64 (minV v 0)),(4,.int .i64 ((↑0:Int)+(1:Int)))]∧wae z0 z0)∧1≤n∧n≤4611686018427387904∧(∀ (i:Nat),i<n→true=true)∧∃ (O':List (Nat×AObj)),wae z0 O'∧R (.int .i64 (minV v (n - 1))) O')):=by kernel_rfl
theorem wzg (n:Nat) (v:Nat→Int) (k:Nat) (P:Nat→Prop) (R:Exit→St→Prop):wa2 ⟨te,[],[],1,25,0⟩ (wa3 Tryz.f260 5) [0,3,4] [3] [] (wgb n v (minV v)) P R (wgb n v (minV v) k)=(letI z0:=([(0,.row 3 1 n (fun (i:Nat)=>[.int .i64 (v i)]) false)]:List (Nat×AObj));wad (decide ((↑k:Int)+(1:Int)<(↑n:Int))) (((0:Int)≤(↑k:Int)+(1:Int)∧(↑k:Int)+(1:Int)<(↑n:Int))∧(Int.toNat ((↑k:Int)+(1:Int))<n∧1=1)∧inR .i64 ((↑k:Int)+(1:Int)+(1:Int))∧∃ (i':Nat),(TEq [(0,.own 0 n),(3,.int .i64 (min (minV v k) (v (Int.toNat ((↑k:Int)+(1:Int)))))),(4,.int .i64 ((↑k:Int)+(1:Int)+(1:Int)))] [(0,.own 0 n),(3,.int .i64 (minV v i')),(4,.int .i64 ((↑i':Int)+(1:Int)))]∧wae z0 z0)∧P i') ((∀ (i:Nat),i<n→true=true)∧∃ (O':List (Nat×AObj)),wae z0 O'∧R (.exit 0) (St.mk [(3,.int .i64 (minV v k))] O' 1 []))):=by kernel_rfl
theorem nf_max (n:Nat) (v:Nat→Int) (R:AV→List (Nat×AObj)→Prop):wpFn te [] [(5,L_mm n v (maxV v)),(1002,fun _ _=>False)] 0 Tryz.f261 [.own 0 n] [.row 3 1 n (fun i=>[.int .i64 (v i)]) false] R=(letI z0:=([(0,.row 3 1 n (fun (i:Nat)=>[.int .i64 (v i)]) false)]:List (Nat×AObj));wad (decide ((↑n:Int)<(1:Int))) False (((0:Int)≤(0:Int)∧(0:Int)<(↑n:Int))∧(0<n∧1=1)∧(TEq [(0,.own 0 n),(3,.int .i64 (v 0)),(4,.int .i64 1)] [(0,.own 0 n),(3,.int .i64 (maxV v 0)),(4,.int .i64 ((↑0:Int)+(1:Int)))]∧wae z0 z0)∧1≤n∧n≤4611686018427387904∧(∀ (i:Nat),i<n→true=true)∧∃ (O':List (Nat×AObj)),wae z0 O'∧R (.int .i64 (maxV v (n - 1))) O')):=by kernel_rfl
theorem wzh (n:Nat) (v:Nat→Int) (k:Nat) (P:Nat→Prop) (R:Exit→St→Prop):wa2 ⟨te,[],[],1,25,0⟩ (wa3 Tryz.f261 5) [0,3,4] [3] [] (wgb n v (maxV v)) P R (wgb n v (maxV v) k)=(letI z0:=([(0,.row 3 1 n (fun (i:Nat)=>[.int .i64 (v i)]) false)]:List (Nat×AObj));wad (decide ((↑k:Int)+(1:Int)<(↑n:Int))) (((0:Int)≤(↑k:Int)+(1:Int)∧(↑k:Int)+(1:Int)<(↑n:Int))∧(Int.toNat ((↑k:Int)+(1:Int))<n∧1=1)∧inR .i64 ((↑k:Int)+(1:Int)+(1:Int))∧∃ (i':Nat),(TEq [(0,.own 0 n),(3,.int .i64 (max (maxV v k) (v (Int.toNat ((↑k:Int)+(1:Int)))))),(4,.int .i64 ((↑k:Int)+(1:Int)+(1:Int)))] [(0,.own 0 n),(3,.int .i64 (maxV v i')),(4,.int .i64 ((↑i':Int)+(1:Int)))]∧wae z0 z0)∧P i') ((∀ (i:Nat),i<n→true=true)∧∃ (O':List (Nat×AObj)),wae z0 O'∧R (.exit 0) (St.mk [(3,.int .i64 (maxV v k))] O' 1 []))):=by kernel_rfl
theorem wzy (n:Nat) (v:Nat→Int) (R:AV→List (Nat×AObj)→Prop):wpFn te [(260,.det wma),(261,.det wmb),(133,.det whb)] [(7,wog n v)] 0 Tryz.f244 [.own 0 n] [.row 3 1 n (fun i=>[.int .i64 (v i)]) false] R=(letI z8:=((0:Int)≤(0:Int)∧(0:Int)<(↑n:Int):Prop);letI z7:=((0:Int)≤(1:Int)∧(1:Int)≤(↑n:Int):Prop);letI z6:=(n - Int.toNat (1:Int));letI z5:=(vInt fun (i:Nat)=>[.int .i64 (v i)]);letI z4:=([(4,.str (wdm (v 0)++wcr v 0)),(36,.sub 0 1 1 (n - 1)),(37,.int .i64 (↑(n - 1):Int)),(38,.int .i64 (↑0:Int))]:List (Nat×AV));letI z3:=(3=3∧false=false∧1≤n∧n=n∧n≤4611686018427387904∧(fun (i:Nat)=>[.int .i64 (v i)])=waa z5:Prop);letI z2:=(∀ (i:Nat),i<n→true=true:Prop);letI z1:=([(0,.row 3 1 n (fun (i:Nat)=>[.int .i64 (v i)]) false)]:List (Nat×AObj));letI z0:=(z2∧∃ (O':List (Nat×AObj)),wae z1 O'∧R (.tuple [.str [],.int .i64 64]) O':Prop);wad (decide ((↑n:Int)<(1:Int))) z0 (wad (decide ((5:Int)<(↑n:Int))) z0 (z2∧z3∧z2∧wad (decide (minV z5 (n - 1)<(1:Int))) z0 (z2∧z3∧z2∧wad (decide ((99:Int)<maxV z5 (n - 1))) z0 (z8∧(0<n∧1=1)∧((0:Int)≤v 0∧v 0<(100:Int))∧z8∧(0<n∧1=1)∧wad (decide (v 0<(10:Int))) (List.length ([(48:UInt8)])+List.length (decF (v 0))≤9223372036854775807∧z7∧(TEq [(4,.str ([(48:UInt8)]++decF (v 0))),(36,.sub 0 1 1 z6),(37,.int .i64 (↑z6:Int)),(38,.int .i64 0)] z4∧wae z1 z1)∧wbn n v=true∧z2∧∃ (O':List (Nat×AObj)),wae z1 O'∧R (.tuple [.str (fmtZ n v),.int .i64 0]) O') (z7∧(TEq [(4,.str (decF (v 0))),(36,.sub 0 1 1 z6),(37,.int .i64 (↑z6:Int)),(38,.int .i64 0)] z4∧wae z1 z1)∧wbn n v=true∧z2∧∃ (O':List (Nat×AObj)),wae z1 O'∧R (.tuple [.str (fmtZ n v),.int .i64 0]) O')))))):=by kernel_rfl
theorem wzx (n:Nat) (v:Nat→Int) (k:Nat) (P:Nat→Prop) (R:Exit→St→Prop):wa2 ⟨te,[(133,.det whb)],[],1,49,0⟩ (wa3 Tryz.f244 7) [4,36,37,38] [4] [] (wmw n v) P R (wmw n v k)=(letI z1:=(v (1+Int.toNat (↑k:Int)));letI z0:=([(0,.row 3 1 n (fun (i:Nat)=>[.int .i64 (v i)]) false)]:List (Nat×AObj));wad (decide ((↑k:Int)<(↑(n - 1):Int))) (((0:Int)≤(↑k:Int)∧(↑k:Int)<(↑(n - 1):Int)∧1=1)∧(1+Int.toNat (↑k:Int)<n∧1=1)∧((0:Int)≤v (1+Int.toNat (↑k:Int))∧v (1+Int.toNat (↑k:Int))<(100:Int))∧List.length ([(46:UInt8)])+List.length (decF z1)≤9223372036854775807∧List.length (wdm (v 0)++wcr v k)+List.length ([(46:UInt8)]++decF z1)≤9223372036854775807∧inR .i64 ((↑k:Int)+(1:Int))∧∃ (i':Nat),(TEq [(4,.str (wdm (v 0)++wcr v k++([(46:UInt8)]++decF z1))),(36,.sub 0 1 1 (n - 1)),(37,.int .i64 (↑(n - 1):Int)),(38,.int .i64 ((↑k:Int)+(1:Int)))] [(4,.str (wdm (v 0)++wcr v i')),(36,.sub 0 1 1 (n - 1)),(37,.int .i64 (↑(n - 1):Int)),(38,.int .i64 (↑i':Int))]∧wae z0 z0)∧P i') ((∀ (i:Nat),i<n→true=true)∧∃ (O':List (Nat×AObj)),wae z0 O'∧R (.exit 0) (St.mk [(4,.str (wdm (v 0)++wcr v k))] O' 1 []))):=by kernel_rfl
variable {C:Ctx} [C.Loose]
theorem w0v (hP:C.P=Tryz.prog) (n:Nat) (v:Nat→Int):waj C 1 25 (wam Tryz.f260 5) (L_mm n v (minV v)):=by
 have _:C.Loose:=inferInstance
 rintro st Q ⟨h0,hn,hn2,hQ⟩
 refine waj.mk (prg hP) [] 0 .nil [0,3,4] [3] [] (wgb n v (minV v)) (fun k=>k+1≤n) (fun k=>n - k) 0 hn h0 (fun k hk=>?_) (fun i=>⟨fun _ _=>rfl,trivial⟩)
 rw [wzg]
 refine wak (fun h=>?_) (fun h=>⟨fun _ _=>rfl,_,wb6,?_⟩)
 ·have e:((k:Int)+1).toNat=k+1:=by omega
  simp only [inR,e,and_true]
  exact ⟨by omega,by omega,by omega,k+1,⟨rfl,wb6⟩,by omega,by omega⟩
 ·have:k=n - 1:=by omega
  rw [this];exact hQ
theorem w0w (hP:C.P=Tryz.prog) (n:Nat) (v:Nat→Int):waj C 1 25 (wam Tryz.f261 5) (L_mm n v (maxV v)):=by
 have _:C.Loose:=inferInstance
 rintro st Q ⟨h0,hn,hn2,hQ⟩
 refine waj.mk (prg hP) [] 0 .nil [0,3,4] [3] [] (wgb n v (maxV v)) (fun k=>k+1≤n) (fun k=>n - k) 0 hn h0 (fun k hk=>?_) (fun i=>⟨fun _ _=>rfl,trivial⟩)
 rw [wzh]
 refine wak (fun h=>?_) (fun h=>⟨fun _ _=>rfl,_,wb6,?_⟩)
 ·have e:((k:Int)+1).toNat=k+1:=by omega
  simp only [inR,e,and_true]
  exact ⟨by omega,by omega,by omega,k+1,⟨rfl,wb6⟩,by omega,by omega⟩
 ·have:k=n - 1:=by omega
  rw [this];exact hQ
theorem min_ok (hP:C.P=Tryz.prog):waf C 260 wma:=by
 rintro args objs U Os vc h hvc
 unfold wma at h
 split at h<;>simp only [Option.some.injEq,Prod.mk.injEq,reduceCtorEq] at h
 rename_i n t m f fr
 obtain ⟨rfl,rfl,rfl⟩:=h
 obtain ⟨rfl,rfl,hn,rfl,hn2,hf⟩:=hvc
 generalize vInt f=v at hf
 subst hf
 refine waf.wpL (prg hP) [] [(5,L_mm n v (minV v)),(1002,fun _ _=>False)] 0 .nil (hP ▸ Tryz.func260) rfl rfl rfl
  [(regC Tryz.f260 2,fun _ _=>False),(wam Tryz.f260 5,L_mm n v (minV v))] (by kernel_rfl) ⟨fun _ _ h=>h.elim,w0v hP n v,trivial⟩ ?_
 show wpFn _ _ _ _ _ _ [.row _ _ _ (fun i=>[.int .i64 (v i)]) _] _
 rw [nf_min]
 exact wak (fun h=>absurd h (by omega)) (fun _=>⟨by omega,by omega,⟨rfl,wb6⟩,hn,hn2,fun _ _=>rfl,_,wb6,rfl,rfl⟩)
theorem max_ok (hP:C.P=Tryz.prog):waf C 261 wmb:=by
 rintro args objs U Os vc h hvc
 unfold wmb at h
 split at h<;>simp only [Option.some.injEq,Prod.mk.injEq,reduceCtorEq] at h
 rename_i n t m f fr
 obtain ⟨rfl,rfl,rfl⟩:=h
 obtain ⟨rfl,rfl,hn,rfl,hn2,hf⟩:=hvc
 generalize vInt f=v at hf
 subst hf
 refine waf.wpL (prg hP) [] [(5,L_mm n v (maxV v)),(1002,fun _ _=>False)] 0 .nil (hP ▸ Tryz.func261) rfl rfl rfl
  [(regC Tryz.f261 2,fun _ _=>False),(wam Tryz.f261 5,L_mm n v (maxV v))] (by kernel_rfl) ⟨fun _ _ h=>h.elim,w0w hP n v,trivial⟩ ?_
 show wpFn _ _ _ _ _ _ [.row _ _ _ (fun i=>[.int .i64 (v i)]) _] _
 rw [nf_max]
 exact wak (fun h=>absurd h (by omega)) (fun _=>⟨by omega,by omega,⟨rfl,wb6⟩,hn,hn2,fun _ _=>rfl,_,wb6,rfl,rfl⟩)
theorem wt7 (hP:C.P=Tryz.prog):waf C 133 whb:=by
 rintro args objs U Os vc h hvc
 unfold whb at h
 split at h<;>simp only [Option.some.injEq,Prod.mk.injEq,reduceCtorEq] at h
 rename_i n
 obtain ⟨rfl,rfl,rfl⟩:=h
 obtain ⟨i,rfl⟩:∃ i:Nat,n=i:=⟨n.toNat,by omega⟩
 refine wal.below ⟨Tryz.f133,hP ▸ Tryz.func133,rfl,by decide⟩ fun w M cargs _ _ hM hl hv=>?_
 obtain ⟨a,rfl⟩:=mem1 hl
 have:=(hv 0 _ _ rfl rfl).int_iff
 subst this
 rw [hP]
 refine (Tryz.strconv_Itoa_small i (by omega) w).mono ?_
 rintro e w' ⟨rfl,rfl⟩
 exact ⟨_,rfl,Below.refl _ _,.str (by simp [decF])⟩
theorem w16 (hP:C.P=Tryz.prog) (n:Nat) (v:Nat→Int):waj C 1 49 (wam Tryz.f244 7) (wog n v):=by
 rintro st Q ⟨h0,hok,hQ⟩
 have hv:=wuv hok
 have hn:=fmtOK_n hok
 refine waj.mk (prg hP) [(133,.det whb)] 0 (.cons (wt7 hP) .nil) [4,36,37,38] [4] [] (wmw n v) (fun k=>k≤n - 1) (fun k=>n - k) 0 (Nat.zero_le _) h0 (fun k hk=>?_) (fun i=>⟨fun _ _=>rfl,trivial⟩)
 rw [wzx]
 have hl1:=w17 (hv 0 (by omega))
 have hl2:=wuu (n:=n) (fun i hi=>hv i hi) k (by omega)
 refine wak (fun h=>?_) (fun h=>⟨fun _ _=>rfl,_,wb6,?_⟩)
 ·have hlt:k<n - 1:=by omega
  have e:1+(k:Int).toNat=k+1:=by omega
  have hk1:=hv (k+1) (by omega)
  have hl3:=wky hk1
  simp only [inR,e,and_true,List.length_append,List.length_cons,List.length_nil]
  refine ⟨by omega,by omega,by omega,by omega,by omega,by omega,k+1,⟨?_,wb6⟩,by omega,by omega⟩
  unfold TEq
  rw [show wcr v (k+1)=wcr v k++(46::decF (v (k+1))) from rfl]
  simp
 ·have:k=n - 1:=by omega
  rw [this];exact hQ
theorem w15 (hP:C.P=Tryz.prog):waf C 244 wmu:=by
 rintro args objs U Os vc h hvc
 unfold wmu at h
 split at h<;>simp only [Option.some.injEq,Prod.mk.injEq,reduceCtorEq] at h
 rename_i n t m f fr
 obtain ⟨rfl,rfl,rfl⟩:=h
 obtain ⟨rfl,rfl,rfl,hn2,hf⟩:=hvc
 generalize vInt f=v at hf
 subst hf
 refine waf.wpL (prg hP) [(260,.det wma),(261,.det wmb),(133,.det whb)] [(7,wog n v)] 0 (.cons (min_ok hP) (.cons (max_ok hP) (.cons (wt7 hP) .nil))) (hP ▸ Tryz.func244) rfl rfl rfl
  [(wam Tryz.f244 7,wog n v)] (by kernel_rfl) ⟨w16 hP n v,trivial⟩ ?_
 show wpFn _ _ _ _ _ _ [.row _ _ _ (fun i=>[.int .i64 (v i)]) _] _
 rw [wzy]
 have hvi:(vInt fun i=>[AV.int .i64 (v i)])=v:=rfl
 rw [hvi]
 have bad:wbn n v=false→(AV.tuple [.str [],.int .i64 64]= .tuple [.str (bif wbn n v then fmtZ n v else []),.int .i64 (bif wbn n v then 0 else 64)]):=fun h=>by rw [h];rfl
 have good:wbn n v=true→(AV.tuple [.str (fmtZ n v),.int .i64 0]= .tuple [.str (bif wbn n v then fmtZ n v else []),.int .i64 (bif wbn n v then 0 else 64)]):=fun h=>by rw [h];rfl
 refine wak (fun h1=>⟨fun _ _=>rfl,_,wb6,bad ?_,rfl⟩) (fun h1=>wak (fun h2=>⟨fun _ _=>rfl,_,wb6,bad ?_,rfl⟩) (fun h2=>⟨fun _ _=>rfl,⟨rfl,rfl,by omega,rfl,hn2,rfl⟩,fun _ _=>rfl,
  wak (fun h3=>⟨fun _ _=>rfl,_,wb6,bad ?_,rfl⟩) (fun h3=>⟨fun _ _=>rfl,⟨rfl,rfl,by omega,rfl,hn2,rfl⟩,fun _ _=>rfl,wak (fun h4=>⟨fun _ _=>rfl,_,wb6,bad ?_,rfl⟩) (fun h4=>?_)⟩)⟩))
 ·unfold wbn;rw [decide_eq_false (p:=1≤n) (by omega)];rfl
 ·unfold wbn;rw [decide_eq_false (p:=n≤5) (by omega)];simp
 ·unfold wbn;rw [decide_eq_false (p:=1≤minV v (n - 1)) (by omega)];simp
 ·unfold wbn;rw [decide_eq_false (p:=maxV v (n - 1)≤99) (by omega)];simp
 ·have hok:wbn n v=true:=by
   unfold wbn
   rw [decide_eq_true (p:=1≤n) (by omega),decide_eq_true (p:=n≤5) (by omega),decide_eq_true (p:=1≤minV v (n - 1)) (by omega),decide_eq_true (p:=maxV v (n - 1)≤99) (by omega)];rfl
  have hv:=wuv hok 0 (by omega)
  have hl3:=wky hv
  refine ⟨by omega,⟨by omega,rfl⟩,by omega,by omega,⟨by omega,rfl⟩,wak (fun h5=>⟨by simp only [List.length_cons,List.length_nil];omega,by omega,⟨?_,wb6⟩,hok,fun _ _=>rfl,_,wb6,good hok,rfl⟩) (fun h5=>⟨by omega,⟨?_,wb6⟩,hok,fun _ _=>rfl,_,wb6,good hok,rfl⟩)⟩
  ·unfold TEq wdm
   rw [decide_eq_true h5]
   simp [wcr]
  ·unfold TEq wdm
   rw [decide_eq_false h5]
   simp [wcr]
theorem wy2 (s:List UInt8) (R:AV→List (Nat×AObj)→Prop):wpFn te [(242,.det wlr),(244,.det wmu)] [(3,wnw s)] 0 Tryz.f227 [.str s] [] R=(letI z2:=(∀ (i:Nat),i<List.length (words s)→true=true:Prop);letI z1:=(vInt fun (i:Nat)=>[.int .i64 (wcc s i)]);letI z0:=List.length (words s);(List.length s<4294967281∧[(46:UInt8)]=[(46:UInt8)])∧(TEq [(0,.str s),(4,.own 0 0),(12,.view 1 z0 fun (i:Nat)=>[.str (List.getD (words s) i [])]),(13,.int .i64 (↑z0:Int)),(14,.int .i64 0)] [(0,.str s),(4,.own 0 0),(12,.view 1 z0 fun (i:Nat)=>[.str (List.getD (words s) i [])]),(13,.int .i64 (↑z0:Int)),(14,.int .i64 (↑0:Int))]∧wae [(0,.row 3 1 0 (fun (_x:Nat)=>[]) false)] [(0,.row 3 1 0 (fun (i:Nat)=>[.int .i64 (wcc s i)]) false)])∧List.length s<4294967281∧z2∧(3=3∧false=false∧List.length (words s)=List.length (words s)∧List.length (words s)≤4611686018427387904∧(fun (i:Nat)=>[.int .i64 (wcc s i)])=waa z1)∧z2∧wad (!decide ((bif wbn z0 z1 then (0:Int) else (64:Int))=(0:Int))) (R (.tuple [.nil,.int .i64 60]) []) (wad (!decide ((bif wbn z0 z1 then fmtZ z0 z1 else [])=s)) (R (.tuple [.nil,.int .i64 60]) []) (z2∧∃ (O':List (Nat×AObj)),wae [(0,.row 3 1 z0 (fun (i:Nat)=>[.int .i64 (wcc s i)]) false)] O'∧R (.tuple [.own 0 z0,.int .i64 0]) O'))):=by kernel_rfl
theorem wy1 (s:List UInt8) (k:Nat) (P:Nat→Prop) (R:Exit→St→Prop):wa2 ⟨te,[(243,.det wnb)],[],0,41,0⟩ (wa3 Tryz.f227 3) [0,4,12,13,14] [0,4] [] (wlz s) P R (wlz s k)=(letI z2:=(List.getD (words s) (Int.toNat (↑k:Int)) []);letI z1:=TI.mk (TypeDesc.int IntKind.i64) 1 8 (Value.int IntKind.i64 0) false;letI z0:=List.length (words s);wad (decide ((↑k:Int)<(↑z0:Int))) (((0:Int)≤(↑k:Int)∧(↑k:Int)<(↑z0:Int)∧1=1)∧List.length z2≤281474976710656∧(1≤16777216∧1=1∧1≤9223372036854775807)∧((1≤1∧1=1)∧k≤k∧1=1∧3=3∧1=1∧k+1≤9223372036854775807∧(k+1) * TI.bytes z1≤140737488355328)∧inR .i64 ((↑k:Int)+(1:Int))∧∃ (i':Nat),(TEq [(0,.str s),(4,.own 0 (k+1)),(12,.view 1 z0 fun (i:Nat)=>[.str (List.getD (words s) i [])]),(13,.int .i64 (↑z0:Int)),(14,.int .i64 ((↑k:Int)+(1:Int)))] [(0,.str s),(4,.own 0 i'),(12,.view 1 z0 fun (i:Nat)=>[.str (List.getD (words s) i [])]),(13,.int .i64 (↑z0:Int)),(14,.int .i64 (↑i':Int))]∧wae [(0,.row 3 1 (k+1) (apF k (fun (i:Nat)=>[.int .i64 (wcc s i)]) (waq (TI.sz z1) (.int .i64 (wi3 z2)::List.append [] wbw))) false)] [(0,.row 3 1 i' (fun (i:Nat)=>[.int .i64 (wcc s i)]) false)])∧P i') ((∀ (i:Nat),i<k→true=true)∧∃ (O':List (Nat×AObj)),wae [(0,.row 3 1 k (fun (i:Nat)=>[.int .i64 (wcc s i)]) false)] O'∧R (.exit 0) (St.mk [(0,.str s),(4,.own 0 k)] O' 1 []))):=by kernel_rfl
variable {C:Ctx} [C.Loose]
theorem ww7 (hP:C.P=Tryz.prog) (hL:∀ w,C.laid w→LaidW w):waf C 242 wlr:=by
 rintro args objs U Os vc h hvc
 unfold wlr at h
 split at h<;>simp only [Option.some.injEq,Prod.mk.injEq,reduceCtorEq] at h
 rename_i s sep
 obtain ⟨rfl,rfl,rfl⟩:=h
 obtain ⟨hs,rfl⟩:=hvc
 refine wal.below ⟨Tryz.f242,hP ▸ Tryz.func242,rfl,by decide⟩ fun w M cargs hlaid _ hM hl hv=>?_
 obtain ⟨m,hm⟩:=(hL w hlaid).maxLen
 obtain ⟨a,b,rfl⟩:=mem2 hl
 have e1:=(hv 0 _ _ rfl rfl).str_iff
 have e2:=(hv 1 _ _ rfl rfl).str_iff
 subst e1;subst e2
 rw [hP]
 refine (Tryz.strings_Split ⟨s.toArray⟩ ⟨#[46]⟩ m w (by simpa [ByteArray.size] using hs) hm (by decide)).mono ?_
 rintro e w' ⟨rfl,rfl⟩
 have hd:=Lib.splitB_data ⟨#[46]⟩ 0 (Lib.countB ⟨s.toArray⟩ ⟨#[46]⟩) ⟨s.toArray⟩
 have hw:(Lib.splitB ⟨#[46]⟩ 0 (Lib.countB ⟨s.toArray⟩ ⟨#[46]⟩) ⟨s.toArray⟩).map (·.data.toList)=words s:=by
  rw [hd]
  simp [words,Lib.split]
 have hlen:(Lib.splitB ⟨#[46]⟩ 0 (Lib.countB ⟨s.toArray⟩ ⟨#[46]⟩) ⟨s.toArray⟩).length=(words s).length:=by rw [← hw];simp
 have hcnt:Lib.countB ⟨s.toArray⟩ ⟨#[46]⟩+1=(words s).length:=by
  rw [whp]
 refine ⟨_,rfl,(Below.refl _ _).alloc (Nat.le_refl _) _,?_⟩
 rw [hcnt]
 have hle:=Lib.count_le s [46]
 refine V.newview hM (by simp [hlen]) (by rw [whp];unfold maxLen;omega) (fun i v hv=>?_) (fun i v hv=>?_)
 ·rw [List.getElem?_toArray,List.getElem?_map] at hv
  obtain ⟨x,_,rfl⟩:=Option.map_eq_some_iff.1 hv
  exact rfl
 ·simp at hv
  obtain ⟨x,hx,rfl⟩:=hv
  refine ⟨_,rfl,.str ?_⟩
  have:(words s)[i]?=some x.data.toList:=by rw [← hw];simp [hx]
  simp [List.getD,this]
theorem atoi_ok (hP:C.P=Tryz.prog) (hL:∀ w,C.laid w→LaidW w):waf C 243 wnb:=by
 rintro args objs U Os vc h hvc
 unfold wnb at h
 split at h<;>simp only [Option.some.injEq,Prod.mk.injEq,reduceCtorEq] at h
 rename_i s
 obtain ⟨rfl,rfl,rfl⟩:=h
 refine wal.below ⟨Tryz.f243,hP ▸ Tryz.func243,rfl,by decide⟩ fun w M cargs hlaid _ hM hl hv=>?_
 obtain ⟨a,rfl⟩:=mem1 hl
 have e1:=(hv 0 _ _ rfl rfl).str_iff
 subst e1
 rw [hP]
 have hsz:(⟨s.toArray⟩:ByteArray).size=s.length:=by simp [ByteArray.size]
 have hdt:(⟨s.toArray⟩:ByteArray).data.toList=s:=by simp
 have tup:∀ (w':World) (n:Int) (e:Value),V w' M nob (.tuple #[.int .i64 n,e]) (.tuple [.int .i64 n,.any]):=fun w' n e=>.tuple rfl fun j v u hv hu=>by
  match j with
  |0=>simp at hv hu;subst hv;subst hu;exact .int
  |1=>simp at hv hu;subst hv;subst hu;exact .any
  |j+2=>simp at hv
 unfold wi3
 cases hh:Lib.atoiAll s with
 |ok v=>
  refine (Tryz.strconv_Atoi_ok ⟨s.toArray⟩ (by omega) v (by rw [hdt];exact hh) w).mono ?_
  rintro e w' ⟨rfl,hw⟩
  refine ⟨_,rfl,?_,tup _ _ _⟩
  rcases hw with rfl | ⟨t,rfl⟩
  ·exact Below.refl _ _
  ·exact Lib.bytesWorld_below _ _ _
 |range=>
  obtain ⟨t,p,he⟩:=(hL w hlaid).errR
  refine (Any.strconv_Atoi_range Tryz.laysC172 ⟨s.toArray⟩ (by omega) (by rw [hdt];exact hh) _ w he (.inr ⟨t,p,rfl⟩)).mono ?_
  rintro e w' ⟨N,rfl,_,_,hb⟩
  rw [hdt]
  exact ⟨_,rfl,hb,tup _ _ _⟩
 |_=>
  obtain ⟨t,p,he⟩:=(hL w hlaid).errS
  refine (Any.strconv_Atoi_syntax Tryz.laysC172 ⟨s.toArray⟩ (by omega) (by rw [hdt];exact hh) _ w he (.inr ⟨t,p,rfl⟩)).mono ?_
  rintro e w' ⟨N,rfl,_,_,hb⟩
  exact ⟨_,rfl,hb,tup _ _ _⟩
theorem wxx (hP:C.P=Tryz.prog) (hL:∀ w,C.laid w→LaidW w) (s:List UInt8):waj C 0 41 (wam Tryz.f227 3) (wnw s):=by
 rintro st Q ⟨h0,hs,hQ⟩
 refine AWP.ownNil 4 3 1 ?_
 have hwl:(words s).length≤s.length+2:=by
  have:=Lib.count_le s [46]
  rw [whp];omega
 refine waj.mk (prg hP) [(243,.det wnb)] 0 (.cons (atoi_ok hP hL) .nil) [0,4,12,13,14] [0,4] [] (wlz s) (fun k=>k≤(words s).length) (fun k=>(words s).length - k) 0 (Nat.zero_le _) h0 (fun k hk=>?_) (fun i=>⟨fun _ _=>rfl,trivial⟩)
 rw [wy1]
 refine wak (fun h=>?_) (fun h=>⟨fun _ _=>rfl,_,wb6,?_⟩)
 ·have hlt:k<(words s).length:=by omega
  have hlw:((words s).getD k []).length≤s.length:=by
   have:=wwm s ((words s).getD k []) (by simp [List.getD,hlt])
   exact this
  have hrow:∀ i,i<k+1→apF k (fun i=>[AV.int .i64 (wcc s i)]) (waq 1 [.int .i64 (wi3 ((words s).getD k []))]) i=[.int .i64 (wcc s i)]:=by
   intro i hi
   unfold apF
   split
   ·rfl
   ·have:i=k:=by omega
    subst this
    rw [Nat.sub_self];rfl
  simp only [inR,Int.toNat_natCast]
  and_intros
  any_goals omega
  any_goals (simp;done)
  exact ⟨k+1,⟨rfl,⟨rfl,rfl,rfl,rfl,rfl,hrow⟩,trivial⟩,by omega,by omega⟩
 ·have:k=(words s).length:=by omega
  rw [this] at *
  exact hQ
theorem wxw (hP:C.P=Tryz.prog) (hL:∀ w,C.laid w→LaidW w):wa7 C 227 wni:=by
 rintro args objs R h
 unfold wni at h
 split at h
 ·rename_i s
  obtain ⟨hs,hR⟩:=h
  have hR:=wcb hR
  refine wa7.wpL (prg hP) [(242,.det wlr),(244,.det wmu)] [(3,wnw s)] 0 (.cons (ww7 hP hL) (.cons (w15 hP) .nil)) (hP ▸ Tryz.func227) rfl rfl rfl
   [(wam Tryz.f227 3,wnw s)] (by kernel_rfl) ⟨wxx hP hL s,trivial⟩ ?_
  rw [wy2]
  have hvi:(vInt fun i=>[AV.int .i64 (wcc s i)])=wcc s:=rfl
  rw [hvi]
  have hwl:(words s).length≤s.length+2:=by
   have:=Lib.count_le s [46]
   rw [whp];omega
  refine ⟨⟨hs,rfl⟩,⟨rfl,⟨rfl,rfl,rfl,rfl,rfl,fun i hi=>by omega⟩,trivial⟩,hs,fun _ _=>rfl,⟨rfl,rfl,rfl,by omega,rfl⟩,fun _ _=>rfl,?_⟩
  cases hok:wbn (words s).length (wcc s) with
  |false=>exact hR.2 (by unfold wdv;rw [hok];rfl)
  |true=>
   have e0:(!decide ((bif true then (0:Int) else 64)=0))=false:=rfl
   rw [e0]
   show wad (!decide (fmtZ (words s).length (wcc s)=s)) _ _
   refine wca (fun h1=>hR.2 ?_) (fun h1=>⟨fun _ _=>rfl,_,wb6,hR.1 ?_⟩)
   ·unfold wdv;rw [hok,decide_eq_false h1];rfl
   ·unfold wdv;rw [hok];exact decide_eq_true h1
 ·exact h.elim
end Go.Eng
namespace Go.Eng
open Go.Proofs Go.RowKit
variable {C:Ctx} [C.Loose]
set_option maxRecDepth 20000
theorem wzj (s:List UInt8) (R:AV→List (Nat×AObj)→Prop):wpFn te [(227,.rel wni)] [] 0 Tryz.f198 [.str s] [] R=(List.length s<4294967281∧wad (wdv s) ((∀ (i:Nat),i<List.length (words s)→true=true)∧R (.int .i64 (↑(List.length (words s)):Int)) []) (wad (!decide (s=[])) (R (.int .i64 (-1:Int)) []) (R (.int .i64 0) []))):=by kernel_rfl
theorem w05 (hP:C.P=Tryz.prog) (hL:∀ w,C.laid w→LaidW w):waf C 198 wmc:=by
 rintro args objs U Os vc h hvc
 unfold wmc at h
 split at h<;>simp only [Option.some.injEq,Prod.mk.injEq,reduceCtorEq] at h
 rename_i s
 obtain ⟨rfl,rfl,rfl⟩:=h
 refine waf.wp0 (prg hP) [(227,.rel wni)] 0 (.cons (wxw hP hL) .nil) (hP ▸ Tryz.func198) rfl rfl rfl ?_
 rw [wzj]
 refine ⟨hvc,waz (fun h=>⟨fun _ _=>rfl,?_,rfl⟩) (fun h=>wca (fun h'=>⟨?_,rfl⟩) (fun h'=>⟨?_,rfl⟩))⟩
 ·unfold wfx;rw [h]
 ·unfold wfx;rw [h,decide_eq_false h']
 ·unfold wfx;rw [h,decide_eq_true h']
end Go.Eng
namespace Go.Eng
open Go.Proofs Go.RowKit
set_option maxRecDepth 20000
theorem nf_qty (d c a:Int) (R:AV→List (Nat×AObj)→Prop):wpFn te [] [] 0 Tryz.f200 [.agg [.int .i64 d,.int .i64 c,.int .i64 a]] [] R=(wad (decide (d<(1:Int))) (R (.int .i64 80) []) (wad (decide ((4:Int)<d)) (R (.int .i64 80) []) (wad (decide (c<(1:Int))) (R (.int .i64 81) []) (wad (decide ((100:Int)<c)) (R (.int .i64 81) []) (wad (decide (a<(1:Int))) (R (.int .i64 82) []) ((c≠(0:Int)∧inR .i64 (Int.tdiv (1099511627776:Int) c))∧wad (decide (Int.tdiv (1099511627776:Int) c<a)) (R (.int .i64 82) []) (R (.int .i64 0) []))))))):=by kernel_rfl
variable {C:Ctx} [C.Loose]
theorem qty_ok (hP:C.P=Tryz.prog):waf C 200 wly:=by
 have _:C.Loose:=inferInstance
 rintro args objs U Os vc h hvc
 unfold wly at h
 split at h<;>simp only [Option.some.injEq,Prod.mk.injEq,reduceCtorEq] at h
 rename_i d c a
 obtain ⟨rfl,rfl,rfl⟩:=h
 refine waf.wp0 (prg hP) [] 0 .nil (hP ▸ Tryz.func200) rfl rfl rfl ?_
 rw [nf_qty]
 refine waz (fun h1=>?_) (fun h1=>waz (fun h2=>?_) (fun h2=>waz (fun h3=>?_) (fun h3=>waz (fun h4=>?_) (fun h4=>waz (fun h5=>?_) (fun h5=>⟨wxq (of_decide_eq_false h3) (of_decide_eq_false h4),waz (fun h6=>?_) (fun h6=>?_)⟩)))))
 all_goals simp only [qtyF, *,cond_true,cond_false,and_self]
theorem wzp (s:List UInt8) (r:Int) (R:AV→List (Nat×AObj)→Prop):wpFn te [(266,.det whc),(267,.det wli)] [(38,woa s),(5,wn9 s (Utf8.encode r).data.toList),(25,fun _ _=>False)] 0 Tryz.f253 [.str s,.int .i32 r] [] R=(letI z3:=St.mk [(0,.str s),(175,.ptr 0 0)] [(0,.siter s 0)] 1 [];letI z1:=Array.toList (ByteArray.data (Utf8.encode r));letI z4:=(↑(List.length z1):Int);letI z2:=(St.mk [(0,.str s),(7,.str z1),(8,.int .i64 (z4 - (1:Int))),(9,.int .i64 (z4 - (1:Int)))] [] 0 []);letI z0:=(wad (decide (r=(65533:Int))) (some z3=some z3∧ascii s=true∧R (.int .i64 (-1:Int)) []) (True∧wad (!Lib.validRune r) (R (.int .i64 (-1:Int)) []) (True∧inR .i64 (z4 - (1:Int))∧some z2=some z2∧ascii s=true∧List.length s≤1000000∧2≤List.length z1∧List.length z1≤4∧128≤UInt8.toNat (List.getD z1 (List.length z1 - 1) (0:UInt8))∧R (.int .i64 (-1:Int)) []∧R (.int .i64 (-1:Int)) [])));wad (decide ((0:Int)≤r)) (wad (decide (r<(128:Int))) (inR .u8 r∧True∧R (.int .i64 (Lib.indexByte s (Nat.toUInt8 (Int.toNat r)))) []) z0) z0):=by kernel_rfl
theorem wzo (s:List UInt8) (k:Nat) (P:Nat→Prop) (R:Exit→St→Prop):wa2 ⟨te,[],[],0,187,0⟩ (wa3 Tryz.f253 38) [0,175] [] [4] (wmi s) P R (wmi s k)=(wad (decide (k<List.length s)) (True∧wad (decide ((↑(Prod.fst (wbs s k)):Int)=(65533:Int))) (R .ret (St.mk [(4,.int .i64 (↑k:Int))] [] 0 [])) (∃ (i':Nat),some (St.mk [(0,.str s),(175,.ptr 0 0)] [(0,.siter s (k+Prod.snd (wbs s k)))] 1 [])=some (St.mk [(0,.str s),(175,.ptr 0 0)] [(0,.siter s i')] 1 [])∧P i')) (True∧R (.exit 9) (St.mk [] [] 0 []))):=by kernel_rfl
theorem wzn (s e:List UInt8) (P:Unit→Prop) (R:Exit→St→Prop):wa2 ⟨te,[(266,.det whc)],[(12,fun _ _=>False),(1015,fun _ _=>False),(1016,fun _ _=>False)],0,187,0⟩ (wa3 Tryz.f253 5) [0,7,8,9] [] [4] (fun _=>wmh s e) P R (wmh s e)=(letI z5:=(↑(List.length s):Int);letI z0:=(↑(List.length e):Int);letI z4:=((0:Int)≤z0 - (1:Int)∧z0 - (1:Int)<z0:Prop);letI z3:=(List.drop (Int.toNat (z0 - (1:Int)+(1:Int))) s);letI z1:=(↑(UInt8.toNat (List.getD e (Int.toNat (z0 - (1:Int))) (0:UInt8))):Int);letI z2:=(Lib.indexByte z3 (Nat.toUInt8 (Int.toNat z1))+(1:Int));wad (decide (z0 - (1:Int)<z5)) (((0:Int)≤z0 - (1:Int)∧z0 - (1:Int)<z5)∧z4∧wad (!decide ((↑(UInt8.toNat (List.getD s (Int.toNat (z0 - (1:Int))) (0:UInt8))):Int)=z1)) (inR .i64 (z0 - (1:Int)+(1:Int))∧((0:Int)≤z0 - (1:Int)+(1:Int)∧z0 - (1:Int)+(1:Int)≤z5)∧z4∧True∧wad (decide (Lib.indexByte z3 (Nat.toUInt8 (Int.toNat z1))<(0:Int))) (R .ret (St.mk [(4,.int .i64 (-1:Int))] [] 0 [])) (inR .i64 z2∧inR .i64 (z0 - (1:Int)+z2)∧False)) False) (R (.exit 1) (St.mk [] [] 0 []))):=by kernel_rfl
theorem wz7 (s:List UInt8) (r:Int) (R:AV→List (Nat×AObj)→Prop):wpFn te [(253,.det wmj)] [] 0 Tryz.f231 [.str s,.int .i32 r] [] R=((ascii s=true∧List.length s≤1000000∧(0:Int)≤r∧r≤(1114111:Int))∧R (.bool (decide ((0:Int)≤wcm s r))) []):=by kernel_rfl
variable {C:Ctx} [C.Loose]
theorem wub (hP:C.P=Tryz.prog):waf C 266 whc:=by
 rintro args objs U Os vc h hvc
 unfold whc at h
 split at h<;>simp only [Option.some.injEq,Prod.mk.injEq,reduceCtorEq] at h
 rename_i s c
 obtain ⟨rfl,rfl,rfl⟩:=h
 refine wal.below ⟨Tryz.f266,hP ▸ Tryz.func266,rfl,by decide⟩ fun w M cargs _ _ hM hl hv=>?_
 obtain ⟨a,b,rfl⟩:=mem2 hl
 have e1:=(hv 0 _ _ rfl rfl).str_iff
 have e2:=(hv 1 _ _ rfl rfl).int_iff
 subst e1;subst e2
 rw [hP]
 refine (Tryz.strings_IndexByte ⟨s.toArray⟩ c w).mono ?_
 rintro e w' ⟨rfl,rfl⟩
 exact ⟨_,rfl,Below.refl _ _,.int⟩
theorem wws (hP:C.P=Tryz.prog):waf C 267 wli:=by
 rintro args objs U Os vc h hvc
 unfold wli at h
 split at h<;>simp only [Option.some.injEq,Prod.mk.injEq,reduceCtorEq] at h
 rename_i r
 obtain ⟨rfl,rfl,rfl⟩:=h
 refine wal.below ⟨Tryz.f267,hP ▸ Tryz.func267,rfl,by decide⟩ fun w M cargs _ _ hM hl hv=>?_
 obtain ⟨a,rfl⟩:=mem1 hl
 have e1:=(hv 0 _ _ rfl rfl).int_iff
 subst e1
 rw [hP]
 refine (Tryz.utf8_ValidRune r w).mono ?_
 rintro e w' ⟨rfl,rfl⟩
 exact ⟨_,rfl,Below.refl _ _,.bool⟩
theorem w1n (hP:C.P=Tryz.prog) (s:List UInt8):waj C 0 187 (wam Tryz.f253 38) (woa s):=by
 have _:C.Loose:=inferInstance
 rintro st Q ⟨h0,ha,hQ⟩
 refine waj.mk (prg hP) [] 0 .nil [0,175] [] [4] (wmi s) (fun k=>k≤s.length) (fun k=>s.length - k) 0 (Nat.zero_le _) h0 fun k hk=>?_
 rw [wzo]
 refine waz (fun h=>?_) (fun h=>⟨trivial,hQ⟩)
 have h:=of_decide_eq_true h
 have hlt:=wv9 ha h
 rw [wpa h hlt]
 refine ⟨trivial,waz (fun h'=>?_) (fun _=>⟨k+1,rfl,by omega,by omega⟩)⟩
 have h':=of_decide_eq_true h'
 simp only at h'
 omega
theorem w1m (hP:C.P=Tryz.prog) (s e:List UInt8):waj C 0 187 (wam Tryz.f253 5) (wn9 s e):=by
 rintro st Q ⟨h0,ha,hs,h2,h4,hl,hQ1,hQ2⟩
 refine waj.mkL (prg hP) [(266,.det whc)] [(12,fun _ _=>False),(1015,fun _ _=>False),(1016,fun _ _=>False)] 0 (.cons (wub hP) .nil)
  [(wam Tryz.f253 12,fun _ _=>False),(regC Tryz.f253 15,fun _ _=>False),(regC Tryz.f253 16,fun _ _=>False)] (by kernel_rfl)
  ⟨fun _ _ h=>h.elim,fun _ _ h=>h.elim,fun _ _ h=>h.elim,trivial⟩ [0,7,8,9] [] [4] (fun _:Unit=>wmh s e) (fun _=>True) (fun _=>0) () trivial h0 fun _ _=>?_
 rw [wzn]
 refine waz (fun h=>?_) (fun h=>hQ1)
 have h:=of_decide_eq_true h
 have e1:((e.length:Int) - 1).toNat=e.length - 1:=by omega
 have e2:((e.length:Int) - 1+1).toNat=e.length:=by omega
 have hlo:=wv9 ha (k:=e.length - 1) (by omega)
 simp only [e1,e2,inR]
 have hne:decide (((s.getD (e.length - 1) 0).toNat:Int)=((e.getD (e.length - 1) 0).toNat:Int))=false:=decide_eq_false (by omega)
 rw [hne]
 have hb:(e.getD (e.length - 1) 0).toNat<256:=(e.getD (e.length - 1) 0).toNat_lt
 have hneg:=w1u (w3r ha e.length) (c:=((e.getD (e.length - 1) 0).toNat:Int).toNat.toUInt8) (by rw [wrr];exact hl)
 refine ⟨by omega,by omega,by omega,by omega,by omega,trivial,?_⟩
 rw [hneg]
 exact hQ2
theorem w1r (hP:C.P=Tryz.prog):waf C 253 wmj:=by
 rintro args objs U Os vc h hvc
 unfold wmj at h
 split at h<;>simp only [Option.some.injEq,Prod.mk.injEq,reduceCtorEq] at h
 rename_i s r
 obtain ⟨rfl,rfl,rfl⟩:=h
 obtain ⟨ha,hs,h0,h1⟩:=hvc
 refine waf.wpL (prg hP) [(266,.det whc),(267,.det wli)] [(38,woa s),(5,wn9 s (Utf8.encode r).data.toList),(25,fun _ _=>False)] 0
  (.cons (wub hP) (.cons (wws hP) .nil)) (hP ▸ Tryz.func253) rfl rfl rfl
  [(wam Tryz.f253 38,woa s),(wam Tryz.f253 5,wn9 s (Utf8.encode r).data.toList),(wam Tryz.f253 25,fun _ _=>False)] (by kernel_rfl)
  ⟨w1n hP s,w1m hP s _,fun _ _ h=>h.elim,trivial⟩ ?_
 rw [wzp]
 refine waz (fun _=>waz (fun h=>?_) (fun h=>?_)) (fun h=>absurd h0 (of_decide_eq_false h))
 ·have h':=of_decide_eq_true h
  refine ⟨by simp only [inR];omega,trivial,?_,rfl⟩
  simp only [wcm,h]
 ·have h':=of_decide_eq_false h
  refine waz (fun _=>⟨rfl,ha,?_,rfl⟩) (fun _=>⟨trivial,waz (fun _=>⟨?_,rfl⟩) (fun hv=>?_)⟩)
  ·simp only [wcm,h]
  ·simp only [wcm,h]
  ·have hv:Lib.validRune r=true:=by simpa using hv
   obtain ⟨l1,l2,l3⟩:=w2i (by omega) hv
   refine ⟨trivial,by simp only [inR];omega,rfl,ha,hs,l1,l2,l3,⟨?_,rfl⟩,⟨?_,rfl⟩⟩
   ·simp only [wcm,h]
   ·simp only [wcm,h]
theorem w2v (hP:C.P=Tryz.prog):waf C 231 wm2:=by
 rintro args objs U Os vc h hvc
 unfold wm2 at h
 split at h<;>simp only [Option.some.injEq,Prod.mk.injEq,reduceCtorEq] at h
 rename_i s r
 obtain ⟨rfl,rfl,rfl⟩:=h
 refine waf.wp0 (prg hP) [(253,.det wmj)] 0 (.cons (w1r hP) .nil) (hP ▸ Tryz.func231) rfl rfl rfl ?_
 rw [wz7]
 exact ⟨hvc,rfl,rfl⟩
theorem wza (r:Int) (R:AV→List (Nat×AObj)→Prop):wpFn te [(231,.det wm2)] [] 0 Tryz.f230 [.int .i32 r] [] R=((true=true∧38≤1000000∧(0:Int)≤r∧r≤(1114111:Int))∧R (.bool !decide ((0:Int)≤wcm ([(97:UInt8),98,99,100,101,102,103,104,105,106,107,108,109,110,111,112,113,114,115,116,117,118,119,120,121,122,48,49,50,51,52,53,54,55,56,57,45,46]) r)) []):=by kernel_rfl
theorem wzr (s:List UInt8) (R:AV→List (Nat×AObj)→Prop):wpFn te [] [(2,wob s)] 0 Tryz.f265 [.str s,.func 230 [],.bool true] [] R=(letI z0:=St.mk [(1,.func 230 []),(2,.bool true),(10,.ptr 0 0)] [(0,.siter s 0)] 1 [];some z0=some z0∧wad (List.all s isNB) (R (.int .i64 (-1:Int)) []) (R (.int .i64 (↑(wdc s):Int)) [])):=by kernel_rfl
theorem wzq (s:List UInt8) (k:Nat) (P:Nat→Prop) (R:Exit→St→Prop):wa2 ⟨te,[(230,.det wl5)],[],0,21,0⟩ (wa3 Tryz.f265 2) [1,2,10] [] [6] (wmp s) P R (wmp s k)=(letI z1:=([(1,.func 230 []),(2,.bool true),(10,.ptr 0 0)]:List (Nat×AV));letI z0:=(↑(Prod.fst (wbs s k)):Int);wad (decide (k<List.length s)) (True∧((0:Int)≤z0∧z0≤(1114111:Int))∧wad (decide ((!decide ((0:Int)≤wcm we3 z0))=true)) (R .ret (St.mk [(6,.int .i64 (↑k:Int))] [] 0 [])) (∃ (i':Nat),some (St.mk z1 [(0,.siter s (k+Prod.snd (wbs s k)))] 1 [])=some (St.mk z1 [(0,.siter s i')] 1 [])∧P i')) (True∧R (.exit 0) (St.mk [] [] 0 []))):=by kernel_rfl
theorem w0g (s:List UInt8) (R:AV→List (Nat×AObj)→Prop):wpFn te [(265,.det wmk)] [] 0 Tryz.f252 [.str s,.func 230 []] [] R=(True∧R (.int .i64 (we9 s)) []):=by kernel_rfl
theorem w0h (s:List UInt8) (R:AV→List (Nat×AObj)→Prop):wpFn te [(252,.det wnc)] [] 0 Tryz.f229 [.str s,.func 230 []] [] R=(True∧R (.bool (decide ((0:Int)≤we9 s))) []):=by kernel_rfl
theorem nf_name (s:List UInt8) (R:AV→List (Nat×AObj)→Prop):wpFn te [(228,.det weu),(229,.det wnd)] [] 0 Tryz.f199 [.str s] [] R=(wad (!decide (s=[])) (wad (decide ((↑(List.length s):Int)≤(24:Int))) (((0:Int)≤(1:Int)∧(1:Int)≤(↑(List.length s):Int))∧(List.length (List.take (Int.toNat (1:Int)) s)≤9223372036854775807∧2≤36∧36<4294967281∧∀ (b:UInt8),b∈[(97:UInt8),98,99,100,101,102,103,104,105,106,107,108,109,110,111,112,113,114,115,116,117,118,119,120,121,122,48,49,50,51,52,53,54,55,56,57]→UInt8.toNat b<128)∧wad (decide (wex ([(97:UInt8),98,99,100,101,102,103,104,105,106,107,108,109,110,111,112,113,114,115,116,117,118,119,120,121,122,48,49,50,51,52,53,54,55,56,57]) (List.take (Int.toNat (1:Int)) s)=[])) (True∧R (.bool !!List.all s isNB) []) (R (.bool false) [])) (R (.bool false) [])) (R (.bool false) [])):=by kernel_rfl
variable {C:Ctx} [C.Loose]
theorem w0n (hP:C.P=Tryz.prog):waf C 230 wl5:=by
 rintro args objs U Os vc h hvc
 unfold wl5 at h
 split at h<;>simp only [Option.some.injEq,Prod.mk.injEq,reduceCtorEq] at h
 rename_i r
 obtain ⟨rfl,rfl,rfl⟩:=h
 refine waf.wp0 (prg hP) [(231,.det wm2)] 0 (.cons (w2v hP) .nil) (hP ▸ Tryz.func230) rfl rfl rfl ?_
 rw [wza]
 exact ⟨⟨rfl,by omega,hvc.1,hvc.2⟩,rfl,rfl⟩
theorem w1t (hP:C.P=Tryz.prog) (s:List UInt8):waj C 0 21 (wam Tryz.f265 2) (wob s):=by
 rintro st Q ⟨h0,hQ⟩
 have hQ:=wcb hQ
 refine waj.mk (prg hP) [(230,.det wl5)] 0 (.cons (w0n hP) .nil) [1,2,10] [] [6] (wmp s) (fun k=>k≤s.length∧∀ j,j<k→isNB (s.getD j 0)=true) (fun k=>s.length - k) 0 ⟨Nat.zero_le _,fun j h=>by omega⟩ h0 fun k ⟨hk,hall⟩=>?_
 rw [wzq]
 refine waz (fun h=>?_) (fun h=>⟨trivial,?_⟩)
 ·have h:=of_decide_eq_true h
  have hle:=wxj h
  refine ⟨trivial,⟨by omega,by omega⟩,?_⟩
  -- what the predicate says of the rune is what isNB says of the byte
  have key:(decide (0≤wcm we3 ((wbs s k).1:Int)))=isNB (s.getD k 0)∧(isNB (s.getD k 0)=true→(wbs s k).2=1):=by
   by_cases hlo:(s.getD k 0).toNat<128
   ·rw [wpa h hlo]
    exact ⟨w0j _ hlo,fun _=>rfl⟩
   ·have hh:=wsi h (by omega)
    have hn:isNB (s.getD k 0)=false:=by
     generalize s.getD k 0=b at *
     simp only [isNB,wf1,Bool.or_eq_false_iff,Bool.and_eq_false_imp,decide_eq_true_eq,decide_eq_false_iff_not]
     omega
    rw [w0k _ hh.1,hn]
    exact ⟨rfl,fun h=>by cases h⟩
  rw [key.1]
  refine waz (fun hb=>?_) (fun hb=>?_)
  ·have hb:isNB (s.getD k 0)=false:=by simpa using hb
   have hf:s.all isNB=false:=by
    cases ha:s.all isNB with
    |false=>rfl
    |true=>
     have:=List.all_eq_true.1 ha (s.getD k 0) (by simp [List.getD,h])
     rw [hb] at this;cases this
   obtain ⟨b1,b2,b3⟩:=w3o hf
   have:wdc s=k:=by
    rcases Nat.lt_trichotomy (wdc s) k with hl | hl | hl
    ·rw [hall _ hl] at b2;cases b2
    ·exact hl
    ·rw [b3 k hl] at hb;cases hb
   have hq:=hQ.2 hf
   rw [this] at hq
   exact hq
  ·have hb:isNB (s.getD k 0)=true:=by simpa using hb
   rw [key.2 hb]
   refine ⟨k+1,rfl,⟨by omega,fun j hj=>?_⟩,by omega⟩
   rcases Nat.lt_succ_iff_lt_or_eq.1 hj with hj | rfl
   ·exact hall j hj
   ·exact hb
 ·have h:=of_decide_eq_false h
  refine hQ.1 (List.all_eq_true.2 fun b hb=>?_)
  obtain ⟨j,hj,rfl⟩:=List.getElem_of_mem hb
  have:=hall j (by omega)
  simpa [List.getD,hj] using this
theorem w1s (hP:C.P=Tryz.prog):waf C 265 wmk:=by
 rintro args objs U Os vc h hvc
 unfold wmk at h
 split at h<;>simp only [Option.some.injEq,Prod.mk.injEq,reduceCtorEq] at h
 rename_i s
 obtain ⟨rfl,rfl,rfl⟩:=h
 refine waf.wpL (prg hP) [] [(2,wob s)] 0 .nil (hP ▸ Tryz.func265) rfl rfl rfl [(wam Tryz.f265 2,wob s)] (by kernel_rfl) ⟨w1t hP s,trivial⟩ ?_
 rw [wzr]
 refine ⟨rfl,waz (fun h=>⟨?_,rfl⟩) (fun h=>⟨?_,rfl⟩)⟩
 ·simp only [we9,h]
 ·simp only [we9,h]
theorem w31 (hP:C.P=Tryz.prog):waf C 252 wnc:=by
 rintro args objs U Os vc h hvc
 unfold wnc at h
 split at h<;>simp only [Option.some.injEq,Prod.mk.injEq,reduceCtorEq] at h
 rename_i s
 obtain ⟨rfl,rfl,rfl⟩:=h
 refine waf.wp0 (prg hP) [(265,.det wmk)] 0 (.cons (w1s hP) .nil) (hP ▸ Tryz.func252) rfl rfl rfl ?_
 rw [w0g]
 exact ⟨trivial,rfl,rfl⟩
theorem w32 (hP:C.P=Tryz.prog):waf C 229 wnd:=by
 rintro args objs U Os vc h hvc
 unfold wnd at h
 split at h<;>simp only [Option.some.injEq,Prod.mk.injEq,reduceCtorEq] at h
 rename_i s
 obtain ⟨rfl,rfl,rfl⟩:=h
 refine waf.wp0 (prg hP) [(252,.det wnc)] 0 (.cons (w31 hP) .nil) (hP ▸ Tryz.func229) rfl rfl rfl ?_
 rw [w0h,w19]
 exact ⟨trivial,rfl,rfl⟩
theorem wte (hP:C.P=Tryz.prog):waf C 199 wha:=by
 rintro args objs U Os vc h hvc
 unfold wha at h
 split at h<;>simp only [Option.some.injEq,Prod.mk.injEq,reduceCtorEq] at h
 rename_i s
 obtain ⟨rfl,rfl,rfl⟩:=h
 refine waf.wp0 (prg hP) [(228,.det weu),(229,.det wnd)] 0 (.cons (whr hP) (.cons (w32 hP) .nil)) (hP ▸ Tryz.func199) rfl rfl rfl ?_
 rw [nf_name]
 cases s with
 |nil=>exact ⟨rfl,rfl⟩
 |cons b r=>
  have e:(b::r).take (Int.toNat 1)=[b]:=rfl
  have hasc:∀ x∈wj1,UInt8.toNat x<128:=by decide+kernel
  rw [e,wwz]
  have hl:(List.length (b::r):Int)=r.length+1:=by simp
  have hl':List.length (b::r)=r.length+1:=rfl
  have hd:(b::r).getD 0 0=b:=rfl
  refine waz (fun _=>waz (fun h=>⟨by omega,⟨by simp,by omega,by omega,hasc⟩,waz (fun h'=>⟨trivial,?_,rfl⟩) (fun h'=>⟨?_,rfl⟩)⟩) (fun h=>⟨?_,rfl⟩)) (fun h=>by simp at h)
  ·have h:=of_decide_eq_true h
   simp only [wa8,hd,h',hl',Bool.not_not]
   rw [decide_eq_true (by omega),decide_eq_true (by omega)]
   rfl
  ·simp only [wa8,hd,h',Bool.and_false,Bool.false_and]
  ·have h:=of_decide_eq_false h
   simp only [wa8,hl']
   rw [decide_eq_false (p:=r.length+1≤24) (by omega)]
   simp
end Go.Eng
namespace Go.Eng
open Go.Proofs
set_option maxRecDepth 20000
theorem wz1 (s:List UInt8) (a b:Int) (R:AV→List (Nat×AObj)→Prop):wpFn te [(228,.det weu)] [] 0 Tryz.f201 [.str s,.int .i64 a,.int .i64 b] [] R=(letI z0:=((List.length s≤9223372036854775807∧2≤10∧10<4294967281∧∀ (b:UInt8),b∈[(48:UInt8),49,50,51,52,53,54,55,56,57]→UInt8.toNat b<128)∧R (.bool (decide (wex ([(48:UInt8),49,50,51,52,53,54,55,56,57]) s=[]))) []:Prop);wad (decide ((↑(List.length s):Int)=a)) z0 (wad (decide ((↑(List.length s):Int)=b)) z0 (R (.bool false) []))):=by kernel_rfl
theorem w0e (s:List UInt8) (R:AV→List (Nat×AObj)→Prop):wpFn te [(201,.det whd)] [(5,wom s)] 0 Tryz.f202 [.str s] [] R=(((7:Int)≤(100:Int)∧(12:Int)≤(100:Int))∧wad (!wb4 s (7:Int) (12:Int)) (R (.tuple [.int .i64 0,.bool false]) []) (some (St.mk [(0,.str s),(4,.int .i64 0),(11,.int .i64 (↑(List.length s):Int)),(12,.int .i64 0)] [] 0 [])=some (St.mk [(0,.str s),(4,.int .i64 (wbb s 0)),(11,.int .i64 (↑(List.length s):Int)),(12,.int .i64 (↑0:Int))] [] 0 [])∧List.length s≤12∧List.all s wb1=true∧(10:Int)≠(0:Int)∧inR .i64 ((10:Int) - Int.tmod (wbb s (List.length s)) (10:Int))∧(10:Int)≠(0:Int)∧R (.tuple [.int .i64 (Int.tmod ((10:Int) - Int.tmod (wbb s (List.length s)) (10:Int)) (10:Int)),.bool true]) [])):=by kernel_rfl
theorem w0d (s:List UInt8) (k:Nat) (P:Nat→Prop) (R:Exit→St→Prop):wa2 ⟨te,[],[],0,36,0⟩ (wa3 Tryz.f202 5) [0,4,11,12] [4] [] (S_cd s) P R (S_cd s k)=(letI z1:=(↑(List.length s):Int);letI z0:=(↑(UInt8.toNat (List.getD s (Int.toNat (↑k:Int)) (0:UInt8))):Int);letI z2:=(wbb s k+((1:Int)+(2:Int) * Int.tmod (z1 - (↑k:Int)) (2:Int)) * ((z0 - (48:Int)) % (256:Int)));wad (decide ((↑k:Int)<z1)) (inR .i64 (z1 - (↑k:Int))∧(2:Int)≠(0:Int)∧inR .i64 ((2:Int) * Int.tmod (z1 - (↑k:Int)) (2:Int))∧inR .i64 ((1:Int)+(2:Int) * Int.tmod (z1 - (↑k:Int)) (2:Int))∧((0:Int)≤(↑k:Int)∧(↑k:Int)<z1)∧inR .i64 ((z0 - (48:Int)) % (256:Int))∧inR .i64 (((1:Int)+(2:Int) * Int.tmod (z1 - (↑k:Int)) (2:Int)) * ((z0 - (48:Int)) % (256:Int)))∧inR .i64 z2∧inR .i64 ((↑k:Int)+(1:Int))∧∃ (i':Nat),some (St.mk [(0,.str s),(4,.int .i64 z2),(11,.int .i64 z1),(12,.int .i64 ((↑k:Int)+(1:Int)))] [] 0 [])=some (St.mk [(0,.str s),(4,.int .i64 (wbb s i')),(11,.int .i64 z1),(12,.int .i64 (↑i':Int))] [] 0 [])∧P i') (R (.exit 0) (St.mk [(4,.int .i64 (wbb s k))] [] 0 []))):=by kernel_rfl
theorem wya (s:List UInt8) (R:AV→List (Nat×AObj)→Prop):wpFn te [(201,.det whd),(202,.det wfi)] [] 0 Tryz.f160 [.str s] [] R=(letI z0:=(↑(List.length s):Int);letI z1:=(↑(UInt8.toNat (List.getD s (Int.toNat (z0 - (1:Int))) (0:UInt8))):Int);((8:Int)≤(100:Int)∧(13:Int)≤(100:Int))∧wad (!wb4 s (8:Int) (13:Int)) (R (.bool false) []) (inR .i64 (z0 - (1:Int))∧((0:Int)≤z0 - (1:Int)∧z0 - (1:Int)≤z0)∧True∧((0:Int)≤z0 - (1:Int)∧z0 - (1:Int)<z0)∧inR .i64 ((z1 - (48:Int)) % (256:Int))∧R (.bool (decide (Prod.fst (cdF (List.take (Int.toNat (z0 - (1:Int))) s))=(z1 - (48:Int)) % (256:Int)))) [])):=by kernel_rfl
variable {C:Ctx} [C.Loose]
theorem wvj (hP:C.P=Tryz.prog) (htrim:waf C 228 weu):waf C 201 whd:=by
 have _:C.Loose:=inferInstance
 rintro args objs U Os vc h hvc
 unfold whd at h
 split at h<;>simp only [Option.some.injEq,Prod.mk.injEq,reduceCtorEq] at h
 rename_i s a b
 obtain ⟨rfl,rfl,rfl⟩:=h
 refine waf.wp0 (prg hP) [(228,.det weu)] 0 (.cons htrim .nil) (hP ▸ Tryz.func201) rfl rfl rfl ?_
 rw [wz1]
 have hm:(9223372036854775807:Nat)=maxLen:=rfl
 have hlt:∀ b∈([48,49,50,51,52,53,54,55,56,57]:List UInt8),UInt8.toNat b<128:=by decide
 refine waz (fun h=>?_) (fun h=>waz (fun h'=>?_) (fun h'=>?_))
 ·have h2:=of_decide_eq_true h
  refine ⟨⟨by omega,by omega,by omega,hlt⟩,?_,rfl⟩
  simp only [wb4,h,Bool.true_or,Bool.true_and,wrv]
 ·have h2:=of_decide_eq_true h'
  refine ⟨⟨by omega,by omega,by omega,hlt⟩,?_,rfl⟩
  simp only [wb4,h',Bool.or_true,Bool.true_and,wrv]
 ·simp [wb4,h,h']
theorem wk2 {s:List UInt8} (h:s.all wb1=true):∀ k,k≤s.length→0≤wbb s k∧wbb s k≤27 * k
 |0,_=>by simp [wbb]
 |k+1,hk=>by
  have ih:=wk2 h k (by omega)
  have hd:=wkd h k (by omega)
  simp only [wbb]
  rcases Int.emod_two_eq (↑s.length - ↑k) with e | e<;>rw [e]<;>omega
theorem w27 (hP:C.P=Tryz.prog) (s:List UInt8):waj C 0 36 (wam Tryz.f202 5) (wom s):=by
 have _:C.Loose:=inferInstance
 rintro st Q ⟨h0,hlen,hall,hQ⟩
 refine waj.mk (prg hP) [] 0 .nil [0,4,11,12] [4] [] (S_cd s) (fun k=>k≤s.length) (fun k=>s.length - k) 0 (Nat.zero_le _) h0 fun k hk=>?_
 rw [w0d]
 have hb:=wk2 hall k hk
 refine waz (fun h=>?_) (fun h=>?_)
 ·have h:=of_decide_eq_true h
  have hd:=wkd hall k (by omega)
  have e:Int.tmod (↑s.length - ↑k) 2=(↑s.length - ↑k) % 2:=Int.tmod_eq_emod_of_nonneg (by omega)
  have e3:((s.getD k 0).toNat - 48:Int) % 256=(s.getD k 0).toNat - 48:=by omega
  simp only [inR,e,Int.toNat_natCast,e3]
  have hs:wbb s (k+1)=wbb s k+(1+2 * ((↑s.length - ↑k) % 2)) * (↑(s.getD k 0).toNat - 48):=rfl
  rcases Int.emod_two_eq (↑s.length - ↑k) with e | e<;>rw [e] at hs ⊢ <;>and_intros<;>first
   |omega
   |exact ⟨k+1,by rw [hs];rfl,by omega,by omega⟩
 ·have h:=of_decide_eq_false h
  have hk:k=s.length:=by omega
  rw [hk];exact hQ
theorem w26 (hP:C.P=Tryz.prog) (htrim:waf C 228 weu):waf C 202 wfi:=by
 rintro args objs U Os vc h hvc
 unfold wfi at h
 split at h<;>simp only [Option.some.injEq,Prod.mk.injEq,reduceCtorEq] at h
 rename_i s
 obtain ⟨rfl,rfl,rfl⟩:=h
 refine waf.wpL (prg hP) [(201,.det whd)] [(5,wom s)] 0 (.cons (wvj hP htrim) .nil) (hP ▸ Tryz.func202) rfl rfl rfl [(wam Tryz.f202 5,wom s)] (by kernel_rfl) ⟨w27 hP s,trivial⟩ ?_
 rw [w0e]
 refine ⟨by omega,waz (fun h=>?_) (fun h=>?_)⟩
 ·have h:wb4 s 7 12=false:=by simpa using h
  simp [cdF,h]
 ·have h:wb4 s 7 12=true:=by simpa using h
  have h':=h
  simp only [wb4,Bool.and_eq_true,Bool.or_eq_true,decide_eq_true_eq] at h'
  have hb:=wk2 h'.2 s.length (Nat.le_refl _)
  have e:Int.tmod (wbb s s.length) 10=wbb s s.length % 10:=Int.tmod_eq_emod_of_nonneg (by omega)
  rw [e,Int.tmod_eq_emod_of_nonneg (by omega)]
  refine ⟨rfl,by omega,h'.2,by omega,by simp only [inR];omega,by omega,?_,rfl⟩
  simp [cdF,h]
theorem wja (hP:C.P=Tryz.prog) (htrim:waf C 228 weu):waf C 160 wea:=by
 rintro args objs U Os vc h hvc
 unfold wea at h
 split at h<;>simp only [Option.some.injEq,Prod.mk.injEq,reduceCtorEq] at h
 rename_i s
 obtain ⟨rfl,rfl,rfl⟩:=h
 refine waf.wp0 (prg hP) [(201,.det whd),(202,.det wfi)] 0 (.cons (wvj hP htrim) (.cons (w26 hP htrim) .nil)) (hP ▸ Tryz.func160) rfl rfl rfl ?_
 rw [wya]
 refine ⟨by omega,waz (fun h=>?_) (fun h=>?_)⟩
 ·have h:wb4 s 8 13=false:=by simpa using h
  simp [wbg,h]
 ·have h:wb4 s 8 13=true:=by simpa using h
  have h':=h
  simp only [wb4,Bool.and_eq_true,Bool.or_eq_true,decide_eq_true_eq] at h'
  have e:(↑s.length - 1:Int).toNat=s.length - 1:=by omega
  have hd:=wkd h'.2 (s.length - 1) (by omega)
  rw [e]
  have e2:((s.getD (s.length - 1) 0).toNat - 48:Int) % 256=(s.getD (s.length - 1) 0).toNat - 48:=by omega
  simp only [inR,e2]
  refine ⟨by omega,by omega,trivial,by omega,by omega,?_,trivial⟩
  simp [wbg,h]
end Go.Eng
namespace Go.Eng
open Go.Proofs Go.RowKit
variable {C:Ctx} [C.Loose]
set_option maxRecDepth 20000
theorem nf_valw (id code brand:List UInt8) (d c a:Int) (n:Nat) (nm vl:Nat→List UInt8) (R:AV→List (Nat×AObj)→Prop):wpFn te [(160,.det wea),(198,.det wmc),(199,.det wha),(200,.det wly)] [(13,L_vw n nm vl)] 2 Tryz.f159 [.agg [.str id,.str code,.str brand,.int .i64 d,.int .i64 c,.int .i64 a,.view 2 n (wfc nm vl)]] [] R=(True∧wad (!wbg id) (R (.int .i64 90) []) (List.length code<4294967281∧wad (decide (wfx code<(1:Int))) (R (.int .i64 91) []) (True∧wad (!wa8 brand) (R (.int .i64 92) []) (True∧wad (!decide (qtyF d c a=(0:Int))) (R (.int .i64 93) []) (wad (decide ((12:Int)<(↑n:Int))) (R (.int .i64 94) []) (some (St.mk [(3,.map 0),(33,.view 2 n (wfc nm vl)),(34,.int .i64 (↑n:Int)),(35,.int .i64 0)] [(0,.amap (List.map (fun (p:AV×AV)=>(AV.rn (ren 0 [(65,0)]) (Prod.fst p),AV.rn (ren 0 [(65,0)]) (Prod.snd p))) []))] 1 [])=some (St.mk [(3,.map 0),(33,.view 2 n (wfc nm vl)),(34,.int .i64 (↑n:Int)),(35,.int .i64 (↑0:Int))] [(0,.amap (wbr nm 0))] 1 [])∧n≤12∧(∀ (i:Nat),i<n→List.length (nm i)<4294967281∧List.length (vl i)<4294967281)∧wad (wd8 nm vl n) (R (.int .i64 0) []) (R (.int .i64 94) []))))))):=by kernel_rfl
theorem wx8 (n:Nat) (nm vl:Nat→List UInt8) (k:Nat) (P:Nat→Prop) (R:Exit→St→Prop):wa2 ⟨te,[(199,.det wha)],[],0,59,0⟩ (wa3 Tryz.f159 13) [3,33,34,35] [] [2] (S_vw n nm vl) P R (S_vw n nm vl k)=(letI z3:=(Int.toNat (↑k:Int));letI z2:=TI.desc (TI.mk TypeDesc.string 1 16 (Value.string (ByteArray.mk #[])) false);letI z1:=R .ret (St.mk [(2,.int .i64 94)] [] 0 []);letI z0:=(mget (wbr nm k) (.str (nm z3)));letI z4:=wgz (Option.getD z0 (zvA (.bool false)));wad (decide ((↑k:Int)<(↑n:Int))) (((0:Int)≤(↑k:Int)∧(↑k:Int)<(↑n:Int)∧2=2)∧True∧wad (!wa8 (nm z3)) z1 (True∧wad (!wa8 (vl z3)) z1 ((wbq z2 (wbr nm k)∧.bool z4=Option.getD z0 (zvA (.bool false)))∧wad z4 z1 (wbq z2 (wbr nm k)∧inR .i64 ((↑k:Int)+(1:Int))∧∃ (i':Nat),some (St.mk [(3,.map 0),(33,.view 2 n (wfc nm vl)),(34,.int .i64 (↑n:Int)),(35,.int .i64 ((↑k:Int)+(1:Int)))] [(0,.amap (List.map (fun (p:AV×AV)=>(AV.rn (ren 0 [(0,0)]) (Prod.fst p),AV.rn (ren 0 [(0,0)]) (Prod.snd p))) (mset (wbr nm k) (.str (nm z3)) (.bool true))))] 1 [])=some (St.mk [(3,.map 0),(33,.view 2 n (wfc nm vl)),(34,.int .i64 (↑n:Int)),(35,.int .i64 (↑i':Int))] [(0,.amap (wbr nm i'))] 1 [])∧P i')))) (R (.exit 1) (St.mk [] [] 0 []))):=by kernel_rfl
theorem wwr (hP:C.P=Tryz.prog) (n:Nat) (nm vl:Nat→List UInt8):waj C 0 59 (wam Tryz.f159 13) (L_vw n nm vl):=by
 rintro st Q ⟨h0,hn,hs,hQ⟩
 have hR:=wcb hQ
 refine waj.mk (prg hP) [(199,.det wha)] 0 (.cons (wte hP) .nil) [3,33,34,35] [] [2] (S_vw n nm vl) (fun k=>k≤n∧wd8 nm vl k=true) (fun k=>n - k) 0 ⟨by omega,rfl⟩ h0 (fun k hk=>?_)
 obtain ⟨hkn,hok⟩:=hk
 rw [wx8]
 have hbad:∀ m,k≤m→k<m→atOK nm vl k=false→wd8 nm vl m=false:=by
  intro m
  induction m with
  |zero=>intro _ h;omega
  |succ m ih=>
   intro _ h2 h3
   rw [wd8]
   by_cases hkm:k=m
   ·subst hkm;rw [h3,Bool.and_false]
   ·rw [ih (by omega) (by omega) h3,Bool.false_and]
 rw [Int.toNat_natCast]
 refine wak (fun h1=>?_) (fun h1=>?_)
 ·have hlt:k<n:=by omega
  have hfail:atOK nm vl k=false→Q .ret (St.mk [(2,.int .i64 94)] [] 0 []):=fun h=>hR.2 (hbad n hkn hlt h)
  have hk:=wse nm vl k hok
  rw [wtq]
  refine ⟨⟨by omega,by omega,rfl⟩,trivial,wc1 (fun h2=>hfail (by unfold atOK;rw [h2];rfl)) (fun h2=>⟨trivial,wc1 (fun h3=>hfail (by unfold atOK;rw [h3,Bool.and_false];rfl)) (fun h3=>⟨⟨hk,?_⟩,?_⟩)⟩)⟩
  ·cases (List.range k).any (fun i=>decide (nm i=nm k))<;>rfl
  ·cases ha:(List.range k).any (fun i=>decide (nm i=nm k)) with
   |true=>exact hfail (by unfold atOK;rw [wkj,ha];simp)
   |false=>
    have hat:atOK nm vl k=true:=by unfold atOK;rw [h2,h3,wkj,ha];rfl
    refine ⟨hk,by simp only [inR];omega,k+1,?_,⟨by omega,by rw [wd8,hok,hat];rfl⟩,by omega⟩
    rw [w0t nm _ _ k ha,show wbr nm k++[(.str (nm k),AV.bool true)]=wbr nm (k+1) from rfl,wsd]
    rfl
 ·have:k=n:=by omega
  subst this
  exact hR.1 hok
theorem valV_ok (hP:C.P=Tryz.prog) (hL:∀ w,C.laid w→LaidW w):waf C 159 S_valV:=by
 rintro args objs U Os vc h hvc
 unfold S_valV at h
 split at h<;>simp only [Option.some.injEq,Prod.mk.injEq,reduceCtorEq] at h
 rename_i id code brand d c a n f
 obtain ⟨rfl,rfl,rfl⟩:=h
 obtain ⟨hn,h1,h2,hs,hf⟩:=hvc
 rw [hf]
 rw [← hf]
 generalize nmOf f=nm at *
 generalize vlOf f=vl at *
 rw [hf]
 unfold valF
 refine waf.wpL (prg hP) [(160,.det wea),(198,.det wmc),(199,.det wha),(200,.det wly)] [(13,L_vw n nm vl)] 2 (.cons (wja hP (whr hP)) (.cons (w05 hP hL) (.cons (wte hP) (.cons (qty_ok hP) .nil)))) (hP ▸ Tryz.func159) rfl rfl rfl [(wam Tryz.f159 13,L_vw n nm vl)] (by kernel_rfl) ⟨wwr hP n nm vl,trivial⟩ ?_
 rw [nf_valw,w06]
 refine ⟨trivial,wc1 (fun q1=>?_) (fun q1=>⟨h1,wc1 (fun q2=>?_) (fun q2=>⟨trivial,wc1 (fun q3=>?_) (fun q3=>⟨trivial,wca (fun q4=>?_) (fun q4=>wak (fun q5=>?_) (fun q5=>⟨rfl,by omega,hs,waz (fun q6=>?_) (fun q6=>?_)⟩))⟩)⟩)⟩)⟩
 ·rw [q1];exact ⟨rfl,rfl⟩
 ·rw [q1,q2];exact ⟨rfl,rfl⟩
 ·rw [q1,q2,q3];exact ⟨rfl,rfl⟩
 ·rw [q1,q2,q3,decide_eq_false q4];exact ⟨rfl,rfl⟩
 ·rw [q1,q2,q3,decide_eq_true q4,decide_eq_true (show 12<n by omega)];exact ⟨rfl,rfl⟩
 ·rw [q1,q2,q3,decide_eq_true q4,decide_eq_false (show ¬ 12<n by omega),q6];exact ⟨rfl,rfl⟩
 ·rw [q1,q2,q3,decide_eq_true q4,decide_eq_false (show ¬ 12<n by omega),q6];exact ⟨rfl,rfl⟩
end Go.Eng
