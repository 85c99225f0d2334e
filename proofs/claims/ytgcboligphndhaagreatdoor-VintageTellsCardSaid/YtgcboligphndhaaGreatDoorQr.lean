/- The validation of products whose attributes are plain data. -/
import Derived.Test.YtgcboligphndhaaGreatDoorQl
import Derived.Test.YtgcboligphndhaaGreatDoorQq
import Derived.Test.YtgcboligphndhaaGreatDoorQm
import Derived.Test.YtgcboligphndhaaGreatDoorQp
namespace Go.Eng
open Go.Proofs Go.RowKit
set_option maxRecDepth 20000
theorem nf_min (n:Nat) (v:Nat→Int) (R:AV→List (Nat×AObj)→Prop):wpFn te [] [(5,L_mm n v (minV v)),(1002,fun _ _=>False)] 0 Tryz.f260 [.own 0 n] [.row 3 1 n (fun i=>[.int .i64 (v i)]) false] R=(letI z0:=([(0,.row 3 1 n (fun (i:Nat)=>[.int .i64 (v i)]) false)]:List (Nat×AObj));wac (decide ((↑n:Int)<(1:Int))) False (((0:Int)≤(0:Int)∧(0:Int)<(↑n:Int))∧(0<n∧1=1)∧(TEq [(0,.own 0 n),(3,.int .i64 (v 0)),(4,.int .i64 1)] [(0,.own 0 n),(3,.int .i64 (minV v 0)),(4,.int .i64 ((↑0:Int)+(1:Int)))]∧wag z0 z0)∧1≤n∧n≤4611686018427387904∧(∀ (i:Nat),i<n→true=true)∧∃ (O':List (Nat×AObj)),wag z0 O'∧R (.int .i64 (minV v (n - 1))) O')):=by kernel_rfl
theorem wx5 (n:Nat) (v:Nat→Int) (k:Nat) (P:Nat→Prop) (R:Exit→St→Prop):wa6 ⟨te,[],[],1,25,0⟩ (wa8 Tryz.f260 5) [0,3,4] [3] [] (wf3 n v (minV v)) P R (wf3 n v (minV v) k)=(letI z0:=([(0,.row 3 1 n (fun (i:Nat)=>[.int .i64 (v i)]) false)]:List (Nat×AObj));wac (decide ((↑k:Int)+(1:Int)<(↑n:Int))) (((0:Int)≤(↑k:Int)+(1:Int)∧(↑k:Int)+(1:Int)<(↑n:Int))∧(Int.toNat ((↑k:Int)+(1:Int))<n∧1=1)∧inR .i64 ((↑k:Int)+(1:Int)+(1:Int))∧∃ (i':Nat),(TEq [(0,.own 0 n),(3,.int .i64 (min (minV v k) (v (Int.toNat ((↑k:Int)+(1:Int)))))),(4,.int .i64 ((↑k:Int)+(1:Int)+(1:Int)))] [(0,.own 0 n),(3,.int .i64 (minV v i')),(4,.int .i64 ((↑i':Int)+(1:Int)))]∧wag z0 z0)∧P i') ((∀ (i:Nat),i<n→true=true)∧∃ (O':List (Nat×AObj)),wag z0 O'∧R (.exit 0) (St.mk [(3,.int .i64 (minV v k))] O' 1 []))):=by kernel_rfl
theorem nf_max (n:Nat) (v:Nat→Int) (R:AV→List (Nat×AObj)→Prop):wpFn te [] [(5,L_mm n v (maxV v)),(1002,fun _ _=>False)] 0 Tryz.f261 [.own 0 n] [.row 3 1 n (fun i=>[.int .i64 (v i)]) false] R=(letI z0:=([(0,.row 3 1 n (fun (i:Nat)=>[.int .i64 (v i)]) false)]:List (Nat×AObj));wac (decide ((↑n:Int)<(1:Int))) False (((0:Int)≤(0:Int)∧(0:Int)<(↑n:Int))∧(0<n∧1=1)∧(TEq [(0,.own 0 n),(3,.int .i64 (v 0)),(4,.int .i64 1)] [(0,.own 0 n),(3,.int .i64 (maxV v 0)),(4,.int .i64 ((↑0:Int)+(1:Int)))]∧wag z0 z0)∧1≤n∧n≤4611686018427387904∧(∀ (i:Nat),i<n→true=true)∧∃ (O':List (Nat×AObj)),wag z0 O'∧R (.int .i64 (maxV v (n - 1))) O')):=by kernel_rfl
theorem wx6 (n:Nat) (v:Nat→Int) (k:Nat) (P:Nat→Prop) (R:Exit→St→Prop):wa6 ⟨te,[],[],1,25,0⟩ (wa8 Tryz.f261 5) [0,3,4] [3] [] (wf3 n v (maxV v)) P R (wf3 n v (maxV v) k)=(letI z0:=([(0,.row 3 1 n (fun (i:Nat)=>[.int .i64 (v i)]) false)]:List (Nat×AObj));wac (decide ((↑k:Int)+(1:Int)<(↑n:Int))) (((0:Int)≤(↑k:Int)+(1:Int)∧(↑k:Int)+(1:Int)<(↑n:Int))∧(Int.toNat ((↑k:Int)+(1:Int))<n∧1=1)∧inR .i64 ((↑k:Int)+(1:Int)+(1:Int))∧∃ (i':Nat),(TEq [(0,.own 0 n),(3,.int .i64 (max (maxV v k) (v (Int.toNat ((↑k:Int)+(1:Int)))))),(4,.int .i64 ((↑k:Int)+(1:Int)+(1:Int)))] [(0,.own 0 n),(3,.int .i64 (maxV v i')),(4,.int .i64 ((↑i':Int)+(1:Int)))]∧wag z0 z0)∧P i') ((∀ (i:Nat),i<n→true=true)∧∃ (O':List (Nat×AObj)),wag z0 O'∧R (.exit 0) (St.mk [(3,.int .i64 (maxV v k))] O' 1 []))):=by kernel_rfl
theorem wyk (n:Nat) (v:Nat→Int) (R:AV→List (Nat×AObj)→Prop):wpFn te [(260,.det wlo),(261,.det wlp),(133,.det wgy)] [(7,wnk n v)] 0 Tryz.f244 [.own 0 n] [.row 3 1 n (fun i=>[.int .i64 (v i)]) false] R=(letI z8:=((0:Int)≤(0:Int)∧(0:Int)<(↑n:Int):Prop);letI z7:=((0:Int)≤(1:Int)∧(1:Int)≤(↑n:Int):Prop);letI z6:=(n - Int.toNat (1:Int));letI z5:=(vInt fun (i:Nat)=>[.int .i64 (v i)]);letI z4:=([(4,.str (wdf (v 0)++wcl v 0)),(36,.sub 0 1 1 (n - 1)),(37,.int .i64 (↑(n - 1):Int)),(38,.int .i64 (↑0:Int))]:List (Nat×AV));letI z3:=(3=3∧false=false∧1≤n∧n=n∧n≤4611686018427387904∧(fun (i:Nat)=>[.int .i64 (v i)])=waa z5:Prop);letI z2:=(∀ (i:Nat),i<n→true=true:Prop);letI z1:=([(0,.row 3 1 n (fun (i:Nat)=>[.int .i64 (v i)]) false)]:List (Nat×AObj));letI z0:=(z2∧∃ (O':List (Nat×AObj)),wag z1 O'∧R (.tuple [.str [],.int .i64 64]) O':Prop);wac (decide ((↑n:Int)<(1:Int))) z0 (wac (decide ((5:Int)<(↑n:Int))) z0 (z2∧z3∧z2∧wac (decide (minV z5 (n - 1)<(1:Int))) z0 (z2∧z3∧z2∧wac (decide ((99:Int)<maxV z5 (n - 1))) z0 (z8∧(0<n∧1=1)∧((0:Int)≤v 0∧v 0<(100:Int))∧z8∧(0<n∧1=1)∧wac (decide (v 0<(10:Int))) (List.length ([(48:UInt8)])+List.length (decF (v 0))≤9223372036854775807∧z7∧(TEq [(4,.str ([(48:UInt8)]++decF (v 0))),(36,.sub 0 1 1 z6),(37,.int .i64 (↑z6:Int)),(38,.int .i64 0)] z4∧wag z1 z1)∧wbn n v=true∧z2∧∃ (O':List (Nat×AObj)),wag z1 O'∧R (.tuple [.str (fmtZ n v),.int .i64 0]) O') (z7∧(TEq [(4,.str (decF (v 0))),(36,.sub 0 1 1 z6),(37,.int .i64 (↑z6:Int)),(38,.int .i64 0)] z4∧wag z1 z1)∧wbn n v=true∧z2∧∃ (O':List (Nat×AObj)),wag z1 O'∧R (.tuple [.str (fmtZ n v),.int .i64 0]) O')))))):=by kernel_rfl
theorem wyj (n:Nat) (v:Nat→Int) (k:Nat) (P:Nat→Prop) (R:Exit→St→Prop):wa6 ⟨te,[(133,.det wgy)],[],1,49,0⟩ (wa8 Tryz.f244 7) [4,36,37,38] [4] [] (wl7 n v) P R (wl7 n v k)=(letI z1:=(v (1+Int.toNat (↑k:Int)));letI z0:=([(0,.row 3 1 n (fun (i:Nat)=>[.int .i64 (v i)]) false)]:List (Nat×AObj));wac (decide ((↑k:Int)<(↑(n - 1):Int))) (((0:Int)≤(↑k:Int)∧(↑k:Int)<(↑(n - 1):Int)∧1=1)∧(1+Int.toNat (↑k:Int)<n∧1=1)∧((0:Int)≤v (1+Int.toNat (↑k:Int))∧v (1+Int.toNat (↑k:Int))<(100:Int))∧List.length ([(46:UInt8)])+List.length (decF z1)≤9223372036854775807∧List.length (wdf (v 0)++wcl v k)+List.length ([(46:UInt8)]++decF z1)≤9223372036854775807∧inR .i64 ((↑k:Int)+(1:Int))∧∃ (i':Nat),(TEq [(4,.str (wdf (v 0)++wcl v k++([(46:UInt8)]++decF z1))),(36,.sub 0 1 1 (n - 1)),(37,.int .i64 (↑(n - 1):Int)),(38,.int .i64 ((↑k:Int)+(1:Int)))] [(4,.str (wdf (v 0)++wcl v i')),(36,.sub 0 1 1 (n - 1)),(37,.int .i64 (↑(n - 1):Int)),(38,.int .i64 (↑i':Int))]∧wag z0 z0)∧P i') ((∀ (i:Nat),i<n→true=true)∧∃ (O':List (Nat×AObj)),wag z0 O'∧R (.exit 0) (St.mk [(4,.str (wdf (v 0)++wcl v k))] O' 1 []))):=by kernel_rfl
variable {C:Ctx} [C.Loose]
theorem wzf (hP:C.P=Tryz.prog) (n:Nat) (v:Nat→Int):waj C 1 25 (wao Tryz.f260 5) (L_mm n v (minV v)):=by
 have _:C.Loose:=inferInstance
 rintro st Q ⟨h0,hn,hn2,hQ⟩
 refine waj.mk (prg hP) [] 0 .nil [0,3,4] [3] [] (wf3 n v (minV v)) (fun k=>k+1≤n) (fun k=>n - k) 0 hn h0 (fun k hk=>?_) (fun i=>⟨fun _ _=>rfl,trivial⟩)
 rw [wx5]
 refine wal (fun h=>?_) (fun h=>⟨fun _ _=>rfl,_,wb4,?_⟩)
 ·have e:((k:Int)+1).toNat=k+1:=by omega
  simp only [inR,e,and_true]
  exact ⟨by omega,by omega,by omega,k+1,⟨rfl,wb4⟩,by omega,by omega⟩
 ·have:k=n - 1:=by omega
  rw [this];exact hQ
theorem wzg (hP:C.P=Tryz.prog) (n:Nat) (v:Nat→Int):waj C 1 25 (wao Tryz.f261 5) (L_mm n v (maxV v)):=by
 have _:C.Loose:=inferInstance
 rintro st Q ⟨h0,hn,hn2,hQ⟩
 refine waj.mk (prg hP) [] 0 .nil [0,3,4] [3] [] (wf3 n v (maxV v)) (fun k=>k+1≤n) (fun k=>n - k) 0 hn h0 (fun k hk=>?_) (fun i=>⟨fun _ _=>rfl,trivial⟩)
 rw [wx6]
 refine wal (fun h=>?_) (fun h=>⟨fun _ _=>rfl,_,wb4,?_⟩)
 ·have e:((k:Int)+1).toNat=k+1:=by omega
  simp only [inR,e,and_true]
  exact ⟨by omega,by omega,by omega,k+1,⟨rfl,wb4⟩,by omega,by omega⟩
 ·have:k=n - 1:=by omega
  rw [this];exact hQ
theorem min_ok (hP:C.P=Tryz.prog):wae C 260 wlo:=by
 rintro args objs U Os vc h hvc
 unfold wlo at h
 split at h<;>simp only [Option.some.injEq,Prod.mk.injEq,reduceCtorEq] at h
 rename_i n t m f fr
 obtain ⟨rfl,rfl,rfl⟩:=h
 obtain ⟨rfl,rfl,hn,rfl,hn2,hf⟩:=hvc
 generalize vInt f=v at hf
 subst hf
 refine wae.wpL (prg hP) [] [(5,L_mm n v (minV v)),(1002,fun _ _=>False)] 0 .nil (hP ▸ Tryz.func260) rfl rfl rfl
  [(regC Tryz.f260 2,fun _ _=>False),(wao Tryz.f260 5,L_mm n v (minV v))] (by kernel_rfl) ⟨fun _ _ h=>h.elim,wzf hP n v,trivial⟩ ?_
 show wpFn _ _ _ _ _ _ [.row _ _ _ (fun i=>[.int .i64 (v i)]) _] _
 rw [nf_min]
 exact wal (fun h=>absurd h (by omega)) (fun _=>⟨by omega,by omega,⟨rfl,wb4⟩,hn,hn2,fun _ _=>rfl,_,wb4,rfl,rfl⟩)
theorem max_ok (hP:C.P=Tryz.prog):wae C 261 wlp:=by
 rintro args objs U Os vc h hvc
 unfold wlp at h
 split at h<;>simp only [Option.some.injEq,Prod.mk.injEq,reduceCtorEq] at h
 rename_i n t m f fr
 obtain ⟨rfl,rfl,rfl⟩:=h
 obtain ⟨rfl,rfl,hn,rfl,hn2,hf⟩:=hvc
 generalize vInt f=v at hf
 subst hf
 refine wae.wpL (prg hP) [] [(5,L_mm n v (maxV v)),(1002,fun _ _=>False)] 0 .nil (hP ▸ Tryz.func261) rfl rfl rfl
  [(regC Tryz.f261 2,fun _ _=>False),(wao Tryz.f261 5,L_mm n v (maxV v))] (by kernel_rfl) ⟨fun _ _ h=>h.elim,wzg hP n v,trivial⟩ ?_
 show wpFn _ _ _ _ _ _ [.row _ _ _ (fun i=>[.int .i64 (v i)]) _] _
 rw [nf_max]
 exact wal (fun h=>absurd h (by omega)) (fun _=>⟨by omega,by omega,⟨rfl,wb4⟩,hn,hn2,fun _ _=>rfl,_,wb4,rfl,rfl⟩)
theorem wtb (hP:C.P=Tryz.prog):wae C 133 wgy:=by
 rintro args objs U Os vc h hvc
 unfold wgy at h
 split at h<;>simp only [Option.some.injEq,Prod.mk.injEq,reduceCtorEq] at h
 rename_i n
 obtain ⟨rfl,rfl,rfl⟩:=h
 obtain ⟨i,rfl⟩:∃ i:Nat,n=i:=⟨n.toNat,by omega⟩
 refine wak.below ⟨Tryz.f133,hP ▸ Tryz.func133,rfl,by decide⟩ fun w M cargs _ _ hM hl hv=>?_
 obtain ⟨a,rfl⟩:=mem1 hl
 have:=(hv 0 _ _ rfl rfl).int_iff
 subst this
 rw [hP]
 refine (Tryz.strconv_Itoa_small i (by omega) w).mono ?_
 rintro e w' ⟨rfl,rfl⟩
 exact ⟨_,rfl,Below.refl _ _,.str (by simp [decF])⟩
theorem w0m (hP:C.P=Tryz.prog) (n:Nat) (v:Nat→Int):waj C 1 49 (wao Tryz.f244 7) (wnk n v):=by
 rintro st Q ⟨h0,hok,hQ⟩
 have hv:=wtz hok
 have hn:=fmtOK_n hok
 refine waj.mk (prg hP) [(133,.det wgy)] 0 (.cons (wtb hP) .nil) [4,36,37,38] [4] [] (wl7 n v) (fun k=>k≤n - 1) (fun k=>n - k) 0 (Nat.zero_le _) h0 (fun k hk=>?_) (fun i=>⟨fun _ _=>rfl,trivial⟩)
 rw [wyj]
 have hl1:=w0n (hv 0 (by omega))
 have hl2:=wty (n:=n) (fun i hi=>hv i hi) k (by omega)
 refine wal (fun h=>?_) (fun h=>⟨fun _ _=>rfl,_,wb4,?_⟩)
 ·have hlt:k<n - 1:=by omega
  have e:1+(k:Int).toNat=k+1:=by omega
  have hk1:=hv (k+1) (by omega)
  have hl3:=wkf hk1
  simp only [inR,e,and_true,List.length_append,List.length_cons,List.length_nil]
  refine ⟨by omega,by omega,by omega,by omega,by omega,by omega,k+1,⟨?_,wb4⟩,by omega,by omega⟩
  unfold TEq
  rw [show wcl v (k+1)=wcl v k++(46::decF (v (k+1))) from rfl]
  simp
 ·have:k=n - 1:=by omega
  rw [this];exact hQ
theorem w0l (hP:C.P=Tryz.prog):wae C 244 wl6:=by
 rintro args objs U Os vc h hvc
 unfold wl6 at h
 split at h<;>simp only [Option.some.injEq,Prod.mk.injEq,reduceCtorEq] at h
 rename_i n t m f fr
 obtain ⟨rfl,rfl,rfl⟩:=h
 obtain ⟨rfl,rfl,rfl,hn2,hf⟩:=hvc
 generalize vInt f=v at hf
 subst hf
 refine wae.wpL (prg hP) [(260,.det wlo),(261,.det wlp),(133,.det wgy)] [(7,wnk n v)] 0 (.cons (min_ok hP) (.cons (max_ok hP) (.cons (wtb hP) .nil))) (hP ▸ Tryz.func244) rfl rfl rfl
  [(wao Tryz.f244 7,wnk n v)] (by kernel_rfl) ⟨w0m hP n v,trivial⟩ ?_
 show wpFn _ _ _ _ _ _ [.row _ _ _ (fun i=>[.int .i64 (v i)]) _] _
 rw [wyk]
 have hvi:(vInt fun i=>[AV.int .i64 (v i)])=v:=rfl
 rw [hvi]
 have bad:wbn n v=false→(AV.tuple [.str [],.int .i64 64]= .tuple [.str (bif wbn n v then fmtZ n v else []),.int .i64 (bif wbn n v then 0 else 64)]):=fun h=>by rw [h];rfl
 have good:wbn n v=true→(AV.tuple [.str (fmtZ n v),.int .i64 0]= .tuple [.str (bif wbn n v then fmtZ n v else []),.int .i64 (bif wbn n v then 0 else 64)]):=fun h=>by rw [h];rfl
 refine wal (fun h1=>⟨fun _ _=>rfl,_,wb4,bad ?_,rfl⟩) (fun h1=>wal (fun h2=>⟨fun _ _=>rfl,_,wb4,bad ?_,rfl⟩) (fun h2=>⟨fun _ _=>rfl,⟨rfl,rfl,by omega,rfl,hn2,rfl⟩,fun _ _=>rfl,
  wal (fun h3=>⟨fun _ _=>rfl,_,wb4,bad ?_,rfl⟩) (fun h3=>⟨fun _ _=>rfl,⟨rfl,rfl,by omega,rfl,hn2,rfl⟩,fun _ _=>rfl,wal (fun h4=>⟨fun _ _=>rfl,_,wb4,bad ?_,rfl⟩) (fun h4=>?_)⟩)⟩))
 ·unfold wbn;rw [decide_eq_false (p:=1≤n) (by omega)];rfl
 ·unfold wbn;rw [decide_eq_false (p:=n≤5) (by omega)];simp
 ·unfold wbn;rw [decide_eq_false (p:=1≤minV v (n - 1)) (by omega)];simp
 ·unfold wbn;rw [decide_eq_false (p:=maxV v (n - 1)≤99) (by omega)];simp
 ·have hok:wbn n v=true:=by
   unfold wbn
   rw [decide_eq_true (p:=1≤n) (by omega),decide_eq_true (p:=n≤5) (by omega),decide_eq_true (p:=1≤minV v (n - 1)) (by omega),decide_eq_true (p:=maxV v (n - 1)≤99) (by omega)];rfl
  have hv:=wtz hok 0 (by omega)
  have hl3:=wkf hv
  refine ⟨by omega,⟨by omega,rfl⟩,by omega,by omega,⟨by omega,rfl⟩,wal (fun h5=>⟨by simp only [List.length_cons,List.length_nil];omega,by omega,⟨?_,wb4⟩,hok,fun _ _=>rfl,_,wb4,good hok,rfl⟩) (fun h5=>⟨by omega,⟨?_,wb4⟩,hok,fun _ _=>rfl,_,wb4,good hok,rfl⟩)⟩
  ·unfold TEq wdf
   rw [decide_eq_true h5]
   simp [wcl]
  ·unfold TEq wdf
   rw [decide_eq_false h5]
   simp [wcl]
theorem wxs (s:List UInt8) (R:AV→List (Nat×AObj)→Prop):wpFn te [(242,.det wk7),(244,.det wl6)] [(3,wm3 s)] 0 Tryz.f227 [.str s] [] R=(letI z2:=(∀ (i:Nat),i<List.length (words s)→true=true:Prop);letI z1:=(vInt fun (i:Nat)=>[.int .i64 (wb8 s i)]);letI z0:=List.length (words s);(List.length s<4294967281∧[(46:UInt8)]=[(46:UInt8)])∧(TEq [(0,.str s),(4,.own 0 0),(12,.view 1 z0 fun (i:Nat)=>[.str (List.getD (words s) i [])]),(13,.int .i64 (↑z0:Int)),(14,.int .i64 0)] [(0,.str s),(4,.own 0 0),(12,.view 1 z0 fun (i:Nat)=>[.str (List.getD (words s) i [])]),(13,.int .i64 (↑z0:Int)),(14,.int .i64 (↑0:Int))]∧wag [(0,.row 3 1 0 (fun (_x:Nat)=>[]) false)] [(0,.row 3 1 0 (fun (i:Nat)=>[.int .i64 (wb8 s i)]) false)])∧List.length s<4294967281∧z2∧(3=3∧false=false∧List.length (words s)=List.length (words s)∧List.length (words s)≤4611686018427387904∧(fun (i:Nat)=>[.int .i64 (wb8 s i)])=waa z1)∧z2∧wac (!decide ((bif wbn z0 z1 then (0:Int) else (64:Int))=(0:Int))) (R (.tuple [.nil,.int .i64 60]) []) (wac (!decide ((bif wbn z0 z1 then fmtZ z0 z1 else [])=s)) (R (.tuple [.nil,.int .i64 60]) []) (z2∧∃ (O':List (Nat×AObj)),wag [(0,.row 3 1 z0 (fun (i:Nat)=>[.int .i64 (wb8 s i)]) false)] O'∧R (.tuple [.own 0 z0,.int .i64 0]) O'))):=by kernel_rfl
theorem wxr (s:List UInt8) (k:Nat) (P:Nat→Prop) (R:Exit→St→Prop):wa6 ⟨te,[(243,.det wml)],[],0,41,0⟩ (wa8 Tryz.f227 3) [0,4,12,13,14] [0,4] [] (wle s) P R (wle s k)=(letI z2:=(List.getD (words s) (Int.toNat (↑k:Int)) []);letI z1:=TI.mk (TypeDesc.int IntKind.i64) 1 8 (Value.int IntKind.i64 0) false;letI z0:=List.length (words s);wac (decide ((↑k:Int)<(↑z0:Int))) (((0:Int)≤(↑k:Int)∧(↑k:Int)<(↑z0:Int)∧1=1)∧List.length z2≤281474976710656∧(1≤16777216∧1=1∧1≤9223372036854775807)∧((1≤1∧1=1)∧k≤k∧1=1∧3=3∧1=1∧k+1≤9223372036854775807∧(k+1) * TI.bytes z1≤140737488355328)∧inR .i64 ((↑k:Int)+(1:Int))∧∃ (i':Nat),(TEq [(0,.str s),(4,.own 0 (k+1)),(12,.view 1 z0 fun (i:Nat)=>[.str (List.getD (words s) i [])]),(13,.int .i64 (↑z0:Int)),(14,.int .i64 ((↑k:Int)+(1:Int)))] [(0,.str s),(4,.own 0 i'),(12,.view 1 z0 fun (i:Nat)=>[.str (List.getD (words s) i [])]),(13,.int .i64 (↑z0:Int)),(14,.int .i64 (↑i':Int))]∧wag [(0,.row 3 1 (k+1) (apF k (fun (i:Nat)=>[.int .i64 (wb8 s i)]) (waz (TI.sz z1) (.int .i64 (wip z2)::List.append [] wc4))) false)] [(0,.row 3 1 i' (fun (i:Nat)=>[.int .i64 (wb8 s i)]) false)])∧P i') ((∀ (i:Nat),i<k→true=true)∧∃ (O':List (Nat×AObj)),wag [(0,.row 3 1 k (fun (i:Nat)=>[.int .i64 (wb8 s i)]) false)] O'∧R (.exit 0) (St.mk [(0,.str s),(4,.own 0 k)] O' 1 []))):=by kernel_rfl
variable {C:Ctx} [C.Loose]
theorem wv7 (hP:C.P=Tryz.prog) (hL:∀ w,C.laid w→LaidW w):wae C 242 wk7:=by
 rintro args objs U Os vc h hvc
 unfold wk7 at h
 split at h<;>simp only [Option.some.injEq,Prod.mk.injEq,reduceCtorEq] at h
 rename_i s sep
 obtain ⟨rfl,rfl,rfl⟩:=h
 obtain ⟨hs,rfl⟩:=hvc
 refine wak.below ⟨Tryz.f242,hP ▸ Tryz.func242,rfl,by decide⟩ fun w M cargs hlaid _ hM hl hv=>?_
 obtain ⟨m,hm⟩:=(hL w hlaid).maxLen
 obtain ⟨a,b,rfl⟩:=mem2 hl
 have e1:=(hv 0 _ _ rfl rfl).str_iff
 have e2:=(hv 1 _ _ rfl rfl).str_iff
 subst e1;subst e2
 rw [hP]
 refine (Tryz.strings_Split ⟨s.toArray⟩ ⟨#[46]⟩ m w (by simpa [ByteArray.size] using hs) hm (by decide)).mono ?_
 rintro e w' ⟨rfl,rfl⟩
 have hd:=Lib.splitB_data ⟨#[46]⟩ 0 (Lib.countB ⟨s.toArray⟩ ⟨#[46]⟩) ⟨s.toArray⟩
 have hw:(Lib.splitB ⟨#[46]⟩ 0 (Lib.countB ⟨s.toArray⟩ ⟨#[46]⟩) ⟨s.toArray⟩).map (·.data.toList)=words s:=by
  rw [hd]
  simp [words,Lib.split]
 have hlen:(Lib.splitB ⟨#[46]⟩ 0 (Lib.countB ⟨s.toArray⟩ ⟨#[46]⟩) ⟨s.toArray⟩).length=(words s).length:=by rw [← hw];simp
 have hcnt:Lib.countB ⟨s.toArray⟩ ⟨#[46]⟩+1=(words s).length:=by
  rw [whc]
 refine ⟨_,rfl,(Below.refl _ _).alloc (Nat.le_refl _) _,?_⟩
 rw [hcnt]
 have hle:=Lib.count_le s [46]
 refine V.newview hM (by simp [hlen]) (by rw [whc];unfold maxLen;omega) (fun i v hv=>?_) (fun i v hv=>?_)
 ·rw [List.getElem?_toArray,List.getElem?_map] at hv
  obtain ⟨x,_,rfl⟩:=Option.map_eq_some_iff.1 hv
  exact rfl
 ·simp at hv
  obtain ⟨x,hx,rfl⟩:=hv
  refine ⟨_,rfl,.str ?_⟩
  have:(words s)[i]?=some x.data.toList:=by rw [← hw];simp [hx]
  simp [List.getD,this]
theorem atoi_ok (hP:C.P=Tryz.prog) (hL:∀ w,C.laid w→LaidW w):wae C 243 wml:=by
 rintro args objs U Os vc h hvc
 unfold wml at h
 split at h<;>simp only [Option.some.injEq,Prod.mk.injEq,reduceCtorEq] at h
 rename_i s
 obtain ⟨rfl,rfl,rfl⟩:=h
 refine wak.below ⟨Tryz.f243,hP ▸ Tryz.func243,rfl,by decide⟩ fun w M cargs hlaid _ hM hl hv=>?_
 obtain ⟨a,rfl⟩:=mem1 hl
 have e1:=(hv 0 _ _ rfl rfl).str_iff
 subst e1
 rw [hP]
 have hsz:(⟨s.toArray⟩:ByteArray).size=s.length:=by simp [ByteArray.size]
 have hdt:(⟨s.toArray⟩:ByteArray).data.toList=s:=by simp
 have tup:∀ (w':World) (n:Int) (e:Value),V w' M nob (.tuple #[.int .i64 n,e]) (.tuple [.int .i64 n,.any]):=fun w' n e=>.tuple rfl fun j v u hv hu=>by
  match j with
  |0=>simp at hv hu;subst hv;subst hu;exact .int
  |1=>simp at hv hu;subst hv;subst hu;exact .any
  |j+2=>simp at hv
 unfold wip
 cases hh:Lib.atoiAll s with
 |ok v=>
  refine (Tryz.strconv_Atoi_ok ⟨s.toArray⟩ (by omega) v (by rw [hdt];exact hh) w).mono ?_
  rintro e w' ⟨rfl,hw⟩
  refine ⟨_,rfl,?_,tup _ _ _⟩
  rcases hw with rfl | ⟨t,rfl⟩
  ·exact Below.refl _ _
  ·exact Lib.bytesWorld_below _ _ _
 |range=>
  obtain ⟨t,p,he⟩:=(hL w hlaid).errR
  refine (Any.strconv_Atoi_range Tryz.laysC172 ⟨s.toArray⟩ (by omega) (by rw [hdt];exact hh) _ w he (.inr ⟨t,p,rfl⟩)).mono ?_
  rintro e w' ⟨N,rfl,_,_,hb⟩
  rw [hdt]
  exact ⟨_,rfl,hb,tup _ _ _⟩
 |_=>
  obtain ⟨t,p,he⟩:=(hL w hlaid).errS
  refine (Any.strconv_Atoi_syntax Tryz.laysC172 ⟨s.toArray⟩ (by omega) (by rw [hdt];exact hh) _ w he (.inr ⟨t,p,rfl⟩)).mono ?_
  rintro e w' ⟨N,rfl,_,_,hb⟩
  exact ⟨_,rfl,hb,tup _ _ _⟩
theorem wwv (hP:C.P=Tryz.prog) (hL:∀ w,C.laid w→LaidW w) (s:List UInt8):waj C 0 41 (wao Tryz.f227 3) (wm3 s):=by
 rintro st Q ⟨h0,hs,hQ⟩
 refine AWP.ownNil 4 3 1 ?_
 have hwl:(words s).length≤s.length+2:=by
  have:=Lib.count_le s [46]
  rw [whc];omega
 refine waj.mk (prg hP) [(243,.det wml)] 0 (.cons (atoi_ok hP hL) .nil) [0,4,12,13,14] [0,4] [] (wle s) (fun k=>k≤(words s).length) (fun k=>(words s).length - k) 0 (Nat.zero_le _) h0 (fun k hk=>?_) (fun i=>⟨fun _ _=>rfl,trivial⟩)
 rw [wxr]
 refine wal (fun h=>?_) (fun h=>⟨fun _ _=>rfl,_,wb4,?_⟩)
 ·have hlt:k<(words s).length:=by omega
  have hlw:((words s).getD k []).length≤s.length:=by
   have:=wvn s ((words s).getD k []) (by simp [List.getD,hlt])
   exact this
  have hrow:∀ i,i<k+1→apF k (fun i=>[AV.int .i64 (wb8 s i)]) (waz 1 [.int .i64 (wip ((words s).getD k []))]) i=[.int .i64 (wb8 s i)]:=by
   intro i hi
   unfold apF
   split
   ·rfl
   ·have:i=k:=by omega
    subst this
    rw [Nat.sub_self];rfl
  simp only [inR,Int.toNat_natCast]
  and_intros
  any_goals omega
  any_goals (simp;done)
  exact ⟨k+1,⟨rfl,⟨rfl,rfl,rfl,rfl,rfl,hrow⟩,trivial⟩,by omega,by omega⟩
 ·have:k=(words s).length:=by omega
  rw [this] at *
  exact hQ
theorem wwu (hP:C.P=Tryz.prog) (hL:∀ w,C.laid w→LaidW w):wbc C 227 wmr:=by
 rintro args objs R h
 unfold wmr at h
 split at h
 ·rename_i s
  obtain ⟨hs,hR⟩:=h
  have hR:=wb7 hR
  refine wbc.wpL (prg hP) [(242,.det wk7),(244,.det wl6)] [(3,wm3 s)] 0 (.cons (wv7 hP hL) (.cons (w0l hP) .nil)) (hP ▸ Tryz.func227) rfl rfl rfl
   [(wao Tryz.f227 3,wm3 s)] (by kernel_rfl) ⟨wwv hP hL s,trivial⟩ ?_
  rw [wxs]
  have hvi:(vInt fun i=>[AV.int .i64 (wb8 s i)])=wb8 s:=rfl
  rw [hvi]
  have hwl:(words s).length≤s.length+2:=by
   have:=Lib.count_le s [46]
   rw [whc];omega
  refine ⟨⟨hs,rfl⟩,⟨rfl,⟨rfl,rfl,rfl,rfl,rfl,fun i hi=>by omega⟩,trivial⟩,hs,fun _ _=>rfl,⟨rfl,rfl,rfl,by omega,rfl⟩,fun _ _=>rfl,?_⟩
  cases hok:wbn (words s).length (wb8 s) with
  |false=>exact hR.2 (by unfold wdm;rw [hok];rfl)
  |true=>
   have e0:(!decide ((bif true then (0:Int) else 64)=0))=false:=rfl
   rw [e0]
   show wac (!decide (fmtZ (words s).length (wb8 s)=s)) _ _
   refine wcc (fun h1=>hR.2 ?_) (fun h1=>⟨fun _ _=>rfl,_,wb4,hR.1 ?_⟩)
   ·unfold wdm;rw [hok,decide_eq_false h1];rfl
   ·unfold wdm;rw [hok];exact decide_eq_true h1
 ·exact h.elim
end Go.Eng
namespace Go.Eng
open Go.Proofs Go.RowKit
variable {C:Ctx} [C.Loose]
set_option maxRecDepth 20000
theorem wx7 (s:List UInt8) (R:AV→List (Nat×AObj)→Prop):wpFn te [(227,.rel wmr)] [] 0 Tryz.f198 [.str s] [] R=(List.length s<4294967281∧wac (wdm s) ((∀ (i:Nat),i<List.length (words s)→true=true)∧R (.int .i64 (↑(List.length (words s)):Int)) []) (wac (!decide (s=[])) (R (.int .i64 (-1:Int)) []) (R (.int .i64 0) []))):=by kernel_rfl
theorem wzo (hP:C.P=Tryz.prog) (hL:∀ w,C.laid w→LaidW w):wae C 198 wlq:=by
 rintro args objs U Os vc h hvc
 unfold wlq at h
 split at h<;>simp only [Option.some.injEq,Prod.mk.injEq,reduceCtorEq] at h
 rename_i s
 obtain ⟨rfl,rfl,rfl⟩:=h
 refine wae.wp0 (prg hP) [(227,.rel wmr)] 0 (.cons (wwu hP hL) .nil) (hP ▸ Tryz.func198) rfl rfl rfl ?_
 rw [wx7]
 refine ⟨hvc,wax (fun h=>⟨fun _ _=>rfl,?_,rfl⟩) (fun h=>wcc (fun h'=>⟨?_,rfl⟩) (fun h'=>⟨?_,rfl⟩))⟩
 ·unfold wfo;rw [h]
 ·unfold wfo;rw [h,decide_eq_false h']
 ·unfold wfo;rw [h,decide_eq_true h']
end Go.Eng
namespace Go.Eng
open Go.Proofs Go.RowKit
set_option maxRecDepth 20000
theorem nf_qty (d c a:Int) (R:AV→List (Nat×AObj)→Prop):wpFn te [] [] 0 Tryz.f200 [.agg [.int .i64 d,.int .i64 c,.int .i64 a]] [] R=(wac (decide (d<(1:Int))) (R (.int .i64 80) []) (wac (decide ((4:Int)<d)) (R (.int .i64 80) []) (wac (decide (c<(1:Int))) (R (.int .i64 81) []) (wac (decide ((100:Int)<c)) (R (.int .i64 81) []) (wac (decide (a<(1:Int))) (R (.int .i64 82) []) ((c≠(0:Int)∧inR .i64 (Int.tdiv (1099511627776:Int) c))∧wac (decide (Int.tdiv (1099511627776:Int) c<a)) (R (.int .i64 82) []) (R (.int .i64 0) []))))))):=by kernel_rfl
variable {C:Ctx} [C.Loose]
theorem qty_ok (hP:C.P=Tryz.prog):wae C 200 wld:=by
 have _:C.Loose:=inferInstance
 rintro args objs U Os vc h hvc
 unfold wld at h
 split at h<;>simp only [Option.some.injEq,Prod.mk.injEq,reduceCtorEq] at h
 rename_i d c a
 obtain ⟨rfl,rfl,rfl⟩:=h
 refine wae.wp0 (prg hP) [] 0 .nil (hP ▸ Tryz.func200) rfl rfl rfl ?_
 rw [nf_qty]
 refine wax (fun h1=>?_) (fun h1=>wax (fun h2=>?_) (fun h2=>wax (fun h3=>?_) (fun h3=>wax (fun h4=>?_) (fun h4=>wax (fun h5=>?_) (fun h5=>⟨wwo (of_decide_eq_false h3) (of_decide_eq_false h4),wax (fun h6=>?_) (fun h6=>?_)⟩)))))
 all_goals simp only [qtyF, *,cond_true,cond_false,and_self]
theorem wyd (s:List UInt8) (r:Int) (R:AV→List (Nat×AObj)→Prop):wpFn te [(266,.det wgz),(267,.det wkz)] [(38,wng s),(5,wnf s (Utf8.encode r).data.toList),(25,fun _ _=>False)] 0 Tryz.f253 [.str s,.int .i32 r] [] R=(letI z3:=St.mk [(0,.str s),(175,.ptr 0 0)] [(0,.siter s 0)] 1 [];letI z1:=Array.toList (ByteArray.data (Utf8.encode r));letI z4:=(↑(List.length z1):Int);letI z2:=(St.mk [(0,.str s),(7,.str z1),(8,.int .i64 (z4 - (1:Int))),(9,.int .i64 (z4 - (1:Int)))] [] 0 []);letI z0:=(wac (decide (r=(65533:Int))) (some z3=some z3∧ascii s=true∧R (.int .i64 (-1:Int)) []) (True∧wac (!Lib.validRune r) (R (.int .i64 (-1:Int)) []) (True∧inR .i64 (z4 - (1:Int))∧some z2=some z2∧ascii s=true∧List.length s≤1000000∧2≤List.length z1∧List.length z1≤4∧128≤UInt8.toNat (List.getD z1 (List.length z1 - 1) (0:UInt8))∧R (.int .i64 (-1:Int)) []∧R (.int .i64 (-1:Int)) [])));wac (decide ((0:Int)≤r)) (wac (decide (r<(128:Int))) (inR .u8 r∧True∧R (.int .i64 (Lib.indexByte s (Nat.toUInt8 (Int.toNat r)))) []) z0) z0):=by kernel_rfl
theorem wyc (s:List UInt8) (k:Nat) (P:Nat→Prop) (R:Exit→St→Prop):wa6 ⟨te,[],[],0,187,0⟩ (wa8 Tryz.f253 38) [0,175] [] [4] (wlw s) P R (wlw s k)=(wac (decide (k<List.length s)) (True∧wac (decide ((↑(Prod.fst (wbt s k)):Int)=(65533:Int))) (R .ret (St.mk [(4,.int .i64 (↑k:Int))] [] 0 [])) (∃ (i':Nat),some (St.mk [(0,.str s),(175,.ptr 0 0)] [(0,.siter s (k+Prod.snd (wbt s k)))] 1 [])=some (St.mk [(0,.str s),(175,.ptr 0 0)] [(0,.siter s i')] 1 [])∧P i')) (True∧R (.exit 9) (St.mk [] [] 0 []))):=by kernel_rfl
theorem wyb (s e:List UInt8) (P:Unit→Prop) (R:Exit→St→Prop):wa6 ⟨te,[(266,.det wgz)],[(12,fun _ _=>False),(1015,fun _ _=>False),(1016,fun _ _=>False)],0,187,0⟩ (wa8 Tryz.f253 5) [0,7,8,9] [] [4] (fun _=>wlv s e) P R (wlv s e)=(letI z5:=(↑(List.length s):Int);letI z0:=(↑(List.length e):Int);letI z4:=((0:Int)≤z0 - (1:Int)∧z0 - (1:Int)<z0:Prop);letI z3:=(List.drop (Int.toNat (z0 - (1:Int)+(1:Int))) s);letI z1:=(↑(UInt8.toNat (List.getD e (Int.toNat (z0 - (1:Int))) (0:UInt8))):Int);letI z2:=(Lib.indexByte z3 (Nat.toUInt8 (Int.toNat z1))+(1:Int));wac (decide (z0 - (1:Int)<z5)) (((0:Int)≤z0 - (1:Int)∧z0 - (1:Int)<z5)∧z4∧wac (!decide ((↑(UInt8.toNat (List.getD s (Int.toNat (z0 - (1:Int))) (0:UInt8))):Int)=z1)) (inR .i64 (z0 - (1:Int)+(1:Int))∧((0:Int)≤z0 - (1:Int)+(1:Int)∧z0 - (1:Int)+(1:Int)≤z5)∧z4∧True∧wac (decide (Lib.indexByte z3 (Nat.toUInt8 (Int.toNat z1))<(0:Int))) (R .ret (St.mk [(4,.int .i64 (-1:Int))] [] 0 [])) (inR .i64 z2∧inR .i64 (z0 - (1:Int)+z2)∧False)) False) (R (.exit 1) (St.mk [] [] 0 []))):=by kernel_rfl
theorem wyr (s:List UInt8) (r:Int) (R:AV→List (Nat×AObj)→Prop):wpFn te [(253,.det wlx)] [] 0 Tryz.f231 [.str s,.int .i32 r] [] R=((ascii s=true∧List.length s≤1000000∧(0:Int)≤r∧r≤(1114111:Int))∧R (.bool (decide ((0:Int)≤wch s r))) []):=by kernel_rfl
variable {C:Ctx} [C.Loose]
theorem wte (hP:C.P=Tryz.prog):wae C 266 wgz:=by
 rintro args objs U Os vc h hvc
 unfold wgz at h
 split at h<;>simp only [Option.some.injEq,Prod.mk.injEq,reduceCtorEq] at h
 rename_i s c
 obtain ⟨rfl,rfl,rfl⟩:=h
 refine wak.below ⟨Tryz.f266,hP ▸ Tryz.func266,rfl,by decide⟩ fun w M cargs _ _ hM hl hv=>?_
 obtain ⟨a,b,rfl⟩:=mem2 hl
 have e1:=(hv 0 _ _ rfl rfl).str_iff
 have e2:=(hv 1 _ _ rfl rfl).int_iff
 subst e1;subst e2
 rw [hP]
 refine (Tryz.strings_IndexByte ⟨s.toArray⟩ c w).mono ?_
 rintro e w' ⟨rfl,rfl⟩
 exact ⟨_,rfl,Below.refl _ _,.int⟩
theorem wvt (hP:C.P=Tryz.prog):wae C 267 wkz:=by
 rintro args objs U Os vc h hvc
 unfold wkz at h
 split at h<;>simp only [Option.some.injEq,Prod.mk.injEq,reduceCtorEq] at h
 rename_i r
 obtain ⟨rfl,rfl,rfl⟩:=h
 refine wak.below ⟨Tryz.f267,hP ▸ Tryz.func267,rfl,by decide⟩ fun w M cargs _ _ hM hl hv=>?_
 obtain ⟨a,rfl⟩:=mem1 hl
 have e1:=(hv 0 _ _ rfl rfl).int_iff
 subst e1
 rw [hP]
 refine (Tryz.utf8_ValidRune r w).mono ?_
 rintro e w' ⟨rfl,rfl⟩
 exact ⟨_,rfl,Below.refl _ _,.bool⟩
theorem wz4 (hP:C.P=Tryz.prog) (s:List UInt8):waj C 0 187 (wao Tryz.f253 38) (wng s):=by
 have _:C.Loose:=inferInstance
 rintro st Q ⟨h0,ha,hQ⟩
 refine waj.mk (prg hP) [] 0 .nil [0,175] [] [4] (wlw s) (fun k=>k≤s.length) (fun k=>s.length - k) 0 (Nat.zero_le _) h0 fun k hk=>?_
 rw [wyc]
 refine wax (fun h=>?_) (fun h=>⟨trivial,hQ⟩)
 have h:=of_decide_eq_true h
 have hlt:=wu8 ha h
 rw [woe h hlt]
 refine ⟨trivial,wax (fun h'=>?_) (fun _=>⟨k+1,rfl,by omega,by omega⟩)⟩
 have h':=of_decide_eq_true h'
 simp only at h'
 omega
theorem wz3 (hP:C.P=Tryz.prog) (s e:List UInt8):waj C 0 187 (wao Tryz.f253 5) (wnf s e):=by
 rintro st Q ⟨h0,ha,hs,h2,h4,hl,hQ1,hQ2⟩
 refine waj.mkL (prg hP) [(266,.det wgz)] [(12,fun _ _=>False),(1015,fun _ _=>False),(1016,fun _ _=>False)] 0 (.cons (wte hP) .nil)
  [(wao Tryz.f253 12,fun _ _=>False),(regC Tryz.f253 15,fun _ _=>False),(regC Tryz.f253 16,fun _ _=>False)] (by kernel_rfl)
  ⟨fun _ _ h=>h.elim,fun _ _ h=>h.elim,fun _ _ h=>h.elim,trivial⟩ [0,7,8,9] [] [4] (fun _:Unit=>wlv s e) (fun _=>True) (fun _=>0) () trivial h0 fun _ _=>?_
 rw [wyb]
 refine wax (fun h=>?_) (fun h=>hQ1)
 have h:=of_decide_eq_true h
 have e1:((e.length:Int) - 1).toNat=e.length - 1:=by omega
 have e2:((e.length:Int) - 1+1).toNat=e.length:=by omega
 have hlo:=wu8 ha (k:=e.length - 1) (by omega)
 simp only [e1,e2,inR]
 have hne:decide (((s.getD (e.length - 1) 0).toNat:Int)=((e.getD (e.length - 1) 0).toNat:Int))=false:=decide_eq_false (by omega)
 rw [hne]
 have hb:(e.getD (e.length - 1) 0).toNat<256:=(e.getD (e.length - 1) 0).toNat_lt
 have hneg:=w0b (w14 ha e.length) (c:=((e.getD (e.length - 1) 0).toNat:Int).toNat.toUInt8) (by rw [wqw];exact hl)
 refine ⟨by omega,by omega,by omega,by omega,by omega,trivial,?_⟩
 rw [hneg]
 exact hQ2
theorem wz8 (hP:C.P=Tryz.prog):wae C 253 wlx:=by
 rintro args objs U Os vc h hvc
 unfold wlx at h
 split at h<;>simp only [Option.some.injEq,Prod.mk.injEq,reduceCtorEq] at h
 rename_i s r
 obtain ⟨rfl,rfl,rfl⟩:=h
 obtain ⟨ha,hs,h0,h1⟩:=hvc
 refine wae.wpL (prg hP) [(266,.det wgz),(267,.det wkz)] [(38,wng s),(5,wnf s (Utf8.encode r).data.toList),(25,fun _ _=>False)] 0
  (.cons (wte hP) (.cons (wvt hP) .nil)) (hP ▸ Tryz.func253) rfl rfl rfl
  [(wao Tryz.f253 38,wng s),(wao Tryz.f253 5,wnf s (Utf8.encode r).data.toList),(wao Tryz.f253 25,fun _ _=>False)] (by kernel_rfl)
  ⟨wz4 hP s,wz3 hP s _,fun _ _ h=>h.elim,trivial⟩ ?_
 rw [wyd]
 refine wax (fun _=>wax (fun h=>?_) (fun h=>?_)) (fun h=>absurd h0 (of_decide_eq_false h))
 ·have h':=of_decide_eq_true h
  refine ⟨by simp only [inR];omega,trivial,?_,rfl⟩
  simp only [wch,h]
 ·have h':=of_decide_eq_false h
  refine wax (fun _=>⟨rfl,ha,?_,rfl⟩) (fun _=>⟨trivial,wax (fun _=>⟨?_,rfl⟩) (fun hv=>?_)⟩)
  ·simp only [wch,h]
  ·simp only [wch,h]
  ·have hv:Lib.validRune r=true:=by simpa using hv
   obtain ⟨l1,l2,l3⟩:=w0y (by omega) hv
   refine ⟨trivial,by simp only [inR];omega,rfl,ha,hs,l1,l2,l3,⟨?_,rfl⟩,⟨?_,rfl⟩⟩
   ·simp only [wch,h]
   ·simp only [wch,h]
theorem w09 (hP:C.P=Tryz.prog):wae C 231 wmd:=by
 rintro args objs U Os vc h hvc
 unfold wmd at h
 split at h<;>simp only [Option.some.injEq,Prod.mk.injEq,reduceCtorEq] at h
 rename_i s r
 obtain ⟨rfl,rfl,rfl⟩:=h
 refine wae.wp0 (prg hP) [(253,.det wlx)] 0 (.cons (wz8 hP) .nil) (hP ▸ Tryz.func231) rfl rfl rfl ?_
 rw [wyr]
 exact ⟨hvc,rfl,rfl⟩
theorem wxz (r:Int) (R:AV→List (Nat×AObj)→Prop):wpFn te [(231,.det wmd)] [] 0 Tryz.f230 [.int .i32 r] [] R=((true=true∧38≤1000000∧(0:Int)≤r∧r≤(1114111:Int))∧R (.bool !decide ((0:Int)≤wch ([(97:UInt8),98,99,100,101,102,103,104,105,106,107,108,109,110,111,112,113,114,115,116,117,118,119,120,121,122,48,49,50,51,52,53,54,55,56,57,45,46]) r)) []):=by kernel_rfl
theorem wyf (s:List UInt8) (R:AV→List (Nat×AObj)→Prop):wpFn te [] [(2,wnh s)] 0 Tryz.f265 [.str s,.func 230 [],.bool true] [] R=(letI z0:=St.mk [(1,.func 230 []),(2,.bool true),(10,.ptr 0 0)] [(0,.siter s 0)] 1 [];some z0=some z0∧wac (List.all s isNB) (R (.int .i64 (-1:Int)) []) (R (.int .i64 (↑(wc9 s):Int)) [])):=by kernel_rfl
theorem wye (s:List UInt8) (k:Nat) (P:Nat→Prop) (R:Exit→St→Prop):wa6 ⟨te,[(230,.det wlj)],[],0,21,0⟩ (wa8 Tryz.f265 2) [1,2,10] [] [6] (wl3 s) P R (wl3 s k)=(letI z1:=([(1,.func 230 []),(2,.bool true),(10,.ptr 0 0)]:List (Nat×AV));letI z0:=(↑(Prod.fst (wbt s k)):Int);wac (decide (k<List.length s)) (True∧((0:Int)≤z0∧z0≤(1114111:Int))∧wac (decide ((!decide ((0:Int)≤wch wev z0))=true)) (R .ret (St.mk [(6,.int .i64 (↑k:Int))] [] 0 [])) (∃ (i':Nat),some (St.mk z1 [(0,.siter s (k+Prod.snd (wbt s k)))] 1 [])=some (St.mk z1 [(0,.siter s i')] 1 [])∧P i')) (True∧R (.exit 0) (St.mk [] [] 0 []))):=by kernel_rfl
theorem wy0 (s:List UInt8) (R:AV→List (Nat×AObj)→Prop):wpFn te [(265,.det wly)] [] 0 Tryz.f252 [.str s,.func 230 []] [] R=(True∧R (.int .i64 (we1 s)) []):=by kernel_rfl
theorem wy1 (s:List UInt8) (R:AV→List (Nat×AObj)→Prop):wpFn te [(252,.det wmm)] [] 0 Tryz.f229 [.str s,.func 230 []] [] R=(True∧R (.bool (decide ((0:Int)≤we1 s))) []):=by kernel_rfl
theorem nf_name (s:List UInt8) (R:AV→List (Nat×AObj)→Prop):wpFn te [(228,.det wek),(229,.det wmn)] [] 0 Tryz.f199 [.str s] [] R=(wac (!decide (s=[])) (wac (decide ((↑(List.length s):Int)≤(24:Int))) (((0:Int)≤(1:Int)∧(1:Int)≤(↑(List.length s):Int))∧(List.length (List.take (Int.toNat (1:Int)) s)≤9223372036854775807∧2≤36∧36<4294967281∧∀ (b:UInt8),b∈[(97:UInt8),98,99,100,101,102,103,104,105,106,107,108,109,110,111,112,113,114,115,116,117,118,119,120,121,122,48,49,50,51,52,53,54,55,56,57]→UInt8.toNat b<128)∧wac (decide (weo ([(97:UInt8),98,99,100,101,102,103,104,105,106,107,108,109,110,111,112,113,114,115,116,117,118,119,120,121,122,48,49,50,51,52,53,54,55,56,57]) (List.take (Int.toNat (1:Int)) s)=[])) (True∧R (.bool !!List.all s isNB) []) (R (.bool false) [])) (R (.bool false) [])) (R (.bool false) [])):=by kernel_rfl
variable {C:Ctx} [C.Loose]
theorem wy7 (hP:C.P=Tryz.prog):wae C 230 wlj:=by
 rintro args objs U Os vc h hvc
 unfold wlj at h
 split at h<;>simp only [Option.some.injEq,Prod.mk.injEq,reduceCtorEq] at h
 rename_i r
 obtain ⟨rfl,rfl,rfl⟩:=h
 refine wae.wp0 (prg hP) [(231,.det wmd)] 0 (.cons (w09 hP) .nil) (hP ▸ Tryz.func230) rfl rfl rfl ?_
 rw [wxz]
 exact ⟨⟨rfl,by omega,hvc.1,hvc.2⟩,rfl,rfl⟩
theorem w0a (hP:C.P=Tryz.prog) (s:List UInt8):waj C 0 21 (wao Tryz.f265 2) (wnh s):=by
 rintro st Q ⟨h0,hQ⟩
 have hQ:=wb7 hQ
 refine waj.mk (prg hP) [(230,.det wlj)] 0 (.cons (wy7 hP) .nil) [1,2,10] [] [6] (wl3 s) (fun k=>k≤s.length∧∀ j,j<k→isNB (s.getD j 0)=true) (fun k=>s.length - k) 0 ⟨Nat.zero_le _,fun j h=>by omega⟩ h0 fun k ⟨hk,hall⟩=>?_
 rw [wye]
 refine wax (fun h=>?_) (fun h=>⟨trivial,?_⟩)
 ·have h:=of_decide_eq_true h
  have hle:=wwh h
  refine ⟨trivial,⟨by omega,by omega⟩,?_⟩
  -- what the predicate says of the rune is what isNB says of the byte
  have key:(decide (0≤wch wev ((wbt s k).1:Int)))=isNB (s.getD k 0)∧(isNB (s.getD k 0)=true→(wbt s k).2=1):=by
   by_cases hlo:(s.getD k 0).toNat<128
   ·rw [woe h hlo]
    exact ⟨wy3 _ hlo,fun _=>rfl⟩
   ·have hh:=wrp h (by omega)
    have hn:isNB (s.getD k 0)=false:=by
     generalize s.getD k 0=b at *
     simp only [isNB,wfs,Bool.or_eq_false_iff,Bool.and_eq_false_imp,decide_eq_true_eq,decide_eq_false_iff_not]
     omega
    rw [wy4 _ hh.1,hn]
    exact ⟨rfl,fun h=>by cases h⟩
  rw [key.1]
  refine wax (fun hb=>?_) (fun hb=>?_)
  ·have hb:isNB (s.getD k 0)=false:=by simpa using hb
   have hf:s.all isNB=false:=by
    cases ha:s.all isNB with
    |false=>rfl
    |true=>
     have:=List.all_eq_true.1 ha (s.getD k 0) (by simp [List.getD,h])
     rw [hb] at this;cases this
   obtain ⟨b1,b2,b3⟩:=w11 hf
   have:wc9 s=k:=by
    rcases Nat.lt_trichotomy (wc9 s) k with hl | hl | hl
    ·rw [hall _ hl] at b2;cases b2
    ·exact hl
    ·rw [b3 k hl] at hb;cases hb
   have hq:=hQ.2 hf
   rw [this] at hq
   exact hq
  ·have hb:isNB (s.getD k 0)=true:=by simpa using hb
   rw [key.2 hb]
   refine ⟨k+1,rfl,⟨by omega,fun j hj=>?_⟩,by omega⟩
   rcases Nat.lt_succ_iff_lt_or_eq.1 hj with hj | rfl
   ·exact hall j hj
   ·exact hb
 ·have h:=of_decide_eq_false h
  refine hQ.1 (List.all_eq_true.2 fun b hb=>?_)
  obtain ⟨j,hj,rfl⟩:=List.getElem_of_mem hb
  have:=hall j (by omega)
  simpa [List.getD,hj] using this
theorem wz9 (hP:C.P=Tryz.prog):wae C 265 wly:=by
 rintro args objs U Os vc h hvc
 unfold wly at h
 split at h<;>simp only [Option.some.injEq,Prod.mk.injEq,reduceCtorEq] at h
 rename_i s
 obtain ⟨rfl,rfl,rfl⟩:=h
 refine wae.wpL (prg hP) [] [(2,wnh s)] 0 .nil (hP ▸ Tryz.func265) rfl rfl rfl [(wao Tryz.f265 2,wnh s)] (by kernel_rfl) ⟨w0a hP s,trivial⟩ ?_
 rw [wyf]
 refine ⟨rfl,wax (fun h=>⟨?_,rfl⟩) (fun h=>⟨?_,rfl⟩)⟩
 ·simp only [we1,h]
 ·simp only [we1,h]
theorem w2e (hP:C.P=Tryz.prog):wae C 252 wmm:=by
 rintro args objs U Os vc h hvc
 unfold wmm at h
 split at h<;>simp only [Option.some.injEq,Prod.mk.injEq,reduceCtorEq] at h
 rename_i s
 obtain ⟨rfl,rfl,rfl⟩:=h
 refine wae.wp0 (prg hP) [(265,.det wly)] 0 (.cons (wz9 hP) .nil) (hP ▸ Tryz.func252) rfl rfl rfl ?_
 rw [wy0]
 exact ⟨trivial,rfl,rfl⟩
theorem w2f (hP:C.P=Tryz.prog):wae C 229 wmn:=by
 rintro args objs U Os vc h hvc
 unfold wmn at h
 split at h<;>simp only [Option.some.injEq,Prod.mk.injEq,reduceCtorEq] at h
 rename_i s
 obtain ⟨rfl,rfl,rfl⟩:=h
 refine wae.wp0 (prg hP) [(252,.det wmm)] 0 (.cons (w2e hP) .nil) (hP ▸ Tryz.func229) rfl rfl rfl ?_
 rw [wy1,w0p]
 exact ⟨trivial,rfl,rfl⟩
theorem wsk (hP:C.P=Tryz.prog):wae C 199 wgx:=by
 rintro args objs U Os vc h hvc
 unfold wgx at h
 split at h<;>simp only [Option.some.injEq,Prod.mk.injEq,reduceCtorEq] at h
 rename_i s
 obtain ⟨rfl,rfl,rfl⟩:=h
 refine wae.wp0 (prg hP) [(228,.det wek),(229,.det wmn)] 0 (.cons (whe hP) (.cons (w2f hP) .nil)) (hP ▸ Tryz.func199) rfl rfl rfl ?_
 rw [nf_name]
 cases s with
 |nil=>exact ⟨rfl,rfl⟩
 |cons b r=>
  have e:(b::r).take (Int.toNat 1)=[b]:=rfl
  have hasc:∀ x∈wjl,UInt8.toNat x<128:=by decide+kernel
  rw [e,wv0]
  have hl:(List.length (b::r):Int)=r.length+1:=by simp
  have hl':List.length (b::r)=r.length+1:=rfl
  have hd:(b::r).getD 0 0=b:=rfl
  refine wax (fun _=>wax (fun h=>⟨by omega,⟨by simp,by omega,by omega,hasc⟩,wax (fun h'=>⟨trivial,?_,rfl⟩) (fun h'=>⟨?_,rfl⟩)⟩) (fun h=>⟨?_,rfl⟩)) (fun h=>by simp at h)
  ·have h:=of_decide_eq_true h
   simp only [wa5,hd,h',hl',Bool.not_not]
   rw [decide_eq_true (by omega),decide_eq_true (by omega)]
   rfl
  ·simp only [wa5,hd,h',Bool.and_false,Bool.false_and]
  ·have h:=of_decide_eq_false h
   simp only [wa5,hl']
   rw [decide_eq_false (p:=r.length+1≤24) (by omega)]
   simp
end Go.Eng
namespace Go.Eng
open Go.Proofs
set_option maxRecDepth 20000
theorem wym (s:List UInt8) (a b:Int) (R:AV→List (Nat×AObj)→Prop):wpFn te [(228,.det wek)] [] 0 Tryz.f201 [.str s,.int .i64 a,.int .i64 b] [] R=(letI z0:=((List.length s≤9223372036854775807∧2≤10∧10<4294967281∧∀ (b:UInt8),b∈[(48:UInt8),49,50,51,52,53,54,55,56,57]→UInt8.toNat b<128)∧R (.bool (decide (weo ([(48:UInt8),49,50,51,52,53,54,55,56,57]) s=[]))) []:Prop);wac (decide ((↑(List.length s):Int)=a)) z0 (wac (decide ((↑(List.length s):Int)=b)) z0 (R (.bool false) []))):=by kernel_rfl
theorem wyy (s:List UInt8) (R:AV→List (Nat×AObj)→Prop):wpFn te [(201,.det wg1)] [(5,wnq s)] 0 Tryz.f202 [.str s] [] R=(((7:Int)≤(100:Int)∧(12:Int)≤(100:Int))∧wac (!wb3 s (7:Int) (12:Int)) (R (.tuple [.int .i64 0,.bool false]) []) (some (St.mk [(0,.str s),(4,.int .i64 0),(11,.int .i64 (↑(List.length s):Int)),(12,.int .i64 0)] [] 0 [])=some (St.mk [(0,.str s),(4,.int .i64 (wa7 s 0)),(11,.int .i64 (↑(List.length s):Int)),(12,.int .i64 (↑0:Int))] [] 0 [])∧List.length s≤12∧List.all s wb0=true∧(10:Int)≠(0:Int)∧inR .i64 ((10:Int) - Int.tmod (wa7 s (List.length s)) (10:Int))∧(10:Int)≠(0:Int)∧R (.tuple [.int .i64 (Int.tmod ((10:Int) - Int.tmod (wa7 s (List.length s)) (10:Int)) (10:Int)),.bool true]) [])):=by kernel_rfl
theorem wyx (s:List UInt8) (k:Nat) (P:Nat→Prop) (R:Exit→St→Prop):wa6 ⟨te,[],[],0,36,0⟩ (wa8 Tryz.f202 5) [0,4,11,12] [4] [] (S_cd s) P R (S_cd s k)=(letI z1:=(↑(List.length s):Int);letI z0:=(↑(UInt8.toNat (List.getD s (Int.toNat (↑k:Int)) (0:UInt8))):Int);letI z2:=(wa7 s k+((1:Int)+(2:Int) * Int.tmod (z1 - (↑k:Int)) (2:Int)) * ((z0 - (48:Int)) % (256:Int)));wac (decide ((↑k:Int)<z1)) (inR .i64 (z1 - (↑k:Int))∧(2:Int)≠(0:Int)∧inR .i64 ((2:Int) * Int.tmod (z1 - (↑k:Int)) (2:Int))∧inR .i64 ((1:Int)+(2:Int) * Int.tmod (z1 - (↑k:Int)) (2:Int))∧((0:Int)≤(↑k:Int)∧(↑k:Int)<z1)∧inR .i64 ((z0 - (48:Int)) % (256:Int))∧inR .i64 (((1:Int)+(2:Int) * Int.tmod (z1 - (↑k:Int)) (2:Int)) * ((z0 - (48:Int)) % (256:Int)))∧inR .i64 z2∧inR .i64 ((↑k:Int)+(1:Int))∧∃ (i':Nat),some (St.mk [(0,.str s),(4,.int .i64 z2),(11,.int .i64 z1),(12,.int .i64 ((↑k:Int)+(1:Int)))] [] 0 [])=some (St.mk [(0,.str s),(4,.int .i64 (wa7 s i')),(11,.int .i64 z1),(12,.int .i64 (↑i':Int))] [] 0 [])∧P i') (R (.exit 0) (St.mk [(4,.int .i64 (wa7 s k))] [] 0 []))):=by kernel_rfl
theorem ww7 (s:List UInt8) (R:AV→List (Nat×AObj)→Prop):wpFn te [(201,.det wg1),(202,.det wfb)] [] 0 Tryz.f160 [.str s] [] R=(letI z0:=(↑(List.length s):Int);letI z1:=(↑(UInt8.toNat (List.getD s (Int.toNat (z0 - (1:Int))) (0:UInt8))):Int);((8:Int)≤(100:Int)∧(13:Int)≤(100:Int))∧wac (!wb3 s (8:Int) (13:Int)) (R (.bool false) []) (inR .i64 (z0 - (1:Int))∧((0:Int)≤z0 - (1:Int)∧z0 - (1:Int)≤z0)∧True∧((0:Int)≤z0 - (1:Int)∧z0 - (1:Int)<z0)∧inR .i64 ((z1 - (48:Int)) % (256:Int))∧R (.bool (decide (Prod.fst (cdF (List.take (Int.toNat (z0 - (1:Int))) s))=(z1 - (48:Int)) % (256:Int)))) [])):=by kernel_rfl
variable {C:Ctx} [C.Loose]
theorem wuk (hP:C.P=Tryz.prog) (htrim:wae C 228 wek):wae C 201 wg1:=by
 have _:C.Loose:=inferInstance
 rintro args objs U Os vc h hvc
 unfold wg1 at h
 split at h<;>simp only [Option.some.injEq,Prod.mk.injEq,reduceCtorEq] at h
 rename_i s a b
 obtain ⟨rfl,rfl,rfl⟩:=h
 refine wae.wp0 (prg hP) [(228,.det wek)] 0 (.cons htrim .nil) (hP ▸ Tryz.func201) rfl rfl rfl ?_
 rw [wym]
 have hm:(9223372036854775807:Nat)=maxLen:=rfl
 have hlt:∀ b∈([48,49,50,51,52,53,54,55,56,57]:List UInt8),UInt8.toNat b<128:=by decide
 refine wax (fun h=>?_) (fun h=>wax (fun h'=>?_) (fun h'=>?_))
 ·have h2:=of_decide_eq_true h
  refine ⟨⟨by omega,by omega,by omega,hlt⟩,?_,rfl⟩
  simp only [wb3,h,Bool.true_or,Bool.true_and,wq0]
 ·have h2:=of_decide_eq_true h'
  refine ⟨⟨by omega,by omega,by omega,hlt⟩,?_,rfl⟩
  simp only [wb3,h',Bool.or_true,Bool.true_and,wq0]
 ·simp [wb3,h,h']
theorem wkj {s:List UInt8} (h:s.all wb0=true):∀ k,k≤s.length→0≤wa7 s k∧wa7 s k≤27 * k
 |0,_=>by simp [wa7]
 |k+1,hk=>by
  have ih:=wkj h k (by omega)
  have hd:=wjy h k (by omega)
  simp only [wa7]
  rcases Int.emod_two_eq (↑s.length - ↑k) with e | e<;>rw [e]<;>omega
theorem w1k (hP:C.P=Tryz.prog) (s:List UInt8):waj C 0 36 (wao Tryz.f202 5) (wnq s):=by
 have _:C.Loose:=inferInstance
 rintro st Q ⟨h0,hlen,hall,hQ⟩
 refine waj.mk (prg hP) [] 0 .nil [0,4,11,12] [4] [] (S_cd s) (fun k=>k≤s.length) (fun k=>s.length - k) 0 (Nat.zero_le _) h0 fun k hk=>?_
 rw [wyx]
 have hb:=wkj hall k hk
 refine wax (fun h=>?_) (fun h=>?_)
 ·have h:=of_decide_eq_true h
  have hd:=wjy hall k (by omega)
  have e:Int.tmod (↑s.length - ↑k) 2=(↑s.length - ↑k) % 2:=Int.tmod_eq_emod_of_nonneg (by omega)
  have e3:((s.getD k 0).toNat - 48:Int) % 256=(s.getD k 0).toNat - 48:=by omega
  simp only [inR,e,Int.toNat_natCast,e3]
  have hs:wa7 s (k+1)=wa7 s k+(1+2 * ((↑s.length - ↑k) % 2)) * (↑(s.getD k 0).toNat - 48):=rfl
  rcases Int.emod_two_eq (↑s.length - ↑k) with e | e<;>rw [e] at hs ⊢ <;>and_intros<;>first
   |omega
   |exact ⟨k+1,by rw [hs];rfl,by omega,by omega⟩
 ·have h:=of_decide_eq_false h
  have hk:k=s.length:=by omega
  rw [hk];exact hQ
theorem w1j (hP:C.P=Tryz.prog) (htrim:wae C 228 wek):wae C 202 wfb:=by
 rintro args objs U Os vc h hvc
 unfold wfb at h
 split at h<;>simp only [Option.some.injEq,Prod.mk.injEq,reduceCtorEq] at h
 rename_i s
 obtain ⟨rfl,rfl,rfl⟩:=h
 refine wae.wpL (prg hP) [(201,.det wg1)] [(5,wnq s)] 0 (.cons (wuk hP htrim) .nil) (hP ▸ Tryz.func202) rfl rfl rfl [(wao Tryz.f202 5,wnq s)] (by kernel_rfl) ⟨w1k hP s,trivial⟩ ?_
 rw [wyy]
 refine ⟨by omega,wax (fun h=>?_) (fun h=>?_)⟩
 ·have h:wb3 s 7 12=false:=by simpa using h
  simp [cdF,h]
 ·have h:wb3 s 7 12=true:=by simpa using h
  have h':=h
  simp only [wb3,Bool.and_eq_true,Bool.or_eq_true,decide_eq_true_eq] at h'
  have hb:=wkj h'.2 s.length (Nat.le_refl _)
  have e:Int.tmod (wa7 s s.length) 10=wa7 s s.length % 10:=Int.tmod_eq_emod_of_nonneg (by omega)
  rw [e,Int.tmod_eq_emod_of_nonneg (by omega)]
  refine ⟨rfl,by omega,h'.2,by omega,by simp only [inR];omega,by omega,?_,rfl⟩
  simp [cdF,h]
theorem wix (hP:C.P=Tryz.prog) (htrim:wae C 228 wek):wae C 160 wdy:=by
 rintro args objs U Os vc h hvc
 unfold wdy at h
 split at h<;>simp only [Option.some.injEq,Prod.mk.injEq,reduceCtorEq] at h
 rename_i s
 obtain ⟨rfl,rfl,rfl⟩:=h
 refine wae.wp0 (prg hP) [(201,.det wg1),(202,.det wfb)] 0 (.cons (wuk hP htrim) (.cons (w1j hP htrim) .nil)) (hP ▸ Tryz.func160) rfl rfl rfl ?_
 rw [ww7]
 refine ⟨by omega,wax (fun h=>?_) (fun h=>?_)⟩
 ·have h:wb3 s 8 13=false:=by simpa using h
  simp [wbg,h]
 ·have h:wb3 s 8 13=true:=by simpa using h
  have h':=h
  simp only [wb3,Bool.and_eq_true,Bool.or_eq_true,decide_eq_true_eq] at h'
  have e:(↑s.length - 1:Int).toNat=s.length - 1:=by omega
  have hd:=wjy h'.2 (s.length - 1) (by omega)
  rw [e]
  have e2:((s.getD (s.length - 1) 0).toNat - 48:Int) % 256=(s.getD (s.length - 1) 0).toNat - 48:=by omega
  simp only [inR,e2]
  refine ⟨by omega,by omega,trivial,by omega,by omega,?_,trivial⟩
  simp [wbg,h]
end Go.Eng
namespace Go.Eng
open Go.Proofs Go.RowKit
variable {C:Ctx} [C.Loose]
set_option maxRecDepth 20000
theorem nf_valw (id code brand:List UInt8) (d c a:Int) (n:Nat) (nm vl:Nat→List UInt8) (R:AV→List (Nat×AObj)→Prop):wpFn te [(160,.det wdy),(198,.det wlq),(199,.det wgx),(200,.det wld)] [(13,L_vw n nm vl)] 2 Tryz.f159 [.agg [.str id,.str code,.str brand,.int .i64 d,.int .i64 c,.int .i64 a,.view 2 n (we4 nm vl)]] [] R=(True∧wac (!wbg id) (R (.int .i64 90) []) (List.length code<4294967281∧wac (decide (wfo code<(1:Int))) (R (.int .i64 91) []) (True∧wac (!wa5 brand) (R (.int .i64 92) []) (True∧wac (!decide (qtyF d c a=(0:Int))) (R (.int .i64 93) []) (wac (decide ((12:Int)<(↑n:Int))) (R (.int .i64 94) []) (some (St.mk [(3,.map 0),(33,.view 2 n (we4 nm vl)),(34,.int .i64 (↑n:Int)),(35,.int .i64 0)] [(0,.amap (List.map (fun (p:AV×AV)=>(AV.rn (ren 0 [(65,0)]) (Prod.fst p),AV.rn (ren 0 [(65,0)]) (Prod.snd p))) []))] 1 [])=some (St.mk [(3,.map 0),(33,.view 2 n (we4 nm vl)),(34,.int .i64 (↑n:Int)),(35,.int .i64 (↑0:Int))] [(0,.amap (wbs nm 0))] 1 [])∧n≤12∧(∀ (i:Nat),i<n→List.length (nm i)<4294967281∧List.length (vl i)<4294967281)∧wac (wdx nm vl n) (R (.int .i64 0) []) (R (.int .i64 94) []))))))):=by kernel_rfl
theorem ww5 (n:Nat) (nm vl:Nat→List UInt8) (k:Nat) (P:Nat→Prop) (R:Exit→St→Prop):wa6 ⟨te,[(199,.det wgx)],[],0,59,0⟩ (wa8 Tryz.f159 13) [3,33,34,35] [] [2] (S_vw n nm vl) P R (S_vw n nm vl k)=(letI z3:=(Int.toNat (↑k:Int));letI z2:=TI.desc (TI.mk TypeDesc.string 1 16 (Value.string (ByteArray.mk #[])) false);letI z1:=R .ret (St.mk [(2,.int .i64 94)] [] 0 []);letI z0:=(mget (wbs nm k) (.str (nm z3)));letI z4:=wgp (Option.getD z0 (zvA (.bool false)));wac (decide ((↑k:Int)<(↑n:Int))) (((0:Int)≤(↑k:Int)∧(↑k:Int)<(↑n:Int)∧2=2)∧True∧wac (!wa5 (nm z3)) z1 (True∧wac (!wa5 (vl z3)) z1 ((wbr z2 (wbs nm k)∧.bool z4=Option.getD z0 (zvA (.bool false)))∧wac z4 z1 (wbr z2 (wbs nm k)∧inR .i64 ((↑k:Int)+(1:Int))∧∃ (i':Nat),some (St.mk [(3,.map 0),(33,.view 2 n (we4 nm vl)),(34,.int .i64 (↑n:Int)),(35,.int .i64 ((↑k:Int)+(1:Int)))] [(0,.amap (List.map (fun (p:AV×AV)=>(AV.rn (ren 0 [(0,0)]) (Prod.fst p),AV.rn (ren 0 [(0,0)]) (Prod.snd p))) (mset (wbs nm k) (.str (nm z3)) (.bool true))))] 1 [])=some (St.mk [(3,.map 0),(33,.view 2 n (we4 nm vl)),(34,.int .i64 (↑n:Int)),(35,.int .i64 (↑i':Int))] [(0,.amap (wbs nm i'))] 1 [])∧P i')))) (R (.exit 1) (St.mk [] [] 0 []))):=by kernel_rfl
theorem wvs (hP:C.P=Tryz.prog) (n:Nat) (nm vl:Nat→List UInt8):waj C 0 59 (wao Tryz.f159 13) (L_vw n nm vl):=by
 rintro st Q ⟨h0,hn,hs,hQ⟩
 have hR:=wb7 hQ
 refine waj.mk (prg hP) [(199,.det wgx)] 0 (.cons (wsk hP) .nil) [3,33,34,35] [] [2] (S_vw n nm vl) (fun k=>k≤n∧wdx nm vl k=true) (fun k=>n - k) 0 ⟨by omega,rfl⟩ h0 (fun k hk=>?_)
 obtain ⟨hkn,hok⟩:=hk
 rw [ww5]
 have hbad:∀ m,k≤m→k<m→atOK nm vl k=false→wdx nm vl m=false:=by
  intro m
  induction m with
  |zero=>intro _ h;omega
  |succ m ih=>
   intro _ h2 h3
   rw [wdx]
   by_cases hkm:k=m
   ·subst hkm;rw [h3,Bool.and_false]
   ·rw [ih (by omega) (by omega) h3,Bool.false_and]
 rw [Int.toNat_natCast]
 refine wal (fun h1=>?_) (fun h1=>?_)
 ·have hlt:k<n:=by omega
  have hfail:atOK nm vl k=false→Q .ret (St.mk [(2,.int .i64 94)] [] 0 []):=fun h=>hR.2 (hbad n hkn hlt h)
  have hk:=wrl nm vl k hok
  rw [wsw]
  refine ⟨⟨by omega,by omega,rfl⟩,trivial,wcw (fun h2=>hfail (by unfold atOK;rw [h2];rfl)) (fun h2=>⟨trivial,wcw (fun h3=>hfail (by unfold atOK;rw [h3,Bool.and_false];rfl)) (fun h3=>⟨⟨hk,?_⟩,?_⟩)⟩)⟩
  ·cases (List.range k).any (fun i=>decide (nm i=nm k))<;>rfl
  ·cases ha:(List.range k).any (fun i=>decide (nm i=nm k)) with
   |true=>exact hfail (by unfold atOK;rw [wj3,ha];simp)
   |false=>
    have hat:atOK nm vl k=true:=by unfold atOK;rw [h2,h3,wj3,ha];rfl
    refine ⟨hk,by simp only [inR];omega,k+1,?_,⟨by omega,by rw [wdx,hok,hat];rfl⟩,by omega⟩
    rw [wzd nm _ _ k ha,show wbs nm k++[(.str (nm k),AV.bool true)]=wbs nm (k+1) from rfl,wrk]
    rfl
 ·have:k=n:=by omega
  subst this
  exact hR.1 hok
theorem valV_ok (hP:C.P=Tryz.prog) (hL:∀ w,C.laid w→LaidW w):wae C 159 S_valV:=by
 rintro args objs U Os vc h hvc
 unfold S_valV at h
 split at h<;>simp only [Option.some.injEq,Prod.mk.injEq,reduceCtorEq] at h
 rename_i id code brand d c a n f
 obtain ⟨rfl,rfl,rfl⟩:=h
 obtain ⟨hn,h1,h2,hs,hf⟩:=hvc
 rw [hf]
 rw [← hf]
 generalize nmOf f=nm at *
 generalize vlOf f=vl at *
 rw [hf]
 unfold valF
 refine wae.wpL (prg hP) [(160,.det wdy),(198,.det wlq),(199,.det wgx),(200,.det wld)] [(13,L_vw n nm vl)] 2 (.cons (wix hP (whe hP)) (.cons (wzo hP hL) (.cons (wsk hP) (.cons (qty_ok hP) .nil)))) (hP ▸ Tryz.func159) rfl rfl rfl [(wao Tryz.f159 13,L_vw n nm vl)] (by kernel_rfl) ⟨wvs hP n nm vl,trivial⟩ ?_
 rw [nf_valw,wzp]
 refine ⟨trivial,wcw (fun q1=>?_) (fun q1=>⟨h1,wcw (fun q2=>?_) (fun q2=>⟨trivial,wcw (fun q3=>?_) (fun q3=>⟨trivial,wcc (fun q4=>?_) (fun q4=>wal (fun q5=>?_) (fun q5=>⟨rfl,by omega,hs,wax (fun q6=>?_) (fun q6=>?_)⟩))⟩)⟩)⟩)⟩
 ·rw [q1];exact ⟨rfl,rfl⟩
 ·rw [q1,q2];exact ⟨rfl,rfl⟩
 ·rw [q1,q2,q3];exact ⟨rfl,rfl⟩
 ·rw [q1,q2,q3,decide_eq_false q4];exact ⟨rfl,rfl⟩
 ·rw [q1,q2,q3,decide_eq_true q4,decide_eq_true (show 12<n by omega)];exact ⟨rfl,rfl⟩
 ·rw [q1,q2,q3,decide_eq_true q4,decide_eq_false (show ¬ 12<n by omega),q6];exact ⟨rfl,rfl⟩
 ·rw [q1,q2,q3,decide_eq_true q4,decide_eq_false (show ¬ 12<n by omega),q6];exact ⟨rfl,rfl⟩
end Go.Eng
