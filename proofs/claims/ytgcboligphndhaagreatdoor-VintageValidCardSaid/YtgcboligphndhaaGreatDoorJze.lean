/- The engine, part 43: sorting rows that hold slices. -/
import Derived.Test.YtgcboligphndhaaGreatDoorJu
import Derived.Test.YtgcboligphndhaaGreatDoorJv
import Derived.Test.YtgcboligphndhaaGreatDoorJzd
import Derived.Test.YtgcboligphndhaaGreatDoorJx
import Derived.Test.YtgcboligphndhaaGreatDoorJr
namespace Go.Eng
def entT (K:List (List UInt8)) (F:List UInt8→FL):List (AV×AV):=K.map fun t=>(.str t,.agg (wbb (F t)))
theorem wcz (g:Nat→FL) (k:Nat):entN g k=entT (wav okV g k) (wbf okV g k):=rfl
theorem wgv (a b:List UInt8):keq (.str a) (.str b)=decide (a=b):=by
 rfl
theorem wpw (F:List UInt8→FL) (x:List UInt8):∀ K,mget (entT K F) (.str x)=if x∈K then some (.agg (wbb (F x))) else none
 |[]=>rfl
 |t::K=>by
  show (match keq (.str t) (.str x) with | true=>some (AV.agg (wbb (F t))) | false=>mget (entT K F) (.str x))=_
  rw [wgv,wpw F x K]
  by_cases h:t=x
  ·subst h;simp
  ·have h':¬ x=t:=fun e=>h e.symm
   simp [h,h']
theorem wtt (F:List UInt8→FL) (x:List UInt8) (G:FL):∀ K,x ∉ K→mset (entT K F) (.str x) (.agg (wbb G))=entT (K++[x]) (fun t=>if t=x then G else F t)
 |[],_=>by simp [entT,mset]
 |t::K,h=>by
  have h1:¬ t=x:=fun e=>h (by simp [e])
  have ih:=wtt F x G K (fun e=>h (by simp [e]))
  show (match keq (.str t) (.str x) with | true=>(AV.str x,AV.agg (wbb G))::entT K F | false=>(AV.str t,AV.agg (wbb (F t)))::mset (entT K F) (.str x) (.agg (wbb G)))=_
  rw [wgv,decide_eq_false h1,ih]
  show _=(AV.str t,AV.agg (wbb (if t=x then G else F t)))::entT (K++[x]) _
  rw [if_neg h1]
theorem wiv {K:List (List UInt8)} {F F':List UInt8→FL} (h:∀ t∈K,F t=F' t):entT K F=entT K F':=List.map_congr_left fun t ht=>by rw [h t ht]
theorem wtr (F:List UInt8→FL) (x:List UInt8) (G:FL):∀ K,K.Nodup→x∈K→mset (entT K F) (.str x) (.agg (wbb G))=entT K (fun t=>if t=x then G else F t)
 |[],_,h=>by cases h
 |t::K,hd,h=>by
  rw [List.nodup_cons] at hd
  show (match keq (.str t) (.str x) with | true=>(AV.str x,AV.agg (wbb G))::entT K F | false=>(AV.str t,AV.agg (wbb (F t)))::mset (entT K F) (.str x) (.agg (wbb G)))=(AV.str t,AV.agg (wbb (if t=x then G else F t)))::entT K (fun t=>if t=x then G else F t)
  rw [wgv]
  by_cases e:t=x
  ·subst e
   rw [decide_eq_true rfl,if_pos rfl]
   show _::_=_::_
   rw [wiv (F:=F) (F':=fun s=>if s=t then G else F s) fun s hs=>by
    rw [if_neg]
    intro q;subst q;exact hd.1 hs]
  ·rw [decide_eq_false e,if_neg e]
   have hx:x∈K:=by
    rcases List.mem_cons.1 h with q | q
    ·exact absurd q.symm e
    ·exact q
   show _::_=_::_
   rw [wtr F x G K hd.2 hx]
theorem wiu (σ:Nat→Option Nat) (K:List (List UInt8)) (F:List UInt8→FL):(entT K F).map (fun p=>(AV.rn σ p.1,AV.rn σ p.2))=entT K F:=by
 unfold entT
 rw [List.map_map]
 rfl
theorem wqt (K:List (List UInt8)) (F:List UInt8→FL):(entT K F).length=K.length:=by simp [entT]
theorem entT_at {K:List (List UInt8)} {F:List UInt8→FL} {i:Nat} (h:i<K.length):(entT K F).getD i (.any,.any)=(.str (K.getD i []),.agg (wbb (F (K.getD i [])))):=by
 simp [entT,h]
theorem wqu {K:List (List UInt8)} {F:List UInt8→FL} (h:K.Nodup):wbt .string (entT K F):=by
 refine ⟨List.all_eq_true.2 fun p hp=>?_,?_⟩
 ·obtain ⟨r,_,rfl⟩:=List.mem_map.1 hp
  rfl
 ·unfold entT
  rw [List.map_map]
  refine List.pairwise_map.2 (h.imp fun {a b} hab he=>hab ?_)
  have he:AV.str a=AV.str b:=he
  injection he
theorem gotT (F:List UInt8→FL) (K:List (List UInt8)) (x:List UInt8):gotN (entT K F) x=if x∈K then .agg (wbb (F x)) else zeroFA:=by
 unfold gotN
 rw [wpw]
 by_cases h:x∈K<;>simp [h]
theorem wuj (F:List UInt8→FL) (K:List (List UInt8)) (x:List UInt8):wci wi8 (gotN (entT K F) x)=gotN (entT K F) x:=by
 rw [gotT]
 by_cases h:x∈K
 ·rw [if_pos h];rfl
 ·rw [if_neg h];rfl
theorem wvv {g:Nat→FL} {x:List UInt8} {k:Nat}:wct okV g x k=none↔x ∉ wav okV g k:=by
 constructor
 ·intro h hx
  obtain ⟨i,hi,h1,h2⟩:=wid.1 hx
  exact (wi1 okV g x k).2 h i hi h1 h2
 ·intro h
  cases b:wct okV g x k with
  |none=>rfl
  |some j=>
   have:=(wi1 okV g x k).1 j b
   exact absurd (wid.2 ⟨j,this.lt,this.good,this.enc⟩) h
theorem wk9 {g:Nat→FL} {k:Nat} {t:List UInt8} (h:okV (g k)=true→encF (g k)≠t):wbf okV g (k+1) t=wbf okV g k t:=by
 have:(okV (g k) && decide (encF (g k)=t))=false:=by
  cases q:okV (g k) with
  |false=>rfl
  |true=>rw [Bool.true_and];exact decide_eq_false (h q)
 unfold wbf
 rw [wct,this];rfl
theorem w2p {g:Nat→FL} {k:Nat} (h:okV (g k)=false):entN g (k+1)=entN g k:=by
 rw [wcz,wcz,wav,h,Bool.false_and,cond_false]
 exact wiv fun t _=>wk9 fun q=>by rw [h] at q;cases q
theorem w3v {g:Nat→FL} {k:Nat} (h:okV (g k)=true) (hx:encF (g k) ∉ wav okV g k):wbf okV g (k+1) (encF (g k))=g k:=by
 have:(okV (g k) && decide (encF (g k)=encF (g k)))=true:=by rw [h,decide_eq_true rfl];rfl
 unfold wbf
 rw [wct,this,cond_true,wvv.2 hx]
theorem wvw {g:Nat→FL} {k:Nat} (h:okV (g k)=true) (hx:encF (g k)∈wav okV g k):wbf okV g (k+1) (encF (g k))=bif decide ((g k).day<(wbf okV g k (encF (g k))).day) then g k else wbf okV g k (encF (g k)):=by
 have:(okV (g k) && decide (encF (g k)=encF (g k)))=true:=by rw [h,decide_eq_true rfl];rfl
 cases b:wct okV g (encF (g k)) k with
 |none=>exact absurd hx (wvv.1 b)
 |some j=>
  have e:wbf okV g k (encF (g k))=g j:=by unfold wbf;rw [b]
  rw [e]
  unfold wbf
  rw [wct,this,cond_true,b]
  show (match (bif decide ((g k).day<(g j).day) then some k else some j) with | some j=>g j | none=>we1)=_
  cases decide ((g k).day<(g j).day)<;>rfl
theorem w2n {g:Nat→FL} {k:Nat} (h:okV (g k)=true) (hx:encF (g k) ∉ wav okV g k):mset (entN g k) (.str (encF (g k))) (.agg (wbb (g k)))=entN g (k+1):=by
 rw [wcz,wcz,wtt _ _ _ _ hx,wav,h,decide_eq_false hx]
 show _=entT (wav okV g k++[encF (g k)]) _
 refine wiv fun t ht=>?_
 by_cases e:t=encF (g k)
 ·subst e;rw [if_pos rfl,w3v h hx]
 ·rw [if_neg e,wk9 fun _ q=>e q.symm]
theorem w2m {g:Nat→FL} {k:Nat} (h:okV (g k)=true) (hx:encF (g k)∈wav okV g k) (hd:(g k).day<(wbf okV g k (encF (g k))).day):mset (entN g k) (.str (encF (g k))) (.agg (wbb (g k)))=entN g (k+1):=by
 rw [wcz,wcz,wtr _ _ _ _ (wf7 k) hx,wav,h,decide_eq_true hx]
 show _=entT (wav okV g k) _
 refine wiv fun t ht=>?_
 by_cases e:t=encF (g k)
 ·subst e;rw [if_pos rfl,wvw h hx,decide_eq_true hd];rfl
 ·rw [if_neg e,wk9 fun _ q=>e q.symm]
theorem w2o {g:Nat→FL} {k:Nat} (h:okV (g k)=true) (hx:encF (g k)∈wav okV g k) (hd:¬ (g k).day<(wbf okV g k (encF (g k))).day):entN g (k+1)=entN g k:=by
 rw [wcz,wcz,wav,h,decide_eq_true hx]
 show entT (wav okV g k) _=_
 refine wiv fun t ht=>?_
 by_cases e:t=encF (g k)
 ·subst e;rw [wvw h hx,decide_eq_false hd];rfl
 ·rw [wk9 fun _ q=>e q.symm]
theorem w28 (es:List (AV×AV)):PreC (cmpN es):=(wg3.comap fun x=>wb0 (waz (gotN es x) 0)).or ((wix.comap fun x=>wao (waz (gotN es x) 1)).or ((wix.comap fun x=>wao (waz (gotN es x) 2)).or (wg3.or .nil)))
theorem wvx {g:Nat→FL} {n:Nat} {t:List UInt8} (h:t∈wav okV g n):encF (wbf okV g n t)=t:=by
 obtain ⟨j,b,e⟩:=wi2 h
 rw [e];exact b.enc
theorem w29 {g:Nat→FL} {n:Nat} {x y:List UInt8} (hx:x∈wav okV g n) (hy:y∈wav okV g n):cmpN (entN g n) x y=ordF (wbf okV g n x) (wbf okV g n y):=by
 unfold cmpN
 rw [wcz,gotT,gotT,if_pos hx,if_pos hy]
 unfold ordF
 rw [wvx hx,wvx hy]
 rfl
theorem wkd (g:Nat→FL):∀ k,(wav okV g k).length≤k
 |0=>Nat.le_refl _
 |k+1=>by
  have:=wkd g k
  rw [wav]
  cases okV (g k) && !decide (encF (g k)∈wav okV g k) with
  |true=>rw [cond_true,List.length_append];simp;omega
  |false=>rw [cond_false];omega
end Go.Eng
namespace Go.Eng
open Go.Proofs Go.RowKit
variable {C:Ctx} [C.Loose]
set_option maxRecDepth 20000
theorem nf_clD (F:FL) (d:Int) (R:AV→List (Nat×AObj)→Prop):wpFn te [] [] 0 Tryz.f143 [.agg [.str F.id,.int .i64 F.ver,.int .i64 F.day,.int .i64 F.kind,.view 15 F.ms.length (wae (atM F.ms)),.view 5 F.rs.length (wai (atR F.rs)),.view 5 F.ts.length (wah (atT F.ts))],.ptr 0 0] [.cells [.int .i64 d] 3] R=(R (.bool (decide (d<FL.day F))) [(0,.cells [.int .i64 d] 3)]):=by kernel_rfl
theorem nf_ixD (d:Int) (g:Nat→FL) (n:Nat) (R:AV→List (Nat×AObj)→Prop):wpFn te [(143,.det wfs)] [(2,wod d g n)] 0 Tryz.f144 [.own 0 n,.func 143 [.ptr 1 0]] [.row 49 7 n (wad g) false,.cells [.int .i64 d] 3] R=(letI z0:=([(0,.row 49 7 n (wad g) false),(1,.cells [.int .i64 d] 3)]:List (Nat×AObj));(TEq [(0,.own 0 n),(1,.func 143 [.ptr 1 0]),(7,.int .i64 (↑n:Int)),(8,.int .i64 0)] [(0,.own 0 n),(1,.func 143 [.ptr 1 0]),(7,.int .i64 (↑n:Int)),(8,.int .i64 (↑0:Int))]∧waf z0 z0)∧n≤1000∧(∀ (i:Nat),i<n→FL.Rg (g i))∧True∧wab (decide (fstB (fun (i:Nat)=>qD d (g i)) n<n)) ((∀ (i:Nat),i<n→true=true)∧∃ (O':List (Nat×AObj)),waf z0 O'∧R (.int .i64 (↑(fstB (fun (i:Nat)=>qD d (g i)) n):Int)) O') ((∀ (i:Nat),i<n→true=true)∧∃ (O':List (Nat×AObj)),waf z0 O'∧R (.int .i64 (-1:Int)) O')):=by kernel_rfl
theorem wz1 (d:Int) (g:Nat→FL) (n k:Nat) (P:Nat→Prop) (R:Exit→St→Prop):wa3 ⟨te,[(143,.det wfs)],[],2,19,0⟩ (wa4 Tryz.f144 2) [0,1,7,8] [] [4] (wmi d g n) P R (wmi d g n k)=(letI z2:=([(0,.row 49 7 n (wad g) false),(1,.cells [.int .i64 d] 3)]:List (Nat×AObj));letI z0:=(g (Int.toNat (↑k:Int)));letI z1:=flV (FL.id z0) (FL.ver z0) (FL.day z0) (FL.kind z0) (List.length (FL.ms z0)) (wae (atM (FL.ms z0))) (List.length (FL.rs z0)) (wai (atR (FL.rs z0))) (List.length (FL.ts z0)) (wah (atT (FL.ts z0)));wab (decide ((↑k:Int)<(↑n:Int))) (((0:Int)≤(↑k:Int)∧(↑k:Int)<(↑n:Int))∧(Int.toNat (↑k:Int)<n∧7=7)∧((FlC (List.length (FL.ms z0)) (wae (atM (FL.ms z0))) (List.length (FL.rs z0)) (wai (atR (FL.rs z0))) (List.length (FL.ts z0)) (wah (atT (FL.ts z0)))∧FL.Rg z1)∧3=3∧True)∧wab (qD d z1) ((∀ (i:Nat),i<n→true=true)∧∃ (O':List (Nat×AObj)),waf z2 O'∧R .ret (St.mk [(4,.int .i64 (↑k:Int))] O' 2 [])) (inR .i64 ((↑k:Int)+(1:Int))∧∃ (i':Nat),(TEq [(0,.own 0 n),(1,.func 143 [.ptr 1 0]),(7,.int .i64 (↑n:Int)),(8,.int .i64 ((↑k:Int)+(1:Int)))] [(0,.own 0 n),(1,.func 143 [.ptr 1 0]),(7,.int .i64 (↑n:Int)),(8,.int .i64 (↑i':Int))]∧waf z2 z2)∧P i')) ((∀ (i:Nat),i<n→true=true)∧∃ (O':List (Nat×AObj)),waf z2 O'∧R (.exit 0) (St.mk [] O' 2 []))):=by kernel_rfl
theorem nf_dfD (d:Int) (g:Nat→FL) (n:Nat) (R:AV→List (Nat×AObj)→Prop):wpFn te [(144,.det wmj)] [(5,won d g n (fstB (fun i=>qD d (g i)) n))] 0 Tryz.f100 [.own 0 n,.func 143 [.ptr 1 0]] [.row 49 7 n (wad g) false,.cells [.int .i64 d] 3] R=(letI z3:=(ixB (fun (i:Nat)=>qD d (flOf (wad g) i)) n+(1:Int));letI z2:=([(0,.row 49 7 n (wad g) false),(1,.cells [.int .i64 d] 3)]:List (Nat×AObj));letI z1:=(∀ (i:Nat),i<n→true=true:Prop);letI z0:=(FI.mk (fstB (fun (i:Nat)=>qD d (g i)) n+1) (fstB (fun (i:Nat)=>qD d (g i)) n) g);z1∧(49=49∧3=3∧false=false∧n=n∧n≤1000∧wad g=wad (flOf (wad g))∧(∀ (i:Nat),i<n→FL.Rg (flOf (wad g) i))∧True)∧z1∧wab (decide (ixB (fun (i:Nat)=>qD d (flOf (wad g) i)) n=(-1:Int))) (z1∧∃ (O':List (Nat×AObj)),waf z2 O'∧R (.own 0 n) O') (inR .i64 z3∧(TEq [(0,.own 0 n),(1,.func 143 [.ptr 1 0]),(5,.int .i64 (ixB (fun (i:Nat)=>qD d (flOf (wad g) i)) n)),(6,.int .i64 z3)] [(0,.own 0 n),(1,.func 143 [.ptr 1 0]),(5,.int .i64 (↑(FI.w z0):Int)),(6,.int .i64 (↑(FI.k z0):Int))]∧waf z2 [(0,.row 49 7 n (wad (FI.h z0)) false),(1,.cells [.int .i64 d] 3)])∧(fstB (fun (i:Nat)=>qD d (g i)) n<n∧n≤1000)∧(∀ (i:Nat),i<n→FL.Rg (g i))∧True∧(∀ (j:Nat),j<fstB (fun (i:Nat)=>qD d (g i)) n→qD d (g j)=false)∧qD d (g (fstB (fun (i:Nat)=>qD d (g i)) n))=true∧∀ (w:Nat) (h:Nat→FL),letI z4:=((0:Int)≤(↑w:Int)∧(↑w:Int)≤(↑n:Int):Prop);w≤n→lst h w=kfL (qD d) g n→z4∧Int.toNat (↑w:Int)≤n∧z4∧(∀ (i:Nat),i<Int.toNat (↑w:Int)→true=true)∧∃ (O':List (Nat×AObj)),waf [(0,.row 49 7 (Int.toNat (↑w:Int)) (wad h) false),(1,.cells [.int .i64 d] 3)] O'∧R (.own 0 (Int.toNat (↑w:Int))) O')):=by kernel_rfl
theorem w0f (d:Int) (n:Nat) (i:FI) (P:FI→Prop) (R:Exit→St→Prop):wa3 ⟨te,[(143,.det wfs)],[],2,42,0⟩ (wa4 Tryz.f100 5) [0,1,5,6] [0,5] [] (wm0 d n) P R (wm0 d n i)=(letI z2:=([(0,.row 49 7 n (wad (FI.h i)) false),(1,.cells [.int .i64 d] 3)]:List (Nat×AObj));letI z0:=(FI.h i (Int.toNat (↑(FI.k i):Int)));letI z8:=wah (atT (FL.ts z0));letI z7:=List.length (FL.ts z0);letI z6:=wai (atR (FL.rs z0));letI z5:=List.length (FL.rs z0);letI z4:=wae (atM (FL.ms z0));letI z3:=List.length (FL.ms z0);letI z1:=flV (FL.id z0) (FL.ver z0) (FL.day z0) (FL.kind z0) z3 z4 z5 z6 z7 z8;wab (decide ((↑(FI.k i):Int)<(↑n:Int))) (((0:Int)≤(↑(FI.k i):Int)∧(↑(FI.k i):Int)<(↑n:Int))∧(Int.toNat (↑(FI.k i):Int)<n∧7=7)∧((FlC z3 z4 z5 z6 z7 z8∧FL.Rg z1)∧3=3∧True)∧wab (!qD d z1) (((0:Int)≤(↑(FI.w i):Int)∧(↑(FI.w i):Int)<(↑n:Int))∧(List.length [AV.str (FL.id z0),.int .i64 (FL.ver z0),.int .i64 (FL.day z0),.int .i64 (FL.kind z0),.view 15 z3 z4,.view 5 z5 z6,.view 5 z7 z8]=7∧Int.toNat (↑(FI.w i):Int)<n∧7=7)∧inR .i64 ((↑(FI.w i):Int)+(1:Int))∧inR .i64 ((↑(FI.k i):Int)+(1:Int))∧∃ (i':FI),(TEq [(0,.own 0 n),(1,.func 143 [.ptr 1 0]),(5,.int .i64 ((↑(FI.w i):Int)+(1:Int))),(6,.int .i64 ((↑(FI.k i):Int)+(1:Int)))] [(0,.own 0 n),(1,.func 143 [.ptr 1 0]),(5,.int .i64 (↑(FI.w i'):Int)),(6,.int .i64 (↑(FI.k i'):Int))]∧waf [(0,.row 49 7 n (fun (k:Nat)=>if k=Int.toNat (↑(FI.w i):Int) then [.str (FL.id z0),.int .i64 (FL.ver z0),.int .i64 (FL.day z0),.int .i64 (FL.kind z0),.view 15 z3 z4,.view 5 z5 z6,.view 5 z7 z8] else wad (FI.h i) k) false),(1,.cells [.int .i64 d] 3)] [(0,.row 49 7 n (wad (FI.h i')) false),(1,.cells [.int .i64 d] 3)])∧P i') (inR .i64 ((↑(FI.k i):Int)+(1:Int))∧∃ (i':FI),(TEq [(0,.own 0 n),(1,.func 143 [.ptr 1 0]),(5,.int .i64 (↑(FI.w i):Int)),(6,.int .i64 ((↑(FI.k i):Int)+(1:Int)))] [(0,.own 0 n),(1,.func 143 [.ptr 1 0]),(5,.int .i64 (↑(FI.w i'):Int)),(6,.int .i64 (↑(FI.k i'):Int))]∧waf z2 [(0,.row 49 7 n (wad (FI.h i')) false),(1,.cells [.int .i64 d] 3)])∧P i')) ((∀ (i:Nat),i<n→true=true)∧∃ (O':List (Nat×AObj)),waf z2 O'∧R (.exit 0) (St.mk [(0,.own 0 n),(5,.int .i64 (↑(FI.w i):Int))] O' 2 []))):=by kernel_rfl
theorem nf_clV (F:FL) (es:List (AV×AV)) (R:AV→List (Nat×AObj)→Prop):wpFn te [] [] 0 Tryz.f101 [.agg [.str F.id,.int .i64 F.ver,.int .i64 F.day,.int .i64 F.kind,.view 15 F.ms.length (wae (atM F.ms)),.view 5 F.rs.length (wai (atR F.rs)),.view 5 F.ts.length (wah (atT F.ts))],.ptr 0 0] [.cells [.map 1] 132,.amap es] R=(letI z2:=Option.getD (mget es (.str (FL.id F))) (zvA (.int .i64 0));letI z1:=(ren (List.length [AObj.cells [.map 1] (132:TypeId),.amap es]) []);letI z0:=([(0,.cells [.map 1] 132),(1,.amap (List.map (fun (p:AV×AV)=>(AV.rn z1 (Prod.fst p),AV.rn z1 (Prod.snd p))) es))]:List (Nat×AObj));wab (!decide (FL.kind F=(1:Int))) ((wbt (TI.desc (TI.mk TypeDesc.string 1 16 (Value.string (ByteArray.mk #[])) false)) es∧.int .i64 (wao z2)=Option.getD (mget es (.str (FL.id F))) (zvA (.int .i64 0)))∧R (.bool (decide (FL.ver F<wao z2))) z0) (R (.bool false) z0)):=by kernel_rfl
theorem nf_ixV (es:List (AV×AV)) (g:Nat→FL) (n:Nat) (R:AV→List (Nat×AObj)→Prop):wpFn te [(101,.det wfr)] [(2,woc es g n)] 0 Tryz.f144 [.own 0 n,.func 101 [.ptr 1 0]] [.row 49 7 n (wad g) false,.cells [.map 2] 132,.amap es] R=(letI z1:=(ren (List.length [AObj.row (49:TypeId) 7 n (wad g) false,.cells [.map 2] (132:TypeId),.amap es]) []);letI z0:=([(0,.row 49 7 n (wad g) false),(1,.cells [.map 2] 132),(List.length [AObj.cells [.map 2] (132:TypeId),.amap es],.amap (List.map (fun (p:AV×AV)=>(AV.rn z1 (Prod.fst p),AV.rn z1 (Prod.snd p))) es))]:List (Nat×AObj));(TEq [(0,.own 0 n),(1,.func 101 [.ptr 1 0]),(7,.int .i64 (↑n:Int)),(8,.int .i64 0)] [(0,.own 0 n),(1,.func 101 [.ptr 1 0]),(7,.int .i64 (↑n:Int)),(8,.int .i64 (↑0:Int))]∧waf [(0,.row 49 7 n (wad g) false),(1,.cells [.map 2] 132),(2,.amap (List.map (fun (p:AV×AV)=>(AV.rn (ren 3 []) (Prod.fst p),AV.rn (ren 3 []) (Prod.snd p))) es))] [(0,.row 49 7 n (wad g) false),(1,.cells [.map 2] 132),(2,.amap es)])∧n≤1000∧(∀ (i:Nat),i<n→FL.Rg (g i))∧EsV es∧wab (decide (fstB (fun (i:Nat)=>qV es (g i)) n<n)) ((∀ (i:Nat),i<n→true=true)∧∃ (O':List (Nat×AObj)),waf z0 O'∧R (.int .i64 (↑(fstB (fun (i:Nat)=>qV es (g i)) n):Int)) O') ((∀ (i:Nat),i<n→true=true)∧∃ (O':List (Nat×AObj)),waf z0 O'∧R (.int .i64 (-1:Int)) O')):=by kernel_rfl
theorem wz0 (es:List (AV×AV)) (g:Nat→FL) (n k:Nat) (P:Nat→Prop) (R:Exit→St→Prop):wa3 ⟨te,[(101,.det wfr)],[],3,19,0⟩ (wa4 Tryz.f144 2) [0,1,7,8] [] [4] (wmg es g n) P R (wmg es g n k)=(letI z2:=(List.map (fun (p:AV×AV)=>(AV.rn (idxN [1,2]) (Prod.fst p),AV.rn (idxN [1,2]) (Prod.snd p))) es);letI z1:=([(0,.row 49 7 n (wad g) false),(1,.cells [.map 2] 132),(2,.amap (List.map (fun (p:AV×AV)=>(AV.rn (ren 3 []) (Prod.fst p),AV.rn (ren 3 []) (Prod.snd p))) (List.map (fun (p:AV×AV)=>(AV.rn (sig [1,2] 3) (Prod.fst p),AV.rn (sig [1,2] 3) (Prod.snd p))) z2)))]:List (Nat×AObj));letI z0:=(g (Int.toNat (↑k:Int)));letI z3:=flV (FL.id z0) (FL.ver z0) (FL.day z0) (FL.kind z0) (List.length (FL.ms z0)) (wae (atM (FL.ms z0))) (List.length (FL.rs z0)) (wai (atR (FL.rs z0))) (List.length (FL.ts z0)) (wah (atT (FL.ts z0)));wab (decide ((↑k:Int)<(↑n:Int))) (((0:Int)≤(↑k:Int)∧(↑k:Int)<(↑n:Int))∧(Int.toNat (↑k:Int)<n∧7=7)∧((FlC (List.length (FL.ms z0)) (wae (atM (FL.ms z0))) (List.length (FL.rs z0)) (wai (atR (FL.rs z0))) (List.length (FL.ts z0)) (wah (atT (FL.ts z0)))∧FL.Rg z3)∧132=132∧EsV z2)∧wab (qV z2 z3) ((∀ (i:Nat),i<n→true=true)∧∃ (O':List (Nat×AObj)),waf z1 O'∧R .ret (St.mk [(4,.int .i64 (↑k:Int))] O' 3 [])) (inR .i64 ((↑k:Int)+(1:Int))∧∃ (i':Nat),(TEq [(0,.own 0 n),(1,.func 101 [.ptr 1 0]),(7,.int .i64 (↑n:Int)),(8,.int .i64 ((↑k:Int)+(1:Int)))] [(0,.own 0 n),(1,.func 101 [.ptr 1 0]),(7,.int .i64 (↑n:Int)),(8,.int .i64 (↑i':Int))]∧waf z1 [(0,.row 49 7 n (wad g) false),(1,.cells [.map 2] 132),(2,.amap es)])∧P i')) ((∀ (i:Nat),i<n→true=true)∧∃ (O':List (Nat×AObj)),waf [(0,.row 49 7 n (wad g) false),(1,.cells [.map 2] 132),(2,.amap (List.map (fun (p:AV×AV)=>(AV.rn (ren 3 []) (Prod.fst p),AV.rn (ren 3 []) (Prod.snd p))) es))] O'∧R (.exit 0) (St.mk [] O' 3 []))):=by kernel_rfl
theorem nf_dfV (es:List (AV×AV)) (g:Nat→FL) (n:Nat) (R:AV→List (Nat×AObj)→Prop):wpFn te [(144,.det wmh)] [(5,wom es g n (fstB (fun i=>qV es (g i)) n))] 0 Tryz.f100 [.own 0 n,.func 101 [.ptr 1 0]] [.row 49 7 n (wad g) false,.cells [.map 2] 132,.amap es] R=(letI z4:=(∀ (i:Nat),i<n→true=true:Prop);letI z2:=(FI.mk (fstB (fun (i:Nat)=>qV es (g i)) n+1) (fstB (fun (i:Nat)=>qV es (g i)) n) g);letI z1:=(ren (List.length [AObj.row (49:TypeId) 7 n (wad g) false,.cells [.map 2] (132:TypeId),.amap es]) []);letI z0:=(List.map (fun (p:AV×AV)=>(AV.rn (idxN [0,1,2]) (Prod.fst p),AV.rn (idxN [0,1,2]) (Prod.snd p))) es);letI z5:=(ixB (fun (i:Nat)=>qV z0 (flOf (wad g) i)) n+(1:Int));letI z3:=(List.map (fun (p:AV×AV)=>(AV.rn (sig [0,1,2] 3) (Prod.fst p),AV.rn (sig [0,1,2] 3) (Prod.snd p))) z0);z4∧(49=49∧132=132∧false=false∧n=n∧n≤1000∧wad g=wad (flOf (wad g))∧(∀ (i:Nat),i<n→FL.Rg (flOf (wad g) i))∧EsV z0)∧z4∧wab (decide (ixB (fun (i:Nat)=>qV z0 (flOf (wad g) i)) n=(-1:Int))) (z4∧∃ (O':List (Nat×AObj)),waf [(0,.row 49 7 n (wad g) false),(1,.cells [.map 2] 132),(List.length [AObj.cells [.map 2] (132:TypeId),.amap es],.amap (List.map (fun (p:AV×AV)=>(AV.rn z1 (Prod.fst p),AV.rn z1 (Prod.snd p))) z3))] O'∧R (.own 0 n) O') (inR .i64 z5∧(TEq [(0,.own 0 n),(1,.func 101 [.ptr 1 0]),(5,.int .i64 (ixB (fun (i:Nat)=>qV z0 (flOf (wad g) i)) n)),(6,.int .i64 z5)] [(0,.own 0 n),(1,.func 101 [.ptr 1 0]),(5,.int .i64 (↑(FI.w z2):Int)),(6,.int .i64 (↑(FI.k z2):Int))]∧waf [(0,.row 49 7 n (wad g) false),(1,.cells [.map 2] 132),(2,.amap (List.map (fun (p:AV×AV)=>(AV.rn (ren 3 []) (Prod.fst p),AV.rn (ren 3 []) (Prod.snd p))) z3))] [(0,.row 49 7 n (wad (FI.h z2)) false),(1,.cells [.map 2] 132),(2,.amap es)])∧(fstB (fun (i:Nat)=>qV es (g i)) n<n∧n≤1000)∧(∀ (i:Nat),i<n→FL.Rg (g i))∧EsV es∧(∀ (j:Nat),j<fstB (fun (i:Nat)=>qV es (g i)) n→qV es (g j)=false)∧qV es (g (fstB (fun (i:Nat)=>qV es (g i)) n))=true∧∀ (w:Nat) (h:Nat→FL),letI z6:=((0:Int)≤(↑w:Int)∧(↑w:Int)≤(↑n:Int):Prop);w≤n→lst h w=kfL (qV es) g n→z6∧Int.toNat (↑w:Int)≤n∧z6∧(∀ (i:Nat),i<Int.toNat (↑w:Int)→true=true)∧∃ (O':List (Nat×AObj)),waf [(0,.row 49 7 (Int.toNat (↑w:Int)) (wad h) false),(1,.cells [.map 2] 132),(List.length [AObj.cells [.map 2] (132:TypeId),.amap es],.amap (List.map (fun (p:AV×AV)=>(AV.rn z1 (Prod.fst p),AV.rn z1 (Prod.snd p))) es))] O'∧R (.own 0 (Int.toNat (↑w:Int))) O')):=by kernel_rfl
theorem w0e (es:List (AV×AV)) (n:Nat) (i:FI) (P:FI→Prop) (R:Exit→St→Prop):wa3 ⟨te,[(101,.det wfr)],[],3,42,0⟩ (wa4 Tryz.f100 5) [0,1,5,6] [0,5] [] (wmz es n) P R (wmz es n i)=(letI z1:=(List.map (fun (p:AV×AV)=>(AV.rn (idxN [1,2]) (Prod.fst p),AV.rn (idxN [1,2]) (Prod.snd p))) es);letI z2:=(List.map (fun (p:AV×AV)=>(AV.rn (ren 3 []) (Prod.fst p),AV.rn (ren 3 []) (Prod.snd p))) (List.map (fun (p:AV×AV)=>(AV.rn (sig [1,2] 5) (Prod.fst p),AV.rn (sig [1,2] 5) (Prod.snd p))) z1));letI z0:=(FI.h i (Int.toNat (↑(FI.k i):Int)));letI z9:=wah (atT (FL.ts z0));letI z8:=List.length (FL.ts z0);letI z7:=wai (atR (FL.rs z0));letI z6:=List.length (FL.rs z0);letI z5:=wae (atM (FL.ms z0));letI z4:=List.length (FL.ms z0);letI z3:=flV (FL.id z0) (FL.ver z0) (FL.day z0) (FL.kind z0) z4 z5 z6 z7 z8 z9;wab (decide ((↑(FI.k i):Int)<(↑n:Int))) (((0:Int)≤(↑(FI.k i):Int)∧(↑(FI.k i):Int)<(↑n:Int))∧(Int.toNat (↑(FI.k i):Int)<n∧7=7)∧((FlC z4 z5 z6 z7 z8 z9∧FL.Rg z3)∧132=132∧EsV z1)∧wab (!qV z1 z3) (((0:Int)≤(↑(FI.w i):Int)∧(↑(FI.w i):Int)<(↑n:Int))∧(List.length [AV.str (FL.id z0),.int .i64 (FL.ver z0),.int .i64 (FL.day z0),.int .i64 (FL.kind z0),.view 15 z4 z5,.view 5 z6 z7,.view 5 z8 z9]=7∧Int.toNat (↑(FI.w i):Int)<n∧7=7)∧inR .i64 ((↑(FI.w i):Int)+(1:Int))∧inR .i64 ((↑(FI.k i):Int)+(1:Int))∧∃ (i':FI),(TEq [(0,.own 0 n),(1,.func 101 [.ptr 1 0]),(5,.int .i64 ((↑(FI.w i):Int)+(1:Int))),(6,.int .i64 ((↑(FI.k i):Int)+(1:Int)))] [(0,.own 0 n),(1,.func 101 [.ptr 1 0]),(5,.int .i64 (↑(FI.w i'):Int)),(6,.int .i64 (↑(FI.k i'):Int))]∧waf [(0,.row 49 7 n (fun (k:Nat)=>if k=Int.toNat (↑(FI.w i):Int) then [.str (FL.id z0),.int .i64 (FL.ver z0),.int .i64 (FL.day z0),.int .i64 (FL.kind z0),.view 15 z4 z5,.view 5 z6 z7,.view 5 z8 z9] else wad (FI.h i) k) false),(1,.cells [.map 2] 132),(2,.amap z2)] [(0,.row 49 7 n (wad (FI.h i')) false),(1,.cells [.map 2] 132),(2,.amap es)])∧P i') (inR .i64 ((↑(FI.k i):Int)+(1:Int))∧∃ (i':FI),(TEq [(0,.own 0 n),(1,.func 101 [.ptr 1 0]),(5,.int .i64 (↑(FI.w i):Int)),(6,.int .i64 ((↑(FI.k i):Int)+(1:Int)))] [(0,.own 0 n),(1,.func 101 [.ptr 1 0]),(5,.int .i64 (↑(FI.w i'):Int)),(6,.int .i64 (↑(FI.k i'):Int))]∧waf [(0,.row 49 7 n (wad (FI.h i)) false),(1,.cells [.map 2] 132),(2,.amap z2)] [(0,.row 49 7 n (wad (FI.h i')) false),(1,.cells [.map 2] 132),(2,.amap es)])∧P i')) ((∀ (i:Nat),i<n→true=true)∧∃ (O':List (Nat×AObj)),waf [(0,.row 49 7 n (wad (FI.h i)) false),(1,.cells [.map 2] 132),(2,.amap (List.map (fun (p:AV×AV)=>(AV.rn (ren 3 []) (Prod.fst p),AV.rn (ren 3 []) (Prod.snd p))) es))] O'∧R (.exit 0) (St.mk [(0,.own 0 n),(5,.int .i64 (↑(FI.w i):Int))] O' 3 []))):=by kernel_rfl
theorem wg0 (σ:Nat→Option Nat) (K:List (List UInt8)) (v:List UInt8→Int):(entI K v).map (fun p=>(AV.rn σ p.1,AV.rn σ p.2))=entI K v:=by
 unfold entI
 rw [List.map_map]
 rfl
theorem wve {K:List (List UInt8)} {v:List UInt8→Int} (h:K.Nodup):wbt .string (entI K v):=by
 refine ⟨List.all_eq_true.2 fun p hp=>?_,?_⟩
 ·obtain ⟨r,_,rfl⟩:=List.mem_map.1 hp
  rfl
 ·unfold entI
  rw [List.map_map]
  refine List.pairwise_map.2 (h.imp fun {a b} hab he=>hab ?_)
  have he:AV.str a=AV.str b:=he
  injection he
theorem wpy (v:List UInt8→Int) (x:List UInt8):∀ K,Option.getD (mget (entI K v) (.str x)) (.int .i64 0)= .int .i64 (if x∈K then v x else 0)
 |[]=>rfl
 |t::K=>by
  show Option.getD (match keq (.str t) (.str x) with | true=>some (AV.int .i64 (v t)) | false=>mget (entI K v) (.str x)) (.int .i64 0)=_
  have ih:=wpy v x K
  rw [wgv]
  by_cases h:t=x
  ·subst h;simp
  ·have h':¬ x=t:=fun e=>h e.symm
   rw [decide_eq_false h]
   simp only [List.mem_cons,h',false_or]
   exact ih
theorem wf6 (q:FL→Bool) (g:Nat→FL) (k:Nat):kfL q g (k+1)=kfL q g k++bif q (g k) then [] else [g k]:=by
 unfold kfL
 rw [wh7,List.filter_append]
 cases h:q (g k)<;>simp [h]
theorem wic {q:FL→Bool} {g:Nat→FL}:∀ {k:Nat},(∀ j,j<k→q (g j)=false)→kfL q g k=lst g k
 |0,_=>rfl
 |k+1,h=>by
  rw [wf6,wic fun j hj=>h j (by omega),h k (by omega),wh7];rfl
theorem wq5 (hP:C.P=Tryz.prog):wag C 143 wfs:=by
 have _:C.Loose:=inferInstance
 rintro args objs U Os vc h hvc
 unfold wfs at h
 split at h<;>simp only [Option.some.injEq,Prod.mk.injEq,reduceCtorEq] at h
 rename_i id ver day kind nm fm nr fr nt ft d t2
 obtain ⟨rfl,rfl,rfl⟩:=h
 obtain ⟨⟨hc,hs⟩,rfl,hE⟩:=hvc
 have l1:(lst (mgOf fm) nm).length=nm:=by simp [lst]
 have l2:(lst (rwOf fr) nr).length=nr:=by simp [lst]
 have l3:(lst (rtOf ft) nt).length=nt:=by simp [lst]
 obtain ⟨c1,c2,c3⟩:=hc
 unfold flV at hs ⊢
 generalize lst (mgOf fm) nm=ms at *
 generalize lst (rwOf fr) nr=rs at *
 generalize lst (rtOf ft) nt=ts at *
 subst l1;subst l2;subst l3;subst c1;subst c2;subst c3
 refine wag.wp0 (prg hP) [] 0 .nil (hP ▸ Tryz.func143) rfl rfl rfl ?_
 refine (nf_clD ⟨id,ver,day,kind,ms,rs,ts⟩ d _).mpr ?_
 exact ⟨rfl,rfl⟩
theorem w1r (hP:C.P=Tryz.prog) (d:Int) (g:Nat→FL) (n:Nat):wak C 2 19 (wam Tryz.f144 2) (wod d g n):=by
 rintro st Q ⟨h0,hn,hrg,hE,hQ⟩
 have hR:=wbx hQ
 refine wak.mk (prg hP) [(143,.det wfs)] 0 (.cons (wq5 hP) .nil) [0,1,7,8] [] [4] (wmi d g n) (fun k=>k≤n∧fstB (fun i=>qD d (g i)) k=k) (fun k=>n - k) 0 ⟨Nat.zero_le _,rfl⟩ h0 (fun k hk=>?_) (fun i=>⟨fun _ _=>rfl,trivial⟩)
 obtain ⟨hkn,hok⟩:=hk
 rw [wz1,Int.toNat_natCast,wd2]
 refine waj (fun h1=>?_) (fun h1=>?_)
 ·refine ⟨⟨by omega,by omega⟩,⟨by omega,rfl⟩,⟨⟨wew _,hrg k (by omega)⟩,rfl,trivial⟩,waw (fun h2=>?_) (fun h2=>⟨by simp only [inR];omega,k+1,⟨rfl,wap _⟩,⟨by omega,wil hok h2⟩,by omega⟩)⟩
  have e:=win hok h2 n (by omega)
  have:=hR.1 (by rw [e,decide_eq_true];omega)
  rw [e] at this
  exact ⟨fun _ _=>rfl,_,wap _,this⟩
 ·have:k=n:=by omega
  subst this
  exact ⟨fun _ _=>rfl,_,wap _,hR.2 (by rw [hok,decide_eq_false];omega)⟩
theorem ixD_ok (hP:C.P=Tryz.prog):wag C 144 wmj:=by
 rintro args objs U Os vc h hvc
 unfold wmj at h
 split at h<;>simp only [Option.some.injEq,Prod.mk.injEq,reduceCtorEq] at h
 rename_i n t m f fr d t2
 obtain ⟨rfl,rfl,rfl⟩:=h
 obtain ⟨rfl,rfl,rfl,rfl,hn,hf,hrg,hE⟩:=hvc
 generalize flOf f=g at *
 subst hf
 refine wag.wpL (prg hP) [(143,.det wfs)] [(2,wod d g n)] 0 (.cons (wq5 hP) .nil) (hP ▸ Tryz.func144) rfl rfl rfl [(wam Tryz.f144 2,wod d g n)] (by kernel_rfl) ⟨w1r hP _ g n,trivial⟩ ?_
 rw [nf_ixD]
 unfold ixB
 refine ⟨⟨rfl,wap _⟩,hn,hrg,trivial,waj (fun h=>?_) (fun h=>?_)⟩
 ·rw [decide_eq_true h];exact ⟨fun _ _=>rfl,_,wap _,rfl,rfl⟩
 ·rw [decide_eq_false h];exact ⟨fun _ _=>rfl,_,wap _,rfl,rfl⟩
theorem w2y (hP:C.P=Tryz.prog) (d:Int) (g:Nat→FL) (n i0:Nat):wak C 2 42 (wam Tryz.f100 5) (won d g n i0):=by
 rintro st Q ⟨h0,⟨hi0,hn⟩,hrg,hE,hall,hdel,hQ⟩
 refine wak.mk (prg hP) [(143,.det wfs)] 0 (.cons (wq5 hP) .nil) [0,1,5,6] [0,5] [] (wm0 d n) (fun i=>i.k≤n∧i.w<i.k∧lst i.h i.w=kfL (qD d) g i.k∧∀ j,i.w≤j→i.h j=g j) (fun i=>n - i.k) ⟨i0+1,i0,g⟩
  ⟨hi0,Nat.lt_succ_self _,?_,fun _ _=>rfl⟩ h0 (fun i hi=>?_) (fun i=>⟨fun _ _=>rfl,trivial⟩)
 ·show lst g i0=kfL (qD d) g (i0+1)
  rw [wf6,hdel,wic hall];simp
 obtain ⟨k,w,h⟩:=i
 obtain ⟨i1,i2,i3,i4⟩:=hi
 dsimp only at i1 i2 i3 i4
 rw [w0f]
 dsimp only
 rw [Int.toNat_natCast,Int.toNat_natCast,wd2]
 refine waj (fun h1=>?_) (fun h1=>?_)
 ·have hk:k<n:=by omega
  have r1:h k=g k:=i4 _ (by omega)
  refine ⟨⟨by omega,by omega⟩,⟨by omega,rfl⟩,⟨⟨wew _,by rw [r1];exact hrg k hk⟩,rfl,trivial⟩,wcd (fun q=>?_) (fun q=>?_)⟩
  ·have q:qD d (h k)=false:=q
   rw [r1] at q
   refine ⟨⟨by omega,by omega⟩,⟨rfl,by omega,rfl⟩,by simp only [inR];omega,by simp only [inR];omega,⟨k+1,w+1,fun j=>if j=w then h k else h j⟩,⟨rfl,⟨rfl,rfl,rfl,rfl,rfl,fun j hj=>?_⟩,rfl,trivial⟩,⟨hk,?_,?_,fun j hj=>?_⟩,?_⟩
   ·unfold wad
    by_cases e:j=w
    ·simp only [e,if_true]
    ·simp only [e,if_false]
   ·show w+1<k+1
    omega
   ·show lst (fun j=>if j=w then h k else h j) (w+1)=kfL (qD d) g (k+1)
    have e:lst (fun j=>if j=w then h k else h j) w=lst h w:=List.map_congr_left fun j hj=>by
     have:=List.mem_range.1 hj
     rw [if_neg (by omega)]
    rw [wh7,wf6,q,e,i3,if_pos rfl,r1];rfl
   ·have hj:w+1≤j:=hj
    show (if j=w then h k else h j)=g j
    rw [if_neg (by omega)]
    exact i4 j (by omega)
   ·show n - (k+1)<n - k
    omega
  ·have q:qD d (h k)=true:=q
   rw [r1] at q
   refine ⟨by simp only [inR];omega,⟨k+1,w,h⟩,⟨rfl,wap _⟩,⟨hk,?_,?_,i4⟩,?_⟩
   ·show w<k+1
    omega
   ·show lst h w=kfL (qD d) g (k+1)
    rw [wf6,q,i3];simp
   ·show n - (k+1)<n - k
    omega
 ·have:k=n:=by omega
  subst this
  exact ⟨fun _ _=>rfl,_,wap _,hQ w h (by omega) i3⟩
theorem delD_ok (hP:C.P=Tryz.prog):wbd C 100 wno:=by
 rintro args objs R h
 unfold wno at h
 split at h
 ·rename_i n t m f fr d t2
  obtain ⟨rfl,rfl,rfl,rfl,hn,hf,hrg,hE,hR⟩:=h
  generalize flOf f=g at *
  subst hf
  refine wbd.wpL (prg hP) [(144,.det wmj)] [(5,won d g n (fstB (fun i=>qD d (g i)) n))] 0 (.cons (ixD_ok hP) .nil) (hP ▸ Tryz.func100) rfl rfl rfl [(wam Tryz.f100 5,won d g n (fstB (fun i=>qD d (g i)) n))] (by kernel_rfl) ⟨w2y hP _ g n _,trivial⟩ ?_
  rw [nf_dfD]
  rw [wdl]
  obtain ⟨f1,f2⟩:=wkn (fun i=>qD d (g i)) n
  have fle:=wim (fun i=>qD d (g i)) n
  by_cases hlt:fstB (fun i=>qD d (g i)) n<n
  ·have hix:ixB (fun i=>qD d (g i)) n=(fstB (fun i=>qD d (g i)) n:Int):=by unfold ixB;rw [decide_eq_true hlt];rfl
   rw [hix]
   have f2:=f2 hlt
   generalize fstB (fun i=>qD d (g i)) n=i0 at *
   refine ⟨fun _ _=>rfl,⟨rfl,rfl,rfl,rfl,hn,rfl,hrg,trivial⟩,fun _ _=>rfl,waj (fun q=>absurd q (by omega)) (fun _=>⟨by simp only [inR];omega,⟨rfl,wap _⟩,⟨hlt,hn⟩,hrg,trivial,f1,f2,fun w h hw hl=>?_⟩)⟩
   rw [Int.toNat_natCast]
   exact ⟨⟨by omega,by omega⟩,hw,⟨by omega,by omega⟩,fun _ _=>rfl,_,wap _,hR w h hw hl⟩
  ·have hix:ixB (fun i=>qD d (g i)) n= -1:=by unfold ixB;rw [decide_eq_false hlt];rfl
   rw [hix]
   have e0:fstB (fun i=>qD d (g i)) n=n:=by omega
   rw [e0] at f1
   exact ⟨fun _ _=>rfl,⟨rfl,rfl,rfl,rfl,hn,rfl,hrg,trivial⟩,fun _ _=>rfl,waj (fun _=>⟨fun _ _=>rfl,_,wap _,hR n g (Nat.le_refl _) (wic f1).symm⟩) (fun q=>absurd rfl q)⟩
 ·exact h.elim
theorem wq4 (hP:C.P=Tryz.prog):wag C 101 wfr:=by
 have _:C.Loose:=inferInstance
 rintro args objs U Os vc h hvc
 unfold wfr at h
 split at h<;>simp only [Option.some.injEq,Prod.mk.injEq,reduceCtorEq] at h
 rename_i id ver day kind nm fm nr fr nt ft es t2
 obtain ⟨rfl,rfl,rfl⟩:=h
 obtain ⟨⟨hc,hs⟩,rfl,hE⟩:=hvc
 have l1:(lst (mgOf fm) nm).length=nm:=by simp [lst]
 have l2:(lst (rwOf fr) nr).length=nr:=by simp [lst]
 have l3:(lst (rtOf ft) nt).length=nt:=by simp [lst]
 obtain ⟨c1,c2,c3⟩:=hc
 unfold flV at hs ⊢
 generalize lst (mgOf fm) nm=ms at *
 generalize lst (rwOf fr) nr=rs at *
 generalize lst (rtOf ft) nt=ts at *
 subst l1;subst l2;subst l3;subst c1;subst c2;subst c3
 obtain ⟨P,v,rfl,hnd⟩:=hE
 refine wag.wp0 (prg hP) [] 0 .nil (hP ▸ Tryz.func101) rfl rfl rfl ?_
 refine (nf_clV ⟨id,ver,day,kind,ms,rs,ts⟩ (entI P v) _).mpr ?_
 repeat rw [wg0]
 have hk:wbt .string (entI P v):=wve hnd
 have hm:=wpy v id P
 have hq:qV (entI P v) ⟨id,ver,day,kind,ms,rs,ts⟩=(!decide (kind=1) && decide (ver<wao ((mget (entI P v) (.str id)).getD (.int .i64 0)))):=rfl
 rw [hq]
 refine wb3 (fun h1=>⟨⟨hk,?_⟩,?_,rfl⟩) (fun h1=>⟨?_,rfl⟩)
 ·show AV.int .i64 (wao (Option.getD (mget (entI P v) (.str id)) (.int .i64 0)))=Option.getD (mget (entI P v) (.str id)) (.int .i64 0)
  rw [hm]
  first | done | rfl
 ·have h1:¬ kind=1:=h1
  rw [decide_eq_false h1];rfl
 ·have h1:kind=1:=h1
  rw [decide_eq_true h1];rfl
theorem w1q (hP:C.P=Tryz.prog) (es:List (AV×AV)) (g:Nat→FL) (n:Nat):wak C 3 19 (wam Tryz.f144 2) (woc es g n):=by
 rintro st Q ⟨h0,hn,hrg,hE,hQ⟩
 obtain ⟨P,v,rfl,hnd⟩:=hE
 have hR:=wbx hQ
 refine wak.mk (prg hP) [(101,.det wfr)] 0 (.cons (wq4 hP) .nil) [0,1,7,8] [] [4] (wmg (entI P v) g n) (fun k=>k≤n∧fstB (fun i=>qV (entI P v) (g i)) k=k) (fun k=>n - k) 0 ⟨Nat.zero_le _,rfl⟩ h0 (fun k hk=>?_) (fun i=>⟨fun _ _=>rfl,trivial⟩)
 obtain ⟨hkn,hok⟩:=hk
 rw [wz0,Int.toNat_natCast,wd2]
 repeat rw [wg0]
 refine waj (fun h1=>?_) (fun h1=>?_)
 ·refine ⟨⟨by omega,by omega⟩,⟨by omega,rfl⟩,⟨⟨wew _,hrg k (by omega)⟩,rfl,⟨P,v,rfl,hnd⟩⟩,waw (fun h2=>?_) (fun h2=>⟨by simp only [inR];omega,k+1,⟨rfl,wap _⟩,⟨by omega,wil hok h2⟩,by omega⟩)⟩
  have e:=win hok h2 n (by omega)
  have:=hR.1 (by rw [e,decide_eq_true];omega)
  rw [e] at this
  exact ⟨fun _ _=>rfl,_,wap _,this⟩
 ·have:k=n:=by omega
  subst this
  exact ⟨fun _ _=>rfl,_,wap _,hR.2 (by rw [hok,decide_eq_false];omega)⟩
theorem ixV_ok (hP:C.P=Tryz.prog):wag C 144 wmh:=by
 rintro args objs U Os vc h hvc
 unfold wmh at h
 split at h<;>simp only [Option.some.injEq,Prod.mk.injEq,reduceCtorEq] at h
 rename_i n t m f fr es t2
 obtain ⟨rfl,rfl,rfl⟩:=h
 obtain ⟨rfl,rfl,rfl,rfl,hn,hf,hrg,hE⟩:=hvc
 generalize flOf f=g at *
 subst hf
 obtain ⟨P,v,rfl,hnd⟩:=hE
 refine wag.wpL (prg hP) [(101,.det wfr)] [(2,woc (entI P v) g n)] 0 (.cons (wq4 hP) .nil) (hP ▸ Tryz.func144) rfl rfl rfl [(wam Tryz.f144 2,woc (entI P v) g n)] (by kernel_rfl) ⟨w1q hP _ g n,trivial⟩ ?_
 rw [nf_ixV]
 repeat rw [wg0]
 unfold ixB
 refine ⟨⟨rfl,wap _⟩,hn,hrg,⟨P,v,rfl,hnd⟩,waj (fun h=>?_) (fun h=>?_)⟩
 ·rw [decide_eq_true h];exact ⟨fun _ _=>rfl,_,wap _,rfl,rfl⟩
 ·rw [decide_eq_false h];exact ⟨fun _ _=>rfl,_,wap _,rfl,rfl⟩
theorem w2x (hP:C.P=Tryz.prog) (es:List (AV×AV)) (g:Nat→FL) (n i0:Nat):wak C 3 42 (wam Tryz.f100 5) (wom es g n i0):=by
 rintro st Q ⟨h0,⟨hi0,hn⟩,hrg,hE,hall,hdel,hQ⟩
 obtain ⟨P,v,rfl,hnd⟩:=hE
 refine wak.mk (prg hP) [(101,.det wfr)] 0 (.cons (wq4 hP) .nil) [0,1,5,6] [0,5] [] (wmz (entI P v) n) (fun i=>i.k≤n∧i.w<i.k∧lst i.h i.w=kfL (qV (entI P v)) g i.k∧∀ j,i.w≤j→i.h j=g j) (fun i=>n - i.k) ⟨i0+1,i0,g⟩
  ⟨hi0,Nat.lt_succ_self _,?_,fun _ _=>rfl⟩ h0 (fun i hi=>?_) (fun i=>⟨fun _ _=>rfl,trivial⟩)
 ·show lst g i0=kfL (qV (entI P v)) g (i0+1)
  rw [wf6,hdel,wic hall];simp
 obtain ⟨k,w,h⟩:=i
 obtain ⟨i1,i2,i3,i4⟩:=hi
 dsimp only at i1 i2 i3 i4
 rw [w0e]
 dsimp only
 rw [Int.toNat_natCast,Int.toNat_natCast,wd2]
 repeat rw [wg0]
 refine waj (fun h1=>?_) (fun h1=>?_)
 ·have hk:k<n:=by omega
  have r1:h k=g k:=i4 _ (by omega)
  refine ⟨⟨by omega,by omega⟩,⟨by omega,rfl⟩,⟨⟨wew _,by rw [r1];exact hrg k hk⟩,rfl,⟨P,v,rfl,hnd⟩⟩,wcd (fun q=>?_) (fun q=>?_)⟩
  ·have q:qV (entI P v) (h k)=false:=q
   rw [r1] at q
   refine ⟨⟨by omega,by omega⟩,⟨rfl,by omega,rfl⟩,by simp only [inR];omega,by simp only [inR];omega,⟨k+1,w+1,fun j=>if j=w then h k else h j⟩,⟨rfl,⟨rfl,rfl,rfl,rfl,rfl,fun j hj=>?_⟩,rfl,rfl,trivial⟩,⟨hk,?_,?_,fun j hj=>?_⟩,?_⟩
   ·unfold wad
    by_cases e:j=w
    ·simp only [e,if_true]
    ·simp only [e,if_false]
   ·show w+1<k+1
    omega
   ·show lst (fun j=>if j=w then h k else h j) (w+1)=kfL (qV (entI P v)) g (k+1)
    have e:lst (fun j=>if j=w then h k else h j) w=lst h w:=List.map_congr_left fun j hj=>by
     have:=List.mem_range.1 hj
     rw [if_neg (by omega)]
    rw [wh7,wf6,q,e,i3,if_pos rfl,r1];rfl
   ·have hj:w+1≤j:=hj
    show (if j=w then h k else h j)=g j
    rw [if_neg (by omega)]
    exact i4 j (by omega)
   ·show n - (k+1)<n - k
    omega
  ·have q:qV (entI P v) (h k)=true:=q
   rw [r1] at q
   refine ⟨by simp only [inR];omega,⟨k+1,w,h⟩,⟨rfl,wap _⟩,⟨hk,?_,?_,i4⟩,?_⟩
   ·show w<k+1
    omega
   ·show lst h w=kfL (qV (entI P v)) g (k+1)
    rw [wf6,q,i3];simp
   ·show n - (k+1)<n - k
    omega
 ·have:k=n:=by omega
  subst this
  exact ⟨fun _ _=>rfl,_,wap _,hQ w h (by omega) i3⟩
theorem delV_ok (hP:C.P=Tryz.prog):wbd C 100 wnn:=by
 rintro args objs R h
 unfold wnn at h
 split at h
 ·rename_i n t m f fr es t2
  obtain ⟨rfl,rfl,rfl,rfl,hn,hf,hrg,hE,hR⟩:=h
  generalize flOf f=g at *
  subst hf
  obtain ⟨P,v,rfl,hnd⟩:=hE
  refine wbd.wpL (prg hP) [(144,.det wmh)] [(5,wom (entI P v) g n (fstB (fun i=>qV (entI P v) (g i)) n))] 0 (.cons (ixV_ok hP) .nil) (hP ▸ Tryz.func100) rfl rfl rfl [(wam Tryz.f100 5,wom (entI P v) g n (fstB (fun i=>qV (entI P v) (g i)) n))] (by kernel_rfl) ⟨w2x hP _ g n _,trivial⟩ ?_
  rw [nf_dfV]
  repeat rw [wg0]
  rw [wdl]
  obtain ⟨f1,f2⟩:=wkn (fun i=>qV (entI P v) (g i)) n
  have fle:=wim (fun i=>qV (entI P v) (g i)) n
  by_cases hlt:fstB (fun i=>qV (entI P v) (g i)) n<n
  ·have hix:ixB (fun i=>qV (entI P v) (g i)) n=(fstB (fun i=>qV (entI P v) (g i)) n:Int):=by unfold ixB;rw [decide_eq_true hlt];rfl
   rw [hix]
   have f2:=f2 hlt
   generalize fstB (fun i=>qV (entI P v) (g i)) n=i0 at *
   refine ⟨fun _ _=>rfl,⟨rfl,rfl,rfl,rfl,hn,rfl,hrg,⟨P,v,rfl,hnd⟩⟩,fun _ _=>rfl,waj (fun q=>absurd q (by omega)) (fun _=>⟨by simp only [inR];omega,⟨rfl,wap _⟩,⟨hlt,hn⟩,hrg,⟨P,v,rfl,hnd⟩,f1,f2,fun w h hw hl=>?_⟩)⟩
   rw [Int.toNat_natCast]
   exact ⟨⟨by omega,by omega⟩,hw,⟨by omega,by omega⟩,fun _ _=>rfl,_,wap _,hR w h hw hl⟩
  ·have hix:ixB (fun i=>qV (entI P v) (g i)) n= -1:=by unfold ixB;rw [decide_eq_false hlt];rfl
   rw [hix]
   have e0:fstB (fun i=>qV (entI P v) (g i)) n=n:=by omega
   rw [e0] at f1
   exact ⟨fun _ _=>rfl,⟨rfl,rfl,rfl,rfl,hn,rfl,hrg,⟨P,v,rfl,hnd⟩⟩,fun _ _=>rfl,waj (fun _=>⟨fun _ _=>rfl,_,wap _,hR n g (Nat.le_refl _) (wic f1).symm⟩) (fun q=>absurd rfl q)⟩
 ·exact h.elim
end Go.Eng
namespace Go.Eng
open Go.Proofs Go.RowKit Go.Sort
section
variable {β:Type}
end
def entF (es:List (AV×AV)) (i:Nat):List AV:=[(es.getD i (.any,.any)).1,(es.getD i (.any,.any)).2]
theorem entsV_F (es:List (AV×AV)):wdm es.length (entF es)=es:=by
 apply List.ext_getElem?
 intro i
 unfold wdm
 rw [List.getElem?_map]
 rcases Nat.lt_or_ge i es.length with h | h
 ·rw [List.getElem?_range h,Option.map_some,List.getElem?_eq_getElem h]
  simp [entF,h]
 ·rw [List.getElem?_eq_none (by simpa using h),List.getElem?_eq_none h];rfl
def strV (x:List UInt8):Value:=.string ⟨x.toArray⟩
theorem wal.sortM {C : Ctx} (cf : List UInt8 → List UInt8 → Int) {fS g : FuncId} {t ct : TypeId} (heS : wi7 C.P fS)
    (hS : ∀ (cb : Array Value) (blk cap : Nat) (d : Array (List UInt8)) (w : World), CmpLays1 C.P g cb strV cf blk 0 d.size w → Sort.Holds strV w blk 0 d → blk < w.heap.size → d.size < 4611686018427387904 →
      Calls C.P fS #[.slice (some ⟨blk, 0, none⟩) d.size cap, .func (.func g) #[] cb] w fun e w' => e = .returned (.tuple #[]) ∧ ∃ d' n os, PermIn 0 d.size d d' ∧ SortedIn (ltOf cf) 0 d.size d' ∧ w' = sortWorld strV w blk 0 n d' os)
    (hN : ∀ (p : Option Addr) (cap : Nat) (fv : Value) (w : World), Calls C.P fS #[.slice p 0 cap, fv] w fun e w' => e = .returned (.tuple #[]) ∧ w' = w)
    (es : List (AV × AV)) (hes : ∀ p ∈ es, nref p.1 = true ∧ nref p.2 = true)
    (hc : ∀ x y, ADet (Ctx.bare C.P C.mixed) g [.str x, .str y, .vptr [.vmap es.length (entF es)]] [] (.int .i64 (cf x y)) [])
    {n : Nat} (f : Nat → List UInt8) (hn : n < 4611686018427387904) :
    wal C fS [.own 0 n, .func g [.ptr 1 0]] [.row t 1 n (fun i => [.str (f i)]) false, .cells [.map 2] ct, .amap es] fun u O => u = .tuple [] ∧ ∃ f' : Nat → List UInt8, ((List.range n).map f').Perm ((List.range n).map f) ∧ (∀ i j, i < j → j < n → ¬ cf (f' j) (f' i) < 0) ∧
      O = [(0, .row t 1 n (fun i => [.str (f' i)]) false), (1, .cells [.map 2] ct), (2, .amap es)] := by
  refine ⟨heS, fun E bs w cargs h1 h2 h3 hW h5 h6 h7 => ?_⟩
  obtain ⟨a, b, rfl⟩ : ∃ a b, cargs = [a, b] := by
    match cargs, h6 with
    | [a, b], _ => exact ⟨a, b, rfl⟩
  have hO : ∀ F : Nat → List UInt8, lkL [AObj.row t 1 n (fun i => [.str (F i)]) false, .cells [.map 2] ct, .amap es] = lk [(0, .row t 1 n (fun i => [.str (F i)]) false), (1, .cells [.map 2] ct), (2, .amap es)] := fun F => by
    funext i
    match i with
    | 0 => rfl
    | 1 => rfl
    | 2 => rfl
    | i + 3 =>
      rw [wa1, if_neg (by show ¬ 0 = i + 3; omega), wa1, if_neg (by show ¬ 1 = i + 3; omega), wa1, if_neg (by show ¬ 2 = i + 3; omega)]
      simp [lkL, lk]
  have V0 := h7 0 _ _ rfl rfl
  have V1 := h7 1 _ _ rfl rfl
  rw [hO] at hW V0 V1
  have hbs : ∀ (F : Nat → List UInt8) r, 3 + 16 ≤ r → lk [(0, AObj.row t 1 n (fun i => [.str (F i)]) false), (1, .cells [.map 2] ct), (2, .amap es)] r = none ∧ bs r = none := fun F r hr =>
    ⟨by rw [wa1, if_neg (by show ¬ 0 = r; omega), wa1, if_neg (by show ¬ 1 = r; omega), wa1, if_neg (by show ¬ 2 = r; omega)]; rfl, h5 r (by show 3 ≤ r; omega)⟩
  -- the cell and the map
  obtain ⟨b1, c1, cs1, k1, k2, k3, k4, k5⟩ := hW.obj 1 _ rfl
  obtain ⟨b2, c2, ents, clock, m1, m2, m3, m4⟩ := hW.obj 2 _ rfl
  obtain ⟨mv, rfl⟩ : ∃ mv, cs1 = #[mv] := by
    have k3 : cs1.size = 1 := k3
    exact ⟨cs1[0], by apply Array.ext; · simpa using k3
                      · intro i hi1 hi2; have : i = 0 := by omega
                        subst this; rfl⟩
  have hmv : mv = .map (some b2) := by
    have q := k5 0 mv (.map 2) rfl rfl
    cases q with
    | map hb2 =>
      rw [m1] at hb2
      injection hb2 with hb2
      injection hb2 with e1 e2
      rw [e1]
  subst hmv
  generalize hu : AV.func g [.ptr 1 0] = uf at V1
  cases V1 <;> cases hu
  rename_i caps hl hv
  obtain ⟨pv, rfl⟩ : ∃ pv, caps = #[pv] := by
    have hl : caps.size = 1 := hl
    exact ⟨caps[0], by apply Array.ext; · simpa using hl
                       · intro i hi1 hi2; have : i = 0 := by omega
                         subst this; rfl⟩
  have hpv : pv = .pointer (some ⟨b1, 0, none⟩) := by
    have q := hv 0 pv (.ptr 1 0) rfl rfl
    cases q with
    | ptr hb1 =>
      rw [k1] at hb1
      injection hb1 with hb1
      injection hb1 with e1 e2
      rw [e1]
  subst hpv
  generalize hM : MB E (lk [(0, AObj.row t 1 n (fun i => [.str (f i)]) false), (1, .cells [.map 2] ct), (2, .amap es)]) bs = M at *
  generalize huo : AV.own 0 n = uo at V0
  cases V0 <;> cases huo
  case func.refl.ownnil.refl A x1 x2 =>
    have hn0 : n = 0 := by assumption
    clear x1 x2
    subst hn0
    refine (hN A 0 _ w).mono ?_
    rintro e w' ⟨rfl, rfl⟩
    exact ⟨_, .tuple [], [(0, .row t 1 0 (fun i => [.str (f i)]) false), (1, .cells [.map 2] ct), (2, .amap es)], bs, rfl, ⟨rfl, f, .refl _, fun i j _ hj => absurd hj (Nat.not_lt_zero j), rfl⟩, hW, .tuple rfl (fun j v u hv hu => by simp at hu), hbs f⟩
  case func.refl.own.refl bk c x1 x2 x3 =>
    have hb : bs 0 = some (.blk bk c) := by assumption
    clear x1 x2 x3
    have hrow := hW.obj 0 _ rfl
    rcases hrow with ⟨h, _⟩ | ⟨bk', c', vs, hb', hh, hnc', hcm', hsz, hln, hone, hval⟩
    · rw [h] at hb; cases hb
    obtain ⟨rfl, rfl⟩ : bk' = bk ∧ c' = c := by
      rw [hb'] at hb; injection hb with hb; injection hb with e1 e2; exact ⟨e1, e2⟩
    have n1 : b1 ≠ bk' := fun e => by subst e; exact absurd (hW.sep 1 0 _ _ _ _ _ rfl rfl rfl rfl k1 hb') (by decide)
    have n2 : b2 ≠ bk' := fun e => by subst e; exact absurd (hW.sep 2 0 _ _ _ _ _ rfl rfl rfl rfl m1 hb') (by decide)
    have hblk : bk' < w.heap.size := hW.lt _ _ _ hb'
    have hds : (((List.range n).map f).toArray).size = n := by simp
    have vsz : vs.size = c' := by rw [hsz, Nat.mul_one]
    have vstr : ∀ i (hi : i < n), vs[i]? = some (strV (f i)) := fun i hi => by
      have hlt : i < vs.size := by omega
      have := hval i hi 0 vs[i] (.str (f i)) (by omega) (by rw [Nat.mul_one]; exact Array.getElem?_eq_getElem hlt) rfl
      rw [Array.getElem?_eq_getElem hlt, this.str_iff]; rfl
    have hH : Sort.Holds strV w bk' 0 ((List.range n).map f).toArray := by
      intro q hq
      rw [hds] at hq
      rw [arr_get n f hq, Nat.zero_add]
      refine ⟨?_, ?_⟩
      · rw [cell_of_row w bk' q vs t (0, 0) hh]; exact vstr q hq
      · simp [World.frozen?, hh]
    have hheap : ∀ (m : Nat) (dk : Array (List UInt8)) (os : Array Obj) (b : Nat), b < w.heap.size → b ≠ bk' → (sortWorld strV w bk' 0 m dk os).heap[b]? = w.heap[b]? := fun m dk os b hb hne => by
      show ((putRow strV (Sort.ahead w m) bk' 0 dk).heap ++ os)[b]? = _
      rw [Array.getElem?_append_left (by show b < (putRow _ _ _ _ _).heap.size; rw [show (putRow strV (Sort.ahead w m) bk' 0 dk).heap.size = w.heap.size from by simp [putRow, mapBlock]]; exact hb)]
      simp [putRow, mapBlock, Array.getElem?_modify, Ne.symm hne]
    have hsize : ∀ (m : Nat) (dk : Array (List UInt8)) (os : Array Obj), w.heap.size ≤ (sortWorld strV w bk' 0 m dk os).heap.size := fun m dk os => by simp [sortWorld, grow, putRow, mapBlock]
    have hC : CmpLays1 C.P g #[.pointer (some ⟨b1, 0, none⟩)] strV cf bk' 0 ((List.range n).map f).toArray.size w := by
      intro m os dk _ x y
      have lt1 := hW.lt _ _ _ k1
      have lt2 := hW.lt _ _ _ m1
      have hb1 := hheap m dk os b1 lt1 n1
      have hb2 := hheap m dk os b2 lt2 n2
      have hsz2 := hsize m dk os
      have hMk : M bk' := by rw [← hM]; exact .inr ⟨0, _, c', rfl, rfl, hb'⟩
      have data : ∀ {v : Value} {u : AV}, nref u = true → V w M bs v u → V (sortWorld strV w bk' 0 m dk os) (fun _ => False) nob v u := fun hu hv => hv.free (fun _ _ _ h => h) (fun b hb hm => hheap m dk os b hb (fun e => hm (e ▸ hMk))) hsz2 nob hu
      have := ADet.grown (hc x y) rfl (w := sortWorld strV w bk' 0 m dk os) (cargs := [strV x, strV y, .pointer (some ⟨b1, 0, none⟩)]) rfl (fun j v u hv hu => ?_)
      · simpa [valA] using this
      match j with
      | 0 => obtain rfl := Option.some.inj hv; obtain rfl := Option.some.inj hu; exact .str rfl
      | 1 => obtain rfl := Option.some.inj hv; obtain rfl := Option.some.inj hu; exact .str rfl
      | 2 =>
        obtain rfl := Option.some.inj hv; obtain rfl := Option.some.inj hu
        refine .vptr (fun _ => .map (some b2)) (fun h => h) (by show b1 < _; omega) (fun j hj => ?_) (fun j hj => rfl) (fun j u hu => ?_)
        · have hj : j = 0 := by simpa using hj
          subst hj
          show World.cell? _ ((⟨b1, 0, none⟩ : Addr).add 0) = _
          rw [Addr.add_lit, cell_of_row _ b1 _ _ _ (0, 0) (hb1.trans k2)]
          rfl
        · match j with
          | 0 =>
            obtain rfl := Option.some.inj hu
            have ent : ∀ (i : Nat) (e : MapEntry), ents[i]? = some e → ∃ p, es[i]? = some p ∧ p ∈ es := fun i e he => by
              have : i < es.length := by rw [← m3.1]; exact (Array.getElem?_eq_some_iff.1 he).1
              exact ⟨es[i], List.getElem?_eq_getElem this, List.getElem_mem this⟩
            refine .vmap (fun h => h) (by show b2 < _; omega) (hb2.trans m2) m3.1 (fun i e u he hu => ?_) (fun i e u he hu => ?_)
            · obtain ⟨p, hp, hpe⟩ := ent i e he
              obtain rfl : p.1 = u := by simpa [entF, hp] using hu
              exact data (hes p hpe).1 (m3.2 i e p he hp).1
            · obtain ⟨p, hp, hpe⟩ := ent i e he
              obtain rfl : p.2 = u := by simpa [entF, hp] using hu
              exact data (hes p hpe).2 (m3.2 i e p he hp).2
          | j + 1 => simp at hu
      | j + 3 => simp at hv
    have hcall := hS #[.pointer (some ⟨b1, 0, none⟩)] bk' c' ((List.range n).map f).toArray w hC hH hblk (by rw [hds]; exact hn)
    rw [hds] at hcall
    refine hcall.mono ?_
    rintro e w' ⟨rfl, d', m, os, hperm, hsort, rfl⟩
    have hd' : d'.size = n := hperm.1.trans hds
    have hlist : d'.toList = (List.range n).map (fun i => d'[i]!) := by
      apply List.ext_getElem?
      intro i
      rw [List.getElem?_map, Array.getElem?_toList]
      by_cases hi : i < n
      · rw [List.getElem?_range hi, Option.map_some, getElem!_pos d' i (by omega), Array.getElem?_eq_getElem (by omega)]
      · rw [Array.getElem?_eq_none (by omega), List.getElem?_eq_none (by simp; omega)]; rfl
    have hnew : (sortWorld strV w bk' 0 m d' os).heap[bk']? = some (.cells (putCells strV 0 d' vs) t (0, 0)) := by
      show ((putRow strV (Sort.ahead w m) bk' 0 d').heap ++ os)[bk']? = _
      rw [Array.getElem?_append_left (by rw [show (putRow strV (Sort.ahead w m) bk' 0 d').heap.size = w.heap.size from by simp [putRow, mapBlock]]; exact hblk)]
      simp [putRow, mapBlock, Array.getElem?_modify, hh, onCells]
    have hcell : ∀ i, i < n → ∀ v, (putCells strV 0 d' vs)[i]? = some v → v = strV d'[i]! := fun i hi v hv => by
      have hlt2 : i < vs.size := by omega
      simp only [putCells, Array.getElem?_mapIdx, Array.getElem?_eq_getElem hlt2, Option.map_some, hd', Nat.zero_le, Nat.zero_add, hi, and_self, if_true, Nat.sub_zero, Option.some.injEq] at hv
      exact hv.symm
    refine ⟨_, .tuple [], [(0, .row t 1 n (fun i => [.str d'[i]!]) false), (1, .cells [.map 2] ct), (2, .amap es)], bs, rfl, ⟨rfl, fun i => d'[i]!, ?_, fun i j hij hj => ?_, rfl⟩, ?_, .tuple rfl (fun j v u hv hu => by simp at hu), hbs fun i => d'[i]!⟩
    · have := hperm.2.2
      have e1 : d'.extract 0 n = d' := by rw [← hd']; exact Array.extract_size
      have e2 : ((List.range n).map f).toArray.extract 0 n = ((List.range n).map f).toArray := by
        have := Array.extract_size (xs := ((List.range n).map f).toArray)
        rwa [hds] at this
      rw [e1, e2] at this
      rw [← hlist]; simpa using this
    · have := hsort i j (Nat.zero_le _) hij hj
      simpa [ltOf] using this
    · rw [← hM] at *
      have back : ∀ (r : Nat) (o : AObj), lk [(0, AObj.row t 1 n (fun i => [.str d'[i]!]) false), (1, .cells [.map 2] ct), (2, .amap es)] r = some o → o.mut = true ∧ (r = 0 ∨ lk [(0, AObj.row t 1 n (fun i => [.str (f i)]) false), (1, .cells [.map 2] ct), (2, .amap es)] r = some o) ∧
          ∃ o', lk [(0, AObj.row t 1 n (fun i => [.str (f i)]) false), (1, .cells [.map 2] ct), (2, .amap es)] r = some o' ∧ o'.mut = true := fun r o ho => by
        match r, ho with
        | 0, ho => obtain rfl := Option.some.inj ho; exact ⟨rfl, .inl rfl, _, rfl, rfl⟩
        | 1, ho => obtain rfl := Option.some.inj ho; exact ⟨rfl, .inr rfl, _, rfl, rfl⟩
        | 2, ho => obtain rfl := Option.some.inj ho; exact ⟨rfl, .inr rfl, _, rfl, rfl⟩
        | r + 3, ho => rw [wa1, if_neg (by show ¬ 0 = r + 3; omega), wa1, if_neg (by show ¬ 1 = r + 3; omega), wa1, if_neg (by show ¬ 2 = r + 3; omega)] at ho; cases ho
      have hmb : ∀ b, mutB (lk [(0, AObj.row t 1 n (fun i => [.str d'[i]!]) false), (1, .cells [.map 2] ct), (2, .amap es)]) bs b → mutB (lk [(0, AObj.row t 1 n (fun i => [.str (f i)]) false), (1, .cells [.map 2] ct), (2, .amap es)]) bs b := by
        rintro b ⟨r, o, c2, ho, hm, hb2⟩
        obtain ⟨_, _, o', q1, q2⟩ := back r o ho
        exact ⟨r, o', c2, q1, q2, hb2⟩
      refine (hW.next (w' := sortWorld strV w bk' 0 m d' os) (fun b => b = bk') (fun i h hi => hi) (fun i b c' hi => .inl hi) (fun b hb2 => by subst hb2; exact ⟨0, _, c', rfl, rfl, hb'⟩) (fun b hb2 hne => hheap m d' os b hb2 hne) (hsize m d' os) (fun b hb2 => .inl (hmb b hb2)) (fun hSt i o' ho => ?_)
        (fun i j o1 o2 b c1 c2 hi hj _ _ bi bj => ?_) (fun i t' sz' n' f' b c2 ho hb2 => ?_) rfl ⟨rfl, fun _ => Nat.le_add_right _ _⟩ rfl).2
      · obtain ⟨_, hr | hr, _⟩ := back i o' ho
        · subst hr
          obtain rfl := Option.some.inj ho
          refine .inr (.inr ⟨bk', c', _, hb', hnew, hnc', hcm', by simp [putCells, hsz], fun i hi => rfl, fun i hi j hj v hv => ?_, fun i hi j v u hj hv hu => ?_⟩)
          · obtain rfl : j = 0 := by omega
            rw [Nat.mul_one] at hv
            rw [hcell i hi v hv]; rfl
          · obtain rfl : j = 0 := by omega
            rw [Nat.mul_one] at hv
            rw [hcell i hi v hv]
            obtain rfl := Option.some.inj hu
            exact .str rfl
        · by_cases h0 : i = 0
          · subst h0
            obtain rfl := Option.some.inj ho
            refine .inr (.inr ⟨bk', c', _, hb', hnew, hnc', hcm', by simp [putCells, hsz], fun i hi => rfl, fun i hi j hj v hv => ?_, fun i hi j v u hj hv hu => ?_⟩)
            · obtain rfl : j = 0 := by omega
              rw [Nat.mul_one] at hv
              rw [hcell i hi v hv]; rfl
            · obtain rfl : j = 0 := by omega
              rw [Nat.mul_one] at hv
              rw [hcell i hi v hv]
              obtain rfl := Option.some.inj hu
              exact .str rfl
          · refine .inl ⟨hr, fun b c3 hbi e => ?_⟩
            subst e
            obtain ⟨hm1, _⟩ := back i o' ho
            exact h0 (hW.sep i 0 o' _ _ c3 c' hr rfl hm1 rfl hbi hb')
      · obtain ⟨_, _, p1, q1, q2⟩ := back i o1 hi
        obtain ⟨_, _, p2, q3, q4⟩ := back j o2 hj
        exact hW.sep i j p1 p2 b c1 c2 q1 q3 q2 q4 bi bj
      · obtain ⟨q, _⟩ := back i _ ho
        cases q
end Go.Eng
