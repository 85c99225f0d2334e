/- The tape. -/
import Derived.Test.YtgcboligphndhaaGreatDoorQt
import Derived.Test.YtgcboligphndhaaGreatDoorQs
import Derived.Test.YtgcboligphndhaaGreatDoorQq
import Derived.Lib.ItoaNum
import Derived.Test.YtgcboligphndhaaGreatDoorQm
import Derived.Test.YtgcboligphndhaaGreatDoorQr
namespace Go.Eng
def mapR (φ:AV→AV) (b:Bool):AObj→AObj
 |.cells cs t=>.cells (cs.map φ) t
 |.row t sz n f fr=>match b with
  |true=>.row t sz n (fun i=>(f i).map φ) fr
  |false=>.row t sz n f fr
 |.amap es=>.amap es
 |.siter s pos=>.siter s pos
 |.miter m n0 left=>.miter m n0 left
 |.dead=>.dead
theorem wo1 (φ:AV→AV) (b:Bool) (o:AObj):(mapR φ b o).mut=o.mut:=by
 cases o with
 |row t sz n f fr=>cases b<;>cases fr<;>rfl
 |_=>rfl
def mapO (φ:AV→AV) (rs:List Nat):List (Nat×AObj)→List (Nat×AObj)
 |[]=>[]
 |p::l=>(p.1,mapR φ (hasN rs p.1) p.2)::mapO φ rs l
theorem wht (φ:AV→AV) (rs:List Nat):∀ (O:List (Nat×AObj)) (k:Nat),lk (mapO φ rs O) k=(lk O k).map (mapR φ (hasN rs k))
 |[],k=>rfl
 |p::l,k=>by
  rw [mapO,way,way]
  by_cases e:p.1=k
  ·subst e;rw [if_pos rfl,if_pos rfl];rfl
  ·rw [if_neg e,if_neg e];exact wht φ rs l k
theorem WRep.mapR {C:Ctx} {E:Ent} {O:Nat→Option AObj} {bs:Nat→Option Hd} {w:World} (hW:WRep C E O bs w) (φ:AV→AV) (hφ:∀ v u,V w (MB E O bs) bs v u→V w (MB E O bs) bs v (φ u)) (rs:List Nat):
  MB E (fun k=>(O k).map (Eng.mapR φ (hasN rs k))) bs=MB E O bs∧WRep C E (fun k=>(O k).map (Eng.mapR φ (hasN rs k))) bs w:=by
 have hold:∀ r o,(O r).map (Eng.mapR φ (hasN rs r))=some o→∃ o',O r=some o'∧o=Eng.mapR φ (hasN rs r) o':=fun r o ho=>by
  obtain ⟨o',h1,h2⟩:=Option.map_eq_some_iff.1 ho
  exact ⟨o',h1,h2.symm⟩
 have hmb:∀ b,mutB (fun k=>(O k).map (Eng.mapR φ (hasN rs k))) bs b→mutB O bs b:=fun b ⟨r,o,c,h1,h2,h3⟩=>by
  obtain ⟨o',q1,rfl⟩:=hold r o h1
  exact ⟨r,o',c,q1,by rw [← h2,wo1],h3⟩
 have hMB:MB E (fun k=>(O k).map (Eng.mapR φ (hasN rs k))) bs=MB E O bs:=by
  funext b
  apply propext
  constructor
  ·rintro (h | h)
   ·exact .inl h
   ·exact .inr (hmb b h)
  ·rintro (h | ⟨r,o,c,h1,h2,h3⟩)
   ·exact .inl h
   ·exact .inr ⟨r,Eng.mapR φ (hasN rs r) o,c,by simp [h1],by rw [wo1];exact h2,h3⟩
 refine ⟨hMB,?_⟩
 exact {
  obj:=fun r o ho=>by
   rw [hMB]
   obtain ⟨o',h0,rfl⟩:=hold r o ho
   have h:=hW.obj r o' h0
   cases o' with
   |cells cs t=>
    obtain ⟨b,c,vs,h1,h2,h3,h4,h5⟩:=h
    refine ⟨b,c,vs,h1,h2,by rw [List.length_map];exact h3,h4,fun j v u hv hu=>?_⟩
    rw [List.getElem?_map] at hu
    obtain ⟨u0,q1,rfl⟩:=Option.map_eq_some_iff.1 hu
    exact hφ v u0 (h5 j v u0 hv q1)
   |row t sz n f fr=>
    unfold Eng.mapR
    cases hasN rs r with
    |false=>exact h
    |true=>
     dsimp only
     rcases h with h | ⟨b,c,vs,h1,h2,h3,h4,h5,h6,h7,h8⟩
     ·exact .inl h
     ·refine .inr ⟨b,c,vs,h1,h2,h3,h4,h5,fun i hi=>by rw [List.length_map];exact h6 i hi,h7,fun i hi j v u hj hv hu=>?_⟩
      rw [List.getElem?_map] at hu
      obtain ⟨u0,q1,rfl⟩:=Option.map_eq_some_iff.1 hu
      exact hφ v u0 (h8 i hi j v u0 hj hv q1)
   |amap es=>exact h
   |siter s pos=>exact h
   |miter m n0 left=>exact h
   |dead=>exact h
  sep:=fun r r' o1 o2 b c c' h1 h2 m1 m2 b1 b2=>by
   obtain ⟨o1',p1,rfl⟩:=hold r o1 h1
   obtain ⟨o2',p3,rfl⟩:=hold r' o2 h2
   rw [wo1] at m1 m2
   exact hW.sep r r' o1' o2' b c c' p1 p3 m1 m2 b1 b2
  out:=fun b hb=>hW.out b (hmb b hb)
  frz:=fun r t' sz' n' f2 b c ho hb=>by
   rw [hMB]
   obtain ⟨o',p1,p2⟩:=hold r _ ho
   cases o' with
   |row t sz n f fr=>
    unfold Eng.mapR at p2
    cases hq:hasN rs r with
    |false=>
     rw [hq] at p2
     injection p2 with e1 e2 e3 e4 e5
     subst e5
     exact hW.frz r _ _ _ _ b c p1 hb
    |true=>
     rw [hq] at p2
     injection p2 with e1 e2 e3 e4 e5
     subst e5
     exact hW.frz r _ _ _ _ b c p1 hb
   |_=>cases p2
  high:=fun b hb=>hW.high b (by rw [← hMB];exact hb)
  lt:=hW.lt
  outlt:=hW.outlt
  keep:=hW.keep
  old:=fun b hb=>hW.old b (hmb b hb)
  size:=hW.size
  pre:=hW.pre
  os:=hW.os
  tape:=hW.tape
  output:=hW.output
  laid:=hW.laid
  gle:=hW.gle }
def frzX (r:Nat) (rs:List Nat) (s:St):St:=match lk s.O r with
 |some (.row _ sz n g _)=>⟨frzT r sz n g s.T,mapO (frz r sz n g) rs (rm r s.O),s.nx,[]⟩
 |_=>s
theorem RepS.frzX {C:Ctx} {E:Ent} {N:Nat} {s:St} {bs:Nat→Option Hd} {a:Act} {w:World} (h:RepS C E N s bs a w) (r:Nat) (rs:List Nat) (hf:wfu r s):RepS C E N (Eng.frzX r rs s) bs a w:=by
 unfold Eng.frzX
 unfold wfu at hf
 split
 ·rename_i t sz n g fr hO
  rw [hO] at hf
  obtain ⟨⟨hF,hW⟩,hnx,hm⟩:=h
  obtain ⟨hS,hW1⟩:=hW.freeze hO
  have hF1:=hF.step hS
  obtain ⟨e2,hW2⟩:=hW1.mapR (Eng.frz r sz n g) (fun v u hV=>V.frz hW1 (war _ _ _) hf hV) rs
  obtain ⟨hS3,hW3⟩:=hW2.less (O':=lk (mapO (Eng.frz r sz n g) rs (rm r s.O))) fun k o hk=>by
   rw [wht] at hk
   obtain ⟨o',q0,rfl⟩:=Option.map_eq_some_iff.1 hk
   obtain ⟨q1,q2⟩:=wdr r s.O k o' q0
   show Option.map _ (up (lk s.O) r _ k)=_
   rw [waq _ _ _ q1,q2];rfl
  refine ⟨⟨⟨hF.1,hF.2.1,fun i u hu=>?_⟩,hW3⟩,fun k hk=>⟨?_,(hnx k hk).2⟩,hm⟩
  ·obtain ⟨u0,h0,rfl⟩:=wo6 hu
   obtain ⟨v,hv,hV⟩:=hF1.2.2 i u0 h0
   have hV2:=V.frzC hW1 (war _ _ _) hf hV
   rw [← e2] at hV2
   exact ⟨v,hv,hV2.step hS3⟩
  ·show lk (mapO _ rs (rm r s.O)) k=none
   rw [wht]
   cases hx:lk (rm r s.O) k with
   |none=>rfl
   |some o=>
    have:=(wdr r s.O k o hx).2
    rw [(hnx k hk).1] at this;cases this
 ·exact h
theorem AWP.frzX {C:Ctx} {m N:Nat} {c:Code} {Q:Exit→St→Prop} {s:St} (r:Nat) (rs:List Nat) (hf:wfu r s) (h:AWP C m N c Q (Eng.frzX r rs s)):AWP C m N c Q s:=by
 intro E hE bs a w hr
 exact h E hE bs a w (hr.frzX r rs hf)
def BK.Rg (b:BK):Prop:=inR .i64 b.up∧inR .i64 b.pr
structure TfS where
 up:Int
 bs:List BK
 a:Int
def wir (n:Nat) (v:Nat→Int) (N st:Int) (i:TfS):St:=⟨[(0,.ptr 0 0),(2,.ptr 1 0),(3,.ptr 2 0),(4,.int .i64 i.up),(9,.int .i64 N),(10,.int .i64 i.bs.length)],
 [(0,.cells [.view 1 n (waa v),.int .i64 i.a] 27),(1,.cells [.int .i64 0,.nil] 95),(2,.cells [.int .i64 st,.own 3 i.bs.length] 95),(3,.row 115 2 i.bs.length (wa1 (atB i.bs)) false)],4,[]⟩
def wdk (n:Nat) (v:Nat→Int) (a:Int):Nat→Int
 |0=>0
 |k+1=>wdk n v a k+(1+wab n v (a+2 * k) 60)
def tarB (n:Nat) (v:Nat→Int) (a:Int):Nat→List BK
 |0=>[]
 |k+1=>tarB n v a k++[⟨wdk n v a (k+1),wab n v (a+2 * k+1) 4 * 10⟩]
def tarL (n:Nat) (v:Nat→Int) (a:Int):List BK:=tarB n v (a+2) (wab n v (a+1) 4).toNat++[⟨0,wab n v (a+2+2 * wab n v (a+1) 4) 4 * 10⟩]
def tarA (n:Nat) (v:Nat→Int) (a:Int):Int:=a+2+2 * wab n v (a+1) 4+1
theorem wq4 (n:Nat) (v:Nat→Int) (a:Int):∀ k,(tarB n v a k).length=k
 |0=>rfl
 |k+1=>by rw [tarB,List.length_append,wq4 n v a k];rfl
theorem wn2 (n:Nat) (v:Nat→Int) (a:Int):∀ k:Nat,0≤wdk n v a k∧wdk n v a k≤60 * k
 |0=>⟨Int.le_refl _,Int.le_refl _⟩
 |k+1=>by
  have:=wn2 n v a k
  have r:=wav (show (1:Int)≤60 by omega) n v (a+2 * k)
  rw [wdk]
  omega
theorem wq3 (n:Nat) (v:Nat→Int) (a:Int):∀ k,k≤1000→∀ b∈tarB n v a k,b.Rg
 |0,_,b,hb=>by cases hb
 |k+1,hk,b,hb=>by
  rw [tarB] at hb
  rcases List.mem_append.1 hb with hb | hb
  ·exact wq3 n v a k (by omega) b hb
  ·rw [List.mem_singleton.1 hb]
   have:=wn2 n v a (k+1)
   have r:=wav (show (1:Int)≤4 by omega) n v (a+2 * k+1)
   constructor
   ·show inR .i64 (wdk n v a (k+1))
    simp only [inR];omega
   ·show inR .i64 (wab n v (a+2 * k+1) 4 * 10)
    simp only [inR];omega
theorem wv4 (n:Nat) (v:Nat→Int) (a:Int):(tarL n v a).length≤10∧(∀ b∈tarL n v a,b.Rg)∧(a≤tarA n v a∧tarA n v a≤a+12):=by
 have r:=wav (show (1:Int)≤4 by omega) n v (a+1)
 have r2:=wav (show (1:Int)≤4 by omega) n v (a+2+2 * wab n v (a+1) 4)
 refine ⟨?_,fun b hb=>?_,?_⟩
 ·unfold tarL
  rw [List.length_append,wq4]
  show _+1≤10
  omega
 ·unfold tarL at hb
  rcases List.mem_append.1 hb with hb | hb
  ·exact wq3 n v _ _ (by omega) b hb
  ·rw [List.mem_singleton.1 hb]
   constructor
   ·show inR .i64 0
    simp only [inR];omega
   ·show inR .i64 (wab n v (a+2+2 * wab n v (a+1) 4) 4 * 10)
    simp only [inR];omega
 ·unfold tarA;omega
def wmz (n:Nat) (v:Nat→Int) (a N st:Int):wau:=fun s Q=>canonIs te 1 [0,2,3,4,9,10] (ownNilP 3 1 115 2 s) (wir n v N st ⟨0,[],a⟩)∧(0≤N∧N≤3)∧(0≤a∧a≤4611686018427375000)∧
 ∀ i:TfS,(i.bs.length:Int)=N→i.a=a+2 * N→i.bs=tarB n v a N.toNat→
  Q (.exit 0) ⟨[(0,.ptr 0 0),(2,.ptr 1 0),(3,.ptr 2 0)],(wir n v N st i).O,4,[]⟩
def wk3:Spec
 |[.ptr 0 0],[.cells [.view sz n f,.int .i64 a] t]=>some (.agg [.int .i64 (wab n (vInt f) a 500),.view 2 (tarL n (vInt f) a).length (wa1 (atB (tarL n (vInt f) a)))],
   [(0,.cells [.view 1 n f,.int .i64 (tarA n (vInt f) a)] 27)],t=27∧sz=1∧f=waa (vInt f)∧(0≤a∧a≤4611686018427370000))
 |_,_=>none
def S_fl (n:Nat) (v:Nat→Int) (a:Int) (id:List UInt8) (ver day kind:Int) (ms:List MG) (rs:List RW) (ts:List RT):St:=⟨[(0,.ptr 0 0),(2,.ptr 1 0),(3,.ptr 2 0)],
 [(0,.cells [.view 1 n (waa v),.int .i64 a] 27),(1,.cells [.str [],.int .i64 0,.int .i64 0,.int .i64 0,.nil,.nil,.nil] 49),
  (2,.cells [.str id,.int .i64 ver,.int .i64 day,.int .i64 kind,.own 3 ms.length,.own 4 rs.length,.own 5 ts.length] 49),
  (3,.row 40 15 ms.length (waf (atM ms)) false),(4,.row 61 5 rs.length (wah (atR rs)) false),(5,.row 97 5 ts.length (wai (atT ts)) false)],6,[]⟩
def wnm (n:Nat) (v:Nat→Int) (a:Int) (id:List UInt8) (ver day kind:Int):wau:=fun s Q=>
 canonIs te 1 [0,2,3] (ownNilP 3 6 97 5 (ownNilP 3 5 61 5 (ownNilP 3 4 40 15 s))) (S_fl n v a id ver day kind [] [] [])∧
 Q .normal ⟨[(0,.ptr 0 0),(2,.ptr 1 0),(3,.ptr 2 0),(20,.int .i64 kind)],(S_fl n v a id ver day kind [] [] []).O,6,[]⟩
def fidF (i:Int):List UInt8:=List.getD [[102],[103],[104]] i.toNat []
structure FiS where
 ts:List RT
 a:Int
def wl8 (n:Nat) (v:Nat→Int) (id:List UInt8) (ver day kind N:Int) (i:FiS):St:=⟨[(0,.ptr 0 0),(2,.ptr 1 0),(3,.ptr 2 0),(35,.int .i64 N),(36,.int .i64 i.ts.length)],(S_fl n v i.a id ver day kind [] [] i.ts).O,6,[]⟩
def wnl (n:Nat) (v:Nat→Int) (a:Int) (id:List UInt8) (ver day kind N:Int):wau:=fun s Q=>canonIs te 1 [0,2,3,35,36] s (wl8 n v id ver day kind N ⟨[],a⟩)∧(0≤N∧N≤2)∧(0≤a∧a≤4611686018427365000)∧
 ∀ i:FiS,i.ts.length≤2→(a≤i.a∧i.a≤a+40)→(∀ t∈i.ts,t.Tn)→Q (.exit 1) ⟨[(0,.ptr 0 0),(2,.ptr 1 0),(3,.ptr 2 0)],(S_fl n v i.a id ver day kind [] [] i.ts).O,6,[]⟩
structure FL.Low (F:FL):Prop where
 id:F.id.length≤24
 m:F.ms.length≤4
 r:F.rs.length≤4
 t:F.ts.length≤2
 ver:1≤F.ver∧F.ver≤3
 kind:1≤F.kind∧F.kind≤3
 day:43860≤F.day∧F.day≤43865
def wvg:wcq
 |[.ptr 0 0],[.cells [.view sz n f,.int .i64 a] t],R=>t=27∧sz=1∧f=waa (vInt f)∧(0≤a∧a≤4611686018427360000)∧
   ∀ (F:FL) (a':Int),F.Tn→F.ms.length≤4→F.rs.length≤4→F.ts.length≤2→FL.Low F→(a≤a'∧a'≤a+1100)→
   R (.agg [.str F.id,.int .i64 F.ver,.int .i64 F.day,.int .i64 F.kind,.own 1 F.ms.length,.own 2 F.rs.length,.own 3 F.ts.length]) [(0,.cells [.view 1 n f,.int .i64 a'] 27),
    (1,.row 40 15 F.ms.length (waf (atM F.ms)) false),(2,.row 61 5 F.rs.length (wah (atR F.rs)) false),(3,.row 97 5 F.ts.length (wai (atT F.ts)) false)]
 |_,_,_=>False
def wmt:wcq
 |[.ptr 0 0],[.cells [.view sz n f,.int .i64 a] t],R=>t=27∧sz=1∧f=waa (vInt f)∧(0≤a∧a≤4611686018427360000)∧
   ∀ (F:FL) (a':Int),F.Tn→FL.Low F→(a≤a'∧a'≤a+1100)→
   R (.agg [.str F.id,.int .i64 F.ver,.int .i64 F.day,.int .i64 F.kind,.view 15 F.ms.length (waf (atM F.ms)),.view 5 F.rs.length (wah (atR F.rs)),.view 5 F.ts.length (wai (atT F.ts))]) [(0,.cells [.view 1 n f,.int .i64 a'] 27)]
 |_,_,_=>False
structure FL.Ri (F:FL):Prop where
 ver:inR .i64 F.ver
 day:inR .i64 F.day
 kind:inR .i64 F.kind
 m:∀ m∈F.ms,m.Rg
 r:∀ r∈F.rs,r.Rg
 t:∀ t∈F.ts,inR .i64 t.per∧inR .i64 t.st∧∀ b∈t.bs,inR .i64 b.up∧inR .i64 b.pr
def entI (K:List (List UInt8)) (v:List UInt8→Int):List (AV×AV):=K.map fun t=>(.str t,.int .i64 (v t))
def EsV (es:List (AV×AV)):Prop:=∃ (K:List (List UInt8)) (v:List UInt8→Int),es=entI K v∧K.Nodup
def qD (d:Int) (F:FL):Bool:=decide (d<F.day)
def qV (es:List (AV×AV)) (F:FL):Bool:= !decide (F.kind=1) && decide (F.ver<was ((mget es (.str F.id)).getD (.int .i64 0)))
def kfL (q:FL→Bool) (g:Nat→FL) (n:Nat):List FL:=(lst g n).filter fun x=> !q x
structure FI where
 k:Nat
 w:Nat
 h:Nat→FL
def wfa:Spec
 |[.agg [.str id,.int .i64 ver,.int .i64 day,.int .i64 kind,.view 15 nm fm,.view 5 nr fr,.view 5 nt ft],.ptr 0 0],[.cells [.int .i64 d] t2]=>some (.bool (qD d (flV id ver day kind nm fm nr fr nt ft)),[(0,.cells [.int .i64 d] t2)],(FlC nm fm nr fr nt ft∧(flV id ver day kind nm fm nr fr nt ft).Rg)∧t2=3∧True)
 |_,_=>none
def wlu:Spec
 |[.own 0 n,.func 143 [.ptr 1 0]],[.row t 7 m f fr,.cells [.int .i64 d] t2]=>
   some (.int .i64 (ixB (fun i=>qD d (flOf f i)) n),[(0,.row 49 7 n f false),(1,.cells [.int .i64 d] 3)],t=49∧t2=3∧fr=false∧n=m∧n≤1000∧f=wad (flOf f)∧(∀ i,i<n→(flOf f i).Rg)∧True)
 |_,_=>none
def wlt (d:Int) (g:Nat→FL) (n k:Nat):St:=⟨[(0,.own 0 n),(1,.func 143 [.ptr 1 0]),(7,.int .i64 n),(8,.int .i64 k)],[(0,.row 49 7 n (wad g) false),(1,.cells [.int .i64 d] 3)],2,[]⟩
def wne (d:Int) (g:Nat→FL) (n:Nat):wau:=fun st Q=>canonIs te 2 [0,1,7,8] st (wlt d g n 0)∧n≤1000∧(∀ i,i<n→(g i).Rg)∧True∧
 wac (decide (fstB (fun i=>qD d (g i)) n<n)) (Q .ret ⟨[(4,.int .i64 (fstB (fun i=>qD d (g i)) n))],[(0,.row 49 7 n (wad g) false),(1,.cells [.int .i64 d] 3)],2,[]⟩)
  (Q (.exit 0) ⟨[],[(0,.row 49 7 n (wad g) false),(1,.cells [.int .i64 d] 3)],2,[]⟩)
def wmv:wcq
 |[.own 0 n,.func 143 [.ptr 1 0]],[.row t 7 m f fr,.cells [.int .i64 d] t2],R=>t=49∧t2=3∧fr=false∧n=m∧n≤1000∧f=wad (flOf f)∧(∀ i,i<n→(flOf f i).Rg)∧True∧
   ∀ (k:Nat) (h:Nat→FL),k≤n→lst h k=kfL (qD d) (flOf f) n→R (.own 0 k) [(0,.row 49 7 k (wad h) false),(1,.cells [.int .i64 d] 3)]
 |_,_,_=>False
def wma (d:Int) (n:Nat) (i:FI):St:=⟨[(0,.own 0 n),(1,.func 143 [.ptr 1 0]),(5,.int .i64 i.w),(6,.int .i64 i.k)],[(0,.row 49 7 n (wad i.h) false),(1,.cells [.int .i64 d] 3)],2,[]⟩
def wno (d:Int) (g:Nat→FL) (n i0:Nat):wau:=fun st Q=>canonIs te 2 [0,1,5,6] st (wma d n ⟨i0+1,i0,g⟩)∧(i0<n∧n≤1000)∧(∀ i,i<n→(g i).Rg)∧True∧(∀ j,j<i0→qD d (g j)=false)∧qD d (g i0)=true∧
 ∀ (w:Nat) (h:Nat→FL),w≤n→lst h w=kfL (qD d) g n→Q (.exit 0) ⟨[(0,.own 0 n),(5,.int .i64 w)],[(0,.row 49 7 n (wad h) false),(1,.cells [.int .i64 d] 3)],2,[]⟩
def we9:Spec
 |[.agg [.str id,.int .i64 ver,.int .i64 day,.int .i64 kind,.view 15 nm fm,.view 5 nr fr,.view 5 nt ft],.ptr 0 0],[.cells [.map 1] t2,.amap es]=>some (.bool (qV es (flV id ver day kind nm fm nr fr nt ft)),[(0,.cells [.map 1] t2),(1,.amap es)],(FlC nm fm nr fr nt ft∧(flV id ver day kind nm fm nr fr nt ft).Rg)∧t2=132∧EsV es)
 |_,_=>none
def wls:Spec
 |[.own 0 n,.func 101 [.ptr 1 0]],[.row t 7 m f fr,.cells [.map 2] t2,.amap es]=>
   some (.int .i64 (ixB (fun i=>qV es (flOf f i)) n),[(0,.row 49 7 n f false),(1,.cells [.map 2] 132),(2,.amap es)],t=49∧t2=132∧fr=false∧n=m∧n≤1000∧f=wad (flOf f)∧(∀ i,i<n→(flOf f i).Rg)∧EsV es)
 |_,_=>none
def wlr (es:List (AV×AV)) (g:Nat→FL) (n k:Nat):St:=⟨[(0,.own 0 n),(1,.func 101 [.ptr 1 0]),(7,.int .i64 n),(8,.int .i64 k)],[(0,.row 49 7 n (wad g) false),(1,.cells [.map 2] 132),(2,.amap es)],3,[]⟩
def wnd (es:List (AV×AV)) (g:Nat→FL) (n:Nat):wau:=fun st Q=>canonIs te 3 [0,1,7,8] st (wlr es g n 0)∧n≤1000∧(∀ i,i<n→(g i).Rg)∧EsV es∧
 wac (decide (fstB (fun i=>qV es (g i)) n<n)) (Q .ret ⟨[(4,.int .i64 (fstB (fun i=>qV es (g i)) n))],[(0,.row 49 7 n (wad g) false),(1,.cells [.map 2] 132),(2,.amap es)],3,[]⟩)
  (Q (.exit 0) ⟨[],[(0,.row 49 7 n (wad g) false),(1,.cells [.map 2] 132),(2,.amap es)],3,[]⟩)
def wmu:wcq
 |[.own 0 n,.func 101 [.ptr 1 0]],[.row t 7 m f fr,.cells [.map 2] t2,.amap es],R=>t=49∧t2=132∧fr=false∧n=m∧n≤1000∧f=wad (flOf f)∧(∀ i,i<n→(flOf f i).Rg)∧EsV es∧
   ∀ (k:Nat) (h:Nat→FL),k≤n→lst h k=kfL (qV es) (flOf f) n→R (.own 0 k) [(0,.row 49 7 k (wad h) false),(1,.cells [.map 2] 132),(2,.amap es)]
 |_,_,_=>False
def wl9 (es:List (AV×AV)) (n:Nat) (i:FI):St:=⟨[(0,.own 0 n),(1,.func 101 [.ptr 1 0]),(5,.int .i64 i.w),(6,.int .i64 i.k)],[(0,.row 49 7 n (wad i.h) false),(1,.cells [.map 2] 132),(2,.amap es)],3,[]⟩
def wnn (es:List (AV×AV)) (g:Nat→FL) (n i0:Nat):wau:=fun st Q=>canonIs te 3 [0,1,5,6] st (wl9 es n ⟨i0+1,i0,g⟩)∧(i0<n∧n≤1000)∧(∀ i,i<n→(g i).Rg)∧EsV es∧(∀ j,j<i0→qV es (g j)=false)∧qV es (g i0)=true∧
 ∀ (w:Nat) (h:Nat→FL),w≤n→lst h w=kfL (qV es) g n→Q (.exit 0) ⟨[(0,.own 0 n),(5,.int .i64 w)],[(0,.row 49 7 n (wad h) false),(1,.cells [.map 2] 132),(2,.amap es)],3,[]⟩
def edG (L:List FL) (j:Nat):MG:=edM (atF L j)
def selG (L:List FL) (k:Nat):List FL:=selK (fun i=> !cfB L i) L k
def selB (L:List FL) (k:Nat):List FL:=selK (cfB L) L k
def S_s4 (L:List FL) (k:Nat):St:=⟨[(4,.nil),(5,.nil),(6,.own 0 L.length),(7,.map 1),(17,.own 0 L.length),(18,.int .i64 L.length),(19,.int .i64 k)],[(0,.row 49 7 L.length (wad (atF L)) false),(1,.amap (entM (cntL (edG L) k)))],2,[]⟩
def L_s4 (L:List FL):wau:=fun st Q=>canonIs te 0 [4,5,6,7,17,18,19] st (S_s4 L 0)∧L.length≤1000∧Q (.exit 0) ⟨[(4,.nil),(5,.nil),(6,.own 0 L.length),(7,.map 1)],[(0,.row 49 7 L.length (wad (atF L)) false),(1,.amap (entM (cntL (edG L) L.length)))],2,[]⟩
def S_s6 (E:List ((List UInt8×Int)×Int)) (F:FL) (L:List FL) (k:Nat):St:=⟨[(4,.nil),(5,.nil),(6,.own 0 L.length),(7,.map 1),(9,.ptr 2 0),(17,.own 0 L.length),(18,.int .i64 L.length),(19,.int .i64 k)],
 [(0,.row 49 7 L.length (wad (atF L)) false),(1,.amap (entM E)),(2,.cells [.str F.id,.int .i64 F.ver,.int .i64 F.day,.int .i64 F.kind,.view 15 F.ms.length (waf (atM F.ms)),.view 5 F.rs.length (wah (atR F.rs)),.view 5 F.ts.length (wai (atT F.ts))] 49)],3,[]⟩
def S_s6b (E:List ((List UInt8×Int)×Int)) (F:FL) (L:List FL) (k:Nat):St:=⟨[(4,.nil),(5,.nil),(6,.own 0 L.length),(7,.map 1),(9,.ptr 2 0),(17,.own 0 L.length),(18,.int .i64 L.length),(19,.int .i64 k),(23,.map 1),(28,.agg [.str F.id,.int .i64 F.ver])],
 [(0,.row 49 7 L.length (wad (atF L)) false),(1,.amap (entM E)),(2,.cells [.str F.id,.int .i64 F.ver,.int .i64 F.day,.int .i64 F.kind,.view 15 F.ms.length (waf (atM F.ms)),.view 5 F.rs.length (wah (atR F.rs)),.view 5 F.ts.length (wai (atT F.ts))] 49)],3,[]⟩
def L_s6 (E:List ((List UInt8×Int)×Int)) (F:FL) (L:List FL) (k:Nat):wau:=fun st Q=>canonIs te 0 [4,5,6,7,9,17,18,19] st (S_s6 E F L k)∧(E.map Prod.fst).Nodup∧inR .i64 (getC E (mk2 (edM F))+1)∧Q .normal (S_s6 (addC E (mk2 (edM F))) F L k)
def S_s9 (L:List FL) (k:Nat):St:=⟨[(4,.own 0 (selG L k).length),(5,.own 1 (selB L k).length),(7,.map 2),(34,.own 3 L.length),(35,.int .i64 L.length),(36,.int .i64 k)],
 [(0,.row 49 7 (selG L k).length (wad (atF (selG L k))) false),(1,.row 49 7 (selB L k).length (wad (atF (selB L k))) false),(2,.amap (entM (cntL (edG L) L.length))),(3,.row 49 7 L.length (wad (atF L)) false)],4,[]⟩
def L_s9 (L:List FL):wau:=fun st Q=>canonIs te 0 [4,5,7,34,35,36] (ownNil 4 49 7 (ownNil 5 49 7 st)) (S_s9 L 0)∧L.length≤1000∧
 Q (.exit 2) ⟨[(4,.own 0 (wbq L).length),(5,.own 1 (badL L).length)],[(0,.row 49 7 (wbq L).length (wad (atF (wbq L))) false),(1,.row 49 7 (badL L).length (wad (atF (badL L))) false)],2,[]⟩
def wk8:Spec
 |[.view 7 n f,.int .i64 d],[]=>some (.tuple [.own 0 (wbq (knwL okV (flOf f) n d)).length,.own 1 (badL (knwL okV (flOf f) n d)).length],
   [(0,.row 49 7 (wbq (knwL okV (flOf f) n d)).length (wad (atF (wbq (knwL okV (flOf f) n d)))) false),(1,.row 49 7 (badL (knwL okV (flOf f) n d)).length (wad (atF (badL (knwL okV (flOf f) n d)))) false)],n≤1000∧f=wad (flOf f)∧∀ i,i<n→(flOf f i).Gd)
 |_,_=>none
def idK (G:List FL):Nat→List (List UInt8)
 |0=>[]
 |k+1=>bif !decide ((atF G k).kind=1) && !decide ((atF G k).id∈idK G k) then idK G k++[(atF G k).id] else idK G k
def nwE (G:List FL) (k:Nat):List (AV×AV):=entI (idK G k) fun t=>nwF G t k
def S_v4 (G:List FL) (k:Nat):St:=⟨[(5,.own 0 G.length),(7,.ptr 1 0),(17,.own 0 G.length),(18,.int .i64 G.length),(19,.int .i64 k)],[(0,.row 49 7 G.length (wad (atF G)) false),(1,.cells [.map 2] 132),(2,.amap (nwE G k))],3,[]⟩
def L_v4 (G:List FL):wau:=fun st Q=>canonIs te 0 [5,7,17,18,19] st (S_v4 G 0)∧G.length≤1000∧(∀ F∈G,0≤F.ver)∧Q (.exit 0) ⟨[(5,.own 0 G.length),(7,.ptr 1 0)],[(0,.row 49 7 G.length (wad (atF G)) false),(1,.cells [.map 2] 132),(2,.amap (nwE G G.length))],3,[]⟩
def awR:RW:=⟨[111],[57,54,51,56,53,48,55,52],5,2,300⟩
def awFl:FL:=⟨[97],1,10,2,[],[awR],[]⟩
def FM (f:Nat→List AV) (n:Nat):Prop:=(∀ i,i<n→f i=wad (flOf f) i)∧∀ i,i<n→(flOf f i).Gd
def wky:Spec
 |[.own 0 n,.int .i64 d],[.row _ 7 m f _]=>some (.view 7 (vwL okV (flOf f) n d).length (wad (atF (vwL okV (flOf f) n d))),[],n=m∧n≤1000∧FM f n)
 |_,_=>none
def wvd:Spec
 |[.view 7 n f,.int .i64 d],[]=>some (.view 7 (vwL okV (flOf f) n d).length (wad (atF (vwL okV (flOf f) n d))),[],n≤1000∧f=wad (flOf f)∧∀ i,i<n→(flOf f i).Gd)
 |_,_=>none
def S_awc:St:=⟨[(0,.bool false),(1,.ptr 0 0)],[(0,.cells [.str awFl.id,.int .i64 awFl.ver,.int .i64 awFl.day,.int .i64 awFl.kind,.view 15 awFl.ms.length (waf (atM awFl.ms)),.view 5 awFl.rs.length (wah (atR awFl.rs)),.view 5 awFl.ts.length (wai (atT awFl.ts))] 49)],1,[]⟩
def S_aw0:St:=⟨[(0,.bool false),(1,.ptr 0 0)],[(0,.cells [.str [97],.int .i64 1,.int .i64 10,.int .i64 2,.view 15 0 (waf (atM [])),.own 1 1,.view 5 0 (wai (atT []))] 49),(1,.row 61 5 1 (wah (atR [awR])) false)],2,[]⟩
def wnr:wau:=fun st Q=>canonIs te 0 [0,1] (nilVP 1 4 15 (waf (atM [])) (nilVP 1 6 5 (wai (atT [])) st)) S_aw0∧Q .normal ⟨[(0,.bool true)],[],0,[]⟩
def wmk:Spec
 |[],[]=>some (.bool true,[],True)
 |_,_=>none
def wdc (st x:Int):Int:=bif decide (st=3) || decide (st=4) then 0 else x
def wdj (st:Int) (p q:List UInt8):List UInt8:=bif decide (st=5) then (bif decide (q=p) then idF 4 else q) else []
def wd7 (st a:Int):Int:=bif decide (st=3) || decide (st=4) then a else bif decide (st=5) then a+1+1 else a+1
def wen (n:Nat) (v:Nat→Int) (a:Int):Int:=1+List.getD [(0:Int),0,0,1,2,3,4] (wab n v (a+1+1+1+1) 7).toNat 0
def visV (n:Nat) (v:Nat→Int) (a:Int):VT:=⟨outF (wab n v a 3),idF (wab n v (a+1) 4),1440+wab n v (a+1+1) 4,43830+wab n v (a+1+1+1) 100,wen n v a,
 wdc (wen n v a) (100+wab n v (a+1+1+1+1+1) 4 * 5),wdj (wen n v a) (idF (wab n v (a+1) 4)) (idF (wab n v (a+1+1+1+1+1+1) 4))⟩
def visA (n:Nat) (v:Nat→Int) (a:Int):Int:=wd7 (wen n v a) (a+1+1+1+1+1)
def wkw:Spec
 |[.ptr 0 0],[.cells [.view sz n f,.int .i64 a] t]=>some (.agg [.str (visV n (vInt f) a).o,.str (visV n (vInt f) a).p,.int .i64 (visV n (vInt f) a).per,.int .i64 (visV n (vInt f) a).day,.int .i64 (visV n (vInt f) a).st,.int .i64 (visV n (vInt f) a).pr,.str (visV n (vInt f) a).rep],
   [(0,.cells [.view 1 n f,.int .i64 (visA n (vInt f) a)] 27)],t=27∧sz=1∧f=waa (vInt f)∧(0≤a∧a≤4611686018427386000))
 |_,_=>none
def msgV (n:Nat) (v:Nat→Int) (a:Int):MG:=bif decide (wab n v (a+1+1) 5=0) then
  ⟨devF (wab n v a 3),1+wab n v (a+1) 9,2,⟨[],[],0,0,0,0,[]⟩,⟨outF (wab n v (a+1+1+1) 3),idF (wab n v (a+1+1+1+1) 4),1440+wab n v (a+1+1+1+1+1) 4,devF (wab n v (a+1+1+1+1+1+1) 3),1+wab n v (a+1+1+1+1+1+1+1) 9⟩⟩
 else ⟨devF (wab n v a 3),1+wab n v (a+1) 9,1,visV n v (a+1+1+1),⟨[],[],0,[],0⟩⟩
def msgA (n:Nat) (v:Nat→Int) (a:Int):Int:=bif decide (wab n v (a+1+1) 5=0) then a+1+1+1+1+1+1+1+1 else visA n v (a+1+1+1)
def wln:Spec
 |[.ptr 0 0],[.cells [.view sz n f,.int .i64 a] t]=>some (.agg [.str (msgV n (vInt f) a).dev,.int .i64 (msgV n (vInt f) a).seq,.int .i64 (msgV n (vInt f) a).kind,.str (msgV n (vInt f) a).v.o,.str (msgV n (vInt f) a).v.p,.int .i64 (msgV n (vInt f) a).v.per,.int .i64 (msgV n (vInt f) a).v.day,.int .i64 (msgV n (vInt f) a).v.st,.int .i64 (msgV n (vInt f) a).v.pr,.str (msgV n (vInt f) a).v.rep,.str (msgV n (vInt f) a).d.o,.str (msgV n (vInt f) a).d.p,.int .i64 (msgV n (vInt f) a).d.per,.str (msgV n (vInt f) a).d.dev,.int .i64 (msgV n (vInt f) a).d.num],
   [(0,.cells [.view 1 n f,.int .i64 (msgA n (vInt f) a)] 27)],t=27∧sz=1∧f=waa (vInt f)∧(0≤a∧a≤4611686018427385000))
 |_,_=>none
theorem wak.mapO {C:Ctx} {f:FuncId} {args:List AV} {objs:List AObj} {R:AV→List (Nat×AObj)→Prop} (φ:AV→AV) (hφ:∀ (w:World) (M:Nat→Prop) (bs:Nat→Option Hd) (v:Value) (u:AV),V w M bs v u→V w M bs v (φ u)) (rs:List Nat)
  (h:wak C f args objs fun u O=>R u (Eng.mapO φ rs O)):wak C f args objs R:=by
 refine ⟨h.1,fun E bs w cargs h1 h2 h3 h4 h5 h6 h7=>?_⟩
 refine (h.2 E bs w cargs h1 h2 h3 h4 h5 h6 h7).mono ?_
 rintro e w' ⟨v,u,O',bs',r1,hR,r3,r4,r5⟩
 obtain ⟨e2,hW2⟩:=r3.mapR φ (hφ w' _ bs') rs
 have eO:lk (Eng.mapO φ rs O')=fun k=>(lk O' k).map (Eng.mapR φ (hasN rs k)):=funext fun k=>wht φ rs O' k
 refine ⟨v,u,Eng.mapO φ rs O',bs',r1,hR,by rw [eO];exact hW2,by rw [eO,e2];exact r4,fun k hk=>⟨?_,(r5 k hk).2⟩⟩
 rw [wht,(r5 k hk).1];rfl
theorem AWP.frzXQ {C:Ctx} {m N:Nat} {c:Code} {Q:Exit→St→Prop} {s:St} (r:Nat) (rs:List Nat) (h:AWP C m N c (fun e s'=>wfu r s'∧Q e (Eng.frzX r rs s')) s):AWP C m N c Q s:=by
 intro E hE bs a w hr
 refine wp_mono (h E hE bs a w hr) ?_
 rintro e a w ⟨s',bs',⟨hf,hq⟩,hr'⟩
 exact ⟨_,bs',hq,hr'.frzX r rs hf⟩
def S_tl (n:Nat) (v:Nat→Int) (a:Int) (F G:FL):St:=⟨[(7,.ptr 0 0),(8,.ptr 1 0),(9,.ptr 2 0)],
 [(0,.cells [.view 1 n (waa v),.int .i64 a] 27),
  (1,.cells [.str F.id,.int .i64 F.ver,.int .i64 F.day,.int .i64 F.kind,.view 15 F.ms.length (waf (atM F.ms)),.view 5 F.rs.length (wah (atR F.rs)),.view 5 F.ts.length (wai (atT F.ts))] 49),
  (2,.cells [.str G.id,.int .i64 G.ver,.int .i64 G.day,.int .i64 G.kind,.view 15 G.ms.length (waf (atM G.ms)),.view 5 G.rs.length (wah (atR G.rs)),.view 5 G.ts.length (wai (atT G.ts))] 49)],3,[]⟩
def FL.addM (G:FL) (m:MG):FL:=⟨G.id,G.ver,G.day,G.kind,G.ms++[m],G.rs,G.ts⟩
def FL.addR (G:FL) (r:RW):FL:=⟨G.id,G.ver,G.day,G.kind,G.ms,G.rs++[r],G.ts⟩
def wm1 (n:Nat) (v:Nat→Int):wau:=fun s Q=>∃ (a:Int) (F G:FL),canonIs te 0 [7,8,9] s (S_tl n v a F G)∧(0≤a∧a≤4611686018427365000)∧G.ms.length≤1000∧∀ a',Q .normal ⟨[(7,.ptr 0 0),(8,.ptr 1 0),(9,.ptr 2 0)],(S_tl n v a' F (G.addM (msgV n v a))).O,4,[]⟩
def wm0 (n:Nat) (v:Nat→Int):wau:=fun s Q=>∃ (a:Int) (F G:FL),canonIs te 0 [7,8,9] s (S_tl n v a F G)∧(0≤a∧a≤4611686018427365000)∧G.rs.length≤1000∧∀ a',Q .normal ⟨[(7,.ptr 0 0),(8,.ptr 1 0),(9,.ptr 2 0)],(S_tl n v a' F (G.addR (rowV n v a))).O,4,[]⟩
end Go.Eng
namespace Go.Eng
open Go.Proofs Go.RowKit
set_option maxRecDepth 20000
theorem nf_cdR (s:List UInt8) (R:AV→List (Nat×AObj)→Prop):wpFn te [] [(5,wnp s)] 0 Tryz.f98 [.str s] [] R=(letI z2:=R (.tuple [.int .i64 0,.bool false]) [];letI z1:=(↑(List.length s):Int);letI z0:=(some (St.mk [(0,.str s),(4,.int .i64 0),(16,.int .i64 z1),(17,.int .i64 0)] [] 0 [])=some (St.mk [(0,.str s),(4,.int .i64 (wa7 s 0)),(16,.int .i64 z1),(17,.int .i64 (↑0:Int))] [] 0 [])∧List.length s≤12∧wac (List.all s wb0) ((10:Int)≠(0:Int)∧inR .i64 ((10:Int) - Int.tmod (wa7 s (List.length s)) (10:Int))∧(10:Int)≠(0:Int)∧R (.tuple [.int .i64 (Int.tmod ((10:Int) - Int.tmod (wa7 s (List.length s)) (10:Int)) (10:Int)),.bool true]) []) z2);wac (!decide (z1=(7:Int))) (wac (!decide (z1=(12:Int))) z2 z0) z0):=by kernel_rfl
theorem wyz (s:List UInt8) (k:Nat) (P:Nat→Prop) (R:Exit→St→Prop):wa6 ⟨te,[],[],0,50,0⟩ (wa8 Tryz.f98 5) [0,4,16,17] [4] [2,3] (wmh s) P R (wmh s k)=(letI z3:=R .ret (St.mk [(2,.int .i64 0),(3,.bool false)] [] 0 []);letI z1:=(↑(List.length s):Int);letI z2:=((0:Int)≤(↑k:Int)∧(↑k:Int)<z1:Prop);letI z0:=(↑(UInt8.toNat (List.getD s (Int.toNat (↑k:Int)) (0:UInt8))):Int);letI z5:=(wa7 s k+(1:Int) * ((z0 - (48:Int)) % (256:Int)));letI z4:=(wa7 s k+(3:Int) * ((z0 - (48:Int)) % (256:Int)));wac (decide ((↑k:Int)<z1)) (z2∧wac (decide (z0<(48:Int))) z3 (z2∧wac (decide ((57:Int)<z0)) z3 (inR .i64 (z1 - (↑k:Int))∧(2:Int)≠(0:Int)∧wac (decide (Int.tmod (z1 - (↑k:Int)) (2:Int)=(1:Int))) (z2∧inR .i64 ((z0 - (48:Int)) % (256:Int))∧inR .i64 ((3:Int) * ((z0 - (48:Int)) % (256:Int)))∧inR .i64 z4∧inR .i64 ((↑k:Int)+(1:Int))∧∃ (i':Nat),some (St.mk [(0,.str s),(4,.int .i64 z4),(16,.int .i64 z1),(17,.int .i64 ((↑k:Int)+(1:Int)))] [] 0 [])=some (St.mk [(0,.str s),(4,.int .i64 (wa7 s i')),(16,.int .i64 z1),(17,.int .i64 (↑i':Int))] [] 0 [])∧P i') (z2∧inR .i64 ((z0 - (48:Int)) % (256:Int))∧inR .i64 ((1:Int) * ((z0 - (48:Int)) % (256:Int)))∧inR .i64 z5∧inR .i64 ((↑k:Int)+(1:Int))∧∃ (i':Nat),some (St.mk [(0,.str s),(4,.int .i64 z5),(16,.int .i64 z1),(17,.int .i64 ((↑k:Int)+(1:Int)))] [] 0 [])=some (St.mk [(0,.str s),(4,.int .i64 (wa7 s i')),(16,.int .i64 z1),(17,.int .i64 (↑i':Int))] [] 0 [])∧P i')))) (R (.exit 0) (St.mk [(4,.int .i64 (wa7 s k))] [] 0 []))):=by kernel_rfl
variable {C:Ctx} [C.Loose]
theorem w1l (hP:C.P=Tryz.prog) (s:List UInt8):waj C 0 50 (wao Tryz.f98 5) (wnp s):=by
 have _:C.Loose:=inferInstance
 rintro st Q ⟨h0,hlen,hQ⟩
 have hQ:=wb7 hQ
 refine waj.mk (prg hP) [] 0 .nil [0,4,16,17] [4] [2,3] (wmh s) (fun k=>k≤s.length∧∀ j,j<k→48≤(s.getD j 0).toNat∧(s.getD j 0).toNat≤57) (fun k=>s.length - k) 0 ⟨Nat.zero_le _,fun j h=>by omega⟩ h0 fun k ⟨hk,hall⟩=>?_
 rw [wyz]
 have hb:=wuu k hk hall
 refine wal (fun h=>?_) (fun h=>?_)
 ·have hlt:k<s.length:=by omega
  have hret:¬ (48≤(s.getD k 0).toNat∧(s.getD k 0).toNat≤57)→Q .ret ⟨[(2,.int .i64 0),(3,.bool false)],[],0,[]⟩:=fun hno=>hQ.2 (by
   cases ha:s.all wb0 with
   |false=>rfl
   |true=>exact absurd (wjy ha k hlt) hno)
  have e:Int.tmod (↑s.length - ↑k) 2=(↑s.length - ↑k) % 2:=Int.tmod_eq_emod_of_nonneg (by omega)
  have hs:wa7 s (k+1)=wa7 s k+(1+2 * ((↑s.length - ↑k) % 2)) * (↑(s.getD k 0).toNat - 48):=rfl
  have hgo:(48≤(s.getD k 0).toNat∧(s.getD k 0).toNat≤57)→(k+1≤s.length∧∀ j,j<k+1→48≤(s.getD j 0).toNat∧(s.getD j 0).toNat≤57)∧s.length - (k+1)<s.length - k:=fun hok=>
   ⟨⟨by omega,fun j hj=>by
    rcases Nat.lt_succ_iff_lt_or_eq.1 hj with hj | rfl
    ·exact hall j hj
    ·exact hok⟩,by omega⟩
  simp only [Int.toNat_natCast,inR,e]
  refine ⟨by omega,wal (fun h1=>hret (by omega)) (fun h1=>⟨by omega,wal (fun h2=>hret (by omega)) (fun h2=>⟨by omega,by omega,?_⟩)⟩)⟩
  have hgo:=hgo (by omega)
  have e3:((s.getD k 0).toNat - 48:Int) % 256=(s.getD k 0).toNat - 48:=by omega
  rw [e3]
  refine wal (fun h3=>?_) (fun h3=>?_)
  ·rw [h3] at hs
   exact ⟨by omega,by omega,by omega,by omega,by omega,k+1,by rw [hs];rfl,hgo⟩
  ·have h3:(↑s.length - ↑k:Int) % 2=0:=by omega
   rw [h3] at hs
   exact ⟨by omega,by omega,by omega,by omega,by omega,k+1,by rw [hs];rfl,hgo⟩
 ·have hks:k=s.length:=by omega
  rw [hks]
  exact hQ.1 (w19 fun j hj=>hall j (by omega))
theorem cdR_ok (hP:C.P=Tryz.prog):wae C 98 wfb:=by
 rintro args objs U Os vc h hvc
 unfold wfb at h
 split at h<;>simp only [Option.some.injEq,Prod.mk.injEq,reduceCtorEq] at h
 rename_i s
 obtain ⟨rfl,rfl,rfl⟩:=h
 refine wae.wpL (prg hP) [] [(5,wnp s)] 0 .nil (hP ▸ Tryz.func98) rfl rfl rfl [(wao Tryz.f98 5,wnp s)] (by kernel_rfl) ⟨w1l hP s,trivial⟩ ?_
 rw [nf_cdR]
 have main:(s.length=7∨s.length=12)→wac (s.all wb0) ((10:Int)≠0∧inR .i64 (10 - Int.tmod (wa7 s s.length) 10)∧(10:Int)≠0∧AV.tuple [.int .i64 (Int.tmod (10 - Int.tmod (wa7 s s.length) 10) 10),.bool true]= .tuple [.int .i64 (cdF s).1,.bool (cdF s).2]∧([]:List (Nat×AObj))=[])
   (AV.tuple [.int .i64 0,.bool false]= .tuple [.int .i64 (cdF s).1,.bool (cdF s).2]∧([]:List (Nat×AObj))=[]):=by
  intro hl
  have hd:wb3 s 7 12=s.all wb0:=by
   unfold wb3
   rcases hl with h | h<;>simp [h]
  refine wax (fun ha=>?_) (fun ha=>?_)
  ·have hb:=wkj ha s.length (Nat.le_refl _)
   have e:Int.tmod (wa7 s s.length) 10=wa7 s s.length % 10:=Int.tmod_eq_emod_of_nonneg (by omega)
   rw [e,Int.tmod_eq_emod_of_nonneg (by omega)]
   refine ⟨by omega,by simp only [inR];omega,by omega,?_,rfl⟩
   simp [cdF,hd,ha]
  ·refine ⟨?_,rfl⟩
   simp [cdF,hd,ha]
 refine wcc (fun h1=>wcc (fun h2=>⟨?_,rfl⟩) (fun h2=>⟨rfl,by omega,main (by omega)⟩)) (fun h1=>⟨rfl,by omega,main (by omega)⟩)
 have hd:wb3 s 7 12=false:=by unfold wb3;rw [decide_eq_false h1,decide_eq_false h2];rfl
 simp [cdF,hd]
end Go.Eng
namespace Go.Eng
open Go.Proofs Go.RowKit
variable {C:Ctx} [C.Loose]
set_option maxRecDepth 20000
theorem nf_fold (n k:Int) (R:AV→List (Nat×AObj)→Prop):wpFn te [] [] 0 Tryz.f35 [.int .i64 n,.int .i64 k] [] R=(letI z0:=(Int.tmod (IntKind.wrap IntKind.u64 n) (IntKind.wrap IntKind.u64 (max k (1:Int))));True∧True∧IntKind.wrap IntKind.u64 (max k (1:Int))≠(0:Int)∧inR .i64 z0∧R (.int .i64 z0) []):=by kernel_rfl
theorem nf_next (n:Nat) (v:Nat→Int) (a k:Int) (R:AV→List (Nat×AObj)→Prop):wpFn te [] [] 0 Tryz.f42 [.ptr 0 0,.int .i64 k] [.cells [.view 1 n (waa v),.int .i64 a] 27] R=(letI z1:=([(0,.cells [.view 1 n (waa v),.int .i64 (a+(1:Int))] 27)]:List (Nat×AObj));letI z0:=(IntKind.wrap IntKind.u64 (max k (1:Int)));letI z3:=Int.tmod (IntKind.wrap IntKind.u64 0) z0;letI z2:=Int.tmod (IntKind.wrap IntKind.u64 (v (Int.toNat a))) z0;wac (decide (a<(↑n:Int))) (((0:Int)≤a∧a<(↑n:Int)∧1=1)∧inR .i64 (a+(1:Int))∧True∧True∧IntKind.wrap IntKind.u64 (max k (1:Int))≠(0:Int)∧inR .i64 z2∧R (.int .i64 z2) z1) (inR .i64 (a+(1:Int))∧True∧True∧IntKind.wrap IntKind.u64 (max k (1:Int))≠(0:Int)∧inR .i64 z3∧R (.int .i64 z3) z1)):=by kernel_rfl
theorem wqj (n:Int):IntKind.wrap .u64 n=n % 18446744073709551616:=by
 show n % (2:Int) ^ 64=_
 rfl
theorem wop {k:Int} (h:1≤k∧k≤1000000) (x:Int):IntKind.wrap .u64 (max k 1)≠0∧Int.tmod (IntKind.wrap .u64 x) (IntKind.wrap .u64 (max k 1))=wbe x k:=by
 have e:IntKind.wrap .u64 (max k 1)=k:=by
  rw [wqj,Int.max_eq_left h.1]
  omega
 rw [e,wqj]
 have hx:0≤x % 18446744073709551616:=by omega
 rw [Int.tmod_eq_emod_of_nonneg hx]
 exact ⟨by omega,rfl⟩
theorem wtx (hP:C.P=Tryz.prog):wae C 35 wg0:=by
 have _:C.Loose:=inferInstance
 rintro args objs U Os vc h hvc
 unfold wg0 at h
 split at h<;>simp only [Option.some.injEq,Prod.mk.injEq,reduceCtorEq] at h
 rename_i n k
 obtain ⟨rfl,rfl,rfl⟩:=h
 refine wae.wp0 (prg hP) [] 0 .nil (hP ▸ Tryz.func35) rfl rfl rfl ?_
 rw [nf_fold]
 obtain ⟨h1,h2⟩:=wop hvc n
 have h3:=wfv hvc.1 n
 rw [h2]
 exact ⟨trivial,trivial,h1,by simp only [inR];omega,rfl,rfl⟩
theorem wco (hP:C.P=Tryz.prog):wae C 42 wbf:=by
 have _:C.Loose:=inferInstance
 rintro args objs U Os vc h hvc
 unfold wbf at h
 split at h<;>simp only [Option.some.injEq,Prod.mk.injEq,reduceCtorEq] at h
 rename_i k sz n f a t
 obtain ⟨rfl,rfl,rfl⟩:=h
 obtain ⟨rfl,rfl,hf,hk,ha⟩:=hvc
 rw [hf]
 have hv:vInt (waa (vInt f))=vInt f:=rfl
 rw [hv]
 generalize vInt f=v at *
 refine wae.wp0 (prg hP) [] 0 .nil (hP ▸ Tryz.func42) rfl rfl rfl ?_
 rw [nf_next]
 unfold wab
 refine wal (fun h=>?_) (fun h=>?_)
 ·obtain ⟨h1,h2⟩:=wop hk (v a.toNat)
  have h3:=wfv hk.1 (v a.toNat)
  rw [h2,decide_eq_true h]
  exact ⟨⟨by omega,by omega,rfl⟩,by simp only [inR];omega,trivial,trivial,h1,by simp only [inR];omega,rfl,rfl⟩
 ·obtain ⟨h1,h2⟩:=wop hk 0
  have h3:=wfv hk.1 0
  rw [h2,decide_eq_false h]
  exact ⟨by simp only [inR];omega,trivial,trivial,h1,by simp only [inR];omega,rfl,rfl⟩
theorem wyi (V j:Nat) (P:Nat→Prop) (R:Exit→St→Prop):wa6 ⟨te,[],[],0,39,0⟩ (wa8 Tryz.f43 4) [3,4,5] [4] [] (wl4 V) P R (wl4 V j)=(letI z0:=(Int.tdiv (↑(pw V j):Int) (10:Int));wac (decide ((0:Int)≤(6:Int) - (↑j:Int))) ((10:Int)≠(0:Int)∧inR .i64 ((48:Int)+Int.tmod (↑(pw V j):Int) (10:Int))∧inR .u8 ((48:Int)+Int.tmod (↑(pw V j):Int) (10:Int))∧((0:Int)≤(6:Int) - (↑j:Int)∧(6:Int) - (↑j:Int)<(↑7:Int))∧(List.length [AV.int .u8 ((48:Int)+Int.tmod (↑(pw V j):Int) (10:Int))]=1∧Int.toNat ((6:Int) - (↑j:Int))<7∧1=1)∧((10:Int)≠(0:Int)∧inR .i64 z0)∧inR .i64 ((6:Int) - (↑j:Int) - (1:Int))∧∃ (i':Nat),(TEq [(3,.int .i64 z0),(4,.own 0 7),(5,.int .i64 ((6:Int) - (↑j:Int) - (1:Int)))] [(3,.int .i64 (↑(pw V i'):Int)),(4,.own 0 7),(5,.int .i64 ((6:Int) - (↑i':Int)))]∧wag [(0,.row 5 1 7 (fun (k:Nat)=>if k=Int.toNat ((6:Int) - (↑j:Int)) then [.int .u8 ((48:Int)+Int.tmod (↑(pw V j):Int) (10:Int))] else [.int .u8 (bif decide (7≤k+j) then dgI V k else (0:Int))]) false)] [(0,.row 5 1 7 (fun (k:Nat)=>[.int .u8 (bif decide (7≤k+i') then dgI V k else (0:Int))]) false)])∧P i') ((∀ (i:Nat),i<7→true=true)∧∃ (O':List (Nat×AObj)),wag [(0,.row 5 1 7 (fun (k:Nat)=>[.int .u8 (bif decide (7≤k+j) then dgI V k else (0:Int))]) false)] O'∧R (.exit 0) (St.mk [(4,.own 0 7)] O' 1 []))):=by kernel_rfl
theorem nf_id (n:Int) (V:Nat) (R:AV→List (Nat×AObj)→Prop):wpFn te [(35,.det wg0),(98,.det wfb)] [(4,L_id V)] 2 Tryz.f43 [.int .i64 n] [] R=(letI z4:=(List.flatten (List.replicate (nat_lit 0) [.int .u8 0]):List AV);letI z3:=cdF (wam 7 (wbk V));letI z2:=((7≤7∧1=1)∧∀ (i:Nat),i<7→isU8 (wbk V i)=true:Prop);letI z1:=TI.mk (TypeDesc.int IntKind.u8) 1 1 (Value.int IntKind.u8 0) false;letI z0:=(waz (TI.sz z1) (.int .u8 ((48:Int)+Prod.fst z3)::List.append [] z4));((1:Int)≤(1000000:Int)∧(1000000:Int)≤(1000000:Int))∧inR .i64 ((1000000:Int)+wbe n (1000000:Int))∧((0:Int)≤(7:Int)∧(7:Int)≤(7:Int)∧(↑(TI.bytes z1):Int) * (7:Int)≤(281474976710656:Int)∧(7:Int)≤(9223372036854775807:Int))∧(TEq [(3,.int .i64 ((1000000:Int)+wbe n (1000000:Int))),(4,.own 0 7),(5,.int .i64 6)] [(3,.int .i64 (↑(pw V 0):Int)),(4,.own 0 7),(5,.int .i64 ((6:Int) - (↑0:Int)))]∧wag [(0,.row 5 1 7 (fun (_x:Nat)=>[.int .u8 0]) false)] [(0,.row 5 1 7 (fun (k:Nat)=>[.int .u8 (bif decide (7≤k+0) then dgI V k else (0:Int))]) false)])∧V<2000000∧z2∧True∧z2∧inR .i64 ((48:Int)+Prod.fst z3)∧inR .u8 ((48:Int)+Prod.fst z3)∧(1≤16777216∧1=1∧1≤9223372036854775807)∧((1≤1∧1=1)∧∀ (i:Nat),i<1→isU8 (waz (TI.sz z1) (.int .u8 ((48:Int)+Prod.fst z3)::List.append [] z4) i)=true)∧List.length (wam 7 (wbk V))+List.length (wam 1 z0)≤9223372036854775807∧R (.str (wam 7 (wbk V)++wam 1 z0)) []):=by kernel_rfl
theorem pw_step (V j:Nat):Int.tdiv (pw V j:Nat) 10=(pw V (j+1):Nat):=by
 rw [Int.tdiv_eq_ediv_of_nonneg (Int.natCast_nonneg _)]
 unfold pw
 rw [Nat.pow_succ, ← Nat.div_div_eq_div_mul]
 rfl
theorem pw_le (V j:Nat):pw V j≤V:=Nat.div_le_self _ _
theorem id_loop (hP:C.P=Tryz.prog) (V:Nat):waj C 0 39 (wao Tryz.f43 4) (L_id V):=by
 have _:C.Loose:=inferInstance
 rintro st Q ⟨h0,hv,hQ⟩
 refine waj.mk (prg hP) [] 0 .nil [3,4,5] [4] [] (wl4 V) (fun j=>j≤7) (fun j=>7 - j) 0 (by omega) h0 (fun j hj=>?_) (fun i=>⟨fun _ _=>rfl,trivial⟩)
 rw [wyi]
 have hle:=pw_le V j
 have ht:Int.tmod (pw V j:Nat) 10=((pw V j % 10:Nat):Int):=by
  rw [Int.tmod_eq_emod_of_nonneg (Int.natCast_nonneg _)];rfl
 rw [ht,pw_step]
 have hle':=pw_le V (j+1)
 have hm:=Nat.mod_lt (pw V j) (show 0<10 by omega)
 refine wal (fun h=>?_) (fun h=>⟨fun _ _=>rfl,_,?_,hQ⟩)
 ·refine ⟨by omega,by simp only [inR];omega,by simp only [inR];omega,⟨h,by omega⟩,⟨rfl,by omega,rfl⟩,⟨by omega,by simp only [inR];omega⟩,by simp only [inR];omega,j+1,⟨?_,⟨rfl,rfl,rfl,rfl,rfl,fun k hk=>?_⟩,trivial⟩,by omega,by omega⟩
  ·rw [show (6:Int) - (j:Int) - 1=6 - ((j+1:Nat):Int) by omega]
   rfl
  ·dsimp only
   split
   ·rename_i e
    have e':6 - k=j:=by omega
    rw [decide_eq_true (show 7≤k+(j+1) by omega)]
    unfold dgI
    rw [e'];rfl
   ·rename_i e
    by_cases h7:7≤k+j
    ·rw [decide_eq_true h7,decide_eq_true (show 7≤k+(j+1) by omega)]
    ·rw [decide_eq_false h7,decide_eq_false (show ¬ 7≤k+(j+1) by omega)]
 ·have:j=7:=by omega
  subst this
  refine ⟨⟨rfl,rfl,rfl,rfl,rfl,fun k hk=>?_⟩,trivial⟩
  dsimp only
  rw [decide_eq_true (show 7≤k+7 by omega)]
  rfl
theorem id_ok (hP:C.P=Tryz.prog):wae C 43 S_id:=by
 rintro args objs U Os vc h hvc
 unfold S_id at h
 split at h<;>simp only [Option.some.injEq,Prod.mk.injEq,reduceCtorEq] at h
 rename_i n
 obtain ⟨rfl,rfl,rfl⟩:=h
 refine wae.wpL (prg hP) [(35,.det wg0),(98,.det wfb)] [(4,L_id (idV n))] 2 (.cons (wtx hP) (.cons (cdR_ok hP) .nil)) (hP ▸ Tryz.func43) rfl rfl rfl [(wao Tryz.f43 4,L_id (idV n))] (by kernel_rfl) ⟨id_loop hP _,trivial⟩ ?_
 rw [nf_id]
 have hf:=wfv (show (1:Int)≤1000000 by omega) n
 have hV:((idV n:Nat):Int)=1000000+wbe n 1000000:=by unfold idV;omega
 have hl:=wh3 n
 have hc:=wuv (id7 n)
 refine ⟨⟨by omega,by omega⟩,by simp only [inR];omega,⟨by omega,by omega,by decide,by omega⟩,⟨?_,⟨rfl,rfl,rfl,rfl,rfl,fun k hk=>?_⟩,trivial⟩,by omega,⟨⟨by omega,rfl⟩,fun _ _=>rfl⟩,trivial,⟨⟨by omega,rfl⟩,fun _ _=>rfl⟩,?_,?_,⟨by omega,rfl,by omega⟩,⟨⟨by omega,rfl⟩,fun i hi=>?_⟩,?_,rfl,rfl⟩
 ·rw [← hV]
  show TEq [(3,.int .i64 ((idV n:Nat):Int)),(4,.own 0 7),(5,.int .i64 6)] [(3,.int .i64 ((idV n / 1:Nat):Int)),(4,.own 0 7),(5,.int .i64 6)]
  rw [Nat.div_one];rfl
 ·dsimp only
  rw [decide_eq_false (show ¬ 7≤k+0 by omega)];rfl
 ·show inR .i64 (48+(cdF (id7 n)).1)
  simp only [inR];omega
 ·show inR .u8 (48+(cdF (id7 n)).1)
  simp only [inR];omega
 ·obtain rfl:i=0:=by omega
  rfl
 ·show (id7 n).length+_≤_
  rw [hl];simp [wam]
end Go.Eng
