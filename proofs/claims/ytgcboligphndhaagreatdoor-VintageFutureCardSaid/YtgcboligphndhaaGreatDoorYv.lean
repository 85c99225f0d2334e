/- A builder within a struct of ours: what a write first looks at; numbers as text. -/
import Derived.Test.YtgcboligphndhaaGreatDoorYu
import Derived.Test.YtgcboligphndhaaGreatDoorYt
import Derived.Test.YtgcboligphndhaaGreatDoorYr
import Derived.Lib.ItoaNum
import Derived.Test.YtgcboligphndhaaGreatDoorYl
import Derived.Lib.Builder
import Derived.WalkKit
import Derived.Test.YtgcboligphndhaaGreatDoorYm
import Derived.Below
namespace Go.Eng
open Go.RowKit
def allH (A:List Nat):List Nat→Bool
 |[]=>true
 |i::l=>match hasN A i with
  |true=>allH A l
  |false=>false
theorem wq9 {A:List Nat}:∀ {l:List Nat},allH A l=true↔∀ i∈l,i∈A
 |[]=>by simp [allH]
 |i::l=>by
  unfold allH
  have ih:=wq9 (A:=A) (l:=l)
  cases h:hasN A i with
  |true=>
   dsimp only
   rw [ih]
   constructor
   ·intro h' j hj
    rcases List.mem_cons.1 hj with rfl | hj
    ·exact (wbk _ _).1 h
    ·exact h' j hj
   ·exact fun h' j hj=>h' j (List.mem_cons_of_mem _ hj)
  |false=>
   refine ⟨fun h=>(by cases h),fun h'=>?_⟩
   rw [(wbk _ _).2 (h' i (List.mem_cons_self ..))] at h;cases h
def wie (T:List (Nat×AV)):List Nat→List (Nat×AV)
 |[]=>[]
 |j::F=>match lk T j with
  |some u=>(j,u)::wie T F
  |none=>wie T F
theorem wp9 {T:List (Nat×AV)}:∀ {F:List Nat} {j:Nat} {u:AV},lk (wie T F) j=some u→lk T j=some u
 |[],j,u,h=>by cases h
 |i::F,j,u,h=>by
  unfold wie at h
  split at h
  ·rename_i v hv
   rw [wa1] at h
   by_cases e:i=j
   ·subst e
    rw [if_pos rfl] at h
    rw [hv,h]
   ·rw [if_neg e] at h
    exact wp9 h
  ·exact wp9 h
def wei (G:Env) (opl:List Oper) (A:List Nat) (K:KT):Nat→List Nat→KT
 |0,_,_,_,_=>False
 |fuel+1,done,T,O,nx=>match Nat.beq done.length A.length with
  |true=>match allH A done with
   |true=>match allH done A with
    |true=>K T O nx
    |false=>False
   |false=>False
  |false=>match rdyL done 0 opl with
   |[]=>False
   |p0::l=>allP (fun p:Nat×Oper=>match p.2.guard with
    |none=>wp1 G p.2 T O nx (wei G opl A K fuel (p.1::done))
    |some _=>False) (p0::l)
theorem RepS.sub {C:Ctx} {E:Ent} {N:Nat} {T T':List (Nat×AV)} {O:List (Nat×AObj)} {nx:Nat} {bs:Nat→Option Hd} {a:Act} {w:World} (h:RepS C E N ⟨T,O,nx,[]⟩ bs a w) (hs:∀ j u,lk T' j=some u→lk T j=some u):RepS C E N ⟨T',O,nx,[]⟩ bs a w:=
 ⟨⟨⟨h.1.1.1,h.1.1.2.1,fun i u hu=>h.1.1.2.2 i u (hs i u hu)⟩,h.1.2⟩,h.2⟩
theorem wri {C:Ctx} {G:Env} (hG:EnvOK C G) {m:Nat} {opl:List Oper} {A:List Nat} {K:KT} {Q:Exit→St→Prop} {E:Ent} (hE:E.m=m)
  (leaf:∀ (listed:Array Bool) (T:List (Nat×AV)) (O:List (Nat×AObj)) (nx:Nat) (bs:Nat→Option Hd) (a:Act) (w:World),listed.size=opl.length→(∀ i,listed.getD i false=true↔i∈A)→K T O nx→RepS C E G.N ⟨T,O,nx,[]⟩ bs a w→
   wpAny C.P .any opl.toArray (QC C E G.N Q) (opl.length - A.length) listed a w):∀ (fuel:Nat) (done:List Nat) (listed:Array Bool) (T:List (Nat×AV)) (O:List (Nat×AObj)) (nx:Nat) (bs:Nat→Option Hd) (a:Act) (w:World),
  fuel+done.length=opl.length→listed.size=opl.length→(∀ i,listed.getD i false=true↔i∈done)→wei G opl A K fuel done T O nx→RepS C E G.N ⟨T,O,nx,[]⟩ bs a w→wpAny C.P .any opl.toArray (QC C E G.N Q) fuel listed a w
 |0,done,listed,T,O,nx,bs,a,w,hf,hsz,hl,h,hr=>by
  unfold wei at h
  exact h.elim
 |fuel+1,done,listed,T,O,nx,bs,a,w,hf,hsz,hl,h,hr=>by
  unfold wei at h
  split at h
  ·rename_i hlen
   have hlen:=Nat.eq_of_beq_eq_true hlen
   split at h
   ·rename_i h1
    split at h
    ·rename_i h2
     have e:fuel+1=opl.length - A.length:=by omega
     rw [e]
     exact leaf listed T O nx bs a w hsz (fun i=>(hl i).trans ⟨fun q=>wq9.1 h1 i q,fun q=>wq9.1 h2 i q⟩) h hr
    ·exact h.elim
   ·exact h.elim
  ·split at h
   ·exact h.elim
   ·rename_i p0 l hr0
    unfold wpAny
    refine ⟨fun q=>?_,fun i hi=>?_⟩
    ·obtain ⟨i0,o0⟩:=p0
     have hm:(i0,o0)∈rdyL done 0 opl:=by rw [hr0];exact List.mem_cons_self ..
     obtain ⟨i',h1,h2,_⟩:=wh1.1 hm
     obtain rfl:i0=i':=by omega
     have:=(wgk hsz hl i0).2 ⟨o0,h2,hm⟩
     rw [q] at this;cases this
    obtain ⟨o,ho,hm⟩:=(wgk hsz hl i).1 hi
    rw [hr0] at hm
    have hp:=wq8 h _ hm
    dsimp only at hp
    have hilt:i<listed.size:=by rw [hsz];exact (List.getElem?_eq_some_iff.1 ho).1
    have hsz':(listed.setIfInBounds i true).size=opl.length:=by simp [hsz]
    have hl':∀ j,(listed.setIfInBounds i true).getD j false=true↔j∈i::done:=fun j=>by
     by_cases e:i=j
     ·subst e
      simp [Array.getD,hilt]
     ·rw [getD_set_ne _ e,hl,List.mem_cons]
      exact ⟨.inr,fun h=>h.resolve_left fun q=>e q.symm⟩
    split at hp
    ·rename_i hg
     have:=wi8 (m:=m) (ops:=opl.toArray) (rest:=[]) (Q:=wgn (fun s=>wei G opl A K fuel (i::done) s.T s.O s.nx) Q) hG hg hp (fun T' O' nx' hK=>by
      intro E' hE' bs' a' w' hr'
      exact ⟨⟨T',O',nx',[]⟩,bs',hK,hr'⟩) E hE bs a w hr
     have fin:∀ a' w',QC C E G.N (wgn (fun s=>wei G opl A K fuel (i::done) s.T s.O s.nx) Q) .normal a' w'→wpAny C.P .any opl.toArray (QC C E G.N Q) fuel (listed.setIfInBounds i true) a' w':=by
      rintro a' w' ⟨⟨T',O',nx',d'⟩,bs',hK,hr'⟩
      exact wri hG hE leaf fuel (i::done) _ T' O' nx' bs' a' w' (by rw [List.length_cons];omega) hsz' hl' hK hr'
     have other:∀ e a' w',e≠Exit.normal→QC C E G.N (wgn (fun s=>wei G opl A K fuel (i::done) s.T s.O s.nx) Q) e a' w'→QC C E G.N Q e a' w':=by
      rintro e a' w' hne ⟨s,bs',hs,hr'⟩
      refine ⟨s,bs',?_,hr'⟩
      cases e with
      |normal=>exact absurd rfl hne
      |_=>exact hs
     unfold wpOp
     have ho':opl.toArray[i]?=some o:=by simpa using ho
     rw [ho']
     unfold wpList at this
     dsimp only
     split
     ·rename_i hw
      rw [if_pos hw] at this
      rcases this with h | ⟨h1,a',w',h2⟩
      ·exact .inl (wrf fin other h)
      ·exact .inr ⟨h1,a',w',other _ _ _ (by simp) h2⟩
     ·rename_i hw
      rw [if_neg hw] at this
      exact fin _ _ this
    ·exact hp.elim
def cutIs (F:List Nat) (SA:St):KT:=fun T O nx=>wie T F=SA.T∧O=SA.O∧nx=SA.nx
def rgA (G:Env) (x:Code) (A F:List Nat) (SA s:St):Prop:=match x with
 |.region _ ops true=>wei G ops.toList A (cutIs F SA) ops.toList.length [] s.T s.O s.nx
 |_=>False
def rgB (G:Env) (x:Code) (A Fe:List Nat) (Q:Exit→St→Prop) (SA:St):Prop:=match x with
 |.region _ ops true=>wdr G ops.toList (Eng.canQ G.te G.m Fe [] Q .normal) (ops.toList.length - A.length) A SA.T SA.O SA.nx
 |_=>False
theorem AWP.cut {C:Ctx} {G:Env} (hG:EnvOK C G) {m id:Nat} {opl:List Oper} {A F:List Nat} {SA:St} {Q:Exit→St→Prop} {T0:List (Nat×AV)} {O0:List (Nat×AObj)} {nx:Nat} {dec:List Nat}
  (h:wei G opl A (cutIs F SA) opl.length [] T0 O0 nx) (h2:wdr G opl (Q .normal) (opl.length - A.length) A SA.T SA.O SA.nx):AWP C m G.N (.region id opl.toArray true) Q ⟨T0,O0,nx,dec⟩:=by
 intro E hE bs a w hr
 have hS:Step w (MB E (lk O0) bs) bs { w with drawn:=w.drawn+1 } (MB E (lk O0) bs) bs∧WRep C E (lk O0) bs { w with drawn:=w.drawn+1 }:=by
  refine hr.1.2.next (fun _=>False) (fun _ _ h=>h) (fun _ _ _ h=>.inl h) (fun _ h=>h.elim) (fun _ _ _=>rfl) (Nat.le_refl _) (fun _ h=>.inl h) (fun _ _ _ h=>.inl ⟨h,fun _ _ _ h=>h⟩) hr.1.2.sep ?_ rfl ⟨rfl,fun _=>Nat.le_succ _⟩ rfl
  intro r t sz n f b c ho hb
  have:=hr.1.2.frz r t sz n f b c ho hb
  exact ⟨fun h=>this (.inr h),fun h=>this (.inl h)⟩
 refine wp_region_any C.mixed (wri hG hE (fun listed T O nx' bs' a' w' hsz hl hK hr'=>?_) _ [] _ T0 O0 nx bs a _ (by simp) (by simp) (fun i=>by simp [Array.getD]) (by simpa using h) ⟨⟨hr.1.1.step hS.1,hS.2⟩,hr.2.1,hr.2.2⟩)
 obtain ⟨k1,k2,k3⟩:=hK
 subst k2;subst k3
 refine wot hG hE _ A listed SA.T SA.O SA.nx bs' a' w' hsz hl h2 ?_
 rw [← k1]
 exact hr'.sub fun j u hu=>wp9 hu
theorem waj.cut {C:Ctx} {te:TE} (hte:Prg C te) {m N:Nat} {x:Code} {s S SA:St} {Q:Exit→St→Prop} (calls:List (Nat×CSpec)) (fuel:Nat) (hc:wc5 C calls) (F Fe A FA:List Nat)
  (h0:canonIs te m F s S) (h:rgA ⟨te,calls,[],m,N,fuel⟩ x A FA SA S) (h2:rgB ⟨te,calls,[],m,N,fuel⟩ x A Fe Q SA) (hS:wcg S.O True):AWP C m N x Q s:=by
 have hG:EnvOK C ⟨te,calls,[],m,N,fuel⟩:=⟨hte.ok,hte.one,hc⟩
 have h1:AWP C m N x (Eng.canQ te m Fe [] Q) S:=by
  unfold rgA at h
  split at h
  ·rename_i id ops
   have:=AWP.cut (m:=m) (id:=id) (dec:=S.dec) hG h h2
   simpa using this
  ·exact h.elim
 exact AWP.canonIs F h0 h1.canQ hS
end Go.Eng
namespace Go.Eng
def mapR (φ:AV→AV) (b:Bool):AObj→AObj
 |.cells cs t=>.cells (cs.map φ) t
 |.row t sz n f fr=>match b with
  |true=>.row t sz n (fun i=>(f i).map φ) fr
  |false=>.row t sz n f fr
 |.amap es=>.amap es
 |.siter s pos=>.siter s pos
 |.miter m n0 left=>.miter m n0 left
 |.dead=>.dead
theorem wpu (φ:AV→AV) (b:Bool) (o:AObj):(mapR φ b o).mut=o.mut:=by
 cases o with
 |row t sz n f fr=>cases b<;>cases fr<;>rfl
 |_=>rfl
def mapO (φ:AV→AV) (rs:List Nat):List (Nat×AObj)→List (Nat×AObj)
 |[]=>[]
 |p::l=>(p.1,mapR φ (hasN rs p.1) p.2)::mapO φ rs l
theorem wh8 (φ:AV→AV) (rs:List Nat):∀ (O:List (Nat×AObj)) (k:Nat),lk (mapO φ rs O) k=(lk O k).map (mapR φ (hasN rs k))
 |[],k=>rfl
 |p::l,k=>by
  rw [mapO,wa1,wa1]
  by_cases e:p.1=k
  ·subst e;rw [if_pos rfl,if_pos rfl];rfl
  ·rw [if_neg e,if_neg e];exact wh8 φ rs l k
theorem WRep.mapR {C:Ctx} {E:Ent} {O:Nat→Option AObj} {bs:Nat→Option Hd} {w:World} (hW:WRep C E O bs w) (φ:AV→AV) (hφ:∀ v u,V w (MB E O bs) bs v u→V w (MB E O bs) bs v (φ u)) (rs:List Nat):
  MB E (fun k=>(O k).map (Eng.mapR φ (hasN rs k))) bs=MB E O bs∧WRep C E (fun k=>(O k).map (Eng.mapR φ (hasN rs k))) bs w:=by
 have hold:∀ r o,(O r).map (Eng.mapR φ (hasN rs r))=some o→∃ o',O r=some o'∧o=Eng.mapR φ (hasN rs r) o':=fun r o ho=>by
  obtain ⟨o',h1,h2⟩:=Option.map_eq_some_iff.1 ho
  exact ⟨o',h1,h2.symm⟩
 have hmb:∀ b,mutB (fun k=>(O k).map (Eng.mapR φ (hasN rs k))) bs b→mutB O bs b:=fun b ⟨r,o,c,h1,h2,h3⟩=>by
  obtain ⟨o',q1,rfl⟩:=hold r o h1
  exact ⟨r,o',c,q1,by rw [← h2,wpu],h3⟩
 have hMB:MB E (fun k=>(O k).map (Eng.mapR φ (hasN rs k))) bs=MB E O bs:=by
  funext b
  apply propext
  constructor
  ·rintro (h | h)
   ·exact .inl h
   ·exact .inr (hmb b h)
  ·rintro (h | ⟨r,o,c,h1,h2,h3⟩)
   ·exact .inl h
   ·exact .inr ⟨r,Eng.mapR φ (hasN rs r) o,c,by simp [h1],by rw [wpu];exact h2,h3⟩
 refine ⟨hMB,?_⟩
 exact {
  obj:=fun r o ho=>by
   rw [hMB]
   obtain ⟨o',h0,rfl⟩:=hold r o ho
   have h:=hW.obj r o' h0
   cases o' with
   |cells cs t=>
    obtain ⟨b,c,vs,h1,h2,h3,h4,h5⟩:=h
    refine ⟨b,c,vs,h1,h2,by rw [List.length_map];exact h3,h4,fun j v u hv hu=>?_⟩
    rw [List.getElem?_map] at hu
    obtain ⟨u0,q1,rfl⟩:=Option.map_eq_some_iff.1 hu
    exact hφ v u0 (h5 j v u0 hv q1)
   |row t sz n f fr=>
    unfold Eng.mapR
    cases hasN rs r with
    |false=>exact h
    |true=>
     dsimp only
     rcases h with h | ⟨b,c,vs,h1,h2,h3,h4,h5,h6,h7,h8⟩
     ·exact .inl h
     ·refine .inr ⟨b,c,vs,h1,h2,h3,h4,h5,fun i hi=>by rw [List.length_map];exact h6 i hi,h7,fun i hi j v u hj hv hu=>?_⟩
      rw [List.getElem?_map] at hu
      obtain ⟨u0,q1,rfl⟩:=Option.map_eq_some_iff.1 hu
      exact hφ v u0 (h8 i hi j v u0 hj hv q1)
   |amap es=>exact h
   |siter s pos=>exact h
   |miter m n0 left=>exact h
   |dead=>exact h
  sep:=fun r r' o1 o2 b c c' h1 h2 m1 m2 b1 b2=>by
   obtain ⟨o1',p1,rfl⟩:=hold r o1 h1
   obtain ⟨o2',p3,rfl⟩:=hold r' o2 h2
   rw [wpu] at m1 m2
   exact hW.sep r r' o1' o2' b c c' p1 p3 m1 m2 b1 b2
  out:=fun b hb=>hW.out b (hmb b hb)
  frz:=fun r t' sz' n' f2 b c ho hb=>by
   rw [hMB]
   obtain ⟨o',p1,p2⟩:=hold r _ ho
   cases o' with
   |row t sz n f fr=>
    unfold Eng.mapR at p2
    cases hq:hasN rs r with
    |false=>
     rw [hq] at p2
     injection p2 with e1 e2 e3 e4 e5
     subst e5
     exact hW.frz r _ _ _ _ b c p1 hb
    |true=>
     rw [hq] at p2
     injection p2 with e1 e2 e3 e4 e5
     subst e5
     exact hW.frz r _ _ _ _ b c p1 hb
   |_=>cases p2
  high:=fun b hb=>hW.high b (by rw [← hMB];exact hb)
  lt:=hW.lt
  outlt:=hW.outlt
  keep:=hW.keep
  old:=fun b hb=>hW.old b (hmb b hb)
  size:=hW.size
  pre:=hW.pre
  os:=hW.os
  tape:=hW.tape
  output:=hW.output
  laid:=hW.laid
  gle:=hW.gle }
def frzX (r:Nat) (rs:List Nat) (s:St):St:=match lk s.O r with
 |some (.row _ sz n g _)=>⟨frzT r sz n g s.T,mapO (frz r sz n g) rs (rm r s.O),s.nx,[]⟩
 |_=>s
theorem RepS.frzX {C:Ctx} {E:Ent} {N:Nat} {s:St} {bs:Nat→Option Hd} {a:Act} {w:World} (h:RepS C E N s bs a w) (r:Nat) (rs:List Nat) (hf:wgr r s):RepS C E N (Eng.frzX r rs s) bs a w:=by
 unfold Eng.frzX
 unfold wgr at hf
 split
 ·rename_i t sz n g fr hO
  rw [hO] at hf
  obtain ⟨⟨hF,hW⟩,hnx,hm⟩:=h
  obtain ⟨hS,hW1⟩:=hW.freeze hO
  have hF1:=hF.step hS
  obtain ⟨e2,hW2⟩:=hW1.mapR (Eng.frz r sz n g) (fun v u hV=>V.frz hW1 (wau _ _ _) hf hV) rs
  obtain ⟨hS3,hW3⟩:=hW2.less (O':=lk (mapO (Eng.frz r sz n g) rs (rm r s.O))) fun k o hk=>by
   rw [wh8] at hk
   obtain ⟨o',q0,rfl⟩:=Option.map_eq_some_iff.1 hk
   obtain ⟨q1,q2⟩:=wd0 r s.O k o' q0
   show Option.map _ (up (lk s.O) r _ k)=_
   rw [wat _ _ _ q1,q2];rfl
  refine ⟨⟨⟨hF.1,hF.2.1,fun i u hu=>?_⟩,hW3⟩,fun k hk=>⟨?_,(hnx k hk).2⟩,hm⟩
  ·obtain ⟨u0,h0,rfl⟩:=wpz hu
   obtain ⟨v,hv,hV⟩:=hF1.2.2 i u0 h0
   have hV2:=V.frzC hW1 (wau _ _ _) hf hV
   rw [← e2] at hV2
   exact ⟨v,hv,hV2.step hS3⟩
  ·show lk (mapO _ rs (rm r s.O)) k=none
   rw [wh8]
   cases hx:lk (rm r s.O) k with
   |none=>rfl
   |some o=>
    have:=(wd0 r s.O k o hx).2
    rw [(hnx k hk).1] at this;cases this
 ·exact h
theorem AWP.frzX {C:Ctx} {m N:Nat} {c:Code} {Q:Exit→St→Prop} {s:St} (r:Nat) (rs:List Nat) (hf:wgr r s) (h:AWP C m N c Q (Eng.frzX r rs s)):AWP C m N c Q s:=by
 intro E hE bs a w hr
 exact h E hE bs a w (hr.frzX r rs hf)
def BK.Rg (b:BK):Prop:=inR .i64 b.up∧inR .i64 b.pr
structure TfS where
 up:Int
 bs:List BK
 a:Int
def wi4 (n:Nat) (v:Nat→Int) (N st:Int) (i:TfS):St:=⟨[(0,.ptr 0 0),(2,.ptr 1 0),(3,.ptr 2 0),(4,.int .i64 i.up),(9,.int .i64 N),(10,.int .i64 i.bs.length)],
 [(0,.cells [.view 1 n (waa v),.int .i64 i.a] 27),(1,.cells [.int .i64 0,.nil] 95),(2,.cells [.int .i64 st,.own 3 i.bs.length] 95),(3,.row 115 2 i.bs.length (wa0 (atB i.bs)) false)],4,[]⟩
def wdt (n:Nat) (v:Nat→Int) (a:Int):Nat→Int
 |0=>0
 |k+1=>wdt n v a k+(1+wab n v (a+2 * k) 60)
def tarB (n:Nat) (v:Nat→Int) (a:Int):Nat→List BK
 |0=>[]
 |k+1=>tarB n v a k++[⟨wdt n v a (k+1),wab n v (a+2 * k+1) 4 * 10⟩]
def tarL (n:Nat) (v:Nat→Int) (a:Int):List BK:=tarB n v (a+2) (wab n v (a+1) 4).toNat++[⟨0,wab n v (a+2+2 * wab n v (a+1) 4) 4 * 10⟩]
def tarA (n:Nat) (v:Nat→Int) (a:Int):Int:=a+2+2 * wab n v (a+1) 4+1
theorem wrz (n:Nat) (v:Nat→Int) (a:Int):∀ k,(tarB n v a k).length=k
 |0=>rfl
 |k+1=>by rw [tarB,List.length_append,wrz n v a k];rfl
theorem woz (n:Nat) (v:Nat→Int) (a:Int):∀ k:Nat,0≤wdt n v a k∧wdt n v a k≤60 * k
 |0=>⟨Int.le_refl _,Int.le_refl _⟩
 |k+1=>by
  have:=woz n v a k
  have r:=wav (show (1:Int)≤60 by omega) n v (a+2 * k)
  rw [wdt]
  omega
theorem wry (n:Nat) (v:Nat→Int) (a:Int):∀ k,k≤1000→∀ b∈tarB n v a k,b.Rg
 |0,_,b,hb=>by cases hb
 |k+1,hk,b,hb=>by
  rw [tarB] at hb
  rcases List.mem_append.1 hb with hb | hb
  ·exact wry n v a k (by omega) b hb
  ·rw [List.mem_singleton.1 hb]
   have:=woz n v a (k+1)
   have r:=wav (show (1:Int)≤4 by omega) n v (a+2 * k+1)
   constructor
   ·show inR .i64 (wdt n v a (k+1))
    simp only [inR];omega
   ·show inR .i64 (wab n v (a+2 * k+1) 4 * 10)
    simp only [inR];omega
theorem ww4 (n:Nat) (v:Nat→Int) (a:Int):(tarL n v a).length≤10∧(∀ b∈tarL n v a,b.Rg)∧(a≤tarA n v a∧tarA n v a≤a+12):=by
 have r:=wav (show (1:Int)≤4 by omega) n v (a+1)
 have r2:=wav (show (1:Int)≤4 by omega) n v (a+2+2 * wab n v (a+1) 4)
 refine ⟨?_,fun b hb=>?_,?_⟩
 ·unfold tarL
  rw [List.length_append,wrz]
  show _+1≤10
  omega
 ·unfold tarL at hb
  rcases List.mem_append.1 hb with hb | hb
  ·exact wry n v _ _ (by omega) b hb
  ·rw [List.mem_singleton.1 hb]
   constructor
   ·show inR .i64 0
    simp only [inR];omega
   ·show inR .i64 (wab n v (a+2+2 * wab n v (a+1) 4) 4 * 10)
    simp only [inR];omega
 ·unfold tarA;omega
def wns (n:Nat) (v:Nat→Int) (a N st:Int):war:=fun s Q=>canonIs te 1 [0,2,3,4,9,10] (ownNilP 3 1 115 2 s) (wi4 n v N st ⟨0,[],a⟩)∧(0≤N∧N≤3)∧(0≤a∧a≤4611686018427375000)∧
 ∀ i:TfS,(i.bs.length:Int)=N→i.a=a+2 * N→i.bs=tarB n v a N.toNat→
  Q (.exit 0) ⟨[(0,.ptr 0 0),(2,.ptr 1 0),(3,.ptr 2 0)],(wi4 n v N st i).O,4,[]⟩
def wln:Spec
 |[.ptr 0 0],[.cells [.view sz n f,.int .i64 a] t]=>some (.agg [.int .i64 (wab n (vInt f) a 500),.view 2 (tarL n (vInt f) a).length (wa0 (atB (tarL n (vInt f) a)))],
   [(0,.cells [.view 1 n f,.int .i64 (tarA n (vInt f) a)] 27)],t=27∧sz=1∧f=waa (vInt f)∧(0≤a∧a≤4611686018427370000))
 |_,_=>none
def S_fl (n:Nat) (v:Nat→Int) (a:Int) (id:List UInt8) (ver day kind:Int) (ms:List MG) (rs:List RW) (ts:List RT):St:=⟨[(0,.ptr 0 0),(2,.ptr 1 0),(3,.ptr 2 0)],
 [(0,.cells [.view 1 n (waa v),.int .i64 a] 27),(1,.cells [.str [],.int .i64 0,.int .i64 0,.int .i64 0,.nil,.nil,.nil] 49),
  (2,.cells [.str id,.int .i64 ver,.int .i64 day,.int .i64 kind,.own 3 ms.length,.own 4 rs.length,.own 5 ts.length] 49),
  (3,.row 40 15 ms.length (wag (atM ms)) false),(4,.row 61 5 rs.length (wai (atR rs)) false),(5,.row 97 5 ts.length (wah (atT ts)) false)],6,[]⟩
def woi (n:Nat) (v:Nat→Int) (a:Int) (id:List UInt8) (ver day kind:Int):war:=fun s Q=>
 canonIs te 1 [0,2,3] (ownNilP 3 6 97 5 (ownNilP 3 5 61 5 (ownNilP 3 4 40 15 s))) (S_fl n v a id ver day kind [] [] [])∧
 Q .normal ⟨[(0,.ptr 0 0),(2,.ptr 1 0),(3,.ptr 2 0),(20,.int .i64 kind)],(S_fl n v a id ver day kind [] [] []).O,6,[]⟩
def fidF (i:Int):List UInt8:=List.getD [[102],[103],[104]] i.toNat []
structure FiS where
 ts:List RT
 a:Int
def wmx (n:Nat) (v:Nat→Int) (id:List UInt8) (ver day kind N:Int) (i:FiS):St:=⟨[(0,.ptr 0 0),(2,.ptr 1 0),(3,.ptr 2 0),(35,.int .i64 N),(36,.int .i64 i.ts.length)],(S_fl n v i.a id ver day kind [] [] i.ts).O,6,[]⟩
def woh (n:Nat) (v:Nat→Int) (a:Int) (id:List UInt8) (ver day kind N:Int):war:=fun s Q=>canonIs te 1 [0,2,3,35,36] s (wmx n v id ver day kind N ⟨[],a⟩)∧(0≤N∧N≤2)∧(0≤a∧a≤4611686018427365000)∧
 ∀ i:FiS,i.ts.length≤2→(a≤i.a∧i.a≤a+40)→(∀ t∈i.ts,t.Tn)→Q (.exit 1) ⟨[(0,.ptr 0 0),(2,.ptr 1 0),(3,.ptr 2 0)],(S_fl n v i.a id ver day kind [] [] i.ts).O,6,[]⟩
structure FL.Low (F:FL):Prop where
 id:F.id.length≤24
 m:F.ms.length≤4
 r:F.rs.length≤4
 t:F.ts.length≤2
 ver:1≤F.ver∧F.ver≤3
 kind:1≤F.kind∧F.kind≤3
 day:43860≤F.day∧F.day≤43865
def wnm:wci
 |[.ptr 0 0],[.cells [.view sz n f,.int .i64 a] t],R=>t=27∧sz=1∧f=waa (vInt f)∧(0≤a∧a≤4611686018427360000)∧
   ∀ (F:FL) (a':Int),F.Tn→F.ms.length≤4→F.rs.length≤4→F.ts.length≤2→FL.Low F→(a≤a'∧a'≤a+1100)→
   R (.agg [.str F.id,.int .i64 F.ver,.int .i64 F.day,.int .i64 F.kind,.own 1 F.ms.length,.own 2 F.rs.length,.own 3 F.ts.length]) [(0,.cells [.view 1 n f,.int .i64 a'] 27),
    (1,.row 40 15 F.ms.length (wag (atM F.ms)) false),(2,.row 61 5 F.rs.length (wai (atR F.rs)) false),(3,.row 97 5 F.ts.length (wah (atT F.ts)) false)]
 |_,_,_=>False
def whk:wci
 |[.ptr 0 0],[.cells [.view sz n f,.int .i64 a] t],R=>t=27∧sz=1∧f=waa (vInt f)∧(0≤a∧a≤4611686018427360000)∧
   ∀ (F:FL) (a':Int),F.Tn→FL.Low F→(a≤a'∧a'≤a+1100)→
   R (.agg [.str F.id,.int .i64 F.ver,.int .i64 F.day,.int .i64 F.kind,.view 15 F.ms.length (wag (atM F.ms)),.view 5 F.rs.length (wai (atR F.rs)),.view 5 F.ts.length (wah (atT F.ts))]) [(0,.cells [.view 1 n f,.int .i64 a'] 27)]
 |_,_,_=>False
def wdh (st x:Int):Int:=bif decide (st=3) || decide (st=4) then 0 else x
def wds (st:Int) (p q:List UInt8):List UInt8:=bif decide (st=5) then (bif decide (q=p) then idF 4 else q) else []
def wej (st a:Int):Int:=bif decide (st=3) || decide (st=4) then a else bif decide (st=5) then a+1+1 else a+1
def wew (n:Nat) (v:Nat→Int) (a:Int):Int:=1+List.getD [(0:Int),0,0,1,2,3,4] (wab n v (a+1+1+1+1) 7).toNat 0
def visV (n:Nat) (v:Nat→Int) (a:Int):VT:=⟨outF (wab n v a 3),idF (wab n v (a+1) 4),1440+wab n v (a+1+1) 4,43830+wab n v (a+1+1+1) 100,wew n v a,
 wdh (wew n v a) (100+wab n v (a+1+1+1+1+1) 4 * 5),wds (wew n v a) (idF (wab n v (a+1) 4)) (idF (wab n v (a+1+1+1+1+1+1) 4))⟩
def visA (n:Nat) (v:Nat→Int) (a:Int):Int:=wej (wew n v a) (a+1+1+1+1+1)
def wle:Spec
 |[.ptr 0 0],[.cells [.view sz n f,.int .i64 a] t]=>some (.agg [.str (visV n (vInt f) a).o,.str (visV n (vInt f) a).p,.int .i64 (visV n (vInt f) a).per,.int .i64 (visV n (vInt f) a).day,.int .i64 (visV n (vInt f) a).st,.int .i64 (visV n (vInt f) a).pr,.str (visV n (vInt f) a).rep],
   [(0,.cells [.view 1 n f,.int .i64 (visA n (vInt f) a)] 27)],t=27∧sz=1∧f=waa (vInt f)∧(0≤a∧a≤4611686018427386000))
 |_,_=>none
def msgV (n:Nat) (v:Nat→Int) (a:Int):MG:=bif decide (wab n v (a+1+1) 5=0) then
  ⟨devF (wab n v a 3),1+wab n v (a+1) 9,2,⟨[],[],0,0,0,0,[]⟩,⟨outF (wab n v (a+1+1+1) 3),idF (wab n v (a+1+1+1+1) 4),1440+wab n v (a+1+1+1+1+1) 4,devF (wab n v (a+1+1+1+1+1+1) 3),1+wab n v (a+1+1+1+1+1+1+1) 9⟩⟩
 else ⟨devF (wab n v a 3),1+wab n v (a+1) 9,1,visV n v (a+1+1+1),⟨[],[],0,[],0⟩⟩
def msgA (n:Nat) (v:Nat→Int) (a:Int):Int:=bif decide (wab n v (a+1+1) 5=0) then a+1+1+1+1+1+1+1+1 else visA n v (a+1+1+1)
def wl9:Spec
 |[.ptr 0 0],[.cells [.view sz n f,.int .i64 a] t]=>some (.agg [.str (msgV n (vInt f) a).dev,.int .i64 (msgV n (vInt f) a).seq,.int .i64 (msgV n (vInt f) a).kind,.str (msgV n (vInt f) a).v.o,.str (msgV n (vInt f) a).v.p,.int .i64 (msgV n (vInt f) a).v.per,.int .i64 (msgV n (vInt f) a).v.day,.int .i64 (msgV n (vInt f) a).v.st,.int .i64 (msgV n (vInt f) a).v.pr,.str (msgV n (vInt f) a).v.rep,.str (msgV n (vInt f) a).d.o,.str (msgV n (vInt f) a).d.p,.int .i64 (msgV n (vInt f) a).d.per,.str (msgV n (vInt f) a).d.dev,.int .i64 (msgV n (vInt f) a).d.num],
   [(0,.cells [.view 1 n f,.int .i64 (msgA n (vInt f) a)] 27)],t=27∧sz=1∧f=waa (vInt f)∧(0≤a∧a≤4611686018427385000))
 |_,_=>none
theorem wal.mapO {C:Ctx} {f:FuncId} {args:List AV} {objs:List AObj} {R:AV→List (Nat×AObj)→Prop} (φ:AV→AV) (hφ:∀ (w:World) (M:Nat→Prop) (bs:Nat→Option Hd) (v:Value) (u:AV),V w M bs v u→V w M bs v (φ u)) (rs:List Nat)
  (h:wal C f args objs fun u O=>R u (Eng.mapO φ rs O)):wal C f args objs R:=by
 refine ⟨h.1,fun E bs w cargs h1 h2 h3 h4 h5 h6 h7=>?_⟩
 refine (h.2 E bs w cargs h1 h2 h3 h4 h5 h6 h7).mono ?_
 rintro e w' ⟨v,u,O',bs',r1,hR,r3,r4,r5⟩
 obtain ⟨e2,hW2⟩:=r3.mapR φ (hφ w' _ bs') rs
 have eO:lk (Eng.mapO φ rs O')=fun k=>(lk O' k).map (Eng.mapR φ (hasN rs k)):=funext fun k=>wh8 φ rs O' k
 refine ⟨v,u,Eng.mapO φ rs O',bs',r1,hR,by rw [eO];exact hW2,by rw [eO,e2];exact r4,fun k hk=>⟨?_,(r5 k hk).2⟩⟩
 rw [wh8,(r5 k hk).1];rfl
def zMg:MG:=⟨[],0,0,⟨[],[],0,0,0,0,[]⟩,⟨[],[],0,[],0⟩⟩
def zRw:RW:=⟨[],[],0,0,0⟩
def wd4 (m:MG) (j i:Nat):MG:=bif decide (i<j) then m else zMg
def wls (n:Nat) (v:Nat→Int) (a:Int) (m:MG) (N j:Nat):St:=⟨[(0,.ptr 0 0),(2,.ptr 1 0),(3,.ptr 2 0),(4,.ptr 3 0),(85,.int .i64 N),(86,.int .i64 j)],
 [(0,.cells [.view 1 n (waa v),.int .i64 a] 27),(1,.cells [.str [],.int .i64 0,.int .i64 0,.int .i64 0,.nil,.nil,.nil] 49),
  (2,.cells [.str [102],.int .i64 1,.int .i64 0,.int .i64 1,.own 4 N,.own 5 0,.own 6 0] 49),
  (3,.cells [.str m.dev,.int .i64 m.seq,.int .i64 m.kind,.str m.v.o,.str m.v.p,.int .i64 m.v.per,.int .i64 m.v.day,.int .i64 m.v.st,.int .i64 m.v.pr,.str m.v.rep,.str m.d.o,.str m.d.p,.int .i64 m.d.per,.str m.d.dev,.int .i64 m.d.num] 40),
  (4,.row 40 15 N (wag (wd4 m j)) false),(5,.row 61 5 0 (wai (atR [])) false),(6,.row 97 5 0 (wah (atT [])) false)],7,[]⟩
def L_sp5 (n:Nat) (v:Nat→Int) (a:Int) (m:MG) (N:Nat):war:=fun s Q=>
 canonIs te 1 [0,2,3,4,85,86] (ownNilP 3 6 97 5 (ownNilP 3 5 61 5 s)) (wls n v a m N 0)∧N≤401∧
 Q (.exit 1) ⟨[(0,.ptr 0 0),(2,.ptr 1 0),(3,.ptr 2 0)],(S_fl n v a [102] 1 0 1 (List.replicate N m) [] []).O,6,[]⟩
def wnu (n:Nat) (v:Nat→Int):war:=fun s Q=>∃ (b:Int) (m:MG) (N:Nat),L_sp5 n v b m N s Q
def wnf:wci
 |[.ptr 0 0],[.cells [.view sz n f,.int .i64 a] t],R=>t=27∧sz=1∧f=waa (vInt f)∧(0≤a∧a≤4611686018427350000)∧
   ∀ (F:FL) (a':Int),F.Tn→(a≤a'∧a'≤a+1200)→
   R (.agg [.str F.id,.int .i64 F.ver,.int .i64 F.day,.int .i64 F.kind,.view 15 F.ms.length (wag (atM F.ms)),.view 5 F.rs.length (wai (atR F.rs)),.view 5 F.ts.length (wah (atT F.ts))]) [(0,.cells [.view 1 n f,.int .i64 a'] 27)]
 |_,_,_=>False
structure FsS where
 L:List FL
 a:Int
def S_fs (n:Nat) (v:Nat→Int) (N:Int) (i:FsS):St:=⟨[(0,.ptr 0 0),(5,.own 1 i.L.length),(9,.int .i64 N),(10,.int .i64 i.L.length)],
 [(0,.cells [.view 1 n (waa v),.int .i64 i.a] 27),(1,.row 49 7 i.L.length (wac (atF i.L)) false)],2,[]⟩
def L_fs (n:Nat) (v:Nat→Int) (a N:Int):war:=fun st Q=>canonIs te 1 [0,5,9,10] (ownNil 5 49 7 st) (S_fs n v N ⟨[],a⟩)∧(0≤N∧N≤20)∧(0≤a∧a≤4611686018427330000)∧
 ∀ i:FsS,i.L.length=N.toNat→(a≤i.a∧i.a≤a+1100 * N)→(∀ F∈i.L,F.Tn)→Q (.exit 0) ⟨[(5,.own 1 i.L.length)],(S_fs n v N i).O,2,[]⟩
def wnl:wci
 |[.ptr 0 0,.int .i64 most],[.cells [.view sz n f,.int .i64 a] t],R=>t=27∧sz=1∧f=waa (vInt f)∧(0≤a∧a≤4611686018427320000)∧(0≤most∧most≤20)∧
   ∀ (L:List FL) (a':Int),(L.length:Int)≤most→(a≤a'∧a'≤a+23000)→(∀ F∈L,F.Tn)→
   R (.own 1 L.length) [(0,.cells [.view 1 n f,.int .i64 a'] 27),(1,.row 49 7 L.length (wac (atF L)) false)]
 |_,_,_=>False
def wnk:wci
 |[.ptr 0 0],[.cells [.view sz n f,.int .i64 a] t],R=>t=27∧sz=1∧f=waa (vInt f)∧(0≤a∧a≤4611686018427300000)∧
   ∀ (L:List FL) (a':Int),L.length≤8→(a≤a'∧a'≤a+25000)→(∀ F∈L,F.Tn)→
   R (.own 1 L.length) [(0,.cells [.view 1 n f,.int .i64 a'] 27),(1,.row 49 7 L.length (wac (atF L)) false)]
 |_,_,_=>False
def S_l4 (n:Nat) (v:Nat→Int) (a:Int) (L:List FL):St:=⟨[(0,.ptr 0 0),(3,.own 1 L.length)],[(0,.cells [.view 1 n (waa v),.int .i64 a] 27),(1,.row 49 7 L.length (wac (atF L)) false)],2,[]⟩
def L_l4 (n:Nat) (v:Nat→Int):war:=fun s Q=>∃ (L:List FL) (a:Int),canonIs te 1 [0,3] s (S_l4 n v a L)∧(0≤a∧a≤4611686018427365000)∧L.length≤7∧(∀ F∈L,F.Tn)∧
 ∀ (b:Bool) (a':Int),(a≤a'∧a'≤a+1)→(b=true→0<L.length)→Q .normal ⟨[(0,.ptr 0 0),(3,.own 1 L.length),(22,.bool b)],(S_l4 n v a' L).O,2,[]⟩
structure TuS where
 k:Nat
 L:List FL
 a:Int
def eqF (F G:FL):Bool:=decide (F.day=G.day) && decide (encF F=encF G)
def eqFs (g h:Nat→FL):Nat→Bool
 |0=>true
 |k+1=>eqFs g h k && eqF (g k) (h k)
def wlv:Spec
 |[.view 7 n f,.view 7 m h],[]=>some (.bool (decide (n=m) && eqFs (flOf f) (flOf h) n),[],n≤1000000∧m≤1000000∧f=wac (flOf f)∧h=wac (flOf h)∧(∀ i,i<n→(flOf f i).Rg)∧∀ i,i<m→(flOf h i).Rg)
 |_,_=>none
def S_sf (g h:Nat→FL) (n k:Nat):St:=⟨[(0,.view 7 n (wac g)),(1,.view 7 n (wac h)),(12,.int .i64 n),(13,.int .i64 k)],[],0,[]⟩
def L_sf (g h:Nat→FL) (n:Nat):war:=fun st Q=>canonIs te 0 [0,1,12,13] st (S_sf g h n 0)∧n≤1000000∧(∀ i,i<n→(g i).Rg)∧(∀ i,i<n→(h i).Rg)∧
 wad (eqFs g h n) (Q (.exit 0) ⟨[],[],0,[]⟩) (Q .ret ⟨[(4,.bool false)],[],0,[]⟩)
def entI (K:List (List UInt8)) (v:List UInt8→Int):List (AV×AV):=K.map fun t=>(.str t,.int .i64 (v t))
def EsV (es:List (AV×AV)):Prop:=∃ (K:List (List UInt8)) (v:List UInt8→Int),es=entI K v∧K.Nodup
def qD (d:Int) (F:FL):Bool:=decide (d<F.day)
def qV (es:List (AV×AV)) (F:FL):Bool:= !decide (F.kind=1) && decide (F.ver<wap ((mget es (.str F.id)).getD (.int .i64 0)))
def kfL (q:FL→Bool) (g:Nat→FL) (n:Nat):List FL:=(lst g n).filter fun x=> !q x
structure FI where
 k:Nat
 w:Nat
 h:Nat→FL
def wfh:Spec
 |[.agg [.str id,.int .i64 ver,.int .i64 day,.int .i64 kind,.view 15 nm fm,.view 5 nr fr,.view 5 nt ft],.ptr 0 0],[.cells [.int .i64 d] t2]=>some (.bool (qD d (flV id ver day kind nm fm nr fr nt ft)),[(0,.cells [.int .i64 d] t2)],(FlC nm fm nr fr nt ft∧(flV id ver day kind nm fm nr fr nt ft).Rg)∧t2=3∧True)
 |_,_=>none
def wmg:Spec
 |[.own 0 n,.func 143 [.ptr 1 0]],[.row t 7 m f fr,.cells [.int .i64 d] t2]=>
   some (.int .i64 (ixB (fun i=>qD d (flOf f i)) n),[(0,.row 49 7 n f false),(1,.cells [.int .i64 d] 3)],t=49∧t2=3∧fr=false∧n=m∧n≤1000∧f=wac (flOf f)∧(∀ i,i<n→(flOf f i).Rg)∧True)
 |_,_=>none
def wmf (d:Int) (g:Nat→FL) (n k:Nat):St:=⟨[(0,.own 0 n),(1,.func 143 [.ptr 1 0]),(7,.int .i64 n),(8,.int .i64 k)],[(0,.row 49 7 n (wac g) false),(1,.cells [.int .i64 d] 3)],2,[]⟩
def wn8 (d:Int) (g:Nat→FL) (n:Nat):war:=fun st Q=>canonIs te 2 [0,1,7,8] st (wmf d g n 0)∧n≤1000∧(∀ i,i<n→(g i).Rg)∧True∧
 wad (decide (fstB (fun i=>qD d (g i)) n<n)) (Q .ret ⟨[(4,.int .i64 (fstB (fun i=>qD d (g i)) n))],[(0,.row 49 7 n (wac g) false),(1,.cells [.int .i64 d] 3)],2,[]⟩)
  (Q (.exit 0) ⟨[],[(0,.row 49 7 n (wac g) false),(1,.cells [.int .i64 d] 3)],2,[]⟩)
def wno:wci
 |[.own 0 n,.func 143 [.ptr 1 0]],[.row t 7 m f fr,.cells [.int .i64 d] t2],R=>t=49∧t2=3∧fr=false∧n=m∧n≤1000∧f=wac (flOf f)∧(∀ i,i<n→(flOf f i).Rg)∧True∧
   ∀ (k:Nat) (h:Nat→FL),k≤n→lst h k=kfL (qD d) (flOf f) n→R (.own 0 k) [(0,.row 49 7 k (wac h) false),(1,.cells [.int .i64 d] 3)]
 |_,_,_=>False
def wmz (d:Int) (n:Nat) (i:FI):St:=⟨[(0,.own 0 n),(1,.func 143 [.ptr 1 0]),(5,.int .i64 i.w),(6,.int .i64 i.k)],[(0,.row 49 7 n (wac i.h) false),(1,.cells [.int .i64 d] 3)],2,[]⟩
def wok (d:Int) (g:Nat→FL) (n i0:Nat):war:=fun st Q=>canonIs te 2 [0,1,5,6] st (wmz d n ⟨i0+1,i0,g⟩)∧(i0<n∧n≤1000)∧(∀ i,i<n→(g i).Rg)∧True∧(∀ j,j<i0→qD d (g j)=false)∧qD d (g i0)=true∧
 ∀ (w:Nat) (h:Nat→FL),w≤n→lst h w=kfL (qD d) g n→Q (.exit 0) ⟨[(0,.own 0 n),(5,.int .i64 w)],[(0,.row 49 7 n (wac h) false),(1,.cells [.int .i64 d] 3)],2,[]⟩
def wfg:Spec
 |[.agg [.str id,.int .i64 ver,.int .i64 day,.int .i64 kind,.view 15 nm fm,.view 5 nr fr,.view 5 nt ft],.ptr 0 0],[.cells [.map 1] t2,.amap es]=>some (.bool (qV es (flV id ver day kind nm fm nr fr nt ft)),[(0,.cells [.map 1] t2),(1,.amap es)],(FlC nm fm nr fr nt ft∧(flV id ver day kind nm fm nr fr nt ft).Rg)∧t2=132∧EsV es)
 |_,_=>none
def wme:Spec
 |[.own 0 n,.func 101 [.ptr 1 0]],[.row t 7 m f fr,.cells [.map 2] t2,.amap es]=>
   some (.int .i64 (ixB (fun i=>qV es (flOf f i)) n),[(0,.row 49 7 n f false),(1,.cells [.map 2] 132),(2,.amap es)],t=49∧t2=132∧fr=false∧n=m∧n≤1000∧f=wac (flOf f)∧(∀ i,i<n→(flOf f i).Rg)∧EsV es)
 |_,_=>none
def wmd (es:List (AV×AV)) (g:Nat→FL) (n k:Nat):St:=⟨[(0,.own 0 n),(1,.func 101 [.ptr 1 0]),(7,.int .i64 n),(8,.int .i64 k)],[(0,.row 49 7 n (wac g) false),(1,.cells [.map 2] 132),(2,.amap es)],3,[]⟩
def wn7 (es:List (AV×AV)) (g:Nat→FL) (n:Nat):war:=fun st Q=>canonIs te 3 [0,1,7,8] st (wmd es g n 0)∧n≤1000∧(∀ i,i<n→(g i).Rg)∧EsV es∧
 wad (decide (fstB (fun i=>qV es (g i)) n<n)) (Q .ret ⟨[(4,.int .i64 (fstB (fun i=>qV es (g i)) n))],[(0,.row 49 7 n (wac g) false),(1,.cells [.map 2] 132),(2,.amap es)],3,[]⟩)
  (Q (.exit 0) ⟨[],[(0,.row 49 7 n (wac g) false),(1,.cells [.map 2] 132),(2,.amap es)],3,[]⟩)
def wnn:wci
 |[.own 0 n,.func 101 [.ptr 1 0]],[.row t 7 m f fr,.cells [.map 2] t2,.amap es],R=>t=49∧t2=132∧fr=false∧n=m∧n≤1000∧f=wac (flOf f)∧(∀ i,i<n→(flOf f i).Rg)∧EsV es∧
   ∀ (k:Nat) (h:Nat→FL),k≤n→lst h k=kfL (qV es) (flOf f) n→R (.own 0 k) [(0,.row 49 7 k (wac h) false),(1,.cells [.map 2] 132),(2,.amap es)]
 |_,_,_=>False
def wmy (es:List (AV×AV)) (n:Nat) (i:FI):St:=⟨[(0,.own 0 n),(1,.func 101 [.ptr 1 0]),(5,.int .i64 i.w),(6,.int .i64 i.k)],[(0,.row 49 7 n (wac i.h) false),(1,.cells [.map 2] 132),(2,.amap es)],3,[]⟩
def woj (es:List (AV×AV)) (g:Nat→FL) (n i0:Nat):war:=fun st Q=>canonIs te 3 [0,1,5,6] st (wmy es n ⟨i0+1,i0,g⟩)∧(i0<n∧n≤1000)∧(∀ i,i<n→(g i).Rg)∧EsV es∧(∀ j,j<i0→qV es (g j)=false)∧qV es (g i0)=true∧
 ∀ (w:Nat) (h:Nat→FL),w≤n→lst h w=kfL (qV es) g n→Q (.exit 0) ⟨[(0,.own 0 n),(5,.int .i64 w)],[(0,.row 49 7 n (wac h) false),(1,.cells [.map 2] 132),(2,.amap es)],3,[]⟩
def edG (L:List FL) (j:Nat):MG:=edM (atF L j)
def selG (L:List FL) (k:Nat):List FL:=selK (fun i=> !cfB L i) L k
def selB (L:List FL) (k:Nat):List FL:=selK (cfB L) L k
def S_s4 (L:List FL) (k:Nat):St:=⟨[(4,.nil),(5,.nil),(6,.own 0 L.length),(7,.map 1),(17,.own 0 L.length),(18,.int .i64 L.length),(19,.int .i64 k)],[(0,.row 49 7 L.length (wac (atF L)) false),(1,.amap (entM (cntL (edG L) k)))],2,[]⟩
def L_s4 (L:List FL):war:=fun st Q=>canonIs te 0 [4,5,6,7,17,18,19] st (S_s4 L 0)∧L.length≤1000∧Q (.exit 0) ⟨[(4,.nil),(5,.nil),(6,.own 0 L.length),(7,.map 1)],[(0,.row 49 7 L.length (wac (atF L)) false),(1,.amap (entM (cntL (edG L) L.length)))],2,[]⟩
def S_s6 (E:List ((List UInt8×Int)×Int)) (F:FL) (L:List FL) (k:Nat):St:=⟨[(4,.nil),(5,.nil),(6,.own 0 L.length),(7,.map 1),(9,.ptr 2 0),(17,.own 0 L.length),(18,.int .i64 L.length),(19,.int .i64 k)],
 [(0,.row 49 7 L.length (wac (atF L)) false),(1,.amap (entM E)),(2,.cells [.str F.id,.int .i64 F.ver,.int .i64 F.day,.int .i64 F.kind,.view 15 F.ms.length (wag (atM F.ms)),.view 5 F.rs.length (wai (atR F.rs)),.view 5 F.ts.length (wah (atT F.ts))] 49)],3,[]⟩
def S_s6b (E:List ((List UInt8×Int)×Int)) (F:FL) (L:List FL) (k:Nat):St:=⟨[(4,.nil),(5,.nil),(6,.own 0 L.length),(7,.map 1),(9,.ptr 2 0),(17,.own 0 L.length),(18,.int .i64 L.length),(19,.int .i64 k),(23,.map 1),(28,.agg [.str F.id,.int .i64 F.ver])],
 [(0,.row 49 7 L.length (wac (atF L)) false),(1,.amap (entM E)),(2,.cells [.str F.id,.int .i64 F.ver,.int .i64 F.day,.int .i64 F.kind,.view 15 F.ms.length (wag (atM F.ms)),.view 5 F.rs.length (wai (atR F.rs)),.view 5 F.ts.length (wah (atT F.ts))] 49)],3,[]⟩
def L_s6 (E:List ((List UInt8×Int)×Int)) (F:FL) (L:List FL) (k:Nat):war:=fun st Q=>canonIs te 0 [4,5,6,7,9,17,18,19] st (S_s6 E F L k)∧(E.map Prod.fst).Nodup∧inR .i64 (getC E (mk2 (edM F))+1)∧Q .normal (S_s6 (addC E (mk2 (edM F))) F L k)
def S_s9 (L:List FL) (k:Nat):St:=⟨[(4,.own 0 (selG L k).length),(5,.own 1 (selB L k).length),(7,.map 2),(34,.own 3 L.length),(35,.int .i64 L.length),(36,.int .i64 k)],
 [(0,.row 49 7 (selG L k).length (wac (atF (selG L k))) false),(1,.row 49 7 (selB L k).length (wac (atF (selB L k))) false),(2,.amap (entM (cntL (edG L) L.length))),(3,.row 49 7 L.length (wac (atF L)) false)],4,[]⟩
def L_s9 (L:List FL):war:=fun st Q=>canonIs te 0 [4,5,7,34,35,36] (ownNil 4 49 7 (ownNil 5 49 7 st)) (S_s9 L 0)∧L.length≤1000∧
 Q (.exit 2) ⟨[(4,.own 0 (wbm L).length),(5,.own 1 (badL L).length)],[(0,.row 49 7 (wbm L).length (wac (atF (wbm L))) false),(1,.row 49 7 (badL L).length (wac (atF (badL L))) false)],2,[]⟩
def wg8:Spec
 |[.view 7 n f,.int .i64 d],[]=>some (.tuple [.own 0 (wbm (knwL okV (flOf f) n d)).length,.own 1 (badL (knwL okV (flOf f) n d)).length],
   [(0,.row 49 7 (wbm (knwL okV (flOf f) n d)).length (wac (atF (wbm (knwL okV (flOf f) n d)))) false),(1,.row 49 7 (badL (knwL okV (flOf f) n d)).length (wac (atF (badL (knwL okV (flOf f) n d)))) false)],n≤1000∧f=wac (flOf f)∧∀ i,i<n→(flOf f i).Gd)
 |_,_=>none
def idK (G:List FL):Nat→List (List UInt8)
 |0=>[]
 |k+1=>bif !decide ((atF G k).kind=1) && !decide ((atF G k).id∈idK G k) then idK G k++[(atF G k).id] else idK G k
def nwE (G:List FL) (k:Nat):List (AV×AV):=entI (idK G k) fun t=>nwF G t k
def S_v4 (G:List FL) (k:Nat):St:=⟨[(5,.own 0 G.length),(7,.ptr 1 0),(17,.own 0 G.length),(18,.int .i64 G.length),(19,.int .i64 k)],[(0,.row 49 7 G.length (wac (atF G)) false),(1,.cells [.map 2] 132),(2,.amap (nwE G k))],3,[]⟩
def L_v4 (G:List FL):war:=fun st Q=>canonIs te 0 [5,7,17,18,19] st (S_v4 G 0)∧G.length≤1000∧(∀ F∈G,0≤F.ver)∧Q (.exit 0) ⟨[(5,.own 0 G.length),(7,.ptr 1 0)],[(0,.row 49 7 G.length (wac (atF G)) false),(1,.cells [.map 2] 132),(2,.amap (nwE G G.length))],3,[]⟩
def S_conf:Spec
 |[.view 7 n f,.int .i64 d],[]=>some (.own 0 (cfL okV (flOf f) n d).length,[(0,.row 49 7 (cfL okV (flOf f) n d).length (wac (atF (cfL okV (flOf f) n d))) false)],n≤1000∧f=wac (flOf f)∧∀ i,i<n→(flOf f i).Gd)
 |_,_=>none
def awR:RW:=⟨[111],[57,54,51,56,53,48,55,52],5,2,300⟩
def awFl:FL:=⟨[97],1,10,2,[],[awR],[]⟩
def FM (f:Nat→List AV) (n:Nat):Prop:=(∀ i,i<n→f i=wac (flOf f) i)∧∀ i,i<n→(flOf f i).Gd
def wlh:Spec
 |[.own 0 n,.int .i64 d],[.row _ 7 m f _]=>some (.view 7 (vwL okV (flOf f) n d).length (wac (atF (vwL okV (flOf f) n d))),[],n=m∧n≤1000∧FM f n)
 |_,_=>none
def wlg:Spec
 |[.view 7 n f,.int .i64 d],[]=>some (.view 7 (vwL okV (flOf f) n d).length (wac (atF (vwL okV (flOf f) n d))),[],n≤1000∧f=wac (flOf f)∧∀ i,i<n→(flOf f i).Gd)
 |_,_=>none
def S_awc:St:=⟨[(0,.bool false),(1,.ptr 0 0)],[(0,.cells [.str awFl.id,.int .i64 awFl.ver,.int .i64 awFl.day,.int .i64 awFl.kind,.view 15 awFl.ms.length (wag (atM awFl.ms)),.view 5 awFl.rs.length (wai (atR awFl.rs)),.view 5 awFl.ts.length (wah (atT awFl.ts))] 49)],1,[]⟩
def S_aw0:St:=⟨[(0,.bool false),(1,.ptr 0 0)],[(0,.cells [.str [97],.int .i64 1,.int .i64 10,.int .i64 2,.view 15 0 (wag (atM [])),.own 1 1,.view 5 0 (wah (atT []))] 49),(1,.row 61 5 1 (wai (atR [awR])) false)],2,[]⟩
def won:war:=fun st Q=>canonIs te 0 [0,1] (nilVP 1 4 15 (wag (atM [])) (nilVP 1 6 5 (wah (atT [])) st)) S_aw0∧Q .normal ⟨[(0,.bool true)],[],0,[]⟩
def wna:Spec
 |[],[]=>some (.bool true,[],True)
 |_,_=>none
def wm3:Spec
 |[.view 7 n f,.int .i64 d],[]=>some (.view 7 (cfL okV (flOf f) n d).length (wac (atF (cfL okV (flOf f) n d))),[],n≤1000∧f=wac (flOf f)∧∀ i,i<n→(flOf f i).Gd)
 |_,_=>none
structure FL.Ri (F:FL):Prop where
 ver:inR .i64 F.ver
 day:inR .i64 F.day
 kind:inR .i64 F.kind
 m:∀ m∈F.ms,m.Rg
 r:∀ r∈F.rs,r.Rg
 t:∀ t∈F.ts,inR .i64 t.per∧inR .i64 t.st∧∀ b∈t.bs,inR .i64 b.up∧inR .i64 b.pr
structure FuS where
 k:Nat
 M:List FL
 a:Int
def wms (n:Nat) (v:Nat→Int) (A:List FL) (lb:Nat) (d:Int) (i:FuS):St:=⟨[(3,.ptr 0 0),(4,.own 1 A.length),(5,.own 2 lb),(6,.int .i64 d),(20,.int .i64 lb),(21,.int .i64 i.k)],
 [(0,.cells [.view 1 n (waa v),.int .i64 i.a] 27),(1,.row 49 7 A.length (wac (atF A)) false),(2,.row 49 7 lb (wac (atF i.M)) false)],3,[]⟩
def woe (n:Nat) (v:Nat→Int):war:=fun s Q=>∃ (A B:List FL) (d a:Int),canonIs te 0 [3,4,5,6,20,21] s (wms n v A B.length d ⟨0,B,a⟩)∧A.length≤8∧B.length≤8∧(∀ F∈A,F.Tn)∧(∀ F∈B,F.Tn)∧(0≤d∧d≤100000)∧(0≤a∧a≤4611686018427365000)∧
 ∀ M:List FL,M.length=B.length→(∀ F∈M,F.Tn)→(∀ F∈M,d<F.day)→
  Q (.exit 0) ⟨[(4,.own 0 A.length),(5,.own 1 M.length),(6,.int .i64 d)],[(0,.row 49 7 A.length (wac (atF A)) false),(1,.row 49 7 M.length (wac (atF M)) false)],2,[]⟩
def wrc (A X:List FL) (d:Int):St:=⟨[(4,.own 0 A.length),(6,.int .i64 d),(8,.own 1 X.length)],[(0,.row 49 7 A.length (wac (atF A)) false),(1,.row 49 7 X.length (wac (atF X)) false)],2,[]⟩
def wmt (A X:List FL) (d:Int) (k:Nat):St:=⟨[(4,.view 7 A.length (wac (atF A))),(6,.int .i64 d),(8,.view 7 X.length (wac (atF X)))],[],k,[]⟩
def wof:war:=fun s Q=>∃ (A M:List FL) (d:Int),canonIs te 0 [4,6,8] s (wrc A (M++A) d)∧A.length≤8∧M.length≤8∧(∀ F∈A,F.Tn)∧(∀ F∈M,F.Tn)∧(∀ F∈M,d<F.day)∧Q .normal ⟨[(2,.bool true)],[],0,[]⟩
end Go.Eng
namespace Go.Proofs
open Go.RowKit
theorem Tryz.sizeBuilder:(Tryz.prog.info? 109).map (·.size)=some 2:=by kernel_rfl
theorem Tryz.liesWords:liesAt Tryz.prog Tryz.prog.depth 111 1 0 109 1=true:=by kernel_rfl
theorem Tryz.cellsWords:Tryz.prog.cellsOf 111=2:=by kernel_rfl
theorem Tryz.und106:Tryz.prog.underlying 106=some (.pointer 109):=by kernel_rfl
theorem Tryz.und220:Tryz.prog.underlying 220=some .unsafePointer:=by kernel_rfl
set_option maxHeartbeats 1000000 in
set_option maxRecDepth 100000 in
theorem Tryz.copyCheck_used (b:Nat) (w:World) (h0:w.cell? ⟨b,0,none⟩=some (.pointer (some ⟨b,0,none⟩))):
  Calls Tryz.prog 164 #[.pointer (some ⟨b,0,none⟩)] w fun e w'=>e= .returned (.tuple #[])∧w'=w:=by
 obtain ⟨j,hj,_⟩:=Option.map_eq_some_iff.1 Tryz.sizeBuilder
 go_enter Tryz.func164,Tryz.ntmps164
 go_wp2
 rw [Lib.run_neq_ptr_same w _ Tryz.und106 hj]
 go_wp2
 go_end0
 exact ⟨rfl,rfl⟩
set_option maxHeartbeats 1000000 in
set_option maxRecDepth 100000 in
theorem Tryz.copyCheck_fresh (b:Nat) (w:World) (h0:w.cell? ⟨b,0,none⟩=some (.pointer none)) (hsh:w.shape? b=some (111,2)) (hfz:w.frozen? ⟨b,0,none⟩=false):
  Calls Tryz.prog 164 #[.pointer (some ⟨b,0,none⟩)] w fun e w'=>e= .returned (.tuple #[])∧w'=w.setCell ⟨b,0,none⟩ (.pointer (some ⟨b,0,none⟩)):=by
 obtain ⟨j,hj,hjs⟩:=Option.map_eq_some_iff.1 Tryz.sizeBuilder
 go_enter Tryz.func164,Tryz.ntmps164
 go_wp2
 rw [Lib.run_to_unsafe w ⟨b,0,none⟩ Tryz.und106 Tryz.und220 hj (by rw [hjs];decide) hsh (Nat.zero_lt_succ 1)]
 simp only [Result.andThen]
 rw [Oper.upon_value]
 go_wp2
 rw [run_callFunc_extern Tryz.func203 (by kernel_rfl) (by kernel_rfl) (by kernel_rfl) (e:=Extern.AbiNoEscape.same) (by kernel_rfl)]
 rw [Lib.run_noEscape]
 simp only [Result.andThen]
 rw [Oper.upon_value]
 go_wp2
 rw [Lib.run_from_unsafe w ⟨b,0,none⟩ Tryz.und220 Tryz.und106 hj hsh (by rw [Tryz.cellsWords];exact Tryz.liesWords)]
 simp only [Result.andThen]
 rw [Oper.upon_value]
 go_wp2
 go_end0
 exact ⟨rfl,rfl⟩
end Go.Proofs
namespace Go.Eng
open Go.Proofs Go.RowKit Go.Sort
variable {C:Ctx} [C.Loose]
set_option maxRecDepth 20000
theorem wv2 (w:World) (k:Nat) (os:Array Obj):Below w.heap.size w (grow (w.drewN k) os):=
 ⟨rfl,rfl,rfl,by simp [grow,World.drewN],fun i hi=>by
  show (w.heap++os)[i]?=_
  rw [Array.getElem?_append_left hi]⟩
theorem wpf {w:World} {M:Nat→Prop} {bs:Nat→Option Hd} {v:Value} {r off:Nat} (h:V w M bs v (.ptr r off)):∃ b c,v= .pointer (some ⟨b,off,none⟩)∧bs r=some (.blk b c):=by
 cases h with | ptr hb=>exact ⟨_,_,rfl,hb⟩
theorem ccUsed (hP:C.P=Tryz.prog) {args:List AV} {objs:List AObj} {cs:List AV} {t:TypeId} (ha:args=[.ptr 0 0]) (ho:objs[0]?=some (.cells (.ptr 0 0::cs) t)):wal C 164 args objs fun u O=>u= .tuple []∧O=enum 0 objs:=by
 have _:C.Loose:=inferInstance
 subst ha
 refine wal.quiet ⟨_,hP ▸ Tryz.func164,rfl,by decide⟩ fun E bs w cargs hW hl hv=>?_
 obtain ⟨a,rfl⟩:=mem1 hl
 have V0:=hv 0 _ _ rfl rfl
 obtain ⟨b,x,rfl,hx,hxV⟩:=WRep.cell hW (r:=0) (by simpa [lkL] using ho) V0 (j:=0) (u:=.ptr 0 0) rfl
 obtain ⟨b1,c1,rfl,hb1⟩:=wpf hxV
 obtain ⟨b2,c2,e2,hb2⟩:=wpf V0
 rw [hb1] at hb2
 injection hb2 with hb2
 injection hb2 with e3 e4
 subst e3
 injection e2 with e2
 injection e2 with e2
 injection e2 with e2
 subst e2
 rw [hP]
 refine (Tryz.copyCheck_used b w hx).mono ?_
 rintro e w' ⟨rfl,rfl⟩
 exact ⟨_,rfl,rfl,.tuple rfl (fun j v u hv hu=>by simp at hu)⟩
theorem ccFresh (hP:C.P=Tryz.prog):wal C 164 [.ptr 0 0] [.cells [.nilptr,.nil] 111] fun u O=>u= .tuple []∧O=[(0,.cells [.ptr 0 0,.nil] 111)]:=by
 have _:C.Loose:=inferInstance
 refine ⟨⟨_,hP ▸ Tryz.func164,rfl,by decide⟩,fun E bs w cargs h1 h2 h3 hW h5 h6 h7=>?_⟩
 obtain ⟨a,rfl⟩:=mem1 h6
 have V0:=h7 0 _ _ rfl rfl
 obtain ⟨b,c,vs,k1,k2,k3,k4,k5⟩:=hW.obj 0 _ rfl
 obtain ⟨x,y,rfl⟩:∃ x y,vs=#[x,y]:=by
  have k3:vs.size=2:=k3
  exact ⟨vs[0],vs[1],by
   apply Array.ext
   ·simpa using k3
   ·intro i hi1 hi2
    match i,hi2 with
    |0,_=>rfl
    |1,_=>rfl⟩
 have hx:=k5 0 x .nilptr rfl rfl
 have hy:=k5 1 y .nil rfl rfl
 cases hx
 cases hy
 obtain ⟨b',c',rfl,hb⟩:=wpf V0
 rw [k1] at hb
 injection hb with hb
 injection hb with e1 e2
 subst e1;subst e2
 ·rw [hP]
  refine (Tryz.copyCheck_fresh b w (by rw [cell_of_row w b 0 _ _ (0,0) k2];rfl) (by simp [World.shape?,k2]) (by simp [World.frozen?,k2])).mono ?_
  rintro e w' ⟨rfl,rfl⟩
  have hm:(AObj.cells [.nilptr,.nil] 111).mut=true:=rfl
  have hheap:(w.setCell ⟨b,0,none⟩ (.pointer (some ⟨b,0,none⟩))).heap[b]?=some (.cells #[.pointer (some ⟨b,0,none⟩),.slice none 0 0] 111 (0,0)):=by
   simp [World.setCell,Array.getElem?_modify,k2]
  obtain ⟨g1,g2⟩:=hW.modify (x:=0) rfl hm k1 (w':=w.setCell ⟨b,0,none⟩ (.pointer (some ⟨b,0,none⟩))) (fun k hk=>by simp [World.setCell,Array.getElem?_modify,Ne.symm hk]) (by simp [World.setCell]) rfl ⟨rfl,fun _=>Nat.le_refl _⟩ rfl (o:=.cells [.ptr 0 0,.nil] 111) rfl
   (fun hS=>⟨b,c,_,k1,hheap,rfl,fun j v hv=>by
    match j with
    |0=>obtain rfl:=Option.some.inj hv;rfl
    |1=>obtain rfl:=Option.some.inj hv;rfl
    |j+2=>simp at hv,fun j v u hv hu=>by
    match j with
    |0=>obtain rfl:=Option.some.inj hv;obtain rfl:=Option.some.inj hu;exact .ptr k1
    |1=>obtain rfl:=Option.some.inj hv;obtain rfl:=Option.some.inj hu;exact .nil
    |j+2=>simp at hv⟩)
  have e2:up (lkL [AObj.cells [.nilptr,.nil] 111]) 0 (.cells [.ptr 0 0,.nil] 111)=lk [(0,.cells [.ptr 0 0,.nil] 111)]:=by
   funext i
   rw [wa1]
   by_cases h:(0:Nat)=i
   ·subst h;rw [wau,if_pos rfl]
   ·rw [wat _ _ _ h,if_neg h]
    cases i with
    |zero=>exact absurd rfl h
    |succ i=>simp [lkL,lk]
  rw [e2] at g2
  refine ⟨_,.tuple [],[(0,.cells [.ptr 0 0,.nil] 111)],bs,rfl,⟨rfl,rfl⟩,g2,.tuple rfl (fun j v u hv hu=>by simp at hu),fun r hr=>⟨?_,h5 r (by show 1≤r;have:1+16≤r:=hr;omega)⟩⟩
  have:1+16≤r:=hr
  rw [wa1,if_neg (by show ¬ 0=r;omega)];rfl
theorem cc_ok (hP:C.P=Tryz.prog):waf C 164 S_cc:=by
 rintro args objs U Os vc h hvc
 unfold S_cc at h
 split at h<;>simp only [Option.some.injEq,Prod.mk.injEq,reduceCtorEq] at h
 ·rename_i t
  obtain ⟨rfl,rfl,rfl⟩:=h
  have hvc:t=_:=hvc
  subst hvc
  exact ccFresh hP
 ·rename_i n t t8 m f
  obtain ⟨rfl,rfl,rfl⟩:=h
  have hvc:t=_:=hvc
  subst hvc
  exact ccUsed hP rfl rfl
theorem wkk (hP:C.P=Tryz.prog) (hL:∀ w,C.laid w→LaidW w):waf C 134 wed:=by
 rintro args objs U Os vc h hvc
 unfold wed at h
 split at h<;>simp only [Option.some.injEq,Prod.mk.injEq,reduceCtorEq] at h
 rename_i n
 obtain ⟨rfl,rfl,rfl⟩:=h
 have hr:inR .i64 n:=hvc
 simp only [inR] at hr
 refine wal.below ⟨_,hP ▸ Tryz.func134,rfl,by decide⟩ fun w M cargs hlaid _ hM hl hv=>?_
 obtain ⟨a,b,rfl⟩:∃ a b,cargs=[a,b]:=by
  match cargs,hl with
  |[a,b],_=>exact ⟨a,b,rfl⟩
 have e1:=(hv 0 _ _ rfl rfl).int_iff
 have e2:=(hv 1 _ _ rfl rfl).int_iff
 subst e1;subst e2
 rw [hP]
 refine (Tryz.strconv_FormatInt_10 n (by omega) (by omega) w (hL w hlaid).pow).mono ?_
 rintro e w' ⟨rfl,k,os,rfl⟩
 exact ⟨_,rfl,wv2 _ _ _,.str (by simp)⟩
theorem wkb (hP:C.P=Tryz.prog) (hL:∀ w,C.laid w→LaidW w):waf C 133 wco:=by
 rintro args objs U Os vc h hvc
 unfold wco at h
 split at h<;>simp only [Option.some.injEq,Prod.mk.injEq,reduceCtorEq] at h
 rename_i n
 obtain ⟨rfl,rfl,rfl⟩:=h
 have hr:inR .i64 n:=hvc
 simp only [inR] at hr
 refine wal.below ⟨_,hP ▸ Tryz.func133,rfl,by decide⟩ fun w M cargs hlaid _ hM hl hv=>?_
 obtain ⟨a,rfl⟩:=mem1 hl
 have e1:=(hv 0 _ _ rfl rfl).int_iff
 subst e1
 rw [hP]
 refine (Tryz.strconv_Itoa n (by omega) (by omega) w (hL w hlaid).pow).mono ?_
 rintro e w' ⟨rfl,k,os,rfl⟩
 exact ⟨_,rfl,wv2 _ _ _,.str (by simp)⟩
end Go.Eng
