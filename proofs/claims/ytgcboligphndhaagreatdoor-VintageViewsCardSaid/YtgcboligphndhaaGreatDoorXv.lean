/- Changed: the loops' states. -/
import Derived.Test.YtgcboligphndhaaGreatDoorXu
namespace Go.Eng
open Go.RowKit
def allH(A:List Nat):List Nat->Bool
 |[]=>true
 |i::l=>match hasN A i with
  |true=>allH A l
  |false=>false
theorem wsj{A:List Nat}:∀ {l:List Nat},allH A l=true↔∀i∈l,i∈A
 |[]=>by simp[allH]
 |i::l=>by
  unfold allH;have ih:=wsj (A:=A) (l:=l)
  cases h:hasN A i with
  |true=>
   dsimp only
   rw[ih]
   constructor
   ·intro h' j hj
    rcases List.mem_cons.1 hj with rfl | hj
    ·exact(wbo _ _).1 h
    ·exact h' j hj
   ·exact λh' j hj=>h' j (List.mem_cons_of_mem _ hj)
  |false=>
   refine⟨λh=>(by cases h),λh'=>?_⟩;rw[(wbo _ _).2 (h' i (List.mem_cons_self ..))] at h;cases h
def wiv(T:List (Nat×AV)):List Nat->List (Nat×AV)
 |[]=>[]
 |j::F=>match lk T j with
  |some u=>(j,u)::wiv T F
  |none=>wiv T F
theorem wrf{T:List (Nat×AV)}:∀ {F:List Nat} {j:Nat} {u:AV},lk (wiv T F) j=some u->lk T j=some u
 |[],j,u,h=>by cases h
 |i::F,j,u,h=>by
  unfold wiv at h;split at h
  ·rename_i v hv;rw[wa4] at h
   by_cases e:i=j
   ·subst e;rw[if_pos rfl] at h;rw[hv,h]
   ·rw[if_neg e] at h;exact wrf h
  ·exact wrf h
def weu(G:Env)(opl:List Oper)(A:List Nat)(K:KT):Nat->List Nat->KT
 |0,_,_,_,_=>False
 |fuel+1,done,T,O,nx=>match Nat.beq done.length A.length with
  |true=>match allH A done with
   |true=>match allH done A with
    |true=>K T O nx
    |false=>False
   |false=>False
  |false=>match rdyL done 0 opl with
   |[]=>False
   |p0::l=>allP (λp:Nat×Oper=>match p.2.guard with
    |none=>wp1 G p.2 T O nx (weu G opl A K fuel (p.1::done))
    |some _=>False) (p0::l)
theorem RepS.sub{C:Ctx}{E:Ent}{N:Nat}{T T':List (Nat×AV)}{O:List (Nat×AObj)}{nx:Nat}{bs:Nat->Option Hd}{a:Act}{w:World}(h:RepS C E N ⟨T,O,nx,[]⟩ bs a w)(hs:∀j u,lk T' j=some u->lk T j=some u):RepS C E N ⟨T',O,nx,[]⟩ bs a w:=
 ⟨⟨⟨h.1.1.1,h.1.1.2.1,λi u hu=>h.1.1.2.2 i u (hs i u hu)⟩,h.1.2⟩,h.2⟩
theorem wst{C:Ctx}{G:Env}(hG:EnvOK C G){m:Nat}{opl:List Oper}{A:List Nat}{K:KT}{Q:Exit->St->Prop}{E:Ent}(hE:E.m=m)
  (leaf:∀(listed:Array Bool) (T:List (Nat×AV)) (O:List (Nat×AObj)) (nx:Nat) (bs:Nat->Option Hd) (a:Act) (w:World),listed.size=opl.length->(∀i,listed.getD i false=true↔i∈A)->K T O nx->RepS C E G.N ⟨T,O,nx,[]⟩ bs a w->
   wpAny C.P .any opl.toArray (QC C E G.N Q) (opl.length - A.length) listed a w):∀(fuel:Nat) (done:List Nat) (listed:Array Bool) (T:List (Nat×AV)) (O:List (Nat×AObj)) (nx:Nat) (bs:Nat->Option Hd) (a:Act) (w:World),
  fuel+done.length=opl.length->listed.size=opl.length->(∀i,listed.getD i false=true↔i∈done)->weu G opl A K fuel done T O nx->RepS C E G.N ⟨T,O,nx,[]⟩ bs a w->wpAny C.P .any opl.toArray (QC C E G.N Q) fuel listed a w
 |0,done,listed,T,O,nx,bs,a,w,hf,hsz,hl,h,hr=>by
  unfold weu at h;exact h.elim
 |fuel+1,done,listed,T,O,nx,bs,a,w,hf,hsz,hl,h,hr=>by
  unfold weu at h;split at h
  ·rename_i hlen;have hlen:=Nat.eq_of_beq_eq_true hlen;split at h
   ·rename_i h1;split at h
    ·rename_i h2;have e:fuel+1=opl.length - A.length:=by omega
     rw[e];exact leaf listed T O nx bs a w hsz (λi=>(hl i).trans ⟨λq=>wsj.1 h1 i q,λq=>wsj.1 h2 i q⟩) h hr
    ·exact h.elim
   ·exact h.elim
  ·split at h
   ·exact h.elim
   ·rename_i p0 l hr0;unfold wpAny;refine⟨λq=>?_,λi hi=>?_⟩
    ·obtain⟨i0,o0⟩:=p0;have hm:(i0,o0)∈rdyL done 0 opl:=by rw[hr0];exact List.mem_cons_self ..
     obtain⟨i',h1,h2,_⟩:=wig.1 hm;obtain rfl:i0=i':=by omega
     have:=(wg3 hsz hl i0).2 ⟨o0,h2,hm⟩;rw[q] at this;cases this
    obtain⟨o,ho,hm⟩:=(wg3 hsz hl i).1 hi;rw[hr0] at hm;have hp:=wsh h _ hm;dsimp only at hp;have hilt:i<listed.size:=by rw[hsz];exact(List.getElem?_eq_some_iff.1 ho).1
    have hsz':(listed.setIfInBounds i true).size=opl.length:=by simp[hsz]
    have hl':∀j,(listed.setIfInBounds i true).getD j false=true↔j∈i::done:=λj=>by
     by_cases e:i=j
     ·subst e;simp[Array.getD,hilt]
     ·rw[getD_set_ne _ e,hl,List.mem_cons];exact⟨.inr,λh=>h.resolve_left λq=>e q.symm⟩
    split at hp
    ·rename_i hg;have:=wjt (m:=m) (ops:=opl.toArray) (rest:=[]) (Q:=wg5 (λs=>weu G opl A K fuel (i::done) s.T s.O s.nx) Q) hG hg hp (λT' O' nx' hK=>by
      intro E' hE' bs' a' w' hr';exact⟨⟨T',O',nx',[]⟩,bs',hK,hr'⟩) E hE bs a w hr
     have fin:∀a' w',QC C E G.N (wg5 (λs=>weu G opl A K fuel (i::done) s.T s.O s.nx) Q) .normal a' w'->wpAny C.P .any opl.toArray (QC C E G.N Q) fuel (listed.setIfInBounds i true) a' w':=by
      rintro a' w' ⟨⟨T',O',nx',d'⟩,bs',hK,hr'⟩;exact wst hG hE leaf fuel (i::done) _ T' O' nx' bs' a' w' (by rw[List.length_cons];omega) hsz' hl' hK hr'
     have other:∀e a' w',e≠Exit.normal->QC C E G.N (wg5 (λs=>weu G opl A K fuel (i::done) s.T s.O s.nx) Q) e a' w'->QC C E G.N Q e a' w':=by
      rintro e a' w' hne ⟨s,bs',hs,hr'⟩;refine⟨s,bs',?_,hr'⟩
      cases e with
      |normal=>exact absurd rfl hne
      |_=>exact hs
     unfold wpOp;have ho':opl.toArray[i]?=some o:=by simpa using ho
     rw[ho'];unfold wpList at this;dsimp only
     split
     ·rename_i hw;rw[if_pos hw] at this
      rcases this with h | ⟨h1,a',w',h2⟩
      ·exact .inl (wsp fin other h)
      ·exact .inr ⟨h1,a',w',other _ _ _ (by simp) h2⟩
     ·rename_i hw;rw[if_neg hw] at this;exact fin _ _ this
    ·exact hp.elim
def cutIs(F:List Nat)(SA:St):KT:=λT O nx=>wiv T F=SA.T/\O=SA.O/\nx=SA.nx
def rgA(G:Env)(x:Code)(A F:List Nat)(SA s:St):Prop:=match x with
 |.region _ ops true=>weu G ops.toList A (cutIs F SA) ops.toList.length [] s.T s.O s.nx
 |_=>False
def rgB(G:Env)(x:Code)(A Fe:List Nat)(Q:Exit->St->Prop)(SA:St):Prop:=match x with
 |.region _ ops true=>wet G ops.toList (Eng.canQ G.te G.m Fe [] Q .normal) (ops.toList.length - A.length) A SA.T SA.O SA.nx
 |_=>False
theorem AWP.cut{C:Ctx}{G:Env}(hG:EnvOK C G){m id:Nat}{opl:List Oper}{A F:List Nat}{SA:St}{Q:Exit->St->Prop}{T0:List (Nat×AV)}{O0:List (Nat×AObj)}{nx:Nat}{dec:List Nat}
  (h:weu G opl A (cutIs F SA) opl.length [] T0 O0 nx) (h2:wet G opl (Q .normal) (opl.length - A.length) A SA.T SA.O SA.nx):AWP C m G.N (.region id opl.toArray true) Q ⟨T0,O0,nx,dec⟩:=by
 intro E hE bs a w hr;have hS:Step w (MB E (lk O0) bs) bs { w with drawn:=w.drawn+1 } (MB E (lk O0) bs) bs/\WRep C E (lk O0) bs { w with drawn:=w.drawn+1 }:=by
  refine hr.1.2.next (λ_=>False) (λ_ _ h=>h) (λ_ _ _ h=>.inl h) (λ_ h=>h.elim) (λ_ _ _=>rfl) (lR7 _) (λ_ h=>.inl h) (λ_ _ _ h=>.inl ⟨h,λ_ _ _ h=>h⟩) hr.1.2.sep ?_ rfl ⟨rfl,λ_=>Nat.le_succ _⟩ rfl;intro r t sz n f b c ho hb;have:=hr.1.2.frz r t sz n f b c ho hb;exact⟨λh=>this (.inr h),λh=>this (.inl h)⟩
 refine wp_region_any C.mixed (wst hG hE (λlisted T O nx' bs' a' w' hsz hl hK hr'=>?_) _ [] _ T0 O0 nx bs a _ (by simp) (by simp) (λi=>by simp[Array.getD]) (by simpa using h) ⟨⟨hr.1.1.step hS.1,hS.2⟩,hr.2.1,hr.2.2⟩);obtain⟨k1,k2,k3⟩:=hK;subst k2;subst k3;refine wsr hG hE _ A listed SA.T SA.O SA.nx bs' a' w' hsz hl h2 ?_;rw[← k1];exact hr'.sub λj u hu=>wrf hu
theorem waj.cut{C:Ctx}{te:TE}(hte:Prg C te){m N:Nat}{x:Code}{s S SA:St}{Q:Exit->St->Prop}(calls:List (Nat×CSpec))(fuel:Nat)(hc:wdf C calls)(F Fe A FA:List Nat)
  (h0:canonIs te m F s S) (h:rgA ⟨te,calls,[],m,N,fuel⟩ x A FA SA S) (h2:rgB ⟨te,calls,[],m,N,fuel⟩ x A Fe Q SA) (hS:wck S.O True):AWP C m N x Q s:=by
 have hG:EnvOK C ⟨te,calls,[],m,N,fuel⟩:=⟨hte.ok,hte.one,hc⟩;have h1:AWP C m N x (Eng.canQ te m Fe [] Q) S:=by
  unfold rgA at h;split at h
  ·rename_i id ops;have:=AWP.cut (m:=m) (id:=id) (dec:=S.dec) hG h h2;simpa using this
  ·exact h.elim
 exact AWP.canonIs F h0 h1.canQ hS
end Go.Eng
namespace Go.Eng
def mapR(φ:AV->AV)(b:Bool):AObj->AObj
 |.cells cs t=>.cells (cs.map φ) t
 |.row t sz n f fr=>match b with
  |true=>.row t sz n (λi=>(f i).map φ) fr
  |false=>.row t sz n f fr
 |.amap es=>.amap es
 |.siter s pos=>.siter s pos
 |.miter m n0 left=>.miter m n0 left
 |.dead=>.dead
theorem wq3(φ:AV->AV)(b:Bool)(o:AObj):(mapR φ b o).mut=o.mut:=by
 cases o with
 |row t sz n f fr=>cases b<;>cases fr<;>rfl
 |_=>rfl
def mapO(φ:AV->AV)(rs:List Nat):List (Nat×AObj)->List (Nat×AObj)
 |[]=>[]
 |p::l=>(p.1,mapR φ (hasN rs p.1) p.2)::mapO φ rs l
theorem wio(φ:AV->AV)(rs:List Nat):∀(O:List (Nat×AObj)) (k:Nat),lk (mapO φ rs O) k=(lk O k).map (mapR φ (hasN rs k))
 |[],k=>rfl
 |p::l,k=>by
  rw[mapO,wa4,wa4]
  by_cases e:p.1=k
  ·subst e;rw[if_pos rfl,if_pos rfl];rfl
  ·rw[if_neg e,if_neg e];exact wio φ rs l k
theorem WRep.mapR{C:Ctx}{E:Ent}{O:Nat->Option AObj}{bs:Nat->Option Hd}{w:World}(hW:WRep C E O bs w)(φ:AV->AV)(hφ:∀v u,V w (MB E O bs) bs v u->V w (MB E O bs) bs v (φ u))(rs:List Nat):
  MB E (λk=>(O k).map (Eng.mapR φ (hasN rs k))) bs=MB E O bs/\WRep C E (λk=>(O k).map (Eng.mapR φ (hasN rs k))) bs w:=by
 have hold:∀r o,(O r).map (Eng.mapR φ (hasN rs r))=some o->∃o',O r=some o'/\o=Eng.mapR φ (hasN rs r) o':=λr o ho=>by
  obtain⟨o',h1,h2⟩:=Option.map_eq_some_iff.1 ho;exact⟨o',h1,h2.symm⟩
 have hmb:∀b,mutB (λk=>(O k).map (Eng.mapR φ (hasN rs k))) bs b->mutB O bs b:=λb ⟨r,o,c,h1,h2,h3⟩=>by
  obtain⟨o',q1,rfl⟩:=hold r o h1;exact⟨r,o',c,q1,by rw[← h2,wq3],h3⟩
 have hMB:MB E (λk=>(O k).map (Eng.mapR φ (hasN rs k))) bs=MB E O bs:=by
  funext b;apply propext
  constructor
  ·rintro(h | h)
   ·exact .inl h
   ·exact .inr (hmb b h)
  ·rintro(h | ⟨r,o,c,h1,h2,h3⟩)
   ·exact .inl h
   ·exact .inr ⟨r,Eng.mapR φ (hasN rs r) o,c,by simp[h1],by rw[wq3];exact h2,h3⟩
 refine⟨hMB,?_⟩
 exact {
  obj:=λr o ho=>by
   rw[hMB];obtain⟨o',h0,rfl⟩:=hold r o ho;have h:=hW.obj r o' h0
   cases o' with
   |cells cs t=>
    obtain⟨b,c,vs,h1,h2,h3,h4,h5⟩:=h;refine⟨b,c,vs,h1,h2,by rw[List.length_map];exact h3,h4,λj v u hv hu=>?_⟩;rw[List.getElem?_map] at hu;obtain⟨u0,q1,rfl⟩:=Option.map_eq_some_iff.1 hu;exact hφ v u0 (h5 j v u0 hv q1)
   |row t sz n f fr=>
    unfold Eng.mapR
    cases hasN rs r with
    |false=>exact h
    |true=>
     dsimp only
     rcases h with h | ⟨b,c,vs,h1,h2,h3,h4,h5,h6,h7,h8⟩
     ·exact .inl h
     ·refine .inr ⟨b,c,vs,h1,h2,h3,h4,h5,λi hi=>by rw[List.length_map];exact h6 i hi,h7,λi hi j v u hj hv hu=>?_⟩;rw[List.getElem?_map] at hu;obtain⟨u0,q1,rfl⟩:=Option.map_eq_some_iff.1 hu;exact hφ v u0 (h8 i hi j v u0 hj hv q1)
   |amap es=>exact h
   |siter s pos=>exact h
   |miter m n0 left=>exact h
   |dead=>exact h
  sep:=λr r' o1 o2 b c c' h1 h2 m1 m2 b1 b2=>by
   obtain⟨o1',p1,rfl⟩:=hold r o1 h1;obtain⟨o2',p3,rfl⟩:=hold r' o2 h2;rw[wq3] at m1 m2;exact hW.sep r r' o1' o2' b c c' p1 p3 m1 m2 b1 b2
  out:=λb hb=>hW.out b (hmb b hb)
  frz:=λr t' sz' n' f2 b c ho hb=>by
   rw[hMB];obtain⟨o',p1,p2⟩:=hold r _ ho
   cases o' with
   |row t sz n f fr=>
    unfold Eng.mapR at p2
    cases hq:hasN rs r with
    |false=>
     rw[hq] at p2;injection p2 with e1 e2 e3 e4 e5;subst e5;exact hW.frz r _ _ _ _ b c p1 hb
    |true=>
     rw[hq] at p2;injection p2 with e1 e2 e3 e4 e5;subst e5;exact hW.frz r _ _ _ _ b c p1 hb
   |_=>cases p2
  high:=λb hb=>hW.high b (by rw[← hMB];exact hb)
  lt:=hW.lt
  outlt:=hW.outlt
  keep:=hW.keep
  old:=λb hb=>hW.old b (hmb b hb)
  size:=hW.size
  pre:=hW.pre
  os:=hW.os
  tape:=hW.tape
  output:=hW.output
  laid:=hW.laid
  gle:=hW.gle }
def frzX(r:Nat)(rs:List Nat)(s:St):St:=match lk s.O r with
 |some (.row _ sz n g _)=>⟨frzT r sz n g s.T,mapO (frz r sz n g) rs (rm r s.O),s.nx,[]⟩
 |_=>s
theorem RepS.frzX{C:Ctx}{E:Ent}{N:Nat}{s:St}{bs:Nat->Option Hd}{a:Act}{w:World}(h:RepS C E N s bs a w)(r:Nat)(rs:List Nat)(hf:wgk r s):RepS C E N (Eng.frzX r rs s) bs a w:=by
 unfold Eng.frzX;unfold wgk at hf;split
 ·rename_i t sz n g fr hO;rw[hO] at hf;obtain⟨⟨hF,hW⟩,hnx,hm⟩:=h;obtain⟨hS,hW1⟩:=hW.freeze hO;have hF1:=hF.step hS;obtain⟨e2,hW2⟩:=hW1.mapR (Eng.frz r sz n g) (λv u hV=>V.frz hW1 (wav _ _ _) hf hV) rs;obtain⟨hS3,hW3⟩:=hW2.less (O':=lk (mapO (Eng.frz r sz n g) rs (rm r s.O))) λk o hk=>by
   rw[wio] at hk;obtain⟨o',q0,rfl⟩:=Option.map_eq_some_iff.1 hk;obtain⟨q1,q2⟩:=wfq r s.O k o' q0;show Option.map _ (up (lk s.O) r _ k)=_;rw[wat _ _ _ q1,q2];rfl
  refine⟨⟨⟨hF.1,hF.2.1,λi u hu=>?_⟩,hW3⟩,λk hk=>⟨?_,(hnx k hk).2⟩,hm⟩
  ·obtain⟨u0,h0,rfl⟩:=wq8 hu;obtain⟨v,hv,hV⟩:=hF1.2.2 i u0 h0;have hV2:=V.frzC hW1 (wav _ _ _) hf hV;rw[← e2] at hV2;exact⟨v,hv,hV2.step hS3⟩
  ·show lk (mapO _ rs (rm r s.O)) k=none;rw[wio]
   cases hx:lk (rm r s.O) k with
   |none=>rfl
   |some o=>
    have:=(wfq r s.O k o hx).2;rw[(hnx k hk).1] at this;cases this
 ·exact h
theorem AWP.frzX{C:Ctx}{m N:Nat}{c:Code}{Q:Exit->St->Prop}{s:St}(r:Nat)(rs:List Nat)(hf:wgk r s)(h:AWP C m N c Q (Eng.frzX r rs s)):AWP C m N c Q s:=by
 intro E hE bs a w hr;exact h E hE bs a w (hr.frzX r rs hf)
def BK.Rg(b:BK):Prop:=inR .i64 b.up/\inR .i64 b.pr
structure TfS where
 up:Int
 bs:List BK
 a:Int
def wjp(n:Nat)(v:Nat->Int)(N st:Int)(i:TfS):St:=⟨[(0,.ptr 0 0),(2,.ptr 1 0),(3,.ptr 2 0),(4,.q i.up),(9,.q N),(10,.q i.bs.length)],
 [(0,.cells [.view 1 n (wad v),.q i.a] 27),(1,.cells [.q 0,.nil] 95),(2,.cells [.q st,.own 3 i.bs.length] 95),(3,.row 115 2 i.bs.length (was (atB i.bs)) false)],4,[]⟩
def wd3(n:Nat)(v:Nat->Int)(a:Int):Nat->Int
 |0=>0
 |k+1=>wd3 n v a k+(1+wac n v (a+2 * k) 60)
def tarB(n:Nat)(v:Nat->Int)(a:Int):Nat->List BK
 |0=>[]
 |k+1=>tarB n v a k++[⟨wd3 n v a (k+1),wac n v (a+2 * k+1) 4 * 10⟩]
def tarL(n:Nat)(v:Nat->Int)(a:Int):List BK:=tarB n v (a+2) (wac n v (a+1) 4).toNat++[⟨0,wac n v (a+2+2 * wac n v (a+1) 4) 4 * 10⟩]
def tarA(n:Nat)(v:Nat->Int)(a:Int):Int:=a+2+2 * wac n v (a+1) 4+1
theorem wtb(n:Nat)(v:Nat->Int)(a:Int):∀k,(tarB n v a k).length=k
 |0=>rfl
 |k+1=>by rw[tarB,lA7,wtb n v a k];rfl
theorem wp7(n:Nat)(v:Nat->Int)(a:Int):∀k:Nat,0<=wd3 n v a k/\wd3 n v a k<=60 * k
 |0=>⟨Int.le_refl _,Int.le_refl _⟩
 |k+1=>by
  have:=wp7 n v a k;have r:=wax (show (1:Int)<=60 by omega) n v (a+2 * k);rw[wd3];omega
theorem wta(n:Nat)(v:Nat->Int)(a:Int):∀k,k<=1000->∀b∈tarB n v a k,b.Rg
 |0,_,b,hb=>by cases hb
 |k+1,hk,b,hb=>by
  rw[tarB] at hb
  rcases List.mem_append.1 hb with hb | hb
  ·exact wta n v a k (by omega) b hb
  ·rw[List.mem_singleton.1 hb];have:=wp7 n v a (k+1);have r:=wax (show (1:Int)<=4 by omega) n v (a+2 * k+1)
   constructor
   ·show inR .i64 (wd3 n v a (k+1));simp only[inR];omega
   ·show inR .i64 (wac n v (a+2 * k+1) 4 * 10);simp only[inR];omega
theorem wyh(n:Nat)(v:Nat->Int)(a:Int):(tarL n v a).length<=10/\(∀b∈tarL n v a,b.Rg)/\(a<=tarA n v a/\tarA n v a<=a+12):=by
 have r:=wax (show (1:Int)<=4 by omega) n v (a+1);have r2:=wax (show (1:Int)<=4 by omega) n v (a+2+2 * wac n v (a+1) 4);refine⟨?_,λb hb=>?_,?_⟩
 ·unfold tarL;rw[lA7,wtb];show _+1<=10;omega
 ·unfold tarL at hb
  rcases List.mem_append.1 hb with hb | hb
  ·exact wta n v _ _ (by omega) b hb
  ·rw[List.mem_singleton.1 hb]
   constructor
   ·show inR .i64 0;simp only[inR];omega
   ·show inR .i64 (wac n v (a+2+2 * wac n v (a+1) 4) 4 * 10);simp only[inR];omega
 ·unfold tarA;omega
def woq(n:Nat)(v:Nat->Int)(a N st:Int):wao:=λs Q=>canonIs te 1 [0,2,3,4,9,10] (ownNilP 3 1 115 2 s) (wjp n v N st ⟨0,[],a⟩)/\(0<=N/\N<=3)/\(0<=a/\a<=4611686018427375000)/\
 ∀i:TfS,(i.bs.length:Int)=N->i.a=a+2 * N->i.bs=tarB n v a N.toNat->
  Q (.exit 0) ⟨[(0,.ptr 0 0),(2,.ptr 1 0),(3,.ptr 2 0)],(wjp n v N st i).O,4,[]⟩
def wme:Spec
 |[.ptr 0 0],[.cells [.view sz n f,.int .i64 a] t]=>some (.agg [.q (wac n (vInt f) a 500),.view 2 (tarL n (vInt f) a).length (was (atB (tarL n (vInt f) a)))],
   [(0,.cells [.view 1 n f,.q (tarA n (vInt f) a)] 27)],t=27/\sz=1/\f=wad (vInt f)/\(0<=a/\a<=4611686018427370000))
 |_,_=>none
def S_fl(n:Nat)(v:Nat->Int)(a:Int)(id:List UInt8)(ver day kind:Int)(ms:List MG)(rs:List RW)(ts:List RT):St:=⟨[(0,.ptr 0 0),(2,.ptr 1 0),(3,.ptr 2 0)],
 [(0,.cells [.view 1 n (wad v),.q a] 27),(1,.cells [.str [],.q 0,.q 0,.q 0,.nil,.nil,.nil] 49),
  (2,.cells [.str id,.q ver,.q day,.q kind,.own 3 ms.length,.own 4 rs.length,.own 5 ts.length] 49),
  (3,.row 40 15 ms.length (waf (atM ms)) false),(4,.row 61 5 rs.length (wah (atR rs)) false),(5,.row 97 5 ts.length (wag (atT ts)) false)],6,[]⟩
def wpm(n:Nat)(v:Nat->Int)(a:Int)(id:List UInt8)(ver day kind:Int):wao:=λs Q=>
 canonIs te 1 [0,2,3] (ownNilP 3 6 97 5 (ownNilP 3 5 61 5 (ownNilP 3 4 40 15 s))) (S_fl n v a id ver day kind [] [] [])/\
 Q .normal ⟨[(0,.ptr 0 0),(2,.ptr 1 0),(3,.ptr 2 0),(20,.q kind)],(S_fl n v a id ver day kind [] [] []).O,6,[]⟩
def fidF(i:Int):List UInt8:=List.getD [[102],[103],[104]] i.toNat []
structure FiS where
 ts:List RT
 a:Int
def wnr(n:Nat)(v:Nat->Int)(id:List UInt8)(ver day kind N:Int)(i:FiS):St:=⟨[(0,.ptr 0 0),(2,.ptr 1 0),(3,.ptr 2 0),(35,.q N),(36,.q i.ts.length)],(S_fl n v i.a id ver day kind [] [] i.ts).O,6,[]⟩
def wpl(n:Nat)(v:Nat->Int)(a:Int)(id:List UInt8)(ver day kind N:Int):wao:=λs Q=>canonIs te 1 [0,2,3,35,36] s (wnr n v id ver day kind N ⟨[],a⟩)/\(0<=N/\N<=2)/\(0<=a/\a<=4611686018427365000)/\
 ∀i:FiS,i.ts.length<=2->(a<=i.a/\i.a<=a+40)->(∀t∈i.ts,t.Tn)->Q (.exit 1) ⟨[(0,.ptr 0 0),(2,.ptr 1 0),(3,.ptr 2 0)],(S_fl n v i.a id ver day kind [] [] i.ts).O,6,[]⟩
structure FL.Low (F:FL):Prop where
 id:F.id.length<=24
 m:F.ms.length<=4
 r:F.rs.length<=4
 t:F.ts.length<=2
 ver:1<=F.ver/\F.ver<=3
 kind:1<=F.kind/\F.kind<=3
 day:43860<=F.day/\F.day<=43865
def woh:wcc
 |[.ptr 0 0],[.cells [.view sz n f,.int .i64 a] t],R=>t=27/\sz=1/\f=wad (vInt f)/\(0<=a/\a<=4611686018427360000)/\
   ∀(F:FL) (a':Int),F.Tn->F.ms.length<=4->F.rs.length<=4->F.ts.length<=2->FL.Low F->(a<=a'/\a'<=a+1100)->
   R (.agg [.str F.id,.q F.ver,.q F.day,.q F.kind,.own 1 F.ms.length,.own 2 F.rs.length,.own 3 F.ts.length]) [(0,.cells [.view 1 n f,.q a'] 27),
    (1,.row 40 15 F.ms.length (waf (atM F.ms)) false),(2,.row 61 5 F.rs.length (wah (atR F.rs)) false),(3,.row 97 5 F.ts.length (wag (atT F.ts)) false)]
 |_,_,_=>False
def wh2:wcc
 |[.ptr 0 0],[.cells [.view sz n f,.int .i64 a] t],R=>t=27/\sz=1/\f=wad (vInt f)/\(0<=a/\a<=4611686018427360000)/\
   ∀(F:FL) (a':Int),F.Tn->FL.Low F->(a<=a'/\a'<=a+1100)->
   R (.agg [.str F.id,.q F.ver,.q F.day,.q F.kind,.view 15 F.ms.length (waf (atM F.ms)),.view 5 F.rs.length (wah (atR F.rs)),.view 5 F.ts.length (wag (atT F.ts))]) [(0,.cells [.view 1 n f,.q a'] 27)]
 |_,_,_=>False
def wdv(st x:Int):Int:=bif decide (st=3) || decide (st=4) then 0 else x
def wd2(st:Int)(p q:List UInt8):List UInt8:=bif decide (st=5) then (bif decide (q=p) then idF 4 else q) else []
def wev(st a:Int):Int:=bif decide (st=3) || decide (st=4) then a else bif decide (st=5) then a+1+1 else a+1
def wfb(n:Nat)(v:Nat->Int)(a:Int):Int:=1+List.getD [(0:Int),0,0,1,2,3,4] (wac n v (a+1+1+1+1) 7).toNat 0
def visV(n:Nat)(v:Nat->Int)(a:Int):VT:=⟨outF (wac n v a 3),idF (wac n v (a+1) 4),1440+wac n v (a+1+1) 4,43830+wac n v (a+1+1+1) 100,wfb n v a,
 wdv (wfb n v a) (100+wac n v (a+1+1+1+1+1) 4 * 5),wd2 (wfb n v a) (idF (wac n v (a+1) 4)) (idF (wac n v (a+1+1+1+1+1+1) 4))⟩
def visA(n:Nat)(v:Nat->Int)(a:Int):Int:=wev (wfb n v a) (a+1+1+1+1+1)
def wl7:Spec
 |[.ptr 0 0],[.cells [.view sz n f,.int .i64 a] t]=>some (.agg [.str (visV n (vInt f) a).o,.str (visV n (vInt f) a).p,.q (visV n (vInt f) a).per,.q (visV n (vInt f) a).day,.q (visV n (vInt f) a).st,.q (visV n (vInt f) a).pr,.str (visV n (vInt f) a).rep],
   [(0,.cells [.view 1 n f,.q (visA n (vInt f) a)] 27)],t=27/\sz=1/\f=wad (vInt f)/\(0<=a/\a<=4611686018427386000))
 |_,_=>none
def msgV(n:Nat)(v:Nat->Int)(a:Int):MG:=bif decide (wac n v (a+1+1) 5=0) then
  ⟨devF (wac n v a 3),1+wac n v (a+1) 9,2,⟨[],[],0,0,0,0,[]⟩,⟨outF (wac n v (a+1+1+1) 3),idF (wac n v (a+1+1+1+1) 4),1440+wac n v (a+1+1+1+1+1) 4,devF (wac n v (a+1+1+1+1+1+1) 3),1+wac n v (a+1+1+1+1+1+1+1) 9⟩⟩
 else ⟨devF (wac n v a 3),1+wac n v (a+1) 9,1,visV n v (a+1+1+1),⟨[],[],0,[],0⟩⟩
def msgA(n:Nat)(v:Nat->Int)(a:Int):Int:=bif decide (wac n v (a+1+1) 5=0) then a+1+1+1+1+1+1+1+1 else visA n v (a+1+1+1)
def wm5:Spec
 |[.ptr 0 0],[.cells [.view sz n f,.int .i64 a] t]=>some (.agg [.str (msgV n (vInt f) a).dev,.q (msgV n (vInt f) a).seq,.q (msgV n (vInt f) a).kind,.str (msgV n (vInt f) a).v.o,.str (msgV n (vInt f) a).v.p,.q (msgV n (vInt f) a).v.per,.q (msgV n (vInt f) a).v.day,.q (msgV n (vInt f) a).v.st,.q (msgV n (vInt f) a).v.pr,.str (msgV n (vInt f) a).v.rep,.str (msgV n (vInt f) a).d.o,.str (msgV n (vInt f) a).d.p,.q (msgV n (vInt f) a).d.per,.str (msgV n (vInt f) a).d.dev,.q (msgV n (vInt f) a).d.num],
   [(0,.cells [.view 1 n f,.q (msgA n (vInt f) a)] 27)],t=27/\sz=1/\f=wad (vInt f)/\(0<=a/\a<=4611686018427385000))
 |_,_=>none
def rowFn(r:Nat)(f':Nat->List AV)(s:St):St:=match lk s.O r with
 |some (.row t sz n _ fr)=>⟨s.T,(r,.row t sz n f' fr)::rm r s.O,s.nx,[]⟩
 |_=>s
def wkd(r:Nat)(f':Nat->List AV)(s:St):Prop:=match lk s.O r with
 |some (.row _ _ n f _)=>∀i,i<n->f' i=f i
 |_=>True
theorem RepS.rowFn{C:Ctx}{E:Ent}{N:Nat}{s:St}{bs:Nat->Option Hd}{a:Act}{w:World}(h:RepS C E N s bs a w)(r:Nat)(f':Nat->List AV)(hf:wkd r f' s):RepS C E N (Eng.rowFn r f' s) bs a w:=by
 unfold Eng.rowFn;unfold wkd at hf;split
 ·rename_i t sz n f fr hO;rw[hO] at hf;have hf:∀i,i<n->f' i=f i:=hf;obtain⟨⟨hF,hW⟩,hnx,hm⟩:=h;obtain⟨e1,hW1⟩:=hW.rowEq hO hf;have eO:lk ((r,AObj.row t sz n f' fr)::rm r s.O)=up (lk s.O) r (.row t sz n f' fr):=by
   rw[we3];funext k;rw[wa4]
   by_cases e:r=k
   ·subst e;rw[wav,if_pos rfl]
   ·have e':¬ (r,AObj.row t sz n f' fr).1=k:=e;rw[wat _ _ _ e,if_neg e']
  refine⟨⟨?_,?_⟩,λk hk=>⟨?_,(hnx k hk).2⟩,hm⟩
  ·refine⟨hF.1,hF.2.1,λi u hu=>?_⟩;obtain⟨v,hv,hV⟩:=hF.2.2 i u hu;refine⟨v,hv,?_⟩;show V _ (MB E (lk ((r,AObj.row t sz n f' fr)::rm r s.O)) bs) _ _ _;rw[eO,e1];exact hV
  ·show WRep C E (lk ((r,AObj.row t sz n f' fr)::rm r s.O)) bs w;rw[eO];exact hW1
  ·show lk ((r,AObj.row t sz n f' fr)::rm r s.O) k=none;rw[eO];have hne:¬ r=k:=λe=>by subst e;rw[(hnx r hk).1] at hO;cases hO
   rw[wat _ _ _ hne];exact(hnx k hk).1
 ·exact h
theorem AWP.rowFn{C:Ctx}{m N:Nat}{c:Code}{Q:Exit->St->Prop}{s:St}(r:Nat)(f':Nat->List AV)(hf:wkd r f' s)(h:AWP C m N c Q (Eng.rowFn r f' s)):AWP C m N c Q s:=by
 intro E hE bs a w hr;exact h E hE bs a w (hr.rowFn r f' hf)
theorem wan.mapO{C:Ctx}{f:FuncId}{args:List AV}{objs:List AObj}{R:AV->List (Nat×AObj)->Prop}(φ:AV->AV)(hφ:∀(w:World) (M:Nat->Prop) (bs:Nat->Option Hd) (v:Value) (u:AV),V w M bs v u->V w M bs v (φ u))(rs:List Nat)
  (h:wan C f args objs λu O=>R u (Eng.mapO φ rs O)):wan C f args objs R:=by
 refine⟨h.1,λE bs w cargs h1 h2 h3 h4 h5 h6 h7=>?_⟩;refine(h.2 E bs w cargs h1 h2 h3 h4 h5 h6 h7).mono ?_;rintro e w' ⟨v,u,O',bs',r1,hR,r3,r4,r5⟩;obtain⟨e2,hW2⟩:=r3.mapR φ (hφ w' _ bs') rs;have eO:lk (Eng.mapO φ rs O')=λk=>(lk O' k).map (Eng.mapR φ (hasN rs k)):=funext λk=>wio φ rs O' k;refine⟨v,u,Eng.mapO φ rs O',bs',r1,hR,by rw[eO];exact hW2,by rw[eO,e2];exact r4,λk hk=>⟨?_,(r5 k hk).2⟩⟩;rw[wio,(r5 k hk).1];rfl
def zMg:MG:=⟨[],0,0,⟨[],[],0,0,0,0,[]⟩,⟨[],[],0,[],0⟩⟩
def zRw:RW:=⟨[],[],0,0,0⟩
def wed(m:MG)(j i:Nat):MG:=bif decide (i<j) then m else zMg
def wmi(n:Nat)(v:Nat->Int)(a:Int)(m:MG)(N j:Nat):St:=⟨[(0,.ptr 0 0),(2,.ptr 1 0),(3,.ptr 2 0),(4,.ptr 3 0),(85,.q N),(86,.q j)],
 [(0,.cells [.view 1 n (wad v),.q a] 27),(1,.cells [.str [],.q 0,.q 0,.q 0,.nil,.nil,.nil] 49),
  (2,.cells [.str [102],.q 1,.q 0,.q 1,.own 4 N,.own 5 0,.own 6 0] 49),
  (3,.cells [.str m.dev,.q m.seq,.q m.kind,.str m.v.o,.str m.v.p,.q m.v.per,.q m.v.day,.q m.v.st,.q m.v.pr,.str m.v.rep,.str m.d.o,.str m.d.p,.q m.d.per,.str m.d.dev,.q m.d.num] 40),
  (4,.row 40 15 N (waf (wed m j)) false),(5,.row 61 5 0 (wah (atR [])) false),(6,.row 97 5 0 (wag (atT [])) false)],7,[]⟩
def L_sp5(n:Nat)(v:Nat->Int)(a:Int)(m:MG)(N:Nat):wao:=λs Q=>
 canonIs te 1 [0,2,3,4,85,86] (ownNilP 3 6 97 5 (ownNilP 3 5 61 5 s)) (wmi n v a m N 0)/\N<=401/\
 Q (.exit 1) ⟨[(0,.ptr 0 0),(2,.ptr 1 0),(3,.ptr 2 0)],(S_fl n v a [102] 1 0 1 (List.replicate N m) [] []).O,6,[]⟩
def wos(n:Nat)(v:Nat->Int):wao:=λs Q=>∃(b:Int) (m:MG) (N:Nat),L_sp5 n v b m N s Q
def woa:wcc
 |[.ptr 0 0],[.cells [.view sz n f,.int .i64 a] t],R=>t=27/\sz=1/\f=wad (vInt f)/\(0<=a/\a<=4611686018427350000)/\
   ∀(F:FL) (a':Int),F.Tn->(a<=a'/\a'<=a+1200)->
   R (.agg [.str F.id,.q F.ver,.q F.day,.q F.kind,.view 15 F.ms.length (waf (atM F.ms)),.view 5 F.rs.length (wah (atR F.rs)),.view 5 F.ts.length (wag (atT F.ts))]) [(0,.cells [.view 1 n f,.q a'] 27)]
 |_,_,_=>False
structure FsS where
 L:List FL
 a:Int
def S_fs(n:Nat)(v:Nat->Int)(N:Int)(i:FsS):St:=⟨[(0,.ptr 0 0),(5,.own 1 i.L.length),(9,.q N),(10,.q i.L.length)],
 [(0,.cells [.view 1 n (wad v),.q i.a] 27),(1,.row 49 7 i.L.length (waa (atF i.L)) false)],2,[]⟩
def L_fs(n:Nat)(v:Nat->Int)(a N:Int):wao:=λst Q=>canonIs te 1 [0,5,9,10] (ownNil 5 49 7 st) (S_fs n v N ⟨[],a⟩)/\(0<=N/\N<=20)/\(0<=a/\a<=4611686018427330000)/\
 ∀i:FsS,i.L.length=N.toNat->(a<=i.a/\i.a<=a+1100 * N)->(∀F∈i.L,F.Tn)->Q (.exit 0) ⟨[(5,.own 1 i.L.length)],(S_fs n v N i).O,2,[]⟩
def wog:wcc
 |[.ptr 0 0,.int .i64 most],[.cells [.view sz n f,.int .i64 a] t],R=>t=27/\sz=1/\f=wad (vInt f)/\(0<=a/\a<=4611686018427320000)/\(0<=most/\most<=20)/\
   ∀(L:List FL) (a':Int),(L.length:Int)<=most->(a<=a'/\a'<=a+23000)->(∀F∈L,F.Tn)->
   R (.own 1 L.length) [(0,.cells [.view 1 n f,.q a'] 27),(1,.row 49 7 L.length (waa (atF L)) false)]
 |_,_,_=>False
def wxo:wcc
 |[.ptr 0 0],[.cells [.view sz n f,.int .i64 a] t],R=>t=27/\sz=1/\f=wad (vInt f)/\(0<=a/\a<=4611686018427300000)/\
   ∀(L:List FL) (a':Int),L.length<=8->(a<=a'/\a'<=a+25000)->(∀F∈L,F.Tn)->
   R (.own 1 L.length) [(0,.cells [.view 1 n f,.q a'] 27),(1,.row 49 7 L.length (waa (atF L)) false)]
 |_,_,_=>False
def wof:wcc
 |[.ptr 0 0],[.cells [.view sz n f,.int .i64 a] t],R=>t=27/\sz=1/\f=wad (vInt f)/\(0<=a/\a<=4611686018427300000)/\
   ∀(L:List FL) (a':Int),L.length<=8->(a<=a'/\a'<=a+25000)->(∀F∈L,F.Tn)->
   R (.view 7 L.length (waa (atF L))) [(0,.cells [.view 1 n f,.q a'] 27)]
 |_,_,_=>False
def S_l4(n:Nat)(v:Nat->Int)(a:Int)(L:List FL):St:=⟨[(0,.ptr 0 0),(3,.own 1 L.length)],[(0,.cells [.view 1 n (wad v),.q a] 27),(1,.row 49 7 L.length (waa (atF L)) false)],2,[]⟩
def L_l4(n:Nat)(v:Nat->Int):wao:=λs Q=>∃(L:List FL) (a:Int),canonIs te 1 [0,3] s (S_l4 n v a L)/\(0<=a/\a<=4611686018427365000)/\L.length<=7/\(∀F∈L,F.Tn)/\
 ∀(b:Bool) (a':Int),(a<=a'/\a'<=a+1)->(b=true->0<L.length)->Q .normal ⟨[(0,.ptr 0 0),(3,.own 1 L.length),(22,.bool b)],(S_l4 n v a' L).O,2,[]⟩
def eqF(F G:FL):Bool:=decide (F.day=G.day) && decide (encF F=encF G)
def eqFs(g h:Nat->FL):Nat->Bool
 |0=>true
 |k+1=>eqFs g h k && eqF (g k) (h k)
def who:Spec
 |[.view 7 n f,.view 7 m h],[]=>some (.bool (decide (n=m) && eqFs (flOf f) (flOf h) n),[],n<=1000000/\m<=1000000/\f=waa (flOf f)/\h=waa (flOf h)/\(∀i,i<n->(flOf f i).Rg)/\∀i,i<m->(flOf h i).Rg)
 |_,_=>none
def S_sf(g h:Nat->FL)(n k:Nat):St:=⟨[(0,.view 7 n (waa g)),(1,.view 7 n (waa h)),(12,.q n),(13,.q k)],[],0,[]⟩
def L_sf(g h:Nat->FL)(n:Nat):wao:=λst Q=>canonIs te 0 [0,1,12,13] st (S_sf g h n 0)/\n<=1000000/\(∀i,i<n->(g i).Rg)/\(∀i,i<n->(h i).Rg)/\
 wab (eqFs g h n) (Q (.exit 0) ⟨[],[],0,[]⟩) (Q .ret ⟨[(4,.bool false)],[],0,[]⟩)
def entI(K:List (List UInt8))(v:List UInt8->Int):List (AV×AV):=K.map λt=>(.str t,.q (v t))
def EsV(es:List (AV×AV)):Prop:=∃(K:List (List UInt8)) (v:List UInt8->Int),es=entI K v/\K.Nodup
def qD(d:Int)(F:FL):Bool:=decide (d<F.day)
def qV(es:List (AV×AV))(F:FL):Bool:= !decide (F.kind=1) && decide (F.ver<war ((mget es (.str F.id)).getD (.q 0)))
def kfL(q:FL->Bool)(g:Nat->FL)(n:Nat):List FL:=(lst g n).filter λx=> !q x
structure FI where
 k:Nat
 w:Nat
 h:Nat->FL
def wf4:Spec
 |[.agg [.str id,.int .i64 ver,.int .i64 day,.int .i64 kind,.view 15 nm fm,.view 5 nr fr,.view 5 nt ft],.ptr 0 0],[.cells [.int .i64 d] t2]=>some (.bool (qD d (flV id ver day kind nm fm nr fr nt ft)),[(0,.cells [.q d] t2)],(FlC nm fm nr fr nt ft/\(flV id ver day kind nm fm nr fr nt ft).Rg)/\t2=3/\True)
 |_,_=>none
def wnc:Spec
 |[.own 0 n,.func 143 [.ptr 1 0]],[.row t 7 m f fr,.cells [.int .i64 d] t2]=>
   some (.q (ixB (λi=>qD d (flOf f i)) n),[(0,.row 49 7 n f false),(1,.cells [.q d] 3)],t=49/\t2=3/\fr=false/\n=m/\n<=1000/\f=waa (flOf f)/\(∀i,i<n->(flOf f i).Rg)/\True)
 |_,_=>none
def wnb(d:Int)(g:Nat->FL)(n k:Nat):St:=⟨[(0,.own 0 n),(1,.func 143 [.ptr 1 0]),(7,.q n),(8,.q k)],[(0,.row 49 7 n (waa g) false),(1,.cells [.q d] 3)],2,[]⟩
def wpe(d:Int)(g:Nat->FL)(n:Nat):wao:=λst Q=>canonIs te 2 [0,1,7,8] st (wnb d g n 0)/\n<=1000/\(∀i,i<n->(g i).Rg)/\True/\
 wab (decide (fstB (λi=>qD d (g i)) n<n)) (Q .ret ⟨[(4,.q (fstB (λi=>qD d (g i)) n))],[(0,.row 49 7 n (waa g) false),(1,.cells [.q d] 3)],2,[]⟩)
  (Q (.exit 0) ⟨[],[(0,.row 49 7 n (waa g) false),(1,.cells [.q d] 3)],2,[]⟩)
def woj:wcc
 |[.own 0 n,.func 143 [.ptr 1 0]],[.row t 7 m f fr,.cells [.int .i64 d] t2],R=>t=49/\t2=3/\fr=false/\n=m/\n<=1000/\f=waa (flOf f)/\(∀i,i<n->(flOf f i).Rg)/\True/\
   ∀(k:Nat) (h:Nat->FL),k<=n->lst h k=kfL (qD d) (flOf f) n->R (.own 0 k) [(0,.row 49 7 k (waa h) false),(1,.cells [.q d] 3)]
 |_,_,_=>False
def wnt(d:Int)(n:Nat)(i:FI):St:=⟨[(0,.own 0 n),(1,.func 143 [.ptr 1 0]),(5,.q i.w),(6,.q i.k)],[(0,.row 49 7 n (waa i.h) false),(1,.cells [.q d] 3)],2,[]⟩
def wpo(d:Int)(g:Nat->FL)(n i0:Nat):wao:=λst Q=>canonIs te 2 [0,1,5,6] st (wnt d n ⟨i0+1,i0,g⟩)/\(i0<n/\n<=1000)/\(∀i,i<n->(g i).Rg)/\True/\(∀j,j<i0->qD d (g j)=false)/\qD d (g i0)=true/\
 ∀(w:Nat) (h:Nat->FL),w<=n->lst h w=kfL (qD d) g n->Q (.exit 0) ⟨[(0,.own 0 n),(5,.q w)],[(0,.row 49 7 n (waa h) false),(1,.cells [.q d] 3)],2,[]⟩
def wf3:Spec
 |[.agg [.str id,.int .i64 ver,.int .i64 day,.int .i64 kind,.view 15 nm fm,.view 5 nr fr,.view 5 nt ft],.ptr 0 0],[.cells [.map 1] t2,.amap es]=>some (.bool (qV es (flV id ver day kind nm fm nr fr nt ft)),[(0,.cells [.map 1] t2),(1,.amap es)],(FlC nm fm nr fr nt ft/\(flV id ver day kind nm fm nr fr nt ft).Rg)/\t2=132/\EsV es)
 |_,_=>none
def wna:Spec
 |[.own 0 n,.func 101 [.ptr 1 0]],[.row t 7 m f fr,.cells [.map 2] t2,.amap es]=>
   some (.q (ixB (λi=>qV es (flOf f i)) n),[(0,.row 49 7 n f false),(1,.cells [.map 2] 132),(2,.amap es)],t=49/\t2=132/\fr=false/\n=m/\n<=1000/\f=waa (flOf f)/\(∀i,i<n->(flOf f i).Rg)/\EsV es)
 |_,_=>none
def wm9(es:List (AV×AV))(g:Nat->FL)(n k:Nat):St:=⟨[(0,.own 0 n),(1,.func 101 [.ptr 1 0]),(7,.q n),(8,.q k)],[(0,.row 49 7 n (waa g) false),(1,.cells [.map 2] 132),(2,.amap es)],3,[]⟩
def wpd(es:List (AV×AV))(g:Nat->FL)(n:Nat):wao:=λst Q=>canonIs te 3 [0,1,7,8] st (wm9 es g n 0)/\n<=1000/\(∀i,i<n->(g i).Rg)/\EsV es/\
 wab (decide (fstB (λi=>qV es (g i)) n<n)) (Q .ret ⟨[(4,.q (fstB (λi=>qV es (g i)) n))],[(0,.row 49 7 n (waa g) false),(1,.cells [.map 2] 132),(2,.amap es)],3,[]⟩)
  (Q (.exit 0) ⟨[],[(0,.row 49 7 n (waa g) false),(1,.cells [.map 2] 132),(2,.amap es)],3,[]⟩)
def woi:wcc
 |[.own 0 n,.func 101 [.ptr 1 0]],[.row t 7 m f fr,.cells [.map 2] t2,.amap es],R=>t=49/\t2=132/\fr=false/\n=m/\n<=1000/\f=waa (flOf f)/\(∀i,i<n->(flOf f i).Rg)/\EsV es/\
   ∀(k:Nat) (h:Nat->FL),k<=n->lst h k=kfL (qV es) (flOf f) n->R (.own 0 k) [(0,.row 49 7 k (waa h) false),(1,.cells [.map 2] 132),(2,.amap es)]
 |_,_,_=>False
def wns(es:List (AV×AV))(n:Nat)(i:FI):St:=⟨[(0,.own 0 n),(1,.func 101 [.ptr 1 0]),(5,.q i.w),(6,.q i.k)],[(0,.row 49 7 n (waa i.h) false),(1,.cells [.map 2] 132),(2,.amap es)],3,[]⟩
def wpn(es:List (AV×AV))(g:Nat->FL)(n i0:Nat):wao:=λst Q=>canonIs te 3 [0,1,5,6] st (wns es n ⟨i0+1,i0,g⟩)/\(i0<n/\n<=1000)/\(∀i,i<n->(g i).Rg)/\EsV es/\(∀j,j<i0->qV es (g j)=false)/\qV es (g i0)=true/\
 ∀(w:Nat) (h:Nat->FL),w<=n->lst h w=kfL (qV es) g n->Q (.exit 0) ⟨[(0,.own 0 n),(5,.q w)],[(0,.row 49 7 n (waa h) false),(1,.cells [.map 2] 132),(2,.amap es)],3,[]⟩
def edG(L:List FL)(j:Nat):MG:=edM (atF L j)
def selG(L:List FL)(k:Nat):List FL:=selK (λi=> !cfB L i) L k
def selB(L:List FL)(k:Nat):List FL:=selK (cfB L) L k
def S_s4(L:List FL)(k:Nat):St:=⟨[(4,.nil),(5,.nil),(6,.own 0 L.length),(7,.map 1),(17,.own 0 L.length),(18,.q L.length),(19,.q k)],[(0,.row 49 7 L.length (waa (atF L)) false),(1,.amap (entM (cntL (edG L) k)))],2,[]⟩
def L_s4(L:List FL):wao:=λst Q=>canonIs te 0 [4,5,6,7,17,18,19] st (S_s4 L 0)/\L.length<=1000/\Q (.exit 0) ⟨[(4,.nil),(5,.nil),(6,.own 0 L.length),(7,.map 1)],[(0,.row 49 7 L.length (waa (atF L)) false),(1,.amap (entM (cntL (edG L) L.length)))],2,[]⟩
def S_s6(E:List ((List UInt8×Int)×Int))(F:FL)(L:List FL)(k:Nat):St:=⟨[(4,.nil),(5,.nil),(6,.own 0 L.length),(7,.map 1),(9,.ptr 2 0),(17,.own 0 L.length),(18,.q L.length),(19,.q k)],
 [(0,.row 49 7 L.length (waa (atF L)) false),(1,.amap (entM E)),(2,.cells [.str F.id,.q F.ver,.q F.day,.q F.kind,.view 15 F.ms.length (waf (atM F.ms)),.view 5 F.rs.length (wah (atR F.rs)),.view 5 F.ts.length (wag (atT F.ts))] 49)],3,[]⟩
def S_s6b(E:List ((List UInt8×Int)×Int))(F:FL)(L:List FL)(k:Nat):St:=⟨[(4,.nil),(5,.nil),(6,.own 0 L.length),(7,.map 1),(9,.ptr 2 0),(17,.own 0 L.length),(18,.q L.length),(19,.q k),(23,.map 1),(28,.agg [.str F.id,.q F.ver])],
 [(0,.row 49 7 L.length (waa (atF L)) false),(1,.amap (entM E)),(2,.cells [.str F.id,.q F.ver,.q F.day,.q F.kind,.view 15 F.ms.length (waf (atM F.ms)),.view 5 F.rs.length (wah (atR F.rs)),.view 5 F.ts.length (wag (atT F.ts))] 49)],3,[]⟩
def L_s6(E:List ((List UInt8×Int)×Int))(F:FL)(L:List FL)(k:Nat):wao:=λst Q=>canonIs te 0 [4,5,6,7,9,17,18,19] st (S_s6 E F L k)/\(E.map Prod.fst).Nodup/\inR .i64 (getC E (mk2 (edM F))+1)/\Q .normal (S_s6 (addC E (mk2 (edM F))) F L k)
def S_s9(L:List FL)(k:Nat):St:=⟨[(4,.own 0 (selG L k).length),(5,.own 1 (selB L k).length),(7,.map 2),(34,.own 3 L.length),(35,.q L.length),(36,.q k)],
 [(0,.row 49 7 (selG L k).length (waa (atF (selG L k))) false),(1,.row 49 7 (selB L k).length (waa (atF (selB L k))) false),(2,.amap (entM (cntL (edG L) L.length))),(3,.row 49 7 L.length (waa (atF L)) false)],4,[]⟩
def L_s9(L:List FL):wao:=λst Q=>canonIs te 0 [4,5,7,34,35,36] (ownNil 4 49 7 (ownNil 5 49 7 st)) (S_s9 L 0)/\L.length<=1000/\
 Q (.exit 2) ⟨[(4,.own 0 (wa6 L).length),(5,.own 1 (badL L).length)],[(0,.row 49 7 (wa6 L).length (waa (atF (wa6 L))) false),(1,.row 49 7 (badL L).length (waa (atF (badL L))) false)],2,[]⟩
def whn:Spec
 |[.view 7 n f,.int .i64 d],[]=>some (.tuple [.own 0 (wa6 (knwL okV (flOf f) n d)).length,.own 1 (badL (knwL okV (flOf f) n d)).length],
   [(0,.row 49 7 (wa6 (knwL okV (flOf f) n d)).length (waa (atF (wa6 (knwL okV (flOf f) n d)))) false),(1,.row 49 7 (badL (knwL okV (flOf f) n d)).length (waa (atF (badL (knwL okV (flOf f) n d)))) false)],n<=1000/\f=waa (flOf f)/\∀i,i<n->(flOf f i).Gd)
 |_,_=>none
def idK(G:List FL):Nat->List (List UInt8)
 |0=>[]
 |k+1=>bif !decide ((atF G k).kind=1) && !decide ((atF G k).id∈idK G k) then idK G k++[(atF G k).id] else idK G k
def nwE(G:List FL)(k:Nat):List (AV×AV):=entI (idK G k) λt=>nwF G t k
def S_v4(G:List FL)(k:Nat):St:=⟨[(5,.own 0 G.length),(7,.ptr 1 0),(17,.own 0 G.length),(18,.q G.length),(19,.q k)],[(0,.row 49 7 G.length (waa (atF G)) false),(1,.cells [.map 2] 132),(2,.amap (nwE G k))],3,[]⟩
def L_v4(G:List FL):wao:=λst Q=>canonIs te 0 [5,7,17,18,19] st (S_v4 G 0)/\G.length<=1000/\(∀F∈G,0<=F.ver)/\Q (.exit 0) ⟨[(5,.own 0 G.length),(7,.ptr 1 0)],[(0,.row 49 7 G.length (waa (atF G)) false),(1,.cells [.map 2] 132),(2,.amap (nwE G G.length))],3,[]⟩
def S_conf:Spec
 |[.view 7 n f,.int .i64 d],[]=>some (.own 0 (cfL okV (flOf f) n d).length,[(0,.row 49 7 (cfL okV (flOf f) n d).length (waa (atF (cfL okV (flOf f) n d))) false)],n<=1000/\f=waa (flOf f)/\∀i,i<n->(flOf f i).Gd)
 |_,_=>none
def awR:RW:=⟨[111],[57,54,51,56,53,48,55,52],5,2,300⟩
def awFl:FL:=⟨[97],1,10,2,[],[awR],[]⟩
def FM(f:Nat->List AV)(n:Nat):Prop:=(∀i,i<n->f i=waa (flOf f) i)/\∀i,i<n->(flOf f i).Gd
def wl8:Spec
 |[.own 0 n,.int .i64 d],[.row _ 7 m f _]=>some (.view 7 (vwL okV (flOf f) n d).length (waa (atF (vwL okV (flOf f) n d))),[],n=m/\n<=1000/\FM f n)
 |_,_=>none
def wdp:Spec
 |[.view 7 n f,.int .i64 d],[]=>some (.view 7 (vwL okV (flOf f) n d).length (waa (atF (vwL okV (flOf f) n d))),[],n<=1000/\f=waa (flOf f)/\∀i,i<n->(flOf f i).Gd)
 |_,_=>none
def S_awc:St:=⟨[(0,.bool false),(1,.ptr 0 0)],[(0,.cells [.str awFl.id,.q awFl.ver,.q awFl.day,.q awFl.kind,.view 15 awFl.ms.length (waf (atM awFl.ms)),.view 5 awFl.rs.length (wah (atR awFl.rs)),.view 5 awFl.ts.length (wag (atT awFl.ts))] 49)],1,[]⟩
def S_aw0:St:=⟨[(0,.bool false),(1,.ptr 0 0)],[(0,.cells [.str [97],.q 1,.q 10,.q 2,.view 15 0 (waf (atM [])),.own 1 1,.view 5 0 (wag (atT []))] 49),(1,.row 61 5 1 (wah (atR [awR])) false)],2,[]⟩
def wpt:wao:=λst Q=>canonIs te 0 [0,1] (nilVP 1 4 15 (waf (atM [])) (nilVP 1 6 5 (wag (atT [])) st)) S_aw0/\Q .normal ⟨[(0,.bool true)],[],0,[]⟩
def wn5:Spec
 |[],[]=>some (.bool true,[],True)
 |_,_=>none
def wn4:Spec
 |[.agg [.str id,.int .i64 ver,.int .i64 day,.int .i64 kind,.view 15 nm fm,.view 5 nr fr,.view 5 nt ft],.agg [.str id',.int .i64 ver',.int .i64 day',.int .i64 kind',.view 15 nm' fm',.view 5 nr' fr',.view 5 nt' ft']],[]=>
   some (.bool (decide (ordF (flV id ver day kind nm fm nr fr nt ft) (flV id' ver' day' kind' nm' fm' nr' fr' nt' ft')<0)),[],FlC nm fm nr fr nt ft/\FlC nm' fm' nr' fr' nt' ft'/\(flV id ver day kind nm fm nr fr nt ft).Rg/\(flV id' ver' day' kind' nm' fm' nr' fr' nt' ft').Rg)
 |_,_=>none
def S_y3(g:Nat->FL)(n k:Nat):St:=⟨[(0,.view 7 n (waa g)),(3,.own 0 (nrmK okV g n k).length),(11,.view 7 n (waa g)),(12,.q n),(13,.q k)],[(0,.row 49 7 (nrmK okV g n k).length (waa (atF (nrmK okV g n k))) false)],1,[]⟩
def L_y3(g:Nat->FL)(n:Nat):wao:=λst Q=>canonIs te 0 [0,3,11,12,13] (ownNil 3 49 7 st) (S_y3 g n 0)/\n<=1000/\(∀i,i<n->(g i).Gd)/\
 Q (.exit 0) ⟨[(3,.own 0 (nrmK okV g n n).length)],[(0,.row 49 7 (nrmK okV g n n).length (waa (atF (nrmK okV g n n))) false)],1,[]⟩
def S_y8(g:Nat->FL)(n k:Nat)(L:List FL)(j:Nat):St:=⟨[(0,.view 7 n (waa g)),(3,.own 0 L.length),(4,.q k),(5,.ptr 1 0),(6,.bool (kpS okV g k j)),(11,.view 7 n (waa g)),(12,.q n),(13,.q k),(21,.view 7 n (waa g)),(22,.q n),(23,.q j)],
 [(0,.row 49 7 L.length (waa (atF L)) false),(1,.cells [.str (g k).id,.q (g k).ver,.q (g k).day,.q (g k).kind,.view 15 (g k).ms.length (waf (atM (g k).ms)),.view 5 (g k).rs.length (wah (atR (g k).rs)),.view 5 (g k).ts.length (wag (atT (g k).ts))] 49)],2,[]⟩
def L_y8(g:Nat->FL)(n k:Nat)(L:List FL):wao:=λst Q=>canonIs te 0 [0,3,4,5,6,11,12,13,21,22,23] st (S_y8 g n k L 0)/\n<=1000/\(∀i,i<n->(g i).Gd)/\k<n/\
 Q (.exit 2) ⟨[(0,.view 7 n (waa g)),(3,.own 0 L.length),(5,.ptr 1 0),(6,.bool (kpS okV g k n)),(11,.view 7 n (waa g)),(12,.q n),(13,.q k)],
  [(0,.row 49 7 L.length (waa (atF L)) false),(1,.cells [.str (g k).id,.q (g k).ver,.q (g k).day,.q (g k).kind,.view 15 (g k).ms.length (waf (atM (g k).ms)),.view 5 (g k).rs.length (wah (atR (g k).rs)),.view 5 (g k).ts.length (wag (atT (g k).ts))] 49)],2,[]⟩
def wjn(g:Nat->FL)(n k:Nat)(L:List FL)(F:FL)(a:Nat):St:=⟨[(0,.view 7 n (waa g)),(3,.own 0 L.length),(5,.ptr 1 0),(9,.q a),(11,.view 7 n (waa g)),(12,.q n),(13,.q k)],
 [(0,.row 49 7 L.length (waa (atF L)) false),(1,.cells [.str F.id,.q F.ver,.q F.day,.q F.kind,.view 15 F.ms.length (waf (atM F.ms)),.view 5 F.rs.length (wah (atR F.rs)),.view 5 F.ts.length (wag (atT F.ts))] 49)],2,[]⟩
def wok(g:Nat->FL)(n k:Nat)(L:List FL)(F:FL):wao:=λst Q=>canonIs te 0 [0,3,5,9,11,12,13] st (wjn g n k L F L.length)/\L.length<=1000/\F.Rg/\(∀x∈L,x.Rg)/\Q (.exit 4) (wjn g n k L F (dnF L F L.length))
def wmw:Spec
 |[.view 7 n f],[]=>some (.view 7 (nrmL okV (flOf f) n).length (waa (atF (nrmL okV (flOf f) n))),[],n<=1000/\f=waa (flOf f)/\∀i,i<n->(flOf f i).Gd)
 |_,_=>none
def selD(N:List FL)(d:Int)(k:Nat):List FL:=selK (λi=>decide ((atF N i).day<=d)) N k
def S_kn(N:List FL)(d:Int)(k:Nat):St:=⟨[(1,.q d),(5,.own 0 (selD N d k).length),(9,.view 7 N.length (waa (atF N))),(10,.q N.length),(11,.q k)],[(0,.row 49 7 (selD N d k).length (waa (atF (selD N d k))) false)],1,[]⟩
def wpc(N:List FL)(d:Int):wao:=λst Q=>canonIs te 0 [1,5,9,10,11] (ownNil 5 49 7 st) (S_kn N d 0)/\N.length<=1000/\Q (.exit 0) ⟨[(5,.own 0 (selD N d N.length).length)],[(0,.row 49 7 (selD N d N.length).length (waa (atF (selD N d N.length))) false)],1,[]⟩
def whs:Spec
 |[.view 7 n f,.int .i64 d],[]=>some (.view 7 (knwL okV (flOf f) n d).length (waa (atF (knwL okV (flOf f) n d))),[],n<=1000/\f=waa (flOf f)/\∀i,i<n->(flOf f i).Gd)
 |_,_=>none
def S_cn(L:List FL)(i k:Nat):St:=⟨[(0,.view 7 L.length (waa (atF L))),(1,.q i),(7,.q L.length),(8,.q k)],[],0,[]⟩
def wpq(L:List FL)(i:Nat):wao:=λst Q=>canonIs te 0 [0,1,7,8] st (S_cn L i 0)/\i<L.length/\L.length<=1000/\wab (conS L i L.length) (Q .ret ⟨[(4,.bool true)],[],0,[]⟩) (Q (.exit 0) ⟨[],[],0,[]⟩)
def wh3:wcc
 |[.view 7 n f,.int .i64 i],[],R=>∃L:List FL,n=L.length/\f=waa (atF L)/\0<=i/\i<L.length/\L.length<=1000/\R (.bool (cfB L i.toNat)) []
 |_,_,_=>False
def S_cs(K:List FL)(k:Nat):St:=⟨[(5,.view 7 K.length (waa (atF K))),(6,.own 0 (selK (cfB K) K k).length),(12,.q K.length),(13,.q k)],[(0,.row 49 7 (selK (cfB K) K k).length (waa (atF (selK (cfB K) K k))) false)],1,[]⟩
def wpp(K:List FL):wao:=λst Q=>canonIs te 0 [5,6,12,13] (ownNil 6 49 7 st) (S_cs K 0)/\K.length<=1000/\Q (.exit 0) ⟨[(6,.own 0 (badL K).length)],[(0,.row 49 7 (badL K).length (waa (atF (badL K))) false)],1,[]⟩
def wdt:Spec
 |[.view 7 n f,.int .i64 d],[]=>some (.view 7 (cfL okV (flOf f) n d).length (waa (atF (cfL okV (flOf f) n d))),[],n<=1000/\f=waa (flOf f)/\∀i,i<n->(flOf f i).Gd)
 |_,_=>none
def wbu(K:List FL)(k:Nat):List FL:=selK (λi=> !cfB K i) K k
def S_w4(K:List FL)(k:Nat):St:=⟨[(5,.view 7 K.length (waa (atF K))),(6,.own 0 (wbu K k).length),(7,.nil),(18,.q K.length),(19,.q k)],[(0,.row 49 7 (wbu K k).length (waa (atF (wbu K k))) false)],1,[]⟩
def L_w4(K:List FL):wao:=λst Q=>canonIs te 0 [5,6,7,18,19] (ownNil 6 49 7 st) (S_w4 K 0)/\K.length<=1000/\Q (.exit 0) ⟨[(6,.view 7 (wa6 K).length (waa (atF (wa6 K)))),(7,.nil)],[],1,[]⟩
def vwK(G:List FL)(k:Nat):List FL:=selK (λi=>nwS G (atF G i) G.length || decide ((atF G i).kind=1)) G k
def wjo(G:List FL)(k j:Nat):St:=⟨[(6,.view 7 G.length (waa (atF G))),(7,.own 0 (vwK G k).length),(10,.ptr 1 0),(11,.bool (nwS G (atF G k) j)),(34,.view 7 G.length (waa (atF G))),(35,.q G.length),(36,.q k),(40,.view 7 G.length (waa (atF G))),(41,.q G.length),(42,.q j)],
 [(0,.row 49 7 (vwK G k).length (waa (atF (vwK G k))) false),(1,.cells [.str (atF G k).id,.q (atF G k).ver,.q (atF G k).day,.q (atF G k).kind,.view 15 (atF G k).ms.length (waf (atM (atF G k).ms)),.view 5 (atF G k).rs.length (wah (atR (atF G k).rs)),.view 5 (atF G k).ts.length (wag (atT (atF G k).ts))] 49)],2,[]⟩
def wol(G:List FL)(k:Nat):wao:=λst Q=>canonIs te 0 [6,7,10,11,34,35,36,40,41,42] st (wjo G k 0)/\G.length<=1000/\Q (.exit 4) ⟨[(6,.view 7 G.length (waa (atF G))),(7,.own 0 (vwK G k).length),(10,.ptr 1 0),(11,.bool (nwS G (atF G k) G.length)),(34,.view 7 G.length (waa (atF G))),(35,.q G.length),(36,.q k)],(wjo G k 0).O,2,[]⟩
def wl6(G:List FL)(k:Nat):St:=⟨[(6,.view 7 G.length (waa (atF G))),(7,.own 0 (vwK G k).length),(34,.view 7 G.length (waa (atF G))),(35,.q G.length),(36,.q k)],[(0,.row 49 7 (vwK G k).length (waa (atF (vwK G k))) false)],1,[]⟩
def wom(G:List FL):wao:=λst Q=>canonIs te 0 [6,7,34,35,36] (ownNil 7 49 7 st) (wl6 G 0)/\G.length<=1000/\Q (.exit 2) ⟨[(7,.own 0 (vwK G G.length).length)],[(0,.row 49 7 (vwK G G.length).length (waa (atF (vwK G G.length))) false)],1,[]⟩
end Go.Eng
