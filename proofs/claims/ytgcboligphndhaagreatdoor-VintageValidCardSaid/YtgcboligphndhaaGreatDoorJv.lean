/- The objects of an answer, their values told in a weaker way. -/
import Derived.Test.YtgcboligphndhaaGreatDoorJr
import Derived.Test.YtgcboligphndhaaGreatDoorJu
import Derived.Test.YtgcboligphndhaaGreatDoorJt
import Derived.Lib.ItoaNum
namespace Go.Eng
open Go.RowKit
def allP {α:Type} (p:α→Prop):List α→Prop
 |[]=>True
 |[x]=>p x
 |x::l=>p x∧allP p l
theorem wrf {α:Type} {p:α→Prop}:∀ {l:List α},allP p l→∀ x∈l,p x
 |[],_,x,hx=>by cases hx
 |[y],h,x,hx=>by obtain rfl:=List.mem_singleton.1 hx;exact h
 |y::z::l,h,x,hx=>by
  obtain ⟨h1,h2⟩:=h
  rcases List.mem_cons.1 hx with rfl | hx
  ·exact h1
  ·exact wrf h2 x hx
def wgd (done:List Nat):List Edge→Bool
 |[]=>true
 |e::l=>match Region.binds .any e with
  |true=>match hasN done e.on with
   |true=>wgd done l
   |false=>false
  |false=>wgd done l
def rdyL (done:List Nat):Nat→List Oper→List (Nat×Oper)
 |_,[]=>[]
 |i,o::l=>match hasN done i with
  |true=>rdyL done (i+1) l
  |false=>match wgd done o.after.toList with
   |true=>(i,o)::rdyL done (i+1) l
   |false=>rdyL done (i+1) l
theorem wq0 {done:List Nat}:∀ {l:List Edge},wgd done l=true↔∀ e∈l,Region.binds .any e=true→e.on∈done
 |[]=>by simp [wgd]
 |e::l=>by
  unfold wgd
  have ih:=wq0 (done:=done) (l:=l)
  cases hb:Region.binds .any e with
  |true=>
   cases hh:hasN done e.on with
   |true=>
    dsimp only
    rw [ih]
    constructor
    ·intro h e' he hb'
     rcases List.mem_cons.1 he with rfl | he
     ·exact (wbm _ _).1 hh
     ·exact h e' he hb'
    ·exact fun h e' he hb'=>h e' (List.mem_cons_of_mem _ he) hb'
   |false=>
    dsimp only
    refine ⟨fun h=>(by cases h),fun h=>?_⟩
    rw [(wbm _ _).2 (h e (List.mem_cons_self ..) hb)] at hh;cases hh
  |false=>
   dsimp only
   rw [ih]
   constructor
   ·intro h e' he hb'
    rcases List.mem_cons.1 he with rfl | he
    ·rw [hb] at hb';cases hb'
    ·exact h e' he hb'
   ·exact fun h e' he hb'=>h e' (List.mem_cons_of_mem _ he) hb'
theorem wh2 {done:List Nat}:∀ {l:List Oper} {j i:Nat} {o:Oper},(i,o)∈rdyL done j l↔∃ i',i=j+i'∧l[i']?=some o∧i ∉ done∧∀ e∈o.after.toList,Region.binds .any e=true→e.on∈done
 |[],j,i,o=>by simp [rdyL]
 |o'::l,j,i,o=>by
  have ih:=wh2 (done:=done) (l:=l) (j:=j+1) (i:=i) (o:=o)
  have tail:(∃ i',i=j+1+i'∧l[i']?=some o∧i ∉ done∧∀ e∈o.after.toList,Region.binds .any e=true→e.on∈done)→∃ i',i=j+i'∧(o'::l)[i']?=some o∧i ∉ done∧∀ e∈o.after.toList,Region.binds .any e=true→e.on∈done:=by
   rintro ⟨i',h1,h2,h3⟩
   exact ⟨i'+1,by omega,by simpa using h2,h3⟩
  have back:(∃ i',i=j+i'∧(o'::l)[i']?=some o∧i ∉ done∧∀ e∈o.after.toList,Region.binds .any e=true→e.on∈done)→(i=j∧o=o'∧j ∉ done∧∀ e∈o'.after.toList,Region.binds .any e=true→e.on∈done)∨∃ i',i=j+1+i'∧l[i']?=some o∧i ∉ done∧∀ e∈o.after.toList,Region.binds .any e=true→e.on∈done:=by
   rintro ⟨i',h1,h2,h3,h4⟩
   cases i' with
   |zero=>
    simp only [List.getElem?_cons_zero,Option.some.injEq] at h2
    subst h2
    obtain rfl:i=j:=by omega
    exact .inl ⟨rfl,rfl,h3,h4⟩
   |succ i'=>exact .inr ⟨i',by omega,by simpa using h2,h3,h4⟩
  unfold rdyL
  cases hh:hasN done j with
  |true=>
   dsimp only
   rw [ih]
   refine ⟨tail,fun h=>?_⟩
   rcases back h with ⟨_,_,h3,_⟩ | h
   ·exact absurd ((wbm _ _).1 hh) h3
   ·exact h
  |false=>
   cases hd:wgd done o'.after.toList with
   |true=>
    dsimp only
    rw [List.mem_cons,ih,Prod.mk.injEq]
    constructor
    ·rintro (⟨rfl,rfl⟩ | h)
     ·refine ⟨0,rfl,rfl,fun q=>?_,wq0.1 hd⟩
      rw [(wbm _ _).2 q] at hh;cases hh
     ·exact tail h
    ·intro h
     rcases back h with ⟨h1,h2,_⟩ | h
     ·exact .inl ⟨h1,h2⟩
     ·exact .inr h
   |false=>
    dsimp only
    rw [ih]
    refine ⟨tail,fun h=>?_⟩
    rcases back h with ⟨_,_,_,h4⟩ | h
    ·rw [wq0.2 h4] at hd;cases hd
    ·exact h
def wdn (G:Env) (opl:List Oper) (Q:St→Prop):Nat→List Nat→KT
 |0,done,T,O,nx=>match rdyL done 0 opl with
  |[]=>Q ⟨T,O,nx,[]⟩
  |_::_=>False
 |fuel+1,done,T,O,nx=>match rdyL done 0 opl with
  |[]=>Q ⟨T,O,nx,[]⟩
  |p0::l=>allP (fun p:Nat×Oper=>match p.2.guard with
   |none=>wp1 G p.2 T O nx (wdn G opl Q fuel (p.1::done))
   |some _=>False) (p0::l)
def wgu (K:St→Prop) (Q:Exit→St→Prop):Exit→St→Prop
 |.normal,s=>K s
 |e,s=>Q e s
theorem wrn {P:Program} {o:Oper} {a:Act} {w:World} {K K':Act→World→Prop} {Q Q':Exit→Act→World→Prop} (h:∀ a w,K a w→K' a w) (hq:∀ e a w,e≠ .normal→Q e a w→Q' e a w) (hh:o.wp P a w K Q):o.wp P a w K' Q':=by
 unfold Oper.wp at *
 generalize (execOp a.eval o).run P w=r at *
 cases r with
 |ok n w'=>
   cases n<;>simp only [Oper.upon] at hh ⊢ <;>
     first
       |exact h _ _ hh
       |exact hh.elim
       |exact Calls.mono hh (fun e w'' he=>by
           cases e with
           |returned v=>exact h _ _ he
           |panicked c=>exact hq _ _ _ (by simp) he
           |outgrown=>obtain ⟨a',w3,h3⟩:=he;exact ⟨a',w3,hq _ _ _ (by simp) h3⟩)
       |exact Rows.mono hh (fun _ _ he=>h _ _ he)
 |halt x w'=>cases x<;>simp only [Oper.upon] at hh ⊢ <;>first | exact hq _ _ _ (by simp) hh | exact hh.elim
theorem wgs {opl:List Oper} {done:List Nat} {listed:Array Bool} (hsz:listed.size=opl.length) (hl:∀ i,listed.getD i false=true↔i∈done) (i:Nat):i∈Region.ready .any opl.toArray listed↔∃ o,opl[i]?=some o∧(i,o)∈rdyL done 0 opl:=by
 rw [mem_ready]
 have e:∀ o,opl[i]?=some o→(listed.getD i true=false↔i ∉ done):=fun o ho=>by
  have hi:i<listed.size:=by rw [hsz];exact (List.getElem?_eq_some_iff.1 ho).1
  rw [wkm hi true false, ← hl]
  cases listed.getD i false<;>simp
 constructor
 ·rintro ⟨h0,o,ho,h⟩
  have ho:opl[i]?=some o:=by simpa using ho
  exact ⟨o,ho,wh2.2 ⟨i,by omega,ho,(e o ho).1 h0,fun x hx hb=>(hl _).1 (h x (by simpa using hx) hb)⟩⟩
 ·rintro ⟨o,ho,h⟩
  obtain ⟨i',h1,h2,h3,h4⟩:=wh2.1 h
  exact ⟨(e o ho).2 h3,o,by simpa using ho,fun x hx hb=>(hl _).2 (h4 x (by simpa using hx) hb)⟩
theorem wow {C:Ctx} {G:Env} (hG:EnvOK C G) {m:Nat} {opl:List Oper} {Q:Exit→St→Prop} {E:Ent} (hE:E.m=m):∀ (fuel:Nat) (done:List Nat) (listed:Array Bool) (T:List (Nat×AV)) (O:List (Nat×AObj)) (nx:Nat) (bs:Nat→Option Hd) (a:Act) (w:World),
  listed.size=opl.length→(∀ i,listed.getD i false=true↔i∈done)→wdn G opl (Q .normal) fuel done T O nx→RepS C E G.N ⟨T,O,nx,[]⟩ bs a w→wpAny C.P .any opl.toArray (QC C E G.N Q) fuel listed a w
 |0,done,listed,T,O,nx,bs,a,w,hsz,hl,h,hr=>by
  unfold wdn at h
  unfold wpAny
  split at h
  ·rename_i hr0
   refine ⟨List.eq_nil_iff_forall_not_mem.2 fun i hi=>?_,_,bs,h,hr⟩
   obtain ⟨o,_,ho⟩:=(wgs hsz hl i).1 hi
   rw [hr0] at ho;cases ho
  ·exact h.elim
 |fuel+1,done,listed,T,O,nx,bs,a,w,hsz,hl,h,hr=>by
  unfold wdn at h
  unfold wpAny
  split at h
  ·rename_i hr0
   refine ⟨fun _=>⟨_,bs,h,hr⟩,fun i hi=>?_⟩
   obtain ⟨o,_,ho⟩:=(wgs hsz hl i).1 hi
   rw [hr0] at ho;cases ho
  ·rename_i p0 l hr0
   refine ⟨fun q=>?_,fun i hi=>?_⟩
   ·obtain ⟨i0,o0⟩:=p0
    have hm:(i0,o0)∈rdyL done 0 opl:=by rw [hr0];exact List.mem_cons_self ..
    obtain ⟨i',h1,h2,_⟩:=wh2.1 hm
    obtain rfl:i0=i':=by omega
    have:=(wgs hsz hl i0).2 ⟨o0,h2,hm⟩
    rw [q] at this;cases this
   obtain ⟨o,ho,hm⟩:=(wgs hsz hl i).1 hi
   rw [hr0] at hm
   have hp:=wrf h _ hm
   dsimp only at hp
   have hilt:i<listed.size:=by rw [hsz];exact (List.getElem?_eq_some_iff.1 ho).1
   have hsz':(listed.setIfInBounds i true).size=opl.length:=by simp [hsz]
   have hl':∀ j,(listed.setIfInBounds i true).getD j false=true↔j∈i::done:=fun j=>by
    by_cases e:i=j
    ·subst e
     simp [Array.getD,hilt]
    ·rw [getD_set_ne _ e,hl,List.mem_cons]
     exact ⟨.inr,fun h=>h.resolve_left fun q=>e q.symm⟩
   split at hp
   ·rename_i hg
    have:=wja (m:=m) (ops:=opl.toArray) (rest:=[]) (Q:=wgu (fun s=>wdn G opl (Q .normal) fuel (i::done) s.T s.O s.nx) Q) hG hg hp (fun T' O' nx' hK=>by
     intro E' hE' bs' a' w' hr'
     exact ⟨⟨T',O',nx',[]⟩,bs',hK,hr'⟩) E hE bs a w hr
    have fin:∀ a' w',QC C E G.N (wgu (fun s=>wdn G opl (Q .normal) fuel (i::done) s.T s.O s.nx) Q) .normal a' w'→wpAny C.P .any opl.toArray (QC C E G.N Q) fuel (listed.setIfInBounds i true) a' w':=by
     rintro a' w' ⟨⟨T',O',nx',d'⟩,bs',hK,hr'⟩
     exact wow hG hE fuel _ _ T' O' nx' bs' a' w' hsz' hl' hK hr'
    have other:∀ e a' w',e≠Exit.normal→QC C E G.N (wgu (fun s=>wdn G opl (Q .normal) fuel (i::done) s.T s.O s.nx) Q) e a' w'→QC C E G.N Q e a' w':=by
     rintro e a' w' hne ⟨s,bs',hs,hr'⟩
     refine ⟨s,bs',?_,hr'⟩
     cases e with
     |normal=>exact absurd rfl hne
     |_=>exact hs
    unfold wpOp
    have ho':opl.toArray[i]?=some o:=by simpa using ho
    rw [ho']
    unfold wpList at this
    dsimp only
    split
    ·rename_i hw
     rw [if_pos hw] at this
     rcases this with h | ⟨h1,a',w',h2⟩
     ·exact .inl (wrn fin other h)
     ·exact .inr ⟨h1,a',w',other _ _ _ (by simp) h2⟩
    ·rename_i hw
     rw [if_neg hw] at this
     exact fin _ _ this
   ·exact hp.elim
theorem AWP.each {C:Ctx} {G:Env} (hG:EnvOK C G) {m id:Nat} {opl:List Oper} {Q:Exit→St→Prop} {T0:List (Nat×AV)} {O0:List (Nat×AObj)} {nx:Nat} {dec:List Nat}
  (h:wdn G opl (Q .normal) opl.length [] T0 O0 nx):AWP C m G.N (.region id opl.toArray true) Q ⟨T0,O0,nx,dec⟩:=by
 intro E hE bs a w hr
 have hS:Step w (MB E (lk O0) bs) bs { w with drawn:=w.drawn+1 } (MB E (lk O0) bs) bs∧WRep C E (lk O0) bs { w with drawn:=w.drawn+1 }:=by
  refine hr.1.2.next (fun _=>False) (fun _ _ h=>h) (fun _ _ _ h=>.inl h) (fun _ h=>h.elim) (fun _ _ _=>rfl) (Nat.le_refl _) (fun _ h=>.inl h) (fun _ _ _ h=>.inl ⟨h,fun _ _ _ h=>h⟩) hr.1.2.sep ?_ rfl ⟨rfl,fun _=>Nat.le_succ _⟩ rfl
  intro r t sz n f b c ho hb
  have:=hr.1.2.frz r t sz n f b c ho hb
  exact ⟨fun h=>this (.inr h),fun h=>this (.inl h)⟩
 exact wp_region_any C.mixed (wow hG hE _ [] _ T0 O0 nx bs a _ (by simp) (fun i=>by simp [Array.getD]) (by simpa using h) ⟨⟨hr.1.1.step hS.1,hS.2⟩,hr.2.1,hr.2.2⟩)
def allH (A:List Nat):List Nat→Bool
 |[]=>true
 |i::l=>match hasN A i with
  |true=>allH A l
  |false=>false
theorem wrh {A:List Nat}:∀ {l:List Nat},allH A l=true↔∀ i∈l,i∈A
 |[]=>by simp [allH]
 |i::l=>by
  unfold allH
  have ih:=wrh (A:=A) (l:=l)
  cases h:hasN A i with
  |true=>
   dsimp only
   rw [ih]
   constructor
   ·intro h' j hj
    rcases List.mem_cons.1 hj with rfl | hj
    ·exact (wbm _ _).1 h
    ·exact h' j hj
   ·exact fun h' j hj=>h' j (List.mem_cons_of_mem _ hj)
  |false=>
   refine ⟨fun h=>(by cases h),fun h'=>?_⟩
   rw [(wbm _ _).2 (h' i (List.mem_cons_self ..))] at h;cases h
def wif (T:List (Nat×AV)):List Nat→List (Nat×AV)
 |[]=>[]
 |j::F=>match lk T j with
  |some u=>(j,u)::wif T F
  |none=>wif T F
theorem wqe {T:List (Nat×AV)}:∀ {F:List Nat} {j:Nat} {u:AV},lk (wif T F) j=some u→lk T j=some u
 |[],j,u,h=>by cases h
 |i::F,j,u,h=>by
  unfold wif at h
  split at h
  ·rename_i v hv
   rw [wa1] at h
   by_cases e:i=j
   ·subst e
    rw [if_pos rfl] at h
    rw [hv,h]
   ·rw [if_neg e] at h
    exact wqe h
  ·exact wqe h
def wek (G:Env) (opl:List Oper) (A:List Nat) (K:KT):Nat→List Nat→KT
 |0,_,_,_,_=>False
 |fuel+1,done,T,O,nx=>match Nat.beq done.length A.length with
  |true=>match allH A done with
   |true=>match allH done A with
    |true=>K T O nx
    |false=>False
   |false=>False
  |false=>match rdyL done 0 opl with
   |[]=>False
   |p0::l=>allP (fun p:Nat×Oper=>match p.2.guard with
    |none=>wp1 G p.2 T O nx (wek G opl A K fuel (p.1::done))
    |some _=>False) (p0::l)
theorem RepS.sub {C:Ctx} {E:Ent} {N:Nat} {T T':List (Nat×AV)} {O:List (Nat×AObj)} {nx:Nat} {bs:Nat→Option Hd} {a:Act} {w:World} (h:RepS C E N ⟨T,O,nx,[]⟩ bs a w) (hs:∀ j u,lk T' j=some u→lk T j=some u):RepS C E N ⟨T',O,nx,[]⟩ bs a w:=
 ⟨⟨⟨h.1.1.1,h.1.1.2.1,fun i u hu=>h.1.1.2.2 i u (hs i u hu)⟩,h.1.2⟩,h.2⟩
theorem wrq {C:Ctx} {G:Env} (hG:EnvOK C G) {m:Nat} {opl:List Oper} {A:List Nat} {K:KT} {Q:Exit→St→Prop} {E:Ent} (hE:E.m=m)
  (leaf:∀ (listed:Array Bool) (T:List (Nat×AV)) (O:List (Nat×AObj)) (nx:Nat) (bs:Nat→Option Hd) (a:Act) (w:World),listed.size=opl.length→(∀ i,listed.getD i false=true↔i∈A)→K T O nx→RepS C E G.N ⟨T,O,nx,[]⟩ bs a w→
   wpAny C.P .any opl.toArray (QC C E G.N Q) (opl.length - A.length) listed a w):∀ (fuel:Nat) (done:List Nat) (listed:Array Bool) (T:List (Nat×AV)) (O:List (Nat×AObj)) (nx:Nat) (bs:Nat→Option Hd) (a:Act) (w:World),
  fuel+done.length=opl.length→listed.size=opl.length→(∀ i,listed.getD i false=true↔i∈done)→wek G opl A K fuel done T O nx→RepS C E G.N ⟨T,O,nx,[]⟩ bs a w→wpAny C.P .any opl.toArray (QC C E G.N Q) fuel listed a w
 |0,done,listed,T,O,nx,bs,a,w,hf,hsz,hl,h,hr=>by
  unfold wek at h
  exact h.elim
 |fuel+1,done,listed,T,O,nx,bs,a,w,hf,hsz,hl,h,hr=>by
  unfold wek at h
  split at h
  ·rename_i hlen
   have hlen:=Nat.eq_of_beq_eq_true hlen
   split at h
   ·rename_i h1
    split at h
    ·rename_i h2
     have e:fuel+1=opl.length - A.length:=by omega
     rw [e]
     exact leaf listed T O nx bs a w hsz (fun i=>(hl i).trans ⟨fun q=>wrh.1 h1 i q,fun q=>wrh.1 h2 i q⟩) h hr
    ·exact h.elim
   ·exact h.elim
  ·split at h
   ·exact h.elim
   ·rename_i p0 l hr0
    unfold wpAny
    refine ⟨fun q=>?_,fun i hi=>?_⟩
    ·obtain ⟨i0,o0⟩:=p0
     have hm:(i0,o0)∈rdyL done 0 opl:=by rw [hr0];exact List.mem_cons_self ..
     obtain ⟨i',h1,h2,_⟩:=wh2.1 hm
     obtain rfl:i0=i':=by omega
     have:=(wgs hsz hl i0).2 ⟨o0,h2,hm⟩
     rw [q] at this;cases this
    obtain ⟨o,ho,hm⟩:=(wgs hsz hl i).1 hi
    rw [hr0] at hm
    have hp:=wrf h _ hm
    dsimp only at hp
    have hilt:i<listed.size:=by rw [hsz];exact (List.getElem?_eq_some_iff.1 ho).1
    have hsz':(listed.setIfInBounds i true).size=opl.length:=by simp [hsz]
    have hl':∀ j,(listed.setIfInBounds i true).getD j false=true↔j∈i::done:=fun j=>by
     by_cases e:i=j
     ·subst e
      simp [Array.getD,hilt]
     ·rw [getD_set_ne _ e,hl,List.mem_cons]
      exact ⟨.inr,fun h=>h.resolve_left fun q=>e q.symm⟩
    split at hp
    ·rename_i hg
     have:=wja (m:=m) (ops:=opl.toArray) (rest:=[]) (Q:=wgu (fun s=>wek G opl A K fuel (i::done) s.T s.O s.nx) Q) hG hg hp (fun T' O' nx' hK=>by
      intro E' hE' bs' a' w' hr'
      exact ⟨⟨T',O',nx',[]⟩,bs',hK,hr'⟩) E hE bs a w hr
     have fin:∀ a' w',QC C E G.N (wgu (fun s=>wek G opl A K fuel (i::done) s.T s.O s.nx) Q) .normal a' w'→wpAny C.P .any opl.toArray (QC C E G.N Q) fuel (listed.setIfInBounds i true) a' w':=by
      rintro a' w' ⟨⟨T',O',nx',d'⟩,bs',hK,hr'⟩
      exact wrq hG hE leaf fuel (i::done) _ T' O' nx' bs' a' w' (by rw [List.length_cons];omega) hsz' hl' hK hr'
     have other:∀ e a' w',e≠Exit.normal→QC C E G.N (wgu (fun s=>wek G opl A K fuel (i::done) s.T s.O s.nx) Q) e a' w'→QC C E G.N Q e a' w':=by
      rintro e a' w' hne ⟨s,bs',hs,hr'⟩
      refine ⟨s,bs',?_,hr'⟩
      cases e with
      |normal=>exact absurd rfl hne
      |_=>exact hs
     unfold wpOp
     have ho':opl.toArray[i]?=some o:=by simpa using ho
     rw [ho']
     unfold wpList at this
     dsimp only
     split
     ·rename_i hw
      rw [if_pos hw] at this
      rcases this with h | ⟨h1,a',w',h2⟩
      ·exact .inl (wrn fin other h)
      ·exact .inr ⟨h1,a',w',other _ _ _ (by simp) h2⟩
     ·rename_i hw
      rw [if_neg hw] at this
      exact fin _ _ this
    ·exact hp.elim
def cutIs (F:List Nat) (SA:St):KT:=fun T O nx=>wif T F=SA.T∧O=SA.O∧nx=SA.nx
def rgA (G:Env) (x:Code) (A F:List Nat) (SA s:St):Prop:=match x with
 |.region _ ops true=>wek G ops.toList A (cutIs F SA) ops.toList.length [] s.T s.O s.nx
 |_=>False
def rgB (G:Env) (x:Code) (A Fe:List Nat) (Q:Exit→St→Prop) (SA:St):Prop:=match x with
 |.region _ ops true=>wdn G ops.toList (Eng.canQ G.te G.m Fe [] Q .normal) (ops.toList.length - A.length) A SA.T SA.O SA.nx
 |_=>False
theorem AWP.cut {C:Ctx} {G:Env} (hG:EnvOK C G) {m id:Nat} {opl:List Oper} {A F:List Nat} {SA:St} {Q:Exit→St→Prop} {T0:List (Nat×AV)} {O0:List (Nat×AObj)} {nx:Nat} {dec:List Nat}
  (h:wek G opl A (cutIs F SA) opl.length [] T0 O0 nx) (h2:wdn G opl (Q .normal) (opl.length - A.length) A SA.T SA.O SA.nx):AWP C m G.N (.region id opl.toArray true) Q ⟨T0,O0,nx,dec⟩:=by
 intro E hE bs a w hr
 have hS:Step w (MB E (lk O0) bs) bs { w with drawn:=w.drawn+1 } (MB E (lk O0) bs) bs∧WRep C E (lk O0) bs { w with drawn:=w.drawn+1 }:=by
  refine hr.1.2.next (fun _=>False) (fun _ _ h=>h) (fun _ _ _ h=>.inl h) (fun _ h=>h.elim) (fun _ _ _=>rfl) (Nat.le_refl _) (fun _ h=>.inl h) (fun _ _ _ h=>.inl ⟨h,fun _ _ _ h=>h⟩) hr.1.2.sep ?_ rfl ⟨rfl,fun _=>Nat.le_succ _⟩ rfl
  intro r t sz n f b c ho hb
  have:=hr.1.2.frz r t sz n f b c ho hb
  exact ⟨fun h=>this (.inr h),fun h=>this (.inl h)⟩
 refine wp_region_any C.mixed (wrq hG hE (fun listed T O nx' bs' a' w' hsz hl hK hr'=>?_) _ [] _ T0 O0 nx bs a _ (by simp) (by simp) (fun i=>by simp [Array.getD]) (by simpa using h) ⟨⟨hr.1.1.step hS.1,hS.2⟩,hr.2.1,hr.2.2⟩)
 obtain ⟨k1,k2,k3⟩:=hK
 subst k2;subst k3
 refine wow hG hE _ A listed SA.T SA.O SA.nx bs' a' w' hsz hl h2 ?_
 rw [← k1]
 exact hr'.sub fun j u hu=>wqe hu
theorem wak.cut {C:Ctx} {te:TE} (hte:Prg C te) {m N:Nat} {x:Code} {s S SA:St} {Q:Exit→St→Prop} (calls:List (Nat×CSpec)) (fuel:Nat) (hc:wc4 C calls) (F Fe A FA:List Nat)
  (h0:canonIs te m F s S) (h:rgA ⟨te,calls,[],m,N,fuel⟩ x A FA SA S) (h2:rgB ⟨te,calls,[],m,N,fuel⟩ x A Fe Q SA) (hS:wce S.O True):AWP C m N x Q s:=by
 have hG:EnvOK C ⟨te,calls,[],m,N,fuel⟩:=⟨hte.ok,hte.one,hc⟩
 have h1:AWP C m N x (Eng.canQ te m Fe [] Q) S:=by
  unfold rgA at h
  split at h
  ·rename_i id ops
   have:=AWP.cut (m:=m) (id:=id) (dec:=S.dec) hG h h2
   simpa using this
  ·exact h.elim
 exact AWP.canonIs F h0 h1.canQ hS
end Go.Eng
namespace Go.Eng
def mapR (φ:AV→AV) (b:Bool):AObj→AObj
 |.cells cs t=>.cells (cs.map φ) t
 |.row t sz n f fr=>match b with
  |true=>.row t sz n (fun i=>(f i).map φ) fr
  |false=>.row t sz n f fr
 |.amap es=>.amap es
 |.siter s pos=>.siter s pos
 |.miter m n0 left=>.miter m n0 left
 |.dead=>.dead
theorem wp2 (φ:AV→AV) (b:Bool) (o:AObj):(mapR φ b o).mut=o.mut:=by
 cases o with
 |row t sz n f fr=>cases b<;>cases fr<;>rfl
 |_=>rfl
def mapO (φ:AV→AV) (rs:List Nat):List (Nat×AObj)→List (Nat×AObj)
 |[]=>[]
 |p::l=>(p.1,mapR φ (hasN rs p.1) p.2)::mapO φ rs l
theorem wh9 (φ:AV→AV) (rs:List Nat):∀ (O:List (Nat×AObj)) (k:Nat),lk (mapO φ rs O) k=(lk O k).map (mapR φ (hasN rs k))
 |[],k=>rfl
 |p::l,k=>by
  rw [mapO,wa1,wa1]
  by_cases e:p.1=k
  ·subst e;rw [if_pos rfl,if_pos rfl];rfl
  ·rw [if_neg e,if_neg e];exact wh9 φ rs l k
theorem WRep.mapR {C:Ctx} {E:Ent} {O:Nat→Option AObj} {bs:Nat→Option Hd} {w:World} (hW:WRep C E O bs w) (φ:AV→AV) (hφ:∀ v u,V w (MB E O bs) bs v u→V w (MB E O bs) bs v (φ u)) (rs:List Nat):
  MB E (fun k=>(O k).map (Eng.mapR φ (hasN rs k))) bs=MB E O bs∧WRep C E (fun k=>(O k).map (Eng.mapR φ (hasN rs k))) bs w:=by
 have hold:∀ r o,(O r).map (Eng.mapR φ (hasN rs r))=some o→∃ o',O r=some o'∧o=Eng.mapR φ (hasN rs r) o':=fun r o ho=>by
  obtain ⟨o',h1,h2⟩:=Option.map_eq_some_iff.1 ho
  exact ⟨o',h1,h2.symm⟩
 have hmb:∀ b,mutB (fun k=>(O k).map (Eng.mapR φ (hasN rs k))) bs b→mutB O bs b:=fun b ⟨r,o,c,h1,h2,h3⟩=>by
  obtain ⟨o',q1,rfl⟩:=hold r o h1
  exact ⟨r,o',c,q1,by rw [← h2,wp2],h3⟩
 have hMB:MB E (fun k=>(O k).map (Eng.mapR φ (hasN rs k))) bs=MB E O bs:=by
  funext b
  apply propext
  constructor
  ·rintro (h | h)
   ·exact .inl h
   ·exact .inr (hmb b h)
  ·rintro (h | ⟨r,o,c,h1,h2,h3⟩)
   ·exact .inl h
   ·exact .inr ⟨r,Eng.mapR φ (hasN rs r) o,c,by simp [h1],by rw [wp2];exact h2,h3⟩
 refine ⟨hMB,?_⟩
 exact {
  obj:=fun r o ho=>by
   rw [hMB]
   obtain ⟨o',h0,rfl⟩:=hold r o ho
   have h:=hW.obj r o' h0
   cases o' with
   |cells cs t=>
    obtain ⟨b,c,vs,h1,h2,h3,h4,h5⟩:=h
    refine ⟨b,c,vs,h1,h2,by rw [List.length_map];exact h3,h4,fun j v u hv hu=>?_⟩
    rw [List.getElem?_map] at hu
    obtain ⟨u0,q1,rfl⟩:=Option.map_eq_some_iff.1 hu
    exact hφ v u0 (h5 j v u0 hv q1)
   |row t sz n f fr=>
    unfold Eng.mapR
    cases hasN rs r with
    |false=>exact h
    |true=>
     dsimp only
     rcases h with h | ⟨b,c,vs,h1,h2,h3,h4,h5,h6,h7,h8⟩
     ·exact .inl h
     ·refine .inr ⟨b,c,vs,h1,h2,h3,h4,h5,fun i hi=>by rw [List.length_map];exact h6 i hi,h7,fun i hi j v u hj hv hu=>?_⟩
      rw [List.getElem?_map] at hu
      obtain ⟨u0,q1,rfl⟩:=Option.map_eq_some_iff.1 hu
      exact hφ v u0 (h8 i hi j v u0 hj hv q1)
   |amap es=>exact h
   |siter s pos=>exact h
   |miter m n0 left=>exact h
   |dead=>exact h
  sep:=fun r r' o1 o2 b c c' h1 h2 m1 m2 b1 b2=>by
   obtain ⟨o1',p1,rfl⟩:=hold r o1 h1
   obtain ⟨o2',p3,rfl⟩:=hold r' o2 h2
   rw [wp2] at m1 m2
   exact hW.sep r r' o1' o2' b c c' p1 p3 m1 m2 b1 b2
  out:=fun b hb=>hW.out b (hmb b hb)
  frz:=fun r t' sz' n' f2 b c ho hb=>by
   rw [hMB]
   obtain ⟨o',p1,p2⟩:=hold r _ ho
   cases o' with
   |row t sz n f fr=>
    unfold Eng.mapR at p2
    cases hq:hasN rs r with
    |false=>
     rw [hq] at p2
     injection p2 with e1 e2 e3 e4 e5
     subst e5
     exact hW.frz r _ _ _ _ b c p1 hb
    |true=>
     rw [hq] at p2
     injection p2 with e1 e2 e3 e4 e5
     subst e5
     exact hW.frz r _ _ _ _ b c p1 hb
   |_=>cases p2
  high:=fun b hb=>hW.high b (by rw [← hMB];exact hb)
  lt:=hW.lt
  outlt:=hW.outlt
  keep:=hW.keep
  old:=fun b hb=>hW.old b (hmb b hb)
  size:=hW.size
  pre:=hW.pre
  os:=hW.os
  tape:=hW.tape
  output:=hW.output
  laid:=hW.laid
  gle:=hW.gle }
def frzX (r:Nat) (rs:List Nat) (s:St):St:=match lk s.O r with
 |some (.row _ sz n g _)=>⟨frzT r sz n g s.T,mapO (frz r sz n g) rs (rm r s.O),s.nx,[]⟩
 |_=>s
theorem RepS.frzX {C:Ctx} {E:Ent} {N:Nat} {s:St} {bs:Nat→Option Hd} {a:Act} {w:World} (h:RepS C E N s bs a w) (r:Nat) (rs:List Nat) (hf:wga r s):RepS C E N (Eng.frzX r rs s) bs a w:=by
 unfold Eng.frzX
 unfold wga at hf
 split
 ·rename_i t sz n g fr hO
  rw [hO] at hf
  obtain ⟨⟨hF,hW⟩,hnx,hm⟩:=h
  obtain ⟨hS,hW1⟩:=hW.freeze hO
  have hF1:=hF.step hS
  obtain ⟨e2,hW2⟩:=hW1.mapR (Eng.frz r sz n g) (fun v u hV=>V.frz hW1 (wau _ _ _) hf hV) rs
  obtain ⟨hS3,hW3⟩:=hW2.less (O':=lk (mapO (Eng.frz r sz n g) rs (rm r s.O))) fun k o hk=>by
   rw [wh9] at hk
   obtain ⟨o',q0,rfl⟩:=Option.map_eq_some_iff.1 hk
   obtain ⟨q1,q2⟩:=wdx r s.O k o' q0
   show Option.map _ (up (lk s.O) r _ k)=_
   rw [was _ _ _ q1,q2];rfl
  refine ⟨⟨⟨hF.1,hF.2.1,fun i u hu=>?_⟩,hW3⟩,fun k hk=>⟨?_,(hnx k hk).2⟩,hm⟩
  ·obtain ⟨u0,h0,rfl⟩:=wp7 hu
   obtain ⟨v,hv,hV⟩:=hF1.2.2 i u0 h0
   have hV2:=V.frzC hW1 (wau _ _ _) hf hV
   rw [← e2] at hV2
   exact ⟨v,hv,hV2.step hS3⟩
  ·show lk (mapO _ rs (rm r s.O)) k=none
   rw [wh9]
   cases hx:lk (rm r s.O) k with
   |none=>rfl
   |some o=>
    have:=(wdx r s.O k o hx).2
    rw [(hnx k hk).1] at this;cases this
 ·exact h
theorem AWP.frzX {C:Ctx} {m N:Nat} {c:Code} {Q:Exit→St→Prop} {s:St} (r:Nat) (rs:List Nat) (hf:wga r s) (h:AWP C m N c Q (Eng.frzX r rs s)):AWP C m N c Q s:=by
 intro E hE bs a w hr
 exact h E hE bs a w (hr.frzX r rs hf)
def BK.Rg (b:BK):Prop:=inR .i64 b.up∧inR .i64 b.pr
structure TfS where
 up:Int
 bs:List BK
 a:Int
def wi6 (n:Nat) (v:Nat→Int) (N st:Int) (i:TfS):St:=⟨[(0,.ptr 0 0),(2,.ptr 1 0),(3,.ptr 2 0),(4,.int .i64 i.up),(9,.int .i64 N),(10,.int .i64 i.bs.length)],
 [(0,.cells [.view 1 n (waa v),.int .i64 i.a] 27),(1,.cells [.int .i64 0,.nil] 95),(2,.cells [.int .i64 st,.own 3 i.bs.length] 95),(3,.row 115 2 i.bs.length (waq (atB i.bs)) false)],4,[]⟩
def wdp (n:Nat) (v:Nat→Int) (a:Int):Nat→Int
 |0=>0
 |k+1=>wdp n v a k+(1+wac n v (a+2 * k) 60)
def tarB (n:Nat) (v:Nat→Int) (a:Int):Nat→List BK
 |0=>[]
 |k+1=>tarB n v a k++[⟨wdp n v a (k+1),wac n v (a+2 * k+1) 4 * 10⟩]
def tarL (n:Nat) (v:Nat→Int) (a:Int):List BK:=tarB n v (a+2) (wac n v (a+1) 4).toNat++[⟨0,wac n v (a+2+2 * wac n v (a+1) 4) 4 * 10⟩]
def tarA (n:Nat) (v:Nat→Int) (a:Int):Int:=a+2+2 * wac n v (a+1) 4+1
theorem wr7 (n:Nat) (v:Nat→Int) (a:Int):∀ k,(tarB n v a k).length=k
 |0=>rfl
 |k+1=>by rw [tarB,List.length_append,wr7 n v a k];rfl
theorem wo2 (n:Nat) (v:Nat→Int) (a:Int):∀ k:Nat,0≤wdp n v a k∧wdp n v a k≤60 * k
 |0=>⟨Int.le_refl _,Int.le_refl _⟩
 |k+1=>by
  have:=wo2 n v a k
  have r:=wax (show (1:Int)≤60 by omega) n v (a+2 * k)
  rw [wdp]
  omega
theorem wr6 (n:Nat) (v:Nat→Int) (a:Int):∀ k,k≤1000→∀ b∈tarB n v a k,b.Rg
 |0,_,b,hb=>by cases hb
 |k+1,hk,b,hb=>by
  rw [tarB] at hb
  rcases List.mem_append.1 hb with hb | hb
  ·exact wr6 n v a k (by omega) b hb
  ·rw [List.mem_singleton.1 hb]
   have:=wo2 n v a (k+1)
   have r:=wax (show (1:Int)≤4 by omega) n v (a+2 * k+1)
   constructor
   ·show inR .i64 (wdp n v a (k+1))
    simp only [inR];omega
   ·show inR .i64 (wac n v (a+2 * k+1) 4 * 10)
    simp only [inR];omega
theorem ww4 (n:Nat) (v:Nat→Int) (a:Int):(tarL n v a).length≤10∧(∀ b∈tarL n v a,b.Rg)∧(a≤tarA n v a∧tarA n v a≤a+12):=by
 have r:=wax (show (1:Int)≤4 by omega) n v (a+1)
 have r2:=wax (show (1:Int)≤4 by omega) n v (a+2+2 * wac n v (a+1) 4)
 refine ⟨?_,fun b hb=>?_,?_⟩
 ·unfold tarL
  rw [List.length_append,wr7]
  show _+1≤10
  omega
 ·unfold tarL at hb
  rcases List.mem_append.1 hb with hb | hb
  ·exact wr6 n v _ _ (by omega) b hb
  ·rw [List.mem_singleton.1 hb]
   constructor
   ·show inR .i64 0
    simp only [inR];omega
   ·show inR .i64 (wac n v (a+2+2 * wac n v (a+1) 4) 4 * 10)
    simp only [inR];omega
 ·unfold tarA;omega
def wns (n:Nat) (v:Nat→Int) (a N st:Int):war:=fun s Q=>canonIs te 1 [0,2,3,4,9,10] (ownNilP 3 1 115 2 s) (wi6 n v N st ⟨0,[],a⟩)∧(0≤N∧N≤3)∧(0≤a∧a≤4611686018427375000)∧
 ∀ i:TfS,(i.bs.length:Int)=N→i.a=a+2 * N→i.bs=tarB n v a N.toNat→
  Q (.exit 0) ⟨[(0,.ptr 0 0),(2,.ptr 1 0),(3,.ptr 2 0)],(wi6 n v N st i).O,4,[]⟩
def wln:Spec
 |[.ptr 0 0],[.cells [.view sz n f,.int .i64 a] t]=>some (.agg [.int .i64 (wac n (vInt f) a 500),.view 2 (tarL n (vInt f) a).length (waq (atB (tarL n (vInt f) a)))],
   [(0,.cells [.view 1 n f,.int .i64 (tarA n (vInt f) a)] 27)],t=27∧sz=1∧f=waa (vInt f)∧(0≤a∧a≤4611686018427370000))
 |_,_=>none
def S_fl (n:Nat) (v:Nat→Int) (a:Int) (id:List UInt8) (ver day kind:Int) (ms:List MG) (rs:List RW) (ts:List RT):St:=⟨[(0,.ptr 0 0),(2,.ptr 1 0),(3,.ptr 2 0)],
 [(0,.cells [.view 1 n (waa v),.int .i64 a] 27),(1,.cells [.str [],.int .i64 0,.int .i64 0,.int .i64 0,.nil,.nil,.nil] 49),
  (2,.cells [.str id,.int .i64 ver,.int .i64 day,.int .i64 kind,.own 3 ms.length,.own 4 rs.length,.own 5 ts.length] 49),
  (3,.row 40 15 ms.length (wae (atM ms)) false),(4,.row 61 5 rs.length (wai (atR rs)) false),(5,.row 97 5 ts.length (wah (atT ts)) false)],6,[]⟩
def wol (n:Nat) (v:Nat→Int) (a:Int) (id:List UInt8) (ver day kind:Int):war:=fun s Q=>
 canonIs te 1 [0,2,3] (ownNilP 3 6 97 5 (ownNilP 3 5 61 5 (ownNilP 3 4 40 15 s))) (S_fl n v a id ver day kind [] [] [])∧
 Q .normal ⟨[(0,.ptr 0 0),(2,.ptr 1 0),(3,.ptr 2 0),(20,.int .i64 kind)],(S_fl n v a id ver day kind [] [] []).O,6,[]⟩
def fidF (i:Int):List UInt8:=List.getD [[102],[103],[104]] i.toNat []
structure FiS where
 ts:List RT
 a:Int
def wmy (n:Nat) (v:Nat→Int) (id:List UInt8) (ver day kind N:Int) (i:FiS):St:=⟨[(0,.ptr 0 0),(2,.ptr 1 0),(3,.ptr 2 0),(35,.int .i64 N),(36,.int .i64 i.ts.length)],(S_fl n v i.a id ver day kind [] [] i.ts).O,6,[]⟩
def wok (n:Nat) (v:Nat→Int) (a:Int) (id:List UInt8) (ver day kind N:Int):war:=fun s Q=>canonIs te 1 [0,2,3,35,36] s (wmy n v id ver day kind N ⟨[],a⟩)∧(0≤N∧N≤2)∧(0≤a∧a≤4611686018427365000)∧
 ∀ i:FiS,i.ts.length≤2→(a≤i.a∧i.a≤a+40)→(∀ t∈i.ts,t.Tn)→Q (.exit 1) ⟨[(0,.ptr 0 0),(2,.ptr 1 0),(3,.ptr 2 0)],(S_fl n v i.a id ver day kind [] [] i.ts).O,6,[]⟩
structure FL.Low (F:FL):Prop where
 id:F.id.length≤24
 m:F.ms.length≤4
 r:F.rs.length≤4
 t:F.ts.length≤2
 ver:1≤F.ver∧F.ver≤3
 kind:1≤F.kind∧F.kind≤3
 day:43860≤F.day∧F.day≤43865
def wnm:wcr
 |[.ptr 0 0],[.cells [.view sz n f,.int .i64 a] t],R=>t=27∧sz=1∧f=waa (vInt f)∧(0≤a∧a≤4611686018427360000)∧
   ∀ (F:FL) (a':Int),F.Tn→F.ms.length≤4→F.rs.length≤4→F.ts.length≤2→FL.Low F→(a≤a'∧a'≤a+1100)→
   R (.agg [.str F.id,.int .i64 F.ver,.int .i64 F.day,.int .i64 F.kind,.own 1 F.ms.length,.own 2 F.rs.length,.own 3 F.ts.length]) [(0,.cells [.view 1 n f,.int .i64 a'] 27),
    (1,.row 40 15 F.ms.length (wae (atM F.ms)) false),(2,.row 61 5 F.rs.length (wai (atR F.rs)) false),(3,.row 97 5 F.ts.length (wah (atT F.ts)) false)]
 |_,_,_=>False
def rowFn (r:Nat) (f':Nat→List AV) (s:St):St:=match lk s.O r with
 |some (.row t sz n _ fr)=>⟨s.T,(r,.row t sz n f' fr)::rm r s.O,s.nx,[]⟩
 |_=>s
def wju (r:Nat) (f':Nat→List AV) (s:St):Prop:=match lk s.O r with
 |some (.row _ _ n f _)=>∀ i,i<n→f' i=f i
 |_=>True
theorem RepS.rowFn {C:Ctx} {E:Ent} {N:Nat} {s:St} {bs:Nat→Option Hd} {a:Act} {w:World} (h:RepS C E N s bs a w) (r:Nat) (f':Nat→List AV) (hf:wju r f' s):RepS C E N (Eng.rowFn r f' s) bs a w:=by
 unfold Eng.rowFn
 unfold wju at hf
 split
 ·rename_i t sz n f fr hO
  rw [hO] at hf
  have hf:∀ i,i<n→f' i=f i:=hf
  obtain ⟨⟨hF,hW⟩,hnx,hm⟩:=h
  obtain ⟨e1,hW1⟩:=hW.rowEq hO hf
  have eO:lk ((r,AObj.row t sz n f' fr)::rm r s.O)=up (lk s.O) r (.row t sz n f' fr):=by
   rw [wes]
   funext k
   rw [wa1]
   by_cases e:r=k
   ·subst e;rw [wau,if_pos rfl]
   ·have e':¬ (r,AObj.row t sz n f' fr).1=k:=e
    rw [was _ _ _ e,if_neg e']
  refine ⟨⟨?_,?_⟩,fun k hk=>⟨?_,(hnx k hk).2⟩,hm⟩
  ·refine ⟨hF.1,hF.2.1,fun i u hu=>?_⟩
   obtain ⟨v,hv,hV⟩:=hF.2.2 i u hu
   refine ⟨v,hv,?_⟩
   show V _ (MB E (lk ((r,AObj.row t sz n f' fr)::rm r s.O)) bs) _ _ _
   rw [eO,e1];exact hV
  ·show WRep C E (lk ((r,AObj.row t sz n f' fr)::rm r s.O)) bs w
   rw [eO];exact hW1
  ·show lk ((r,AObj.row t sz n f' fr)::rm r s.O) k=none
   rw [eO]
   have hne:¬ r=k:=fun e=>by subst e;rw [(hnx r hk).1] at hO;cases hO
   rw [was _ _ _ hne];exact (hnx k hk).1
 ·exact h
theorem AWP.rowFn {C:Ctx} {m N:Nat} {c:Code} {Q:Exit→St→Prop} {s:St} (r:Nat) (f':Nat→List AV) (hf:wju r f' s) (h:AWP C m N c Q (Eng.rowFn r f' s)):AWP C m N c Q s:=by
 intro E hE bs a w hr
 exact h E hE bs a w (hr.rowFn r f' hf)
def cutG (g:Nat→FL) (i:Nat):FL:=cutF (g i)
def cutT (g:Nat→RT) (i:Nat):RT:=wb7 (g i)
def wlx (g:Nat→FL) (n k:Nat) (F:FL) (c j:Nat):St:=⟨[(3,.own 0 k),(5,.ptr 1 0),(6,.ptr 2 0),(17,.view 7 n (wad g)),(18,.int .i64 n),(19,.int .i64 k),(43,.view 15 c (wae (atM F.ms))),(44,.int .i64 c),(45,.int .i64 j)],
 [(0,.row 49 7 k (wad (cutG g)) false),
  (1,.cells [.str F.id,.int .i64 F.ver,.int .i64 F.day,.int .i64 F.kind,.view 15 F.ms.length (wae (atM F.ms)),.view 5 F.rs.length (wai (atR F.rs)),.view 5 F.ts.length (wah (atT F.ts))] 49),
  (2,.cells [.str (F.id.take 30),.int .i64 F.ver,.int .i64 F.day,.int .i64 F.kind,.own 3 j,.nil,.nil] 49),
  (3,.row 40 15 j (wae (cutM (atM F.ms))) false)],4,[]⟩
def wnx (g:Nat→FL) (n k:Nat) (F:FL) (c:Nat):war:=fun s Q=>canonIs te 0 [3,5,6,17,18,19,43,44,45] (ownNilP 6 4 40 15 s) (wlx g n k F c 0)∧c=min F.ms.length 3∧
 Q (.exit 2) ⟨[(3,.own 0 k),(5,.ptr 1 0),(6,.ptr 2 0),(17,.view 7 n (wad g)),(18,.int .i64 n),(19,.int .i64 k)],
 [(0,.row 49 7 k (wad (cutG g)) false),
  (1,.cells [.str F.id,.int .i64 F.ver,.int .i64 F.day,.int .i64 F.kind,.view 15 F.ms.length (wae (atM F.ms)),.view 5 F.rs.length (wai (atR F.rs)),.view 5 F.ts.length (wah (atT F.ts))] 49),
  (2,.cells [.str (F.id.take 30),.int .i64 F.ver,.int .i64 F.day,.int .i64 F.kind,.own 3 (cutF F).ms.length,.nil,.nil] 49),
  (3,.row 40 15 (cutF F).ms.length (wae (atM (cutF F).ms)) false)],4,[]⟩
def wlw (g:Nat→FL) (n k:Nat) (F:FL) (c j:Nat):St:=⟨[(3,.own 0 k),(5,.ptr 1 0),(6,.ptr 2 0),(17,.view 7 n (wad g)),(18,.int .i64 n),(19,.int .i64 k),(136,.view 5 c (wai (atR F.rs))),(137,.int .i64 c),(138,.int .i64 j)],
 [(0,.row 49 7 k (wad (cutG g)) false),
  (1,.cells [.str F.id,.int .i64 F.ver,.int .i64 F.day,.int .i64 F.kind,.view 15 F.ms.length (wae (atM F.ms)),.view 5 F.rs.length (wai (atR F.rs)),.view 5 F.ts.length (wah (atT F.ts))] 49),
  (2,.cells [.str (F.id.take 30),.int .i64 F.ver,.int .i64 F.day,.int .i64 F.kind,.own 3 (cutF F).ms.length,.own 4 j,.nil] 49),
  (3,.row 40 15 (cutF F).ms.length (wae (atM (cutF F).ms)) false),(4,.row 61 5 j (wai (cutR (atR F.rs))) false)],5,[]⟩
def wnw (g:Nat→FL) (n k:Nat) (F:FL) (c:Nat):war:=fun s Q=>canonIs te 0 [3,5,6,17,18,19,136,137,138] (ownNilP 6 5 61 5 s) (wlw g n k F c 0)∧c=min F.rs.length 3∧
 Q (.exit 4) ⟨[(3,.own 0 k),(5,.ptr 1 0),(6,.ptr 2 0),(17,.view 7 n (wad g)),(18,.int .i64 n),(19,.int .i64 k)],
 [(0,.row 49 7 k (wad (cutG g)) false),
  (1,.cells [.str F.id,.int .i64 F.ver,.int .i64 F.day,.int .i64 F.kind,.view 15 F.ms.length (wae (atM F.ms)),.view 5 F.rs.length (wai (atR F.rs)),.view 5 F.ts.length (wah (atT F.ts))] 49),
  (2,.cells [.str (F.id.take 30),.int .i64 F.ver,.int .i64 F.day,.int .i64 F.kind,.own 3 (cutF F).ms.length,.own 4 (cutF F).rs.length,.nil] 49),
  (3,.row 40 15 (cutF F).ms.length (wae (atM (cutF F).ms)) false),(4,.row 61 5 (cutF F).rs.length (wai (atR (cutF F).rs)) false)],5,[]⟩
def whc (g:Nat→FL) (n k:Nat) (F:FL) (c j:Nat):St:=⟨[(3,.own 0 k),(6,.ptr 1 0),(17,.view 7 n (wad g)),(18,.int .i64 n),(19,.int .i64 k),(171,.view 5 c (wah (atT F.ts))),(172,.int .i64 c),(173,.int .i64 j)],
 [(0,.row 49 7 k (wad (cutG g)) false),
  (1,.cells [.str (F.id.take 30),.int .i64 F.ver,.int .i64 F.day,.int .i64 F.kind,.own 2 (cutF F).ms.length,.own 3 (cutF F).rs.length,.own 4 j] 49),
  (2,.row 40 15 (cutF F).ms.length (wae (atM (cutF F).ms)) false),(3,.row 61 5 (cutF F).rs.length (wai (atR (cutF F).rs)) false),(4,.row 97 5 j (wah (cutT (atT F.ts))) false)],5,[]⟩
def wnu (g:Nat→FL) (n k:Nat) (F:FL) (c:Nat):war:=fun s Q=>canonIs te 0 [3,6,17,18,19,171,172,173] (ownNilP 6 6 97 5 s) (whc g n k F c 0)∧c=min F.ts.length 3∧
 Q (.exit 6) ⟨[(3,.own 0 k),(6,.ptr 1 0),(17,.view 7 n (wad g)),(18,.int .i64 n),(19,.int .i64 k)],
 [(0,.row 49 7 k (wad (cutG g)) false),
  (1,.cells [.str (F.id.take 30),.int .i64 F.ver,.int .i64 F.day,.int .i64 F.kind,.own 2 (cutF F).ms.length,.own 3 (cutF F).rs.length,.own 4 (cutF F).ts.length] 49),
  (2,.row 40 15 (cutF F).ms.length (wae (atM (cutF F).ms)) false),(3,.row 61 5 (cutF F).rs.length (wai (atR (cutF F).rs)) false),(4,.row 97 5 (cutF F).ts.length (wah (atT (cutF F).ts)) false)],5,[]⟩
def wrk (g:Nat→FL) (n k:Nat) (F:FL) (c j:Nat):St:=⟨[(3,.own 0 k),(6,.ptr 1 0),(17,.view 7 n (wad g)),(18,.int .i64 n),(19,.int .i64 k),(171,.view 5 c (wah (atT F.ts))),(172,.int .i64 c),(173,.int .i64 j)],
 (whc g n k F c (j+1)).O,5,[]⟩
def wnz (g:Nat→FL) (n k:Nat) (F:FL) (c j:Nat):war:=fun s Q=>wju 503 (waq (atB (wb7 (atT F.ts j)).bs)) s∧wga 503 (rowFn 503 (waq (atB (wb7 (atT F.ts j)).bs)) s)∧
 canonIs te 0 [3,6,17,18,19,171,172,173] (frzX 503 [567] (rowFn 503 (waq (atB (wb7 (atT F.ts j)).bs)) s)) (wrk g n k F c j)∧j≤100∧Q .normal (whc g n k F c (j+1))
def wly (g:Nat→FL) (n k:Nat) (F:FL):St:=⟨[(3,.own 0 k),(6,.ptr 1 0),(17,.view 7 n (wad g)),(18,.int .i64 n),(19,.int .i64 k)],
 [(0,.row 49 7 k (wad (cutG g)) false),
  (1,.cells [.str (cutF F).id,.int .i64 (cutF F).ver,.int .i64 (cutF F).day,.int .i64 (cutF F).kind,.view 15 (cutF F).ms.length (wae (atM (cutF F).ms)),.view 5 (cutF F).rs.length (wai (atR (cutF F).rs)),.view 5 (cutF F).ts.length (wah (atT (cutF F).ts))] 49)],2,[]⟩
def wfp (g:Nat→FL) (n k:Nat) (F:FL):St:=⟨[(3,.own 0 k),(6,.ptr 1 0),(17,.view 7 n (wad g)),(18,.int .i64 n),(19,.int .i64 k)],
 [(0,.row 49 7 k (wad (cutG g)) false),
  (1,.cells [.str (F.id.take 30),.int .i64 F.ver,.int .i64 F.day,.int .i64 F.kind,.own 2 (cutF F).ms.length,.own 3 (cutF F).rs.length,.own 4 (cutF F).ts.length] 49),
  (2,.row 40 15 (cutF F).ms.length (wae (atM (cutF F).ms)) false),(3,.row 61 5 (cutF F).rs.length (wai (atR (cutF F).rs)) false),(4,.row 97 5 (cutF F).ts.length (wah (atT (cutF F).ts)) false)],5,[]⟩
def wny (g:Nat→FL) (n k:Nat) (F:FL):war:=fun s Q=>canonIs te 0 [3,6,17,18,19] s (wfp g n k F)∧k≤100∧F=g k∧
 Q .normal ⟨[(3,.own 0 (k+1)),(17,.view 7 n (wad g)),(18,.int .i64 n),(19,.int .i64 k)],[(0,.row 49 7 (k+1) (wad (cutG g)) false)],1,[]⟩
def wlz (g:Nat→FL) (n k:Nat):St:=⟨[(3,.own 0 k),(17,.view 7 n (wad g)),(18,.int .i64 n),(19,.int .i64 k)],[(0,.row 49 7 k (wad (cutG g)) false)],1,[]⟩
def wn0 (g:Nat→FL) (n:Nat):war:=fun st Q=>canonIs te 0 [3,17,18,19] (ownNil 3 49 7 st) (wlz g n 0)∧n≤6∧Q (.exit 0) ⟨[(3,.own 0 n)],[(0,.row 49 7 n (wad (cutG g)) false)],1,[]⟩
def wwc:Spec
 |[.view 7 n f],[]=>some (.view 7 (min n 6) (wad (cutG (flOf f))),[],f=wad (flOf f))
 |_,_=>none
def IsFl (f:Nat→List AV) (G:FL):Prop:=f 0=wbb G
def wnj:wcr
 |[.own 0 n],[.row _ 7 m f _],R=>n=1∧m=1∧∃ G:FL,IsFl f G∧R (.view 7 1 (wad fun _=>cutF G)) []
 |_,_,_=>False
def entI (K:List (List UInt8)) (v:List UInt8→Int):List (AV×AV):=K.map fun t=>(.str t,.int .i64 (v t))
def EsV (es:List (AV×AV)):Prop:=∃ (K:List (List UInt8)) (v:List UInt8→Int),es=entI K v∧K.Nodup
def qD (d:Int) (F:FL):Bool:=decide (d<F.day)
def qV (es:List (AV×AV)) (F:FL):Bool:= !decide (F.kind=1) && decide (F.ver<wao ((mget es (.str F.id)).getD (.int .i64 0)))
def kfL (q:FL→Bool) (g:Nat→FL) (n:Nat):List FL:=(lst g n).filter fun x=> !q x
structure FI where
 k:Nat
 w:Nat
 h:Nat→FL
def wfs:Spec
 |[.agg [.str id,.int .i64 ver,.int .i64 day,.int .i64 kind,.view 15 nm fm,.view 5 nr fr,.view 5 nt ft],.ptr 0 0],[.cells [.int .i64 d] t2]=>some (.bool (qD d (flV id ver day kind nm fm nr fr nt ft)),[(0,.cells [.int .i64 d] t2)],(FlC nm fm nr fr nt ft∧(flV id ver day kind nm fm nr fr nt ft).Rg)∧t2=3∧True)
 |_,_=>none
def wmj:Spec
 |[.own 0 n,.func 143 [.ptr 1 0]],[.row t 7 m f fr,.cells [.int .i64 d] t2]=>
   some (.int .i64 (ixB (fun i=>qD d (flOf f i)) n),[(0,.row 49 7 n f false),(1,.cells [.int .i64 d] 3)],t=49∧t2=3∧fr=false∧n=m∧n≤1000∧f=wad (flOf f)∧(∀ i,i<n→(flOf f i).Rg)∧True)
 |_,_=>none
def wmi (d:Int) (g:Nat→FL) (n k:Nat):St:=⟨[(0,.own 0 n),(1,.func 143 [.ptr 1 0]),(7,.int .i64 n),(8,.int .i64 k)],[(0,.row 49 7 n (wad g) false),(1,.cells [.int .i64 d] 3)],2,[]⟩
def wod (d:Int) (g:Nat→FL) (n:Nat):war:=fun st Q=>canonIs te 2 [0,1,7,8] st (wmi d g n 0)∧n≤1000∧(∀ i,i<n→(g i).Rg)∧True∧
 wab (decide (fstB (fun i=>qD d (g i)) n<n)) (Q .ret ⟨[(4,.int .i64 (fstB (fun i=>qD d (g i)) n))],[(0,.row 49 7 n (wad g) false),(1,.cells [.int .i64 d] 3)],2,[]⟩)
  (Q (.exit 0) ⟨[],[(0,.row 49 7 n (wad g) false),(1,.cells [.int .i64 d] 3)],2,[]⟩)
def wno:wcr
 |[.own 0 n,.func 143 [.ptr 1 0]],[.row t 7 m f fr,.cells [.int .i64 d] t2],R=>t=49∧t2=3∧fr=false∧n=m∧n≤1000∧f=wad (flOf f)∧(∀ i,i<n→(flOf f i).Rg)∧True∧
   ∀ (k:Nat) (h:Nat→FL),k≤n→lst h k=kfL (qD d) (flOf f) n→R (.own 0 k) [(0,.row 49 7 k (wad h) false),(1,.cells [.int .i64 d] 3)]
 |_,_,_=>False
def wm0 (d:Int) (n:Nat) (i:FI):St:=⟨[(0,.own 0 n),(1,.func 143 [.ptr 1 0]),(5,.int .i64 i.w),(6,.int .i64 i.k)],[(0,.row 49 7 n (wad i.h) false),(1,.cells [.int .i64 d] 3)],2,[]⟩
def won (d:Int) (g:Nat→FL) (n i0:Nat):war:=fun st Q=>canonIs te 2 [0,1,5,6] st (wm0 d n ⟨i0+1,i0,g⟩)∧(i0<n∧n≤1000)∧(∀ i,i<n→(g i).Rg)∧True∧(∀ j,j<i0→qD d (g j)=false)∧qD d (g i0)=true∧
 ∀ (w:Nat) (h:Nat→FL),w≤n→lst h w=kfL (qD d) g n→Q (.exit 0) ⟨[(0,.own 0 n),(5,.int .i64 w)],[(0,.row 49 7 n (wad h) false),(1,.cells [.int .i64 d] 3)],2,[]⟩
def wfr:Spec
 |[.agg [.str id,.int .i64 ver,.int .i64 day,.int .i64 kind,.view 15 nm fm,.view 5 nr fr,.view 5 nt ft],.ptr 0 0],[.cells [.map 1] t2,.amap es]=>some (.bool (qV es (flV id ver day kind nm fm nr fr nt ft)),[(0,.cells [.map 1] t2),(1,.amap es)],(FlC nm fm nr fr nt ft∧(flV id ver day kind nm fm nr fr nt ft).Rg)∧t2=132∧EsV es)
 |_,_=>none
def wmh:Spec
 |[.own 0 n,.func 101 [.ptr 1 0]],[.row t 7 m f fr,.cells [.map 2] t2,.amap es]=>
   some (.int .i64 (ixB (fun i=>qV es (flOf f i)) n),[(0,.row 49 7 n f false),(1,.cells [.map 2] 132),(2,.amap es)],t=49∧t2=132∧fr=false∧n=m∧n≤1000∧f=wad (flOf f)∧(∀ i,i<n→(flOf f i).Rg)∧EsV es)
 |_,_=>none
def wmg (es:List (AV×AV)) (g:Nat→FL) (n k:Nat):St:=⟨[(0,.own 0 n),(1,.func 101 [.ptr 1 0]),(7,.int .i64 n),(8,.int .i64 k)],[(0,.row 49 7 n (wad g) false),(1,.cells [.map 2] 132),(2,.amap es)],3,[]⟩
def woc (es:List (AV×AV)) (g:Nat→FL) (n:Nat):war:=fun st Q=>canonIs te 3 [0,1,7,8] st (wmg es g n 0)∧n≤1000∧(∀ i,i<n→(g i).Rg)∧EsV es∧
 wab (decide (fstB (fun i=>qV es (g i)) n<n)) (Q .ret ⟨[(4,.int .i64 (fstB (fun i=>qV es (g i)) n))],[(0,.row 49 7 n (wad g) false),(1,.cells [.map 2] 132),(2,.amap es)],3,[]⟩)
  (Q (.exit 0) ⟨[],[(0,.row 49 7 n (wad g) false),(1,.cells [.map 2] 132),(2,.amap es)],3,[]⟩)
def wnn:wcr
 |[.own 0 n,.func 101 [.ptr 1 0]],[.row t 7 m f fr,.cells [.map 2] t2,.amap es],R=>t=49∧t2=132∧fr=false∧n=m∧n≤1000∧f=wad (flOf f)∧(∀ i,i<n→(flOf f i).Rg)∧EsV es∧
   ∀ (k:Nat) (h:Nat→FL),k≤n→lst h k=kfL (qV es) (flOf f) n→R (.own 0 k) [(0,.row 49 7 k (wad h) false),(1,.cells [.map 2] 132),(2,.amap es)]
 |_,_,_=>False
def wmz (es:List (AV×AV)) (n:Nat) (i:FI):St:=⟨[(0,.own 0 n),(1,.func 101 [.ptr 1 0]),(5,.int .i64 i.w),(6,.int .i64 i.k)],[(0,.row 49 7 n (wad i.h) false),(1,.cells [.map 2] 132),(2,.amap es)],3,[]⟩
def wom (es:List (AV×AV)) (g:Nat→FL) (n i0:Nat):war:=fun st Q=>canonIs te 3 [0,1,5,6] st (wmz es n ⟨i0+1,i0,g⟩)∧(i0<n∧n≤1000)∧(∀ i,i<n→(g i).Rg)∧EsV es∧(∀ j,j<i0→qV es (g j)=false)∧qV es (g i0)=true∧
 ∀ (w:Nat) (h:Nat→FL),w≤n→lst h w=kfL (qV es) g n→Q (.exit 0) ⟨[(0,.own 0 n),(5,.int .i64 w)],[(0,.row 49 7 n (wad h) false),(1,.cells [.map 2] 132),(2,.amap es)],3,[]⟩
def edG (L:List FL) (j:Nat):MG:=edM (atF L j)
def selG (L:List FL) (k:Nat):List FL:=selK (fun i=> !cfB L i) L k
def selB (L:List FL) (k:Nat):List FL:=selK (cfB L) L k
def S_s4 (L:List FL) (k:Nat):St:=⟨[(4,.nil),(5,.nil),(6,.own 0 L.length),(7,.map 1),(17,.own 0 L.length),(18,.int .i64 L.length),(19,.int .i64 k)],[(0,.row 49 7 L.length (wad (atF L)) false),(1,.amap (entM (cntL (edG L) k)))],2,[]⟩
def L_s4 (L:List FL):war:=fun st Q=>canonIs te 0 [4,5,6,7,17,18,19] st (S_s4 L 0)∧L.length≤1000∧Q (.exit 0) ⟨[(4,.nil),(5,.nil),(6,.own 0 L.length),(7,.map 1)],[(0,.row 49 7 L.length (wad (atF L)) false),(1,.amap (entM (cntL (edG L) L.length)))],2,[]⟩
def S_s6 (E:List ((List UInt8×Int)×Int)) (F:FL) (L:List FL) (k:Nat):St:=⟨[(4,.nil),(5,.nil),(6,.own 0 L.length),(7,.map 1),(9,.ptr 2 0),(17,.own 0 L.length),(18,.int .i64 L.length),(19,.int .i64 k)],
 [(0,.row 49 7 L.length (wad (atF L)) false),(1,.amap (entM E)),(2,.cells [.str F.id,.int .i64 F.ver,.int .i64 F.day,.int .i64 F.kind,.view 15 F.ms.length (wae (atM F.ms)),.view 5 F.rs.length (wai (atR F.rs)),.view 5 F.ts.length (wah (atT F.ts))] 49)],3,[]⟩
def S_s6b (E:List ((List UInt8×Int)×Int)) (F:FL) (L:List FL) (k:Nat):St:=⟨[(4,.nil),(5,.nil),(6,.own 0 L.length),(7,.map 1),(9,.ptr 2 0),(17,.own 0 L.length),(18,.int .i64 L.length),(19,.int .i64 k),(23,.map 1),(28,.agg [.str F.id,.int .i64 F.ver])],
 [(0,.row 49 7 L.length (wad (atF L)) false),(1,.amap (entM E)),(2,.cells [.str F.id,.int .i64 F.ver,.int .i64 F.day,.int .i64 F.kind,.view 15 F.ms.length (wae (atM F.ms)),.view 5 F.rs.length (wai (atR F.rs)),.view 5 F.ts.length (wah (atT F.ts))] 49)],3,[]⟩
def L_s6 (E:List ((List UInt8×Int)×Int)) (F:FL) (L:List FL) (k:Nat):war:=fun st Q=>canonIs te 0 [4,5,6,7,9,17,18,19] st (S_s6 E F L k)∧(E.map Prod.fst).Nodup∧inR .i64 (getC E (mk2 (edM F))+1)∧Q .normal (S_s6 (addC E (mk2 (edM F))) F L k)
def S_s9 (L:List FL) (k:Nat):St:=⟨[(4,.own 0 (selG L k).length),(5,.own 1 (selB L k).length),(7,.map 2),(34,.own 3 L.length),(35,.int .i64 L.length),(36,.int .i64 k)],
 [(0,.row 49 7 (selG L k).length (wad (atF (selG L k))) false),(1,.row 49 7 (selB L k).length (wad (atF (selB L k))) false),(2,.amap (entM (cntL (edG L) L.length))),(3,.row 49 7 L.length (wad (atF L)) false)],4,[]⟩
def L_s9 (L:List FL):war:=fun st Q=>canonIs te 0 [4,5,7,34,35,36] (ownNil 4 49 7 (ownNil 5 49 7 st)) (S_s9 L 0)∧L.length≤1000∧
 Q (.exit 2) ⟨[(4,.own 0 (wbs L).length),(5,.own 1 (badL L).length)],[(0,.row 49 7 (wbs L).length (wad (atF (wbs L))) false),(1,.row 49 7 (badL L).length (wad (atF (badL L))) false)],2,[]⟩
def wlr:Spec
 |[.view 7 n f,.int .i64 d],[]=>some (.tuple [.own 0 (wbs (knwL okV (flOf f) n d)).length,.own 1 (badL (knwL okV (flOf f) n d)).length],
   [(0,.row 49 7 (wbs (knwL okV (flOf f) n d)).length (wad (atF (wbs (knwL okV (flOf f) n d)))) false),(1,.row 49 7 (badL (knwL okV (flOf f) n d)).length (wad (atF (badL (knwL okV (flOf f) n d)))) false)],n≤1000∧f=wad (flOf f)∧∀ i,i<n→(flOf f i).Gd)
 |_,_=>none
def idK (G:List FL):Nat→List (List UInt8)
 |0=>[]
 |k+1=>bif !decide ((atF G k).kind=1) && !decide ((atF G k).id∈idK G k) then idK G k++[(atF G k).id] else idK G k
def nwE (G:List FL) (k:Nat):List (AV×AV):=entI (idK G k) fun t=>nwF G t k
def S_v4 (G:List FL) (k:Nat):St:=⟨[(5,.own 0 G.length),(7,.ptr 1 0),(17,.own 0 G.length),(18,.int .i64 G.length),(19,.int .i64 k)],[(0,.row 49 7 G.length (wad (atF G)) false),(1,.cells [.map 2] 132),(2,.amap (nwE G k))],3,[]⟩
def L_v4 (G:List FL):war:=fun st Q=>canonIs te 0 [5,7,17,18,19] st (S_v4 G 0)∧G.length≤1000∧(∀ F∈G,0≤F.ver)∧Q (.exit 0) ⟨[(5,.own 0 G.length),(7,.ptr 1 0)],[(0,.row 49 7 G.length (wad (atF G)) false),(1,.cells [.map 2] 132),(2,.amap (nwE G G.length))],3,[]⟩
def awR:RW:=⟨[111],[57,54,51,56,53,48,55,52],5,2,300⟩
def awFl:FL:=⟨[97],1,10,2,[],[awR],[]⟩
def FM (f:Nat→List AV) (n:Nat):Prop:=(∀ i,i<n→f i=wad (flOf f) i)∧∀ i,i<n→(flOf f i).Gd
def wli:Spec
 |[.own 0 n,.int .i64 d],[.row _ 7 m f _]=>some (.view 7 (vwL okV (flOf f) n d).length (wad (atF (vwL okV (flOf f) n d))),[],n=m∧n≤1000∧FM f n)
 |_,_=>none
def wwb:Spec
 |[.view 7 n f,.int .i64 d],[]=>some (.view 7 (vwL okV (flOf f) n d).length (wad (atF (vwL okV (flOf f) n d))),[],n≤1000∧f=wad (flOf f)∧∀ i,i<n→(flOf f i).Gd)
 |_,_=>none
def S_awc:St:=⟨[(0,.bool false),(1,.ptr 0 0)],[(0,.cells [.str awFl.id,.int .i64 awFl.ver,.int .i64 awFl.day,.int .i64 awFl.kind,.view 15 awFl.ms.length (wae (atM awFl.ms)),.view 5 awFl.rs.length (wai (atR awFl.rs)),.view 5 awFl.ts.length (wah (atT awFl.ts))] 49)],1,[]⟩
def S_aw0:St:=⟨[(0,.bool false),(1,.ptr 0 0)],[(0,.cells [.str [97],.int .i64 1,.int .i64 10,.int .i64 2,.view 15 0 (wae (atM [])),.own 1 1,.view 5 0 (wah (atT []))] 49),(1,.row 61 5 1 (wai (atR [awR])) false)],2,[]⟩
def woq:war:=fun st Q=>canonIs te 0 [0,1] (nilVP 1 4 15 (wae (atM [])) (nilVP 1 6 5 (wah (atT [])) st)) S_aw0∧Q .normal ⟨[(0,.bool true)],[],0,[]⟩
def wnb:Spec
 |[],[]=>some (.bool true,[],True)
 |_,_=>none
def wdg (st x:Int):Int:=bif decide (st=3) || decide (st=4) then 0 else x
def wdo (st:Int) (p q:List UInt8):List UInt8:=bif decide (st=5) then (bif decide (q=p) then idF 4 else q) else []
def wel (st a:Int):Int:=bif decide (st=3) || decide (st=4) then a else bif decide (st=5) then a+1+1 else a+1
def we3 (n:Nat) (v:Nat→Int) (a:Int):Int:=1+List.getD [(0:Int),0,0,1,2,3,4] (wac n v (a+1+1+1+1) 7).toNat 0
def visV (n:Nat) (v:Nat→Int) (a:Int):VT:=⟨outF (wac n v a 3),idF (wac n v (a+1) 4),1440+wac n v (a+1+1) 4,43830+wac n v (a+1+1+1) 100,we3 n v a,
 wdg (we3 n v a) (100+wac n v (a+1+1+1+1+1) 4 * 5),wdo (we3 n v a) (idF (wac n v (a+1) 4)) (idF (wac n v (a+1+1+1+1+1+1) 4))⟩
def visA (n:Nat) (v:Nat→Int) (a:Int):Int:=wel (we3 n v a) (a+1+1+1+1+1)
def wlh:Spec
 |[.ptr 0 0],[.cells [.view sz n f,.int .i64 a] t]=>some (.agg [.str (visV n (vInt f) a).o,.str (visV n (vInt f) a).p,.int .i64 (visV n (vInt f) a).per,.int .i64 (visV n (vInt f) a).day,.int .i64 (visV n (vInt f) a).st,.int .i64 (visV n (vInt f) a).pr,.str (visV n (vInt f) a).rep],
   [(0,.cells [.view 1 n f,.int .i64 (visA n (vInt f) a)] 27)],t=27∧sz=1∧f=waa (vInt f)∧(0≤a∧a≤4611686018427386000))
 |_,_=>none
def msgV (n:Nat) (v:Nat→Int) (a:Int):MG:=bif decide (wac n v (a+1+1) 5=0) then
  ⟨devF (wac n v a 3),1+wac n v (a+1) 9,2,⟨[],[],0,0,0,0,[]⟩,⟨outF (wac n v (a+1+1+1) 3),idF (wac n v (a+1+1+1+1) 4),1440+wac n v (a+1+1+1+1+1) 4,devF (wac n v (a+1+1+1+1+1+1) 3),1+wac n v (a+1+1+1+1+1+1+1) 9⟩⟩
 else ⟨devF (wac n v a 3),1+wac n v (a+1) 9,1,visV n v (a+1+1+1),⟨[],[],0,[],0⟩⟩
def msgA (n:Nat) (v:Nat→Int) (a:Int):Int:=bif decide (wac n v (a+1+1) 5=0) then a+1+1+1+1+1+1+1+1 else visA n v (a+1+1+1)
def wmc:Spec
 |[.ptr 0 0],[.cells [.view sz n f,.int .i64 a] t]=>some (.agg [.str (msgV n (vInt f) a).dev,.int .i64 (msgV n (vInt f) a).seq,.int .i64 (msgV n (vInt f) a).kind,.str (msgV n (vInt f) a).v.o,.str (msgV n (vInt f) a).v.p,.int .i64 (msgV n (vInt f) a).v.per,.int .i64 (msgV n (vInt f) a).v.day,.int .i64 (msgV n (vInt f) a).v.st,.int .i64 (msgV n (vInt f) a).v.pr,.str (msgV n (vInt f) a).v.rep,.str (msgV n (vInt f) a).d.o,.str (msgV n (vInt f) a).d.p,.int .i64 (msgV n (vInt f) a).d.per,.str (msgV n (vInt f) a).d.dev,.int .i64 (msgV n (vInt f) a).d.num],
   [(0,.cells [.view 1 n f,.int .i64 (msgA n (vInt f) a)] 27)],t=27∧sz=1∧f=waa (vInt f)∧(0≤a∧a≤4611686018427385000))
 |_,_=>none
theorem wal.mapO {C:Ctx} {f:FuncId} {args:List AV} {objs:List AObj} {R:AV→List (Nat×AObj)→Prop} (φ:AV→AV) (hφ:∀ (w:World) (M:Nat→Prop) (bs:Nat→Option Hd) (v:Value) (u:AV),V w M bs v u→V w M bs v (φ u)) (rs:List Nat)
  (h:wal C f args objs fun u O=>R u (Eng.mapO φ rs O)):wal C f args objs R:=by
 refine ⟨h.1,fun E bs w cargs h1 h2 h3 h4 h5 h6 h7=>?_⟩
 refine (h.2 E bs w cargs h1 h2 h3 h4 h5 h6 h7).mono ?_
 rintro e w' ⟨v,u,O',bs',r1,hR,r3,r4,r5⟩
 obtain ⟨e2,hW2⟩:=r3.mapR φ (hφ w' _ bs') rs
 have eO:lk (Eng.mapO φ rs O')=fun k=>(lk O' k).map (Eng.mapR φ (hasN rs k)):=funext fun k=>wh9 φ rs O' k
 refine ⟨v,u,Eng.mapO φ rs O',bs',r1,hR,by rw [eO];exact hW2,by rw [eO,e2];exact r4,fun k hk=>⟨?_,(r5 k hk).2⟩⟩
 rw [wh9,(r5 k hk).1];rfl
end Go.Eng
