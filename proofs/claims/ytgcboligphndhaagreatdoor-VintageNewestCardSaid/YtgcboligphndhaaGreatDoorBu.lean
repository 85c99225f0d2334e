/- The tape. -/
import Derived.Test.YtgcboligphndhaaGreatDoorBt
import Derived.Lib.ItoaNum
import Derived.Test.YtgcboligphndhaaGreatDoorBs
import Derived.Test.YtgcboligphndhaaGreatDoorBl
import Derived.Lib.Builder
import Derived.WalkKit
import Derived.Test.YtgcboligphndhaaGreatDoorBm
import Derived.Below
import Derived.Test.YtgcboligphndhaaGreatDoorBr
namespace Go.Eng
def awR:RW:=⟨[111],[57,54,51,56,53,48,55,52],5,2,300⟩
def awFl:FL:=⟨[97],1,10,2,[],[awR],[]⟩
def FM (f:Nat→List AV) (n:Nat):Prop:=(∀ i,i<n→f i=wab (flOf f) i)∧∀ i,i<n→(flOf f i).Gd
def wgj:Spec
 |[.own 0 n,.int .i64 d],[.row _ 7 m f _]=>some (.view 7 (vwL okV (flOf f) n d).length (wab (atF (vwL okV (flOf f) n d))),[],n=m∧n≤1000∧FM f n)
 |_,_=>none
def wue:Spec
 |[.view 7 n f,.int .i64 d],[]=>some (.view 7 (vwL okV (flOf f) n d).length (wab (atF (vwL okV (flOf f) n d))),[],n≤1000∧f=wab (flOf f)∧∀ i,i<n→(flOf f i).Gd)
 |_,_=>none
def S_awc:St:=⟨[(0,.bool false),(1,.ptr 0 0)],[(0,.cells [.str awFl.id,.int .i64 awFl.ver,.int .i64 awFl.day,.int .i64 awFl.kind,.view 15 awFl.ms.length (wah (atM awFl.ms)),.view 5 awFl.rs.length (wak (atR awFl.rs)),.view 5 awFl.ts.length (wai (atT awFl.ts))] 49)],1,[]⟩
def S_aw0:St:=⟨[(0,.bool false),(1,.ptr 0 0)],[(0,.cells [.str [97],.int .i64 1,.int .i64 10,.int .i64 2,.view 15 0 (wah (atM [])),.own 1 1,.view 5 0 (wai (atT []))] 49),(1,.row 61 5 1 (wak (atR [awR])) false)],2,[]⟩
def wm3:wau:=fun st Q=>canonIs te 0 [0,1] (nilVP 1 4 15 (wah (atM [])) (nilVP 1 6 5 (wai (atT [])) st)) S_aw0∧Q .normal ⟨[(0,.bool true)],[],0,[]⟩
def wl3:Spec
 |[],[]=>some (.bool true,[],True)
 |_,_=>none
end Go.Eng
namespace Go.Eng
open Go.Lib
structure MG.Tn (m:MG):Prop where
 rg:m.Rg
 a:m.dev.length≤100
 b:m.v.o.length≤100
 c:m.v.p.length≤100
 d:m.v.rep.length≤100
 e:m.d.o.length≤100
 f:m.d.p.length≤100
 g:m.d.dev.length≤100
structure RW.Tn (r:RW):Prop where
 rg:r.Rg
 a:r.o.length≤100
 b:r.p.length≤100
structure RT.Tn (t:RT):Prop where
 rg:t.Rg
 a:t.o.length≤100
 b:t.p.length≤100
structure FL.Tn (F:FL):Prop where
 id:F.id.length≤100
 ver:inR .i64 F.ver
 kind:inR .i64 F.kind
 m:F.ms.length≤1000∧∀ m∈F.ms,m.Tn
 r:F.rs.length≤1000∧∀ r∈F.rs,r.Tn
 t:F.ts.length≤1000∧∀ t∈F.ts,t.Tn
theorem wrq:∀ (k u:Nat),u<10 ^ (k+1)→nDigits u≤k+1
 |0,u,h=>by rw [nDigits_small (by omega)];exact Nat.le_refl _
 |k+1,u,h=>by
  by_cases q:u<10
  ·rw [nDigits_small q];omega
  ·rw [nDigits_big q]
   have:=wrq k (u / 10) (by rw [Nat.pow_succ] at h;omega)
   omega
theorem wrp (u:Nat) (h:u<18446744073709551616):nDigits u≤20:=wrq 19 u (by omega)
theorem itoa21 {n:Int} (h:inR .i64 n):(itoa n).length≤21:=by
 simp only [inR] at h
 unfold itoa
 by_cases q:n<0
 ·rw [if_pos q,List.length_cons,decDigits_length]
  have:=wrp n.natAbs (by omega)
  omega
 ·rw [if_neg q,decDigits_length]
  have:=wrp n.toNat (by omega)
  omega
theorem wb7 {n:Int} (h:inR .i64 n):(numE n).length≤22:=by
 have:=itoa21 h
 unfold numE
 rw [List.length_append]
 show _+1≤_
 omega
theorem wi4 {n:Nat} (h:n≤1000):(numE n).length≤22:=wb7 (by simp only [inR];omega)
theorem wct {s:List UInt8} (h:s.length≤100):(txtE s).length≤123:=by
 have:=itoa21 (n:=(s.length:Int)) (by simp only [inR];omega)
 unfold txtE
 rw [List.length_append,List.length_cons,List.length_append]
 show _+(s.length+1+1)≤_
 omega
theorem wh0 {α:Type} (e:α→List UInt8) (B:Nat):∀ l:List α,(∀ x∈l,(e x).length≤B)→(l.flatMap e).length≤l.length * B
 |[],_=>by simp
 |x::l,h=>by
  have h1:=h x (List.mem_cons_self ..)
  have h2:=wh0 e B l fun y hy=>h y (List.mem_cons_of_mem _ hy)
  rw [List.flatMap_cons,List.length_append,List.length_cons,Nat.add_mul,Nat.one_mul]
  omega
theorem mgE_len {m:MG} (h:m.Tn):(mgE m).length≤1100:=by
 have h1:=wct h.a
 have h2:=wct h.b
 have h3:=wct h.c
 have h4:=wct h.d
 have h5:=wct h.e
 have h6:=wct h.f
 have h7:=wct h.g
 have n1:=wb7 h.rg.seq
 have n2:=wb7 h.rg.kind
 have n3:=wb7 h.rg.per
 have n4:=wb7 h.rg.day
 have n5:=wb7 h.rg.st
 have n6:=wb7 h.rg.pr
 have n7:=wb7 h.rg.dper
 have n8:=wb7 h.rg.num
 unfold mgE
 simp only [List.length_append]
 omega
theorem rwE_len {r:RW} (h:r.Tn):(rwE r).length≤1100:=by
 have h1:=wct h.a
 have h2:=wct h.b
 have n1:=wb7 h.rg.per
 have n2:=wb7 h.rg.u
 have n3:=wb7 h.rg.tv
 unfold rwE
 simp only [List.length_append]
 omega
theorem rtE_len {t:RT} (h:t.Tn):(rtE t).length≤50000:=by
 have h1:=wct h.a
 have h2:=wct h.b
 have n1:=wb7 h.rg.per
 have n2:=wb7 h.rg.st
 have n3:=wi4 h.rg.n
 have hb:=wh0 bkE 44 t.bs fun b hb=>by
  have q1:=wb7 (h.rg.b b hb).1
  have q2:=wb7 (h.rg.b b hb).2
  unfold bkE
  rw [List.length_append];omega
 have hm:t.bs.length * 44≤1000 * 44:=Nat.mul_le_mul_right _ h.rg.n
 unfold rtE
 simp only [List.length_append]
 omega
theorem FL.Tn.rg {F:FL} (h:F.Tn):F.Rg:=by
 refine ⟨h.ver,h.kind,h.m.1,h.r.1,h.t.1,fun m hm=>(h.m.2 m hm).rg,fun r hr=>(h.r.2 r hr).rg,fun t ht=>(h.t.2 t ht).rg,?_⟩
 have h1:=wct h.id
 have n1:=wb7 h.ver
 have n2:=wb7 h.kind
 have n3:=wi4 h.m.1
 have n4:=wi4 h.r.1
 have n5:=wi4 h.t.1
 have f1:=wh0 mgE 1100 F.ms fun m hm=>mgE_len (h.m.2 m hm)
 have f2:=wh0 rwE 1100 F.rs fun r hr=>rwE_len (h.r.2 r hr)
 have f3:=wh0 rtE 50000 F.ts fun t ht=>rtE_len (h.t.2 t ht)
 have m1:F.ms.length * 1100≤1000 * 1100:=Nat.mul_le_mul_right _ h.m.1
 have m2:F.rs.length * 1100≤1000 * 1100:=Nat.mul_le_mul_right _ h.r.1
 have m3:F.ts.length * 50000≤1000 * 50000:=Nat.mul_le_mul_right _ h.t.1
 unfold encF
 simp only [List.length_append]
 omega
theorem MG.Tn.sm {m:MG} (h:m.Tn):m.Sm:=⟨by have:=h.a;omega,by have:=h.b;omega,by have:=h.e;omega,by have:=h.g;omega⟩
theorem FL.Tn.gd {F:FL} (h:F.Tn):F.Gd:=
 ⟨⟨by have:=h.id;omega,⟨h.m.1,fun m hm=>(h.m.2 m hm).sm⟩,⟨h.r.1,fun r hr=>by have:=(h.r.2 r hr).a;omega⟩,⟨h.t.1,fun t ht=>⟨by have:=(h.t.2 t ht).a;omega⟩⟩⟩,h.rg⟩
theorem wxy {s:List UInt8} (h:wa7 s=true):s.length≤24:=by
 unfold wa7 at h
 simp only [Bool.and_eq_true,decide_eq_true_eq] at h
 omega
theorem wus {s:List UInt8} (h:wbq s=true):s.length≤13:=by
 unfold wbq wby at h
 split at h
 ·rename_i q
  simp only [Bool.and_eq_true,Bool.or_eq_true,decide_eq_true_eq] at q
  omega
 ·cases h
theorem wu9 {o p:List UInt8} {per:Int} (h:wb3 o p per=true):o.length≤24∧p.length≤13∧0≤per∧per≤5999:=by
 unfold wb3 at h
 simp only [Bool.and_eq_true,decide_eq_true_eq] at h
 exact ⟨wxy h.1.1.1,wus h.1.1.2,h.1.2,h.2⟩
theorem rowF_tn {r:RW} (h:rowF r=true):r.Tn:=by
 unfold rowF at h
 simp only [Bool.and_eq_true,decide_eq_true_eq] at h
 obtain ⟨h1,h2,h3,h4⟩:=wu9 h.1.1
 exact ⟨⟨by simp only [inR];omega,by simp only [inR];omega,by simp only [inR];omega⟩,by omega,by omega⟩
end Go.Eng
namespace Go.Eng
structure RW.Made (r:RW):Prop where
 ok:rowF r=true
 o:r.o.length≤2
 u:1≤r.u∧r.u≤20
 tv:1≤r.tv∧r.tv≤2400
structure RwS where
 c:Nat
 g:Nat→RW
 a:Int
def RW.put (g:Nat→RW) (k:Nat) (r:RW) (i:Nat):RW:=if i<k then g i else r
def BK.Rg (b:BK):Prop:=inR .i64 b.up∧inR .i64 b.pr
structure TfS where
 up:Int
 bs:List BK
 a:Int
structure FiS where
 ts:List RT
 a:Int
structure FL.Low (F:FL):Prop where
 id:F.id.length≤24
 m:F.ms.length≤4
 r:F.rs.length≤4
 t:F.ts.length≤2
 ver:1≤F.ver∧F.ver≤3
 kind:1≤F.kind∧F.kind≤3
 day:43860≤F.day∧F.day≤43865
def rowFn (r:Nat) (f':Nat→List AV) (s:St):St:=match lk s.O r with
 |some (.row t sz n _ fr)=>⟨s.T,(r,.row t sz n f' fr)::rm r s.O,s.nx,[]⟩
 |_=>s
def wiz (r:Nat) (f':Nat→List AV) (s:St):Prop:=match lk s.O r with
 |some (.row _ _ n f _)=>∀ i,i<n→f' i=f i
 |_=>True
theorem RepS.rowFn {C:Ctx} {E:Ent} {N:Nat} {s:St} {bs:Nat→Option Hd} {a:Act} {w:World} (h:RepS C E N s bs a w) (r:Nat) (f':Nat→List AV) (hf:wiz r f' s):RepS C E N (Eng.rowFn r f' s) bs a w:=by
 unfold Eng.rowFn
 unfold wiz at hf
 split
 ·rename_i t sz n f fr hO
  rw [hO] at hf
  have hf:∀ i,i<n→f' i=f i:=hf
  obtain ⟨⟨hF,hW⟩,hnx,hm⟩:=h
  obtain ⟨e1,hW1⟩:=hW.rowEq hO hf
  have eO:lk ((r,AObj.row t sz n f' fr)::rm r s.O)=up (lk s.O) r (.row t sz n f' fr):=by
   rw [wd4]
   funext k
   rw [waw]
   by_cases e:r=k
   ·subst e;rw [wap,if_pos rfl]
   ·have e':¬ (r,AObj.row t sz n f' fr).1=k:=e
    rw [wal _ _ _ e,if_neg e']
  refine ⟨⟨?_,?_⟩,fun k hk=>⟨?_,(hnx k hk).2⟩,hm⟩
  ·refine ⟨hF.1,hF.2.1,fun i u hu=>?_⟩
   obtain ⟨v,hv,hV⟩:=hF.2.2 i u hu
   refine ⟨v,hv,?_⟩
   show V _ (MB E (lk ((r,AObj.row t sz n f' fr)::rm r s.O)) bs) _ _ _
   rw [eO,e1];exact hV
  ·show WRep C E (lk ((r,AObj.row t sz n f' fr)::rm r s.O)) bs w
   rw [eO];exact hW1
  ·show lk ((r,AObj.row t sz n f' fr)::rm r s.O) k=none
   rw [eO]
   have hne:¬ r=k:=fun e=>by subst e;rw [(hnx r hk).1] at hO;cases hO
   rw [wal _ _ _ hne];exact (hnx k hk).1
 ·exact h
theorem AWP.rowFn {C:Ctx} {m N:Nat} {c:Code} {Q:Exit→St→Prop} {s:St} (r:Nat) (f':Nat→List AV) (hf:wiz r f' s) (h:AWP C m N c Q (Eng.rowFn r f' s)):AWP C m N c Q s:=by
 intro E hE bs a w hr
 exact h E hE bs a w (hr.rowFn r f' hf)
theorem wag.mapO {C:Ctx} {f:FuncId} {args:List AV} {objs:List AObj} {R:AV→List (Nat×AObj)→Prop} (φ:AV→AV) (hφ:∀ (w:World) (M:Nat→Prop) (bs:Nat→Option Hd) (v:Value) (u:AV),V w M bs v u→V w M bs v (φ u)) (rs:List Nat)
  (h:wag C f args objs fun u O=>R u (Eng.mapO φ rs O)):wag C f args objs R:=by
 refine ⟨h.1,fun E bs w cargs h1 h2 h3 h4 h5 h6 h7=>?_⟩
 refine (h.2 E bs w cargs h1 h2 h3 h4 h5 h6 h7).mono ?_
 rintro e w' ⟨v,u,O',bs',r1,hR,r3,r4,r5⟩
 obtain ⟨e2,hW2⟩:=r3.mapR φ (hφ w' _ bs') rs
 have eO:lk (Eng.mapO φ rs O')=fun k=>(lk O' k).map (Eng.mapR φ (hasN rs k)):=funext fun k=>whj φ rs O' k
 refine ⟨v,u,Eng.mapO φ rs O',bs',r1,hR,by rw [eO];exact hW2,by rw [eO,e2];exact r4,fun k hk=>⟨?_,(r5 k hk).2⟩⟩
 rw [whj,(r5 k hk).1];rfl
structure FsS where
 L:List FL
 a:Int
structure TuS where
 k:Nat
 L:List FL
 a:Int
structure FL.Ri (F:FL):Prop where
 ver:inR .i64 F.ver
 day:inR .i64 F.day
 kind:inR .i64 F.kind
 m:∀ m∈F.ms,m.Rg
 r:∀ r∈F.rs,r.Rg
 t:∀ t∈F.ts,inR .i64 t.per∧inR .i64 t.st∧∀ b∈t.bs,inR .i64 b.up∧inR .i64 b.pr
def Up1 (u u':AV):Prop:=u'=u∨(u= .nil∧∃ (sz:Nat) (g:Nat→List AV),u'= .view sz 0 g)
def UpL:List AV→List AV→Prop
 |[],[]=>True
 |a::l,b::m=>Up1 a b∧UpL l m
 |_,_=>False
theorem UpL.refl:∀ l:List AV,UpL l l
 |[]=>trivial
 |_::l=>⟨.inl rfl,UpL.refl l⟩
theorem UpL.len:∀ {l m:List AV},UpL l m→m.length=l.length
 |[],[],_=>rfl
 |_::l,_::m,h=>by rw [List.length_cons,List.length_cons,UpL.len h.2]
 |[],_::_,h=>h.elim
 |_::_,[],h=>h.elim
theorem UpL.at:∀ {l m:List AV},UpL l m→∀ {j:Nat} {u':AV},m[j]?=some u'→∃ u,l[j]?=some u∧Up1 u u'
 |[],[],_,j,u',h=>by simp at h
 |a::l,b::m,hu,0,u',h=>by
  simp only [List.getElem?_cons_zero,Option.some.injEq] at h
  subst h
  exact ⟨a,rfl,hu.1⟩
 |a::l,b::m,hu,j+1,u',h=>by
  rw [List.getElem?_cons_succ] at h ⊢
  exact UpL.at hu.2 h
 |[],_::_,hu,_,_,_=>hu.elim
 |_::_,[],hu,_,_,_=>hu.elim
theorem V.up1 {w:World} {M:Nat→Prop} {bs:Nat→Option Hd} {v:Value} {u u':AV} (h:V w M bs v u) (e:Up1 u u'):V w M bs v u':=by
 rcases e with rfl | ⟨rfl,sz,g,rfl⟩
 ·exact h
 ·exact V.nilv (sz:=sz) (f:=g) h
theorem WRep.rowUp {C:Ctx} {E:Ent} {O:Nat→Option AObj} {bs:Nat→Option Hd} {w:World} (hW:WRep C E O bs w) {r0:Nat} {t sz n:Nat} {f f':Nat→List AV} {fr:Bool} (hd:O r0=some (.row t sz n f fr)) (hf:∀ i,i<n→UpL (f i) (f' i)):
  MB E (up O r0 (.row t sz n f' fr)) bs=MB E O bs∧WRep C E (up O r0 (.row t sz n f' fr)) bs w:=by
 have hlk:∀ r o,up O r0 (.row t sz n f' fr) r=some o→(r=r0∧o= .row t sz n f' fr)∨(r≠r0∧O r=some o):=fun r o ho=>by
  by_cases e:r0=r
  ·subst e
   rw [wap] at ho
   exact .inl ⟨rfl,(Option.some.inj ho).symm⟩
  ·rw [wal _ _ _ e] at ho
   exact .inr ⟨fun e'=>e e'.symm,ho⟩
 have hback:∀ r o,O r=some o→∃ o',up O r0 (.row t sz n f' fr) r=some o'∧o'.mut=o.mut:=fun r o ho=>by
  by_cases e:r0=r
  ·subst e
   rw [hd] at ho
   obtain rfl:=Option.some.inj ho
   exact ⟨_,wap _ _ _,rfl⟩
  ·exact ⟨o,by rw [wal _ _ _ e];exact ho,rfl⟩
 have hold:∀ r o,up O r0 (.row t sz n f' fr) r=some o→∃ o',O r=some o'∧o'.mut=o.mut:=fun r o ho=>by
  rcases hlk r o ho with ⟨rfl,rfl⟩ | ⟨_,h2⟩
  ·exact ⟨_,hd,rfl⟩
  ·exact ⟨_,h2,rfl⟩
 have hMB:MB E (up O r0 (.row t sz n f' fr)) bs=MB E O bs:=by
  funext b
  apply propext
  constructor
  ·rintro (h | ⟨r,o,c,h1,h2,h3⟩)
   ·exact .inl h
   ·obtain ⟨o',q1,q2⟩:=hold r o h1
    exact .inr ⟨r,o',c,q1,q2.trans h2,h3⟩
  ·rintro (h | ⟨r,o,c,h1,h2,h3⟩)
   ·exact .inl h
   ·obtain ⟨o',q1,q2⟩:=hback r o h1
    exact .inr ⟨r,o',c,q1,q2.trans h2,h3⟩
 have hmb:∀ b,mutB (up O r0 (.row t sz n f' fr)) bs b→mutB O bs b:=fun b ⟨r,o,c,h1,h2,h3⟩=>by
  obtain ⟨o',q1,q2⟩:=hold r o h1
  exact ⟨r,o',c,q1,q2.trans h2,h3⟩
 refine ⟨hMB,?_⟩
 exact {
  obj:=fun r o ho=>by
   rw [hMB]
   rcases hlk r o ho with ⟨rfl,rfl⟩ | ⟨hne,ho⟩
   ·rcases hW.obj r _ hd with h | ⟨b,c,vs,h1,h2,h3,h4,h5,h6,h7,h8⟩
    ·exact .inl h
    ·exact .inr ⟨b,c,vs,h1,h2,h3,h4,h5,fun i hi=>(hf i hi).len.trans (h6 i hi),h7,fun i hi j v u hj hv hu=>by
      obtain ⟨u0,q1,q2⟩:=(hf i hi).at hu
      exact (h8 i hi j v u0 hj hv q1).up1 q2⟩
   ·exact hW.obj r o ho
  sep:=fun r r' o1 o2 b c c' h1 h2 m1 m2 b1 b2=>by
   obtain ⟨o1',p1,p2⟩:=hold r o1 h1
   obtain ⟨o2',p3,p4⟩:=hold r' o2 h2
   exact hW.sep r r' o1' o2' b c c' p1 p3 (p2.trans m1) (p4.trans m2) b1 b2
  out:=fun b hb=>hW.out b (hmb b hb)
  frz:=fun r t' sz' n' f2 b c ho hb=>by
   rw [hMB]
   rcases hlk r _ ho with ⟨rfl,h⟩ | ⟨hne,ho⟩
   ·injection h with e1 e2 e3 e4 e5
    subst e5
    exact hW.frz r _ _ _ _ b c hd hb
   ·exact hW.frz r t' sz' n' f2 b c ho hb
  high:=fun b hb=>hW.high b (by rw [← hMB];exact hb)
  lt:=hW.lt
  outlt:=hW.outlt
  keep:=hW.keep
  old:=fun b hb=>hW.old b (hmb b hb)
  size:=hW.size
  pre:=hW.pre
  os:=hW.os
  tape:=hW.tape
  output:=hW.output
  laid:=hW.laid
  gle:=hW.gle }
def wha (r:Nat) (f':Nat→List AV) (s:St):Prop:=match lk s.O r with
 |some (.row _ _ n f _)=>∀ i,i<n→UpL (f i) (f' i)
 |_=>True
theorem RepS.rowUp {C:Ctx} {E:Ent} {N:Nat} {s:St} {bs:Nat→Option Hd} {a:Act} {w:World} (h:RepS C E N s bs a w) (r:Nat) (f':Nat→List AV) (hf:wha r f' s):RepS C E N (Eng.rowFn r f' s) bs a w:=by
 unfold Eng.rowFn
 unfold wha at hf
 split
 ·rename_i t sz n f fr hO
  rw [hO] at hf
  have hf:∀ i,i<n→UpL (f i) (f' i):=hf
  obtain ⟨⟨hF,hW⟩,hnx,hm⟩:=h
  obtain ⟨e1,hW1⟩:=hW.rowUp hO hf
  have eO:lk ((r,AObj.row t sz n f' fr)::rm r s.O)=up (lk s.O) r (.row t sz n f' fr):=by
   rw [wd4]
   funext k
   rw [waw]
   by_cases e:r=k
   ·subst e;rw [wap,if_pos rfl]
   ·have e':¬ (r,AObj.row t sz n f' fr).1=k:=e
    rw [wal _ _ _ e,if_neg e']
  refine ⟨⟨?_,?_⟩,fun k hk=>⟨?_,(hnx k hk).2⟩,hm⟩
  ·refine ⟨hF.1,hF.2.1,fun i u hu=>?_⟩
   obtain ⟨v,hv,hV⟩:=hF.2.2 i u hu
   refine ⟨v,hv,?_⟩
   show V _ (MB E (lk ((r,AObj.row t sz n f' fr)::rm r s.O)) bs) _ _ _
   rw [eO,e1];exact hV
  ·show WRep C E (lk ((r,AObj.row t sz n f' fr)::rm r s.O)) bs w
   rw [eO];exact hW1
  ·show lk ((r,AObj.row t sz n f' fr)::rm r s.O) k=none
   rw [eO]
   have hne:¬ r=k:=fun e=>by subst e;rw [(hnx r hk).1] at hO;cases hO
   rw [wal _ _ _ hne];exact (hnx k hk).1
 ·exact h
theorem AWP.rowUp {C:Ctx} {m N:Nat} {c:Code} {Q:Exit→St→Prop} {s:St} (r:Nat) (f':Nat→List AV) (hf:wha r f' s) (h:AWP C m N c Q (Eng.rowFn r f' s)):AWP C m N c Q s:=by
 intro E hE bs a w hr
 exact h E hE bs a w (hr.rowUp r f' hf)
section
variable (V R T:Nat→Int)
def nwg (i:Nat):FL:=nwf (V i) (R i) (T i)
def nwI (d v:Int):Nat→Int×Bool
 |0=>(0,false)
 |k+1=>bif !decide (V k=v) || decide (d<R k) then nwI d v k else (T k,(nwI d v k).2 || (!decide ((nwI d v k).1=0) && !decide ((nwI d v k).1=T k)))
def nwO (n:Nat) (d:Int):Nat→Int×Int
 |0=>(0,0)
 |j+1=>bif !decide ((nwI V R T d (j+1) n).1=0) && !(nwI V R T d (j+1) n).2 then ((j:Int)+1,(nwI V R T d (j+1) n).1) else nwO n d j
end
def snI (V:Nat→Int) (k:Nat) (x:Int) (i:Nat):Int:=if i=k then x else V i
structure NwS where
 k:Nat
 a:Int
 V:Nat→Int
 R:Nat→Int
 T:Nat→Int
def wky (n:Nat) (v:Nat→Int) (N:Int) (i:NwS):St:=⟨[(3,.ptr 0 0),(4,.own 1 i.k),(19,.int .i64 N),(20,.int .i64 i.k)],
 [(0,.cells [.view 1 n (waf v),.int .i64 i.a] 27),(1,.row 49 7 i.k (wab (nwg i.V i.R i.T)) false)],2,[]⟩
def wmg (n:Nat) (v:Nat→Int):wau:=fun s Q=>∃ (N a:Int),canonIs te 0 [3,4,19,20] (ownNil 4 49 7 s) (wky n v N ⟨0,a,fun _=>0,fun _=>0,fun _=>0⟩)∧(1≤N∧N≤5)∧(0≤a∧a≤4611686018427300000)∧
 ∀ i:NwS,i.k≤5→(a≤i.a∧i.a≤a+20)→(∀ j,j<i.k→(1≤i.V j∧i.V j≤3)∧(43860≤i.R j∧i.R j≤43863)∧(100≤i.T j∧i.T j≤101))→
  Q (.exit 0) ⟨[(3,.ptr 0 0),(4,.own 1 i.k)],[(0,.cells [.view 1 n (waf v),.int .i64 i.a] 27),(1,.row 49 7 i.k (wab (nwg i.V i.R i.T)) false)],2,[]⟩
def nwr (z:Int):RW:=⟨[111,49],idF 0,1440,1,z⟩
def wkx (n:Nat) (v:Nat→Int) (N a:Int) (k:Nat) (V R T:Nat→Int):St:=⟨[(3,.ptr 0 0),(4,.own 1 (k+1)),(19,.int .i64 N),(20,.int .i64 k)],
 [(0,.cells [.view 1 n (waf v),.int .i64 a] 27),(1,.row 49 7 (k+1) (wab (nwg V R T)) false)],2,[]⟩
def wmf:wau:=fun s Q=>∃ (n:Nat) (v:Nat→Int) (N a:Int) (k:Nat) (V R T:Nat→Int) (z:Int),wiz 66 (wak (atR [nwr z])) s∧wfl 66 (rowFn 66 (wak (atR [nwr z])) s)∧wha 68 (wab (nwg V R T)) (frzX 66 [68] (rowFn 66 (wak (atR [nwr z])) s))∧
 canonIs te 0 [3,4,19,20] (rowFn 68 (wab (nwg V R T)) (frzX 66 [68] (rowFn 66 (wak (atR [nwr z])) s))) (wkx n v N a k V R T)∧k≤100∧
 Q .normal ⟨[(3,.ptr 0 0),(4,.own 1 (k+1)),(19,.int .i64 N),(20,.int .i64 ((k:Int)+1))],(wkx n v N a k V R T).O,2,[]⟩
def wkz (n:Nat) (V R T:Nat→Int) (d b t v:Int) (k:Nat):St:=⟨[(4,.own 0 n),(5,.int .i64 d),(6,.int .i64 b),(7,.int .i64 t),(8,.int .i64 v),(9,.int .i64 (nwI V R T d v k).1),(10,.bool (nwI V R T d v k).2),(46,.own 0 n),(47,.int .i64 n),(48,.int .i64 k)],
 [(0,.row 49 7 n (wab (nwg V R T)) false)],1,[]⟩
def wmh:wau:=fun s Q=>∃ (n:Nat) (V R T:Nat→Int) (d b t v:Int),canonIs te 0 [4,5,6,7,8,9,10,46,47,48] s (wkz n V R T d b t v 0)∧n≤100∧
 Q (.exit 4) ⟨[(4,.own 0 n),(5,.int .i64 d),(6,.int .i64 b),(7,.int .i64 t),(8,.int .i64 v),(9,.int .i64 (nwI V R T d v n).1),(10,.bool (nwI V R T d v n).2)],[(0,.row 49 7 n (wab (nwg V R T)) false)],1,[]⟩
def wk0 (n:Nat) (V R T:Nat→Int) (d:Int) (j:Nat):St:=⟨[(4,.own 0 n),(5,.int .i64 d),(6,.int .i64 (nwO V R T n d j).1),(7,.int .i64 (nwO V R T n d j).2),(8,.int .i64 ((j:Int)+1))],[(0,.row 49 7 n (wab (nwg V R T)) false)],1,[]⟩
def wmi:wau:=fun s Q=>∃ (n:Nat) (V R T:Nat→Int) (d:Int),canonIs te 0 [4,5,6,7,8] s (wk0 n V R T d 0)∧n≤100∧
 Q (.exit 2) ⟨[(4,.own 0 n),(5,.int .i64 d),(6,.int .i64 (nwO V R T n d 3).1),(7,.int .i64 (nwO V R T n d 3).2)],[(0,.row 49 7 n (wab (nwg V R T)) false)],1,[]⟩
section
variable {V R T:Nat→Int} {d v:Int} {n:Nat}
theorem wnu (hT:∀ i,i<n→T i≠0):∀ k,k≤n→((nwI V R T d v k).1=0→∀ i,i<k→V i=v→¬ R i≤d)∧((nwI V R T d v k).1≠0→∃ i,i<k∧V i=v∧R i≤d)∧
  ((nwI V R T d v k).2=false→∀ i,i<k→V i=v→R i≤d→T i=(nwI V R T d v k).1)∧((nwI V R T d v k).2=true→∃ i j,i<k∧j<k∧V i=v∧V j=v∧R i≤d∧R j≤d∧T i≠T j)∧
  ((nwI V R T d v k).1≠0→∃ i,i<k∧V i=v∧R i≤d∧T i=(nwI V R T d v k).1)
 |0,_=>⟨fun _ i hi=>absurd hi (Nat.not_lt_zero i),fun h=>absurd rfl h,fun _ i hi=>absurd hi (Nat.not_lt_zero i),fun h=>Bool.noConfusion h,fun h=>absurd rfl h⟩
 |k+1,hk=>by
  obtain ⟨h1,h2,h3,h4,h5⟩:=wnu hT k (by omega)
  by_cases hm:V k=v∧R k≤d
  ·have e:nwI V R T d v (k+1)=(T k,(nwI V R T d v k).2 || (!decide ((nwI V R T d v k).1=0) && !decide ((nwI V R T d v k).1=T k))):=by
    show (bif !decide (V k=v) || decide (d<R k) then _ else _)=_
    rw [decide_eq_true hm.1,decide_eq_false (by omega)];rfl
   rw [e]
   refine ⟨fun h=>absurd h (hT k (by omega)),fun _=>⟨k,by omega,hm⟩,fun h i hi ev er=>?_,fun h=>?_,fun _=>⟨k,by omega,hm.1,hm.2,rfl⟩⟩
   ·simp only [Bool.or_eq_false_iff,Bool.and_eq_false_iff,Bool.not_eq_false',decide_eq_true_eq] at h
    by_cases q:i=k
    ·rw [q]
    ·have hi':i<k:=by omega
     have a:=h3 h.1 i hi' ev er
     rcases h.2 with z | z
     ·exact absurd er (h1 z i hi' ev)
     ·rw [a,z]
   ·simp only [Bool.or_eq_true,Bool.and_eq_true,Bool.not_eq_true',decide_eq_false_iff_not] at h
    rcases h with h | ⟨ha,hb⟩
    ·obtain ⟨i,j,hi,hj,r⟩:=h4 h
     exact ⟨i,j,by omega,by omega,r⟩
    ·obtain ⟨i,hi,e1,e2,e3⟩:=h5 ha
     exact ⟨i,k,by omega,by omega,e1,hm.1,e2,hm.2,by rw [e3];exact hb⟩
  ·have e:nwI V R T d v (k+1)=nwI V R T d v k:=by
    show (bif !decide (V k=v) || decide (d<R k) then _ else _)=_
    have:(!decide (V k=v) || decide (d<R k))=true:=by
     rw [Bool.or_eq_true,Bool.not_eq_true',decide_eq_false_iff_not,decide_eq_true_eq]
     by_cases q:V k=v
     ·exact .inr (by
       by_cases q2:R k≤d
       ·exact absurd ⟨q,q2⟩ hm
       ·omega)
     ·exact .inl q
    rw [this];rfl
   rw [e]
   refine ⟨fun h i hi ev er=>?_,fun h=>?_,fun h i hi ev er=>?_,fun h=>?_,fun h=>?_⟩
   ·by_cases q:i=k
    ·subst q;exact hm ⟨ev,er⟩
    ·exact h1 h i (by omega) ev er
   ·obtain ⟨i,hi,r⟩:=h2 h;exact ⟨i,by omega,r⟩
   ·by_cases q:i=k
    ·subst q;exact absurd ⟨ev,er⟩ hm
    ·exact h3 h i (by omega) ev er
   ·obtain ⟨i,j,hi,hj,r⟩:=h4 h;exact ⟨i,j,by omega,by omega,r⟩
   ·obtain ⟨i,hi,r⟩:=h5 h;exact ⟨i,by omega,r⟩
theorem wrd (hT:∀ i,i<n→T i≠0):((nwI V R T d v n).1≠0∧(nwI V R T d v n).2=false)↔nwP V R T n d v:=by
 obtain ⟨h1,h2,h3,h4,h5⟩:=wnu (V:=V) (R:=R) (d:=d) (v:=v) hT n (Nat.le_refl n)
 constructor
 ·rintro ⟨a,b⟩
  exact ⟨h2 a,fun i j hi hj e1 e2 r1 r2=>by rw [h3 b i hi e1 r1,h3 b j hj e2 r2]⟩
 ·rintro ⟨⟨i,hi,e,r⟩,hp⟩
  refine ⟨fun z=>h1 z i hi e r,?_⟩
  cases hb:(nwI V R T d v n).2 with
  |false=>rfl
  |true=>
   obtain ⟨i,j,hi,hj,e1,e2,r1,r2,ht⟩:=h4 hb
   exact absurd (hp i j hi hj e1 e2 r1 r2) ht
theorem wrc (hT:∀ i,i<n→T i≠0):∀ j:Nat,((nwO V R T n d j).1=0→∀ v:Int,1≤v→v≤j→¬ nwP V R T n d v)∧
  ((nwO V R T n d j).1≠0→(1≤(nwO V R T n d j).1∧(nwO V R T n d j).1≤j)∧nwP V R T n d (nwO V R T n d j).1∧(∀ v,(nwO V R T n d j).1<v→v≤j→¬ nwP V R T n d v)∧∀ i,i<n→V i=(nwO V R T n d j).1→R i≤d→T i=(nwO V R T n d j).2)
 |0=>⟨fun _ v h1 h2=>by omega,fun h=>absurd rfl h⟩
 |j+1=>by
  obtain ⟨h1,h2⟩:=wrc hT j
  by_cases hp:nwP V R T n d ((j:Int)+1)
  ·have hq:=(wrd hT).2 hp
   have e:nwO V R T n d (j+1)=((j:Int)+1,(nwI V R T d ((j:Int)+1) n).1):=by
    show (bif !decide ((nwI V R T d (j+1) n).1=0) && !(nwI V R T d (j+1) n).2 then _ else _)=_
    rw [hq.2,decide_eq_false hq.1];rfl
   rw [e]
   refine ⟨fun h=>absurd h (by show ¬ (j:Int)+1=0;omega),fun _=>⟨⟨by show 1≤(j:Int)+1;omega,by show (j:Int)+1≤((j+1:Nat):Int);omega⟩,hp,fun v a b=>absurd b (by have a:(j:Int)+1<v:=a;omega),fun i hi ev er=>?_⟩⟩
   exact (wnu hT n (Nat.le_refl n)).2.2.1 hq.2 i hi ev er
  ·have e:nwO V R T n d (j+1)=nwO V R T n d j:=by
    show (bif !decide ((nwI V R T d (j+1) n).1=0) && !(nwI V R T d (j+1) n).2 then _ else _)=_
    have:(!decide ((nwI V R T d ((j:Int)+1) n).1=0) && !(nwI V R T d ((j:Int)+1) n).2)=false:=by
     rw [← Bool.not_eq_true,Bool.and_eq_true,Bool.not_eq_true',Bool.not_eq_true',decide_eq_false_iff_not]
     exact fun h=>hp ((wrd hT).1 h)
    rw [this];rfl
   rw [e]
   have cast:((j+1:Nat):Int)=(j:Int)+1:=rfl
   refine ⟨fun h v a b=>?_,fun h=>?_⟩
   ·by_cases q:v=(j:Int)+1
    ·rw [q];exact hp
    ·exact h1 h v a (by omega)
   ·obtain ⟨a,b,c,t⟩:=h2 h
    refine ⟨⟨a.1,by omega⟩,b,fun v q1 q2=>?_,t⟩
    by_cases q:v=(j:Int)+1
    ·rw [q];exact hp
    ·exact c v q1 (by omega)
end
theorem nwf_ok {v r t:Int} (hv:1≤v∧v≤3) (hr:0≤r∧r≤182620) (ht:1≤t∧t≤1000):okV (nwf v r t)=true:=by
 have n1:wa7 [102]=true:=by decide+kernel
 have n2:wa7 [111,49]=true:=by decide+kernel
 have a1:decide (v<1)=false:=decide_eq_false (by omega)
 have a2:decide (1000<v)=false:=decide_eq_false (by omega)
 have a3:decide (r<0)=false:=decide_eq_false (by omega)
 have a4:decide (182620<r)=false:=decide_eq_false (by omega)
 have a5:decide ((1:Int)≤min 1 t)=true:=decide_eq_true (by omega)
 have a6:decide (max 1 t≤(1099511627776:Int))=true:=decide_eq_true (by omega)
 have hrow:rowF ⟨[111,49],idF 0,1440,1,t⟩=true:=by
  show (wb3 [111,49] (idF 0) 1440 && decide ((1:Int)≤min 1 t) && decide (max 1 t≤(1099511627776:Int)))=true
  unfold wb3
  rw [a5,a6,n2,wsh];rfl
 unfold okV vinF ctF nwf
 dsimp only
 rw [n1,a1,a2,a3,a4,List.all_cons,hrow]
 rfl
theorem nwf_tn {v r t:Int} (hv:1≤v∧v≤3) (ht:1≤t∧t≤1000):(nwf v r t).Tn:=by
 have n2:wa7 [111,49]=true:=by decide+kernel
 have a5:decide ((1:Int)≤min 1 t)=true:=decide_eq_true (by omega)
 have a6:decide (max 1 t≤(1099511627776:Int))=true:=decide_eq_true (by omega)
 have hrow:rowF ⟨[111,49],idF 0,1440,1,t⟩=true:=by
  show (wb3 [111,49] (idF 0) 1440 && decide ((1:Int)≤min 1 t) && decide (max 1 t≤(1099511627776:Int)))=true
  unfold wb3
  rw [a5,a6,n2,wsh];rfl
 refine ⟨by show 1≤100;omega,by show inR .i64 v;simp only [inR];omega,by show inR .i64 2;simp only [inR];omega,⟨Nat.zero_le _,fun m hm=>by cases hm⟩,⟨by show 1≤1000;omega,fun x hx=>?_⟩,⟨Nat.zero_le _,fun m hm=>by cases hm⟩⟩
 have hx:x∈[(⟨[111,49],idF 0,1440,1,t⟩:RW)]:=hx
 rw [List.mem_singleton] at hx
 rw [hx];exact rowF_tn hrow
end Go.Eng
namespace Go.Proofs
open Go.RowKit
theorem Tryz.sizeBuilder:(Tryz.prog.info? 109).map (·.size)=some 2:=by kernel_rfl
theorem Tryz.liesWords:liesAt Tryz.prog Tryz.prog.depth 111 1 0 109 1=true:=by kernel_rfl
theorem Tryz.cellsWords:Tryz.prog.cellsOf 111=2:=by kernel_rfl
theorem Tryz.und106:Tryz.prog.underlying 106=some (.pointer 109):=by kernel_rfl
theorem Tryz.und220:Tryz.prog.underlying 220=some .unsafePointer:=by kernel_rfl
set_option maxHeartbeats 1000000 in
set_option maxRecDepth 100000 in
theorem Tryz.copyCheck_used (b:Nat) (w:World) (h0:w.cell? ⟨b,0,none⟩=some (.pointer (some ⟨b,0,none⟩))):
  Calls Tryz.prog 164 #[.pointer (some ⟨b,0,none⟩)] w fun e w'=>e= .returned (.tuple #[])∧w'=w:=by
 obtain ⟨j,hj,_⟩:=Option.map_eq_some_iff.1 Tryz.sizeBuilder
 go_enter Tryz.func164,Tryz.ntmps164
 go_wp2
 rw [Lib.run_neq_ptr_same w _ Tryz.und106 hj]
 go_wp2
 go_end0
 exact ⟨rfl,rfl⟩
set_option maxHeartbeats 1000000 in
set_option maxRecDepth 100000 in
theorem Tryz.copyCheck_fresh (b:Nat) (w:World) (h0:w.cell? ⟨b,0,none⟩=some (.pointer none)) (hsh:w.shape? b=some (111,2)) (hfz:w.frozen? ⟨b,0,none⟩=false):
  Calls Tryz.prog 164 #[.pointer (some ⟨b,0,none⟩)] w fun e w'=>e= .returned (.tuple #[])∧w'=w.setCell ⟨b,0,none⟩ (.pointer (some ⟨b,0,none⟩)):=by
 obtain ⟨j,hj,hjs⟩:=Option.map_eq_some_iff.1 Tryz.sizeBuilder
 go_enter Tryz.func164,Tryz.ntmps164
 go_wp2
 rw [Lib.run_to_unsafe w ⟨b,0,none⟩ Tryz.und106 Tryz.und220 hj (by rw [hjs];decide) hsh (Nat.zero_lt_succ 1)]
 simp only [Result.andThen]
 rw [Oper.upon_value]
 go_wp2
 rw [run_callFunc_extern Tryz.func203 (by kernel_rfl) (by kernel_rfl) (by kernel_rfl) (e:=Extern.AbiNoEscape.same) (by kernel_rfl)]
 rw [Lib.run_noEscape]
 simp only [Result.andThen]
 rw [Oper.upon_value]
 go_wp2
 rw [Lib.run_from_unsafe w ⟨b,0,none⟩ Tryz.und220 Tryz.und106 hj hsh (by rw [Tryz.cellsWords];exact Tryz.liesWords)]
 simp only [Result.andThen]
 rw [Oper.upon_value]
 go_wp2
 go_end0
 exact ⟨rfl,rfl⟩
end Go.Proofs
namespace Go.Eng
open Go.Proofs Go.RowKit Go.Sort
variable {C:Ctx} [C.Loose]
set_option maxRecDepth 20000
theorem wt3 (w:World) (k:Nat) (os:Array Obj):Below w.heap.size w (grow (w.drewN k) os):=
 ⟨rfl,rfl,rfl,by simp [grow,World.drewN],fun i hi=>by
  show (w.heap++os)[i]?=_
  rw [Array.getElem?_append_left hi]⟩
theorem wnq {w:World} {M:Nat→Prop} {bs:Nat→Option Hd} {v:Value} {r off:Nat} (h:V w M bs v (.ptr r off)):∃ b c,v= .pointer (some ⟨b,off,none⟩)∧bs r=some (.blk b c):=by
 cases h with | ptr hb=>exact ⟨_,_,rfl,hb⟩
theorem ccUsed (hP:C.P=Tryz.prog) {args:List AV} {objs:List AObj} {cs:List AV} {t:TypeId} (ha:args=[.ptr 0 0]) (ho:objs[0]?=some (.cells (.ptr 0 0::cs) t)):wag C 164 args objs fun u O=>u= .tuple []∧O=enum 0 objs:=by
 have _:C.Loose:=inferInstance
 subst ha
 refine wag.quiet ⟨_,hP ▸ Tryz.func164,rfl,by decide⟩ fun E bs w cargs hW hl hv=>?_
 obtain ⟨a,rfl⟩:=mem1 hl
 have V0:=hv 0 _ _ rfl rfl
 obtain ⟨b,x,rfl,hx,hxV⟩:=WRep.cell hW (r:=0) (by simpa [lkL] using ho) V0 (j:=0) (u:=.ptr 0 0) rfl
 obtain ⟨b1,c1,rfl,hb1⟩:=wnq hxV
 obtain ⟨b2,c2,e2,hb2⟩:=wnq V0
 rw [hb1] at hb2
 injection hb2 with hb2
 injection hb2 with e3 e4
 subst e3
 injection e2 with e2
 injection e2 with e2
 injection e2 with e2
 subst e2
 rw [hP]
 refine (Tryz.copyCheck_used b w hx).mono ?_
 rintro e w' ⟨rfl,rfl⟩
 exact ⟨_,rfl,rfl,.tuple rfl (fun j v u hv hu=>by simp at hu)⟩
theorem ccFresh (hP:C.P=Tryz.prog):wag C 164 [.ptr 0 0] [.cells [.nilptr,.nil] 111] fun u O=>u= .tuple []∧O=[(0,.cells [.ptr 0 0,.nil] 111)]:=by
 have _:C.Loose:=inferInstance
 refine ⟨⟨_,hP ▸ Tryz.func164,rfl,by decide⟩,fun E bs w cargs h1 h2 h3 hW h5 h6 h7=>?_⟩
 obtain ⟨a,rfl⟩:=mem1 h6
 have V0:=h7 0 _ _ rfl rfl
 obtain ⟨b,c,vs,k1,k2,k3,k4,k5⟩:=hW.obj 0 _ rfl
 obtain ⟨x,y,rfl⟩:∃ x y,vs=#[x,y]:=by
  have k3:vs.size=2:=k3
  exact ⟨vs[0],vs[1],by
   apply Array.ext
   ·simpa using k3
   ·intro i hi1 hi2
    match i,hi2 with
    |0,_=>rfl
    |1,_=>rfl⟩
 have hx:=k5 0 x .nilptr rfl rfl
 have hy:=k5 1 y .nil rfl rfl
 cases hx
 cases hy
 obtain ⟨b',c',rfl,hb⟩:=wnq V0
 rw [k1] at hb
 injection hb with hb
 injection hb with e1 e2
 subst e1;subst e2
 ·rw [hP]
  refine (Tryz.copyCheck_fresh b w (by rw [cell_of_row w b 0 _ _ (0,0) k2];rfl) (by simp [World.shape?,k2]) (by simp [World.frozen?,k2])).mono ?_
  rintro e w' ⟨rfl,rfl⟩
  have hm:(AObj.cells [.nilptr,.nil] 111).mut=true:=rfl
  have hheap:(w.setCell ⟨b,0,none⟩ (.pointer (some ⟨b,0,none⟩))).heap[b]?=some (.cells #[.pointer (some ⟨b,0,none⟩),.slice none 0 0] 111 (0,0)):=by
   simp [World.setCell,Array.getElem?_modify,k2]
  obtain ⟨g1,g2⟩:=hW.modify (x:=0) rfl hm k1 (w':=w.setCell ⟨b,0,none⟩ (.pointer (some ⟨b,0,none⟩))) (fun k hk=>by simp [World.setCell,Array.getElem?_modify,Ne.symm hk]) (by simp [World.setCell]) rfl ⟨rfl,fun _=>Nat.le_refl _⟩ rfl (o:=.cells [.ptr 0 0,.nil] 111) rfl
   (fun hS=>⟨b,c,_,k1,hheap,rfl,fun j v hv=>by
    match j with
    |0=>obtain rfl:=Option.some.inj hv;rfl
    |1=>obtain rfl:=Option.some.inj hv;rfl
    |j+2=>simp at hv,fun j v u hv hu=>by
    match j with
    |0=>obtain rfl:=Option.some.inj hv;obtain rfl:=Option.some.inj hu;exact .ptr k1
    |1=>obtain rfl:=Option.some.inj hv;obtain rfl:=Option.some.inj hu;exact .nil
    |j+2=>simp at hv⟩)
  have e2:up (lkL [AObj.cells [.nilptr,.nil] 111]) 0 (.cells [.ptr 0 0,.nil] 111)=lk [(0,.cells [.ptr 0 0,.nil] 111)]:=by
   funext i
   rw [waw]
   by_cases h:(0:Nat)=i
   ·subst h;rw [wap,if_pos rfl]
   ·rw [wal _ _ _ h,if_neg h]
    cases i with
    |zero=>exact absurd rfl h
    |succ i=>simp [lkL,lk]
  rw [e2] at g2
  refine ⟨_,.tuple [],[(0,.cells [.ptr 0 0,.nil] 111)],bs,rfl,⟨rfl,rfl⟩,g2,.tuple rfl (fun j v u hv hu=>by simp at hu),fun r hr=>⟨?_,h5 r (by show 1≤r;have:1+16≤r:=hr;omega)⟩⟩
  have:1+16≤r:=hr
  rw [waw,if_neg (by show ¬ 0=r;omega)];rfl
theorem cc_ok (hP:C.P=Tryz.prog):wad C 164 S_cc:=by
 rintro args objs U Os vc h hvc
 unfold S_cc at h
 split at h<;>simp only [Option.some.injEq,Prod.mk.injEq,reduceCtorEq] at h
 ·rename_i t
  obtain ⟨rfl,rfl,rfl⟩:=h
  have hvc:t=_:=hvc
  subst hvc
  exact ccFresh hP
 ·rename_i n t t8 m f
  obtain ⟨rfl,rfl,rfl⟩:=h
  have hvc:t=_:=hvc
  subst hvc
  exact ccUsed hP rfl rfl
theorem wjp (hP:C.P=Tryz.prog) (hL:∀ w,C.laid w→LaidW w):wad C 134 wds:=by
 rintro args objs U Os vc h hvc
 unfold wds at h
 split at h<;>simp only [Option.some.injEq,Prod.mk.injEq,reduceCtorEq] at h
 rename_i n
 obtain ⟨rfl,rfl,rfl⟩:=h
 have hr:inR .i64 n:=hvc
 simp only [inR] at hr
 refine wag.below ⟨_,hP ▸ Tryz.func134,rfl,by decide⟩ fun w M cargs hlaid _ hM hl hv=>?_
 obtain ⟨a,b,rfl⟩:∃ a b,cargs=[a,b]:=by
  match cargs,hl with
  |[a,b],_=>exact ⟨a,b,rfl⟩
 have e1:=(hv 0 _ _ rfl rfl).int_iff
 have e2:=(hv 1 _ _ rfl rfl).int_iff
 subst e1;subst e2
 rw [hP]
 refine (Tryz.strconv_FormatInt_10 n (by omega) (by omega) w (hL w hlaid).pow).mono ?_
 rintro e w' ⟨rfl,k,os,rfl⟩
 exact ⟨_,rfl,wt3 _ _ _,.str (by simp)⟩
theorem wjj (hP:C.P=Tryz.prog) (hL:∀ w,C.laid w→LaidW w):wad C 133 wdr:=by
 rintro args objs U Os vc h hvc
 unfold wdr at h
 split at h<;>simp only [Option.some.injEq,Prod.mk.injEq,reduceCtorEq] at h
 rename_i n
 obtain ⟨rfl,rfl,rfl⟩:=h
 have hr:inR .i64 n:=hvc
 simp only [inR] at hr
 refine wag.below ⟨_,hP ▸ Tryz.func133,rfl,by decide⟩ fun w M cargs hlaid _ hM hl hv=>?_
 obtain ⟨a,rfl⟩:=mem1 hl
 have e1:=(hv 0 _ _ rfl rfl).int_iff
 subst e1
 rw [hP]
 refine (Tryz.strconv_Itoa n (by omega) (by omega) w (hL w hlaid).pow).mono ?_
 rintro e w' ⟨rfl,k,os,rfl⟩
 exact ⟨_,rfl,wt3 _ _ _,.str (by simp)⟩
end Go.Eng
namespace Go.Eng
open Go.Proofs Go.RowKit
set_option maxRecDepth 20000
theorem nf_cdR (s:List UInt8) (R:AV→List (Nat×AObj)→Prop):wpFn te [] [(5,wm1 s)] 0 Tryz.f98 [.str s] [] R=(letI z2:=R (.tuple [.int .i64 0,.bool false]) [];letI z1:=(↑(List.length s):Int);letI z0:=(some (St.mk [(0,.str s),(4,.int .i64 0),(16,.int .i64 z1),(17,.int .i64 0)] [] 0 [])=some (St.mk [(0,.str s),(4,.int .i64 (wa3 s 0)),(16,.int .i64 z1),(17,.int .i64 (↑0:Int))] [] 0 [])∧List.length s≤12∧waa (List.all s wbv) ((10:Int)≠(0:Int)∧inR .i64 ((10:Int) - Int.tmod (wa3 s (List.length s)) (10:Int))∧(10:Int)≠(0:Int)∧R (.tuple [.int .i64 (Int.tmod ((10:Int) - Int.tmod (wa3 s (List.length s)) (10:Int)) (10:Int)),.bool true]) []) z2);waa (!decide (z1=(7:Int))) (waa (!decide (z1=(12:Int))) z2 z0) z0):=by kernel_rfl
theorem wxr (s:List UInt8) (k:Nat) (P:Nat→Prop) (R:Exit→St→Prop):wa2 ⟨te,[],[],0,50,0⟩ (wa4 Tryz.f98 5) [0,4,16,17] [4] [2,3] (wl0 s) P R (wl0 s k)=(letI z3:=R .ret (St.mk [(2,.int .i64 0),(3,.bool false)] [] 0 []);letI z1:=(↑(List.length s):Int);letI z2:=((0:Int)≤(↑k:Int)∧(↑k:Int)<z1:Prop);letI z0:=(↑(UInt8.toNat (List.getD s (Int.toNat (↑k:Int)) (0:UInt8))):Int);letI z5:=(wa3 s k+(1:Int) * ((z0 - (48:Int)) % (256:Int)));letI z4:=(wa3 s k+(3:Int) * ((z0 - (48:Int)) % (256:Int)));waa (decide ((↑k:Int)<z1)) (z2∧waa (decide (z0<(48:Int))) z3 (z2∧waa (decide ((57:Int)<z0)) z3 (inR .i64 (z1 - (↑k:Int))∧(2:Int)≠(0:Int)∧waa (decide (Int.tmod (z1 - (↑k:Int)) (2:Int)=(1:Int))) (z2∧inR .i64 ((z0 - (48:Int)) % (256:Int))∧inR .i64 ((3:Int) * ((z0 - (48:Int)) % (256:Int)))∧inR .i64 z4∧inR .i64 ((↑k:Int)+(1:Int))∧∃ (i':Nat),some (St.mk [(0,.str s),(4,.int .i64 z4),(16,.int .i64 z1),(17,.int .i64 ((↑k:Int)+(1:Int)))] [] 0 [])=some (St.mk [(0,.str s),(4,.int .i64 (wa3 s i')),(16,.int .i64 z1),(17,.int .i64 (↑i':Int))] [] 0 [])∧P i') (z2∧inR .i64 ((z0 - (48:Int)) % (256:Int))∧inR .i64 ((1:Int) * ((z0 - (48:Int)) % (256:Int)))∧inR .i64 z5∧inR .i64 ((↑k:Int)+(1:Int))∧∃ (i':Nat),some (St.mk [(0,.str s),(4,.int .i64 z5),(16,.int .i64 z1),(17,.int .i64 ((↑k:Int)+(1:Int)))] [] 0 [])=some (St.mk [(0,.str s),(4,.int .i64 (wa3 s i')),(16,.int .i64 z1),(17,.int .i64 (↑i':Int))] [] 0 [])∧P i')))) (R (.exit 0) (St.mk [(4,.int .i64 (wa3 s k))] [] 0 []))):=by kernel_rfl
variable {C:Ctx} [C.Loose]
theorem wz6 (hP:C.P=Tryz.prog) (s:List UInt8):wae C 0 50 (wan Tryz.f98 5) (wm1 s):=by
 have _:C.Loose:=inferInstance
 rintro st Q ⟨h0,hlen,hQ⟩
 have hQ:=wb4 hQ
 refine wae.mk (prg hP) [] 0 .nil [0,4,16,17] [4] [2,3] (wl0 s) (fun k=>k≤s.length∧∀ j,j<k→48≤(s.getD j 0).toNat∧(s.getD j 0).toNat≤57) (fun k=>s.length - k) 0 ⟨Nat.zero_le _,fun j h=>by omega⟩ h0 fun k ⟨hk,hall⟩=>?_
 rw [wxr]
 have hb:=wtv k hk hall
 refine war (fun h=>?_) (fun h=>?_)
 ·have hlt:k<s.length:=by omega
  have hret:¬ (48≤(s.getD k 0).toNat∧(s.getD k 0).toNat≤57)→Q .ret ⟨[(2,.int .i64 0),(3,.bool false)],[],0,[]⟩:=fun hno=>hQ.2 (by
   cases ha:s.all wbv with
   |false=>rfl
   |true=>exact absurd (wjk ha k hlt) hno)
  have e:Int.tmod (↑s.length - ↑k) 2=(↑s.length - ↑k) % 2:=Int.tmod_eq_emod_of_nonneg (by omega)
  have hs:wa3 s (k+1)=wa3 s k+(1+2 * ((↑s.length - ↑k) % 2)) * (↑(s.getD k 0).toNat - 48):=rfl
  have hgo:(48≤(s.getD k 0).toNat∧(s.getD k 0).toNat≤57)→(k+1≤s.length∧∀ j,j<k+1→48≤(s.getD j 0).toNat∧(s.getD j 0).toNat≤57)∧s.length - (k+1)<s.length - k:=fun hok=>
   ⟨⟨by omega,fun j hj=>by
    rcases Nat.lt_succ_iff_lt_or_eq.1 hj with hj | rfl
    ·exact hall j hj
    ·exact hok⟩,by omega⟩
  simp only [Int.toNat_natCast,inR,e]
  refine ⟨by omega,war (fun h1=>hret (by omega)) (fun h1=>⟨by omega,war (fun h2=>hret (by omega)) (fun h2=>⟨by omega,by omega,?_⟩)⟩)⟩
  have hgo:=hgo (by omega)
  have e3:((s.getD k 0).toNat - 48:Int) % 256=(s.getD k 0).toNat - 48:=by omega
  rw [e3]
  refine war (fun h3=>?_) (fun h3=>?_)
  ·rw [h3] at hs
   exact ⟨by omega,by omega,by omega,by omega,by omega,k+1,by rw [hs];rfl,hgo⟩
  ·have h3:(↑s.length - ↑k:Int) % 2=0:=by omega
   rw [h3] at hs
   exact ⟨by omega,by omega,by omega,by omega,by omega,k+1,by rw [hs];rfl,hgo⟩
 ·have hks:k=s.length:=by omega
  rw [hks]
  exact hQ.1 (w0u fun j hj=>hall j (by omega))
theorem cdR_ok (hP:C.P=Tryz.prog):wad C 98 we1:=by
 rintro args objs U Os vc h hvc
 unfold we1 at h
 split at h<;>simp only [Option.some.injEq,Prod.mk.injEq,reduceCtorEq] at h
 rename_i s
 obtain ⟨rfl,rfl,rfl⟩:=h
 refine wad.wpL (prg hP) [] [(5,wm1 s)] 0 .nil (hP ▸ Tryz.func98) rfl rfl rfl [(wan Tryz.f98 5,wm1 s)] (by kernel_rfl) ⟨wz6 hP s,trivial⟩ ?_
 rw [nf_cdR]
 have main:(s.length=7∨s.length=12)→waa (s.all wbv) ((10:Int)≠0∧inR .i64 (10 - Int.tmod (wa3 s s.length) 10)∧(10:Int)≠0∧AV.tuple [.int .i64 (Int.tmod (10 - Int.tmod (wa3 s s.length) 10) 10),.bool true]= .tuple [.int .i64 (cdF s).1,.bool (cdF s).2]∧([]:List (Nat×AObj))=[])
   (AV.tuple [.int .i64 0,.bool false]= .tuple [.int .i64 (cdF s).1,.bool (cdF s).2]∧([]:List (Nat×AObj))=[]):=by
  intro hl
  have hd:wby s 7 12=s.all wbv:=by
   unfold wby
   rcases hl with h | h<;>simp [h]
  refine wat (fun ha=>?_) (fun ha=>?_)
  ·have hb:=wj4 ha s.length (Nat.le_refl _)
   have e:Int.tmod (wa3 s s.length) 10=wa3 s s.length % 10:=Int.tmod_eq_emod_of_nonneg (by omega)
   rw [e,Int.tmod_eq_emod_of_nonneg (by omega)]
   refine ⟨by omega,by simp only [inR];omega,by omega,?_,rfl⟩
   simp [cdF,hd,ha]
  ·refine ⟨?_,rfl⟩
   simp [cdF,hd,ha]
 refine wc0 (fun h1=>wc0 (fun h2=>⟨?_,rfl⟩) (fun h2=>⟨rfl,by omega,main (by omega)⟩)) (fun h1=>⟨rfl,by omega,main (by omega)⟩)
 have hd:wby s 7 12=false:=by unfold wby;rw [decide_eq_false h1,decide_eq_false h2];rfl
 simp [cdF,hd]
end Go.Eng
namespace Go.Eng
open Go.Proofs Go.RowKit
variable {C:Ctx} [C.Loose]
set_option maxRecDepth 20000
theorem nf_fold (n k:Int) (R:AV→List (Nat×AObj)→Prop):wpFn te [] [] 0 Tryz.f35 [.int .i64 n,.int .i64 k] [] R=(letI z0:=(Int.tmod (IntKind.wrap IntKind.u64 n) (IntKind.wrap IntKind.u64 (max k (1:Int))));True∧True∧IntKind.wrap IntKind.u64 (max k (1:Int))≠(0:Int)∧inR .i64 z0∧R (.int .i64 z0) []):=by kernel_rfl
theorem nf_next (n:Nat) (v:Nat→Int) (a k:Int) (R:AV→List (Nat×AObj)→Prop):wpFn te [] [] 0 Tryz.f42 [.ptr 0 0,.int .i64 k] [.cells [.view 1 n (waf v),.int .i64 a] 27] R=(letI z1:=([(0,.cells [.view 1 n (waf v),.int .i64 (a+(1:Int))] 27)]:List (Nat×AObj));letI z0:=(IntKind.wrap IntKind.u64 (max k (1:Int)));letI z3:=Int.tmod (IntKind.wrap IntKind.u64 0) z0;letI z2:=Int.tmod (IntKind.wrap IntKind.u64 (v (Int.toNat a))) z0;waa (decide (a<(↑n:Int))) (((0:Int)≤a∧a<(↑n:Int)∧1=1)∧inR .i64 (a+(1:Int))∧True∧True∧IntKind.wrap IntKind.u64 (max k (1:Int))≠(0:Int)∧inR .i64 z2∧R (.int .i64 z2) z1) (inR .i64 (a+(1:Int))∧True∧True∧IntKind.wrap IntKind.u64 (max k (1:Int))≠(0:Int)∧inR .i64 z3∧R (.int .i64 z3) z1)):=by kernel_rfl
theorem wpn (n:Int):IntKind.wrap .u64 n=n % 18446744073709551616:=by
 show n % (2:Int) ^ 64=_
 rfl
theorem wny {k:Int} (h:1≤k∧k≤1000000) (x:Int):IntKind.wrap .u64 (max k 1)≠0∧Int.tmod (IntKind.wrap .u64 x) (IntKind.wrap .u64 (max k 1))=wdj x k:=by
 have e:IntKind.wrap .u64 (max k 1)=k:=by
  rw [wpn,Int.max_eq_left h.1]
  omega
 rw [e,wpn]
 have hx:0≤x % 18446744073709551616:=by omega
 rw [Int.tmod_eq_emod_of_nonneg hx]
 exact ⟨by omega,rfl⟩
theorem fold_ok (hP:C.P=Tryz.prog):wad C 35 wlq:=by
 have _:C.Loose:=inferInstance
 rintro args objs U Os vc h hvc
 unfold wlq at h
 split at h<;>simp only [Option.some.injEq,Prod.mk.injEq,reduceCtorEq] at h
 rename_i n k
 obtain ⟨rfl,rfl,rfl⟩:=h
 refine wad.wp0 (prg hP) [] 0 .nil (hP ▸ Tryz.func35) rfl rfl rfl ?_
 rw [nf_fold]
 obtain ⟨h1,h2⟩:=wny hvc n
 have h3:=whz hvc.1 n
 rw [h2]
 exact ⟨trivial,trivial,h1,by simp only [inR];omega,rfl,rfl⟩
theorem wrl (hP:C.P=Tryz.prog):wad C 42 wgm:=by
 have _:C.Loose:=inferInstance
 rintro args objs U Os vc h hvc
 unfold wgm at h
 split at h<;>simp only [Option.some.injEq,Prod.mk.injEq,reduceCtorEq] at h
 rename_i k sz n f a t
 obtain ⟨rfl,rfl,rfl⟩:=h
 obtain ⟨rfl,rfl,hf,hk,ha⟩:=hvc
 rw [hf]
 have hv:vInt (waf (vInt f))=vInt f:=rfl
 rw [hv]
 generalize vInt f=v at *
 refine wad.wp0 (prg hP) [] 0 .nil (hP ▸ Tryz.func42) rfl rfl rfl ?_
 rw [nf_next]
 unfold wbb
 refine war (fun h=>?_) (fun h=>?_)
 ·obtain ⟨h1,h2⟩:=wny hk (v a.toNat)
  have h3:=whz hk.1 (v a.toNat)
  rw [h2,decide_eq_true h]
  exact ⟨⟨by omega,by omega,rfl⟩,by simp only [inR];omega,trivial,trivial,h1,by simp only [inR];omega,rfl,rfl⟩
 ·obtain ⟨h1,h2⟩:=wny hk 0
  have h3:=whz hk.1 0
  rw [h2,decide_eq_false h]
  exact ⟨by simp only [inR];omega,trivial,trivial,h1,by simp only [inR];omega,rfl,rfl⟩
theorem wxc (V j:Nat) (P:Nat→Prop) (R:Exit→St→Prop):wa2 ⟨te,[],[],0,39,0⟩ (wa4 Tryz.f43 4) [3,4,5] [4] [] (wln V) P R (wln V j)=(letI z0:=(Int.tdiv (↑(pw V j):Int) (10:Int));waa (decide ((0:Int)≤(6:Int) - (↑j:Int))) ((10:Int)≠(0:Int)∧inR .i64 ((48:Int)+Int.tmod (↑(pw V j):Int) (10:Int))∧inR .u8 ((48:Int)+Int.tmod (↑(pw V j):Int) (10:Int))∧((0:Int)≤(6:Int) - (↑j:Int)∧(6:Int) - (↑j:Int)<(↑7:Int))∧(List.length [AV.int .u8 ((48:Int)+Int.tmod (↑(pw V j):Int) (10:Int))]=1∧Int.toNat ((6:Int) - (↑j:Int))<7∧1=1)∧((10:Int)≠(0:Int)∧inR .i64 z0)∧inR .i64 ((6:Int) - (↑j:Int) - (1:Int))∧∃ (i':Nat),(TEq [(3,.int .i64 z0),(4,.own 0 7),(5,.int .i64 ((6:Int) - (↑j:Int) - (1:Int)))] [(3,.int .i64 (↑(pw V i'):Int)),(4,.own 0 7),(5,.int .i64 ((6:Int) - (↑i':Int)))]∧wac [(0,.row 5 1 7 (fun (k:Nat)=>if k=Int.toNat ((6:Int) - (↑j:Int)) then [.int .u8 ((48:Int)+Int.tmod (↑(pw V j):Int) (10:Int))] else [.int .u8 (bif decide (7≤k+j) then dgI V k else (0:Int))]) false)] [(0,.row 5 1 7 (fun (k:Nat)=>[.int .u8 (bif decide (7≤k+i') then dgI V k else (0:Int))]) false)])∧P i') ((∀ (i:Nat),i<7→true=true)∧∃ (O':List (Nat×AObj)),wac [(0,.row 5 1 7 (fun (k:Nat)=>[.int .u8 (bif decide (7≤k+j) then dgI V k else (0:Int))]) false)] O'∧R (.exit 0) (St.mk [(4,.own 0 7)] O' 1 []))):=by kernel_rfl
theorem nf_id (n:Int) (V:Nat) (R:AV→List (Nat×AObj)→Prop):wpFn te [(35,.det wlq),(98,.det we1)] [(4,L_id V)] 2 Tryz.f43 [.int .i64 n] [] R=(letI z4:=(List.flatten (List.replicate (nat_lit 0) [.int .u8 0]):List AV);letI z3:=cdF (waj 7 (wb0 V));letI z2:=((7≤7∧1=1)∧∀ (i:Nat),i<7→isU8 (wb0 V i)=true:Prop);letI z1:=TI.mk (TypeDesc.int IntKind.u8) 1 1 (Value.int IntKind.u8 0) false;letI z0:=(wa0 (TI.sz z1) (.int .u8 ((48:Int)+Prod.fst z3)::List.append [] z4));((1:Int)≤(1000000:Int)∧(1000000:Int)≤(1000000:Int))∧inR .i64 ((1000000:Int)+wdj n (1000000:Int))∧((0:Int)≤(7:Int)∧(7:Int)≤(7:Int)∧(↑(TI.bytes z1):Int) * (7:Int)≤(281474976710656:Int)∧(7:Int)≤(9223372036854775807:Int))∧(TEq [(3,.int .i64 ((1000000:Int)+wdj n (1000000:Int))),(4,.own 0 7),(5,.int .i64 6)] [(3,.int .i64 (↑(pw V 0):Int)),(4,.own 0 7),(5,.int .i64 ((6:Int) - (↑0:Int)))]∧wac [(0,.row 5 1 7 (fun (_x:Nat)=>[.int .u8 0]) false)] [(0,.row 5 1 7 (fun (k:Nat)=>[.int .u8 (bif decide (7≤k+0) then dgI V k else (0:Int))]) false)])∧V<2000000∧z2∧True∧z2∧inR .i64 ((48:Int)+Prod.fst z3)∧inR .u8 ((48:Int)+Prod.fst z3)∧(1≤16777216∧1=1∧1≤9223372036854775807)∧((1≤1∧1=1)∧∀ (i:Nat),i<1→isU8 (wa0 (TI.sz z1) (.int .u8 ((48:Int)+Prod.fst z3)::List.append [] z4) i)=true)∧List.length (waj 7 (wb0 V))+List.length (waj 1 z0)≤9223372036854775807∧R (.str (waj 7 (wb0 V)++waj 1 z0)) []):=by kernel_rfl
theorem pw_step (V j:Nat):Int.tdiv (pw V j:Nat) 10=(pw V (j+1):Nat):=by
 rw [Int.tdiv_eq_ediv_of_nonneg (Int.natCast_nonneg _)]
 unfold pw
 rw [Nat.pow_succ, ← Nat.div_div_eq_div_mul]
 rfl
theorem pw_le (V j:Nat):pw V j≤V:=Nat.div_le_self _ _
theorem id_loop (hP:C.P=Tryz.prog) (V:Nat):wae C 0 39 (wan Tryz.f43 4) (L_id V):=by
 have _:C.Loose:=inferInstance
 rintro st Q ⟨h0,hv,hQ⟩
 refine wae.mk (prg hP) [] 0 .nil [3,4,5] [4] [] (wln V) (fun j=>j≤7) (fun j=>7 - j) 0 (by omega) h0 (fun j hj=>?_) (fun i=>⟨fun _ _=>rfl,trivial⟩)
 rw [wxc]
 have hle:=pw_le V j
 have ht:Int.tmod (pw V j:Nat) 10=((pw V j % 10:Nat):Int):=by
  rw [Int.tmod_eq_emod_of_nonneg (Int.natCast_nonneg _)];rfl
 rw [ht,pw_step]
 have hle':=pw_le V (j+1)
 have hm:=Nat.mod_lt (pw V j) (show 0<10 by omega)
 refine war (fun h=>?_) (fun h=>⟨fun _ _=>rfl,_,?_,hQ⟩)
 ·refine ⟨by omega,by simp only [inR];omega,by simp only [inR];omega,⟨h,by omega⟩,⟨rfl,by omega,rfl⟩,⟨by omega,by simp only [inR];omega⟩,by simp only [inR];omega,j+1,⟨?_,⟨rfl,rfl,rfl,rfl,rfl,fun k hk=>?_⟩,trivial⟩,by omega,by omega⟩
  ·rw [show (6:Int) - (j:Int) - 1=6 - ((j+1:Nat):Int) by omega]
   rfl
  ·dsimp only
   split
   ·rename_i e
    have e':6 - k=j:=by omega
    rw [decide_eq_true (show 7≤k+(j+1) by omega)]
    unfold dgI
    rw [e'];rfl
   ·rename_i e
    by_cases h7:7≤k+j
    ·rw [decide_eq_true h7,decide_eq_true (show 7≤k+(j+1) by omega)]
    ·rw [decide_eq_false h7,decide_eq_false (show ¬ 7≤k+(j+1) by omega)]
 ·have:j=7:=by omega
  subst this
  refine ⟨⟨rfl,rfl,rfl,rfl,rfl,fun k hk=>?_⟩,trivial⟩
  dsimp only
  rw [decide_eq_true (show 7≤k+7 by omega)]
  rfl
theorem id_ok (hP:C.P=Tryz.prog):wad C 43 S_id:=by
 rintro args objs U Os vc h hvc
 unfold S_id at h
 split at h<;>simp only [Option.some.injEq,Prod.mk.injEq,reduceCtorEq] at h
 rename_i n
 obtain ⟨rfl,rfl,rfl⟩:=h
 refine wad.wpL (prg hP) [(35,.det wlq),(98,.det we1)] [(4,L_id (idV n))] 2 (.cons (fold_ok hP) (.cons (cdR_ok hP) .nil)) (hP ▸ Tryz.func43) rfl rfl rfl [(wan Tryz.f43 4,L_id (idV n))] (by kernel_rfl) ⟨id_loop hP _,trivial⟩ ?_
 rw [nf_id]
 have hf:=whz (show (1:Int)≤1000000 by omega) n
 have hV:((idV n:Nat):Int)=1000000+wdj n 1000000:=by unfold idV;omega
 have hl:=whs n
 have hc:=wtw (id7 n)
 refine ⟨⟨by omega,by omega⟩,by simp only [inR];omega,⟨by omega,by omega,by decide,by omega⟩,⟨?_,⟨rfl,rfl,rfl,rfl,rfl,fun k hk=>?_⟩,trivial⟩,by omega,⟨⟨by omega,rfl⟩,fun _ _=>rfl⟩,trivial,⟨⟨by omega,rfl⟩,fun _ _=>rfl⟩,?_,?_,⟨by omega,rfl,by omega⟩,⟨⟨by omega,rfl⟩,fun i hi=>?_⟩,?_,rfl,rfl⟩
 ·rw [← hV]
  show TEq [(3,.int .i64 ((idV n:Nat):Int)),(4,.own 0 7),(5,.int .i64 6)] [(3,.int .i64 ((idV n / 1:Nat):Int)),(4,.own 0 7),(5,.int .i64 6)]
  rw [Nat.div_one];rfl
 ·dsimp only
  rw [decide_eq_false (show ¬ 7≤k+0 by omega)];rfl
 ·show inR .i64 (48+(cdF (id7 n)).1)
  simp only [inR];omega
 ·show inR .u8 (48+(cdF (id7 n)).1)
  simp only [inR];omega
 ·obtain rfl:i=0:=by omega
  rfl
 ·show (id7 n).length+_≤_
  rw [hl];simp [waj]
end Go.Eng
