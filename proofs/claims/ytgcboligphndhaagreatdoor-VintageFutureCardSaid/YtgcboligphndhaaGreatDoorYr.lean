/- Functions of the library: they compute what the plain functions say. -/
import Derived.Test.YtgcboligphndhaaGreatDoorYq
import Derived.Shelf.SlGeneric
import Derived.Ground.Names8Prog
import Derived.Shelf.Spec.SlicesGrow
import Derived.Test.YtgcboligphndhaaGreatDoorProg
import Derived.Test.YtgcboligphndhaaGreatDoorYl
import Derived.Test.YtgcboligphndhaaGreatDoorYd
import Derived.Test.YtgcboligphndhaaGreatDoorYc
import Derived.Ground.SlsfProg
import Derived.Shelf.SlSortCmp.NoneTotal
import Derived.Test.YtgcboligphndhaaGreatDoorYi
import Derived.Test.YtgcboligphndhaaGreatDoorYh
import Derived.Test.YtgcboligphndhaaGreatDoorYm
namespace Go.Eng
def frzT (r sz n:Nat) (g:Nat→List AV):List (Nat×AV)→List (Nat×AV)
 |[]=>[]
 |p::l=>(p.1,frzC r sz n g p.2)::frzT r sz n g l
def frzSt (r:Nat) (s:St):St:=match lk s.O r with
 |some (.row _ sz n g _)=>⟨frzT r sz n g s.T,rm r s.O,s.nx,s.dec⟩
 |_=>s
def wgr (r:Nat) (s:St):Prop:=match lk s.O r with
 |some (.row _ _ n g _)=>∀ i,i<n→nrefL (g i)=true
 |_=>True
theorem wpz {r sz n:Nat} {g:Nat→List AV}:∀ {T:List (Nat×AV)} {i:Nat} {u:AV},lk (frzT r sz n g T) i=some u→∃ u0,lk T i=some u0∧u=frzC r sz n g u0
 |[],i,u,h=>by cases h
 |p::T,i,u,h=>by
  rw [frzT,wa1] at h
  rw [wa1]
  by_cases e:p.1=i
  ·rw [if_pos e] at h ⊢
   exact ⟨_,rfl,(Option.some.inj h).symm⟩
  ·rw [if_neg e] at h ⊢
   exact wpz h
theorem RepS.frz {C:Ctx} {E:Ent} {N:Nat} {s:St} {bs:Nat→Option Hd} {a:Act} {w:World} (h:RepS C E N s bs a w) (r:Nat) (hf:wgr r s):RepS C E N (frzSt r s) bs a w:=by
 unfold frzSt
 unfold wgr at hf
 split
 ·rename_i t sz n g fr hO
  rw [hO] at hf
  obtain ⟨⟨hF,hW⟩,hnx,hm⟩:=h
  obtain ⟨hS,hW1⟩:=hW.freeze hO
  have hF1:=hF.step hS
  obtain ⟨hS2,hW2⟩:=hW1.less (O':=lk (rm r s.O)) fun k o hk=>by
   obtain ⟨q1,q2⟩:=wd0 r s.O k o hk
   rw [wat _ _ _ q1];exact q2
  refine ⟨⟨⟨hF.1,hF.2.1,fun i u hu=>?_⟩,hW2⟩,fun k hk=>⟨?_,(hnx k hk).2⟩,hm⟩
  ·obtain ⟨u0,h0,rfl⟩:=wpz hu
   obtain ⟨v,hv,hV⟩:=hF1.2.2 i u0 h0
   exact ⟨v,hv,(V.frzC hW1 (wau _ _ _) hf hV).step hS2⟩
  ·show lk (rm r s.O) k=none
   cases hx:lk (rm r s.O) k with
   |none=>rfl
   |some o=>
    have:=(wd0 r s.O k o hx).2
    rw [(hnx k hk).1] at this;cases this
 ·exact h
theorem AWP.frz {C:Ctx} {m N:Nat} {c:Code} {Q:Exit→St→Prop} {s:St} (r:Nat) (hf:wgr r s) (h:AWP C m N c Q (frzSt r s)):AWP C m N c Q s:=by
 intro E hE bs a w hr
 exact h E hE bs a w (hr.frz r hf)
def frzO (r:Nat) (R:AV→List (Nat×AObj)→Prop) (u:AV) (O:List (Nat×AObj)):Prop:=match lk O r with
 |some (.row _ sz n g _)=>(∀ i,i<n→nrefL (g i)=true)∧R (frzC r sz n g u) (rm r O)
 |_=>R u O
theorem wal.frzO {C:Ctx} {f:FuncId} {args:List AV} {objs:List AObj} {R:AV→List (Nat×AObj)→Prop} (r:Nat) (h:wal C f args objs (Eng.frzO r R)):wal C f args objs R:=by
 refine ⟨h.1,fun E bs w cargs h1 h2 h3 h4 h5 h6 h7=>?_⟩
 refine (h.2 E bs w cargs h1 h2 h3 h4 h5 h6 h7).mono ?_
 rintro e w' ⟨v,u,O',bs',r1,hR0,r3,r4,r5⟩
 unfold Eng.frzO at hR0
 split at hR0
 ·rename_i t sz n g fr hO
  obtain ⟨hg,hR⟩:=hR0
  obtain ⟨hS,hW1⟩:=r3.freeze hO
  have hV:=V.frzC hW1 (wau _ _ _) hg (r4.step hS)
  obtain ⟨hS2,hW2⟩:=hW1.less (O':=lk (rm r O')) fun k o hk=>by
   obtain ⟨q1,q2⟩:=wd0 r O' k o hk
   rw [wat _ _ _ q1];exact q2
  refine ⟨v,_,rm r O',bs',r1,hR,hW2,hV.step hS2,fun k hk=>⟨?_,(r5 k hk).2⟩⟩
  cases hx:lk (rm r O') k with
  |none=>rfl
  |some o=>
   have:=(wd0 r O' k o hx).2
   rw [(r5 k hk).1] at this;cases this
 ·exact ⟨v,u,O',bs',r1,hR0,r3,r4,r5⟩
def regP (G:Env) (x:Code) (Fe:List Nat) (Q:Exit→St→Prop) (s:St):Prop:=wpC G x (Eng.canQ G.te G.m Fe [] Q) s
theorem waj.reg {C:Ctx} {te:TE} (hte:Prg C te) {m N:Nat} {x:Code} {s S:St} {Q:Exit→St→Prop} (calls:List (Nat×CSpec)) (fuel:Nat) (hc:wc5 C calls) (F Fe:List Nat)
  (h0:canonIs te m F s S) (h:regP ⟨te,calls,[],m,N,fuel⟩ x Fe Q S) (hS:wcg S.O True):AWP C m N x Q s:=by
 have hG:EnvOK C ⟨te,calls,[],m,N,fuel⟩:=⟨hte.ok,hte.one,hc⟩
 exact AWP.canonIs F h0 (wdg hG x _ _ (by rw [wdy];intro p hp;simp at hp) h).canQ hS
theorem WRep.rowEq {C:Ctx} {E:Ent} {O:Nat→Option AObj} {bs:Nat→Option Hd} {w:World} (hW:WRep C E O bs w) {r0:Nat} {t sz n:Nat} {f f':Nat→List AV} {fr:Bool} (hd:O r0=some (.row t sz n f fr)) (hf:∀ i,i<n→f' i=f i):
  MB E (up O r0 (.row t sz n f' fr)) bs=MB E O bs∧WRep C E (up O r0 (.row t sz n f' fr)) bs w:=by
 have hlk:∀ r o,up O r0 (.row t sz n f' fr) r=some o→(r=r0∧o= .row t sz n f' fr)∨(r≠r0∧O r=some o):=fun r o ho=>by
  by_cases e:r0=r
  ·subst e
   rw [wau] at ho
   exact .inl ⟨rfl,(Option.some.inj ho).symm⟩
  ·rw [wat _ _ _ e] at ho
   exact .inr ⟨fun e'=>e e'.symm,ho⟩
 have hback:∀ r o,O r=some o→∃ o',up O r0 (.row t sz n f' fr) r=some o'∧o'.mut=o.mut:=fun r o ho=>by
  by_cases e:r0=r
  ·subst e
   rw [hd] at ho
   obtain rfl:=Option.some.inj ho
   exact ⟨_,wau _ _ _,rfl⟩
  ·exact ⟨o,by rw [wat _ _ _ e];exact ho,rfl⟩
 have hold:∀ r o,up O r0 (.row t sz n f' fr) r=some o→∃ o',O r=some o'∧o'.mut=o.mut:=fun r o ho=>by
  rcases hlk r o ho with ⟨rfl,rfl⟩ | ⟨_,h2⟩
  ·exact ⟨_,hd,rfl⟩
  ·exact ⟨_,h2,rfl⟩
 have hMB:MB E (up O r0 (.row t sz n f' fr)) bs=MB E O bs:=by
  funext b
  apply propext
  constructor
  ·rintro (h | ⟨r,o,c,h1,h2,h3⟩)
   ·exact .inl h
   ·obtain ⟨o',q1,q2⟩:=hold r o h1
    exact .inr ⟨r,o',c,q1,q2.trans h2,h3⟩
  ·rintro (h | ⟨r,o,c,h1,h2,h3⟩)
   ·exact .inl h
   ·obtain ⟨o',q1,q2⟩:=hback r o h1
    exact .inr ⟨r,o',c,q1,q2.trans h2,h3⟩
 have hmb:∀ b,mutB (up O r0 (.row t sz n f' fr)) bs b→mutB O bs b:=fun b ⟨r,o,c,h1,h2,h3⟩=>by
  obtain ⟨o',q1,q2⟩:=hold r o h1
  exact ⟨r,o',c,q1,q2.trans h2,h3⟩
 refine ⟨hMB,?_⟩
 exact {
  obj:=fun r o ho=>by
   rw [hMB]
   rcases hlk r o ho with ⟨rfl,rfl⟩ | ⟨hne,ho⟩
   ·rcases hW.obj r _ hd with h | ⟨b,c,vs,h1,h2,h3,h4,h5,h6,h7,h8⟩
    ·exact .inl h
    ·exact .inr ⟨b,c,vs,h1,h2,h3,h4,h5,fun i hi=>by rw [hf i hi];exact h6 i hi,h7,fun i hi j v u hj hv hu=>h8 i hi j v u hj hv (by rw [← hf i hi];exact hu)⟩
   ·exact hW.obj r o ho
  sep:=fun r r' o1 o2 b c c' h1 h2 m1 m2 b1 b2=>by
   obtain ⟨o1',p1,p2⟩:=hold r o1 h1
   obtain ⟨o2',p3,p4⟩:=hold r' o2 h2
   exact hW.sep r r' o1' o2' b c c' p1 p3 (p2.trans m1) (p4.trans m2) b1 b2
  out:=fun b hb=>hW.out b (hmb b hb)
  frz:=fun r t' sz' n' f2 b c ho hb=>by
   rw [hMB]
   rcases hlk r _ ho with ⟨rfl,h⟩ | ⟨hne,ho⟩
   ·injection h with e1 e2 e3 e4 e5
    subst e5
    exact hW.frz r _ _ _ _ b c hd hb
   ·exact hW.frz r t' sz' n' f2 b c ho hb
  high:=fun b hb=>hW.high b (by rw [← hMB];exact hb)
  lt:=hW.lt
  outlt:=hW.outlt
  keep:=hW.keep
  old:=fun b hb=>hW.old b (hmb b hb)
  size:=hW.size
  pre:=hW.pre
  os:=hW.os
  tape:=hW.tape
  output:=hW.output
  laid:=hW.laid
  gle:=hW.gle }
theorem wal.rowEq {C:Ctx} {g:FuncId} {args:List AV} {objs:List AObj} {R:AV→List (Nat×AObj)→Prop} (r:Nat) {t sz n:Nat} {f f':Nat→List AV} {fr:Bool} (hr:objs[r]?=some (.row t sz n f fr)) (hf:∀ i,i<n→f' i=f i)
  (h:wal C g args (objs.set r (.row t sz n f' fr)) R):wal C g args objs R:=by
 have hlt:r<objs.length:=(List.getElem?_eq_some_iff.1 hr).1
 refine ⟨h.1,fun E bs w cargs h1 h2 h3 h4 h5 h6 h7=>?_⟩
 obtain ⟨q1,q2⟩:=h4.rowEq (show lkL objs r=some (.row t sz n f fr) from hr) hf
 rw [← lkL_set hlt] at q1 q2
 have:=h.2 E bs w cargs h1 (by rw [List.length_set];exact h2) h3 q2 (by rw [List.length_set];exact h5) h6 (by rw [q1];exact h7)
 rw [List.length_set] at this
 exact this
theorem ADet.give {C:Ctx} {g:FuncId} {args args':List AV} {U:AV} {t sz n:Nat} {f:Nat→List AV} {fr:Bool} (h:ADet C g args' [] U []) (ha:args.map (frzC 0 sz n f)=args') (hn:nrefL args'=true) (hU:nref U=true) (hf:∀ i,i<n→nrefL (f i)=true):
  ADet C g args [.row t sz n f fr] U []:=by
 refine ⟨h.1,fun E bs w cargs h1 h2 h3 h4 h5 h6 h7=>?_⟩
 obtain ⟨hS,hW1⟩:=h4.freeze (show lkL [.row t sz n f fr] 0=some (.row t sz n f fr) from rfl)
 have no:∀ r,lkL [] r=none:=fun r=>by cases r<;>rfl
 have nm:∀ b',¬ mutB (lkL []) nob b':=by
  rintro b' ⟨r,o,c,ho,_⟩
  rw [no r] at ho;cases ho
 have hout:∀ b,E.outer b→b<w.heap.size:=fun b hb=>Nat.lt_of_lt_of_le (h4.outlt b hb) h4.size
 have hw:WRep C ⟨w,0,nob,fun _=>False,E.outer⟩ (lkL []) nob w:={
  obj:=fun r o ho=>by rw [no r] at ho;cases ho
  sep:=fun r r' o o' b c c' ho=>by rw [no r] at ho;cases ho
  out:=fun b hb=>absurd hb (nm b)
  frz:=fun r t sz n f b c ho=>by rw [no r] at ho;cases ho
  high:=fun b hb=>by
   rcases hb with hb | hb
   ·exact h4.high b (.inl hb)
   ·exact absurd hb (nm b)
  lt:=fun r b c hb=>by simp [nob] at hb
  outlt:=hout
  keep:=fun b _ _=>rfl
  old:=fun b hb=>absurd hb (nm b)
  size:=Nat.le_refl _
  pre:=fun r x hr=>absurd hr (Nat.not_lt_zero r)
  os:=rfl
  tape:=.refl _ _
  output:=rfl
  laid:=h4.laid
  gle:=Nat.le_trans h4.gle h4.size }
 have hlen:cargs.length=args'.length:=by rw [← ha,List.length_map];exact h6
 refine (h.2 ⟨w,0,nob,fun _=>False,E.outer⟩ nob w cargs rfl rfl rfl hw (fun _ _=>rfl) hlen (fun j v u hv hu=>?_)).mono ?_
 ·rw [← ha,List.getElem?_map] at hu
  obtain ⟨u0,hu0,rfl⟩:=Option.map_eq_some_iff.1 hu
  have hV:=V.frzC hW1 (wau _ _ _) hf ((h7 j v u0 hv hu0).step hS)
  refine hV.free (fun b _ hb hb'=>?_) (fun _ _ _=>rfl) (Nat.le_refl _) nob (wfu hn j _ (by rw [← ha,List.getElem?_map,hu0];rfl))
  rcases hb' with hb' | hb'
  ·exact hb (.inl hb')
  ·exact nm b hb'
 ·rintro e w' ⟨v,u,O',bs',rfl,⟨rfl,rfl⟩,hw',hV',_⟩
  have nl:∀ r,lk ([]:List (Nat×AObj)) r=none:=fun r=>rfl
  have nm':∀ (bs:Nat→Option Hd) b',¬ mutB (lk []) bs b':=by
   rintro bs b' ⟨r,o,c,ho,_⟩
   cases ho
  subst h1
  refine ⟨v,u,[],bs,rfl,⟨rfl,rfl⟩,?_,hV'.free (fun b _ hb hb'=>?_) (fun _ _ _=>rfl) (Nat.le_refl _) bs hU,fun r hr=>⟨rfl,h5 r (by show 1≤r;have:1+16≤r:=hr;omega)⟩⟩
  ·exact {
    obj:=fun r o ho=>by cases ho
    sep:=fun r r' o o' b c c' ho=>by cases ho
    out:=fun b hb=>absurd hb (nm' _ b)
    frz:=fun r t sz n f b c ho=>by cases ho
    high:=fun b hb=>by
     rcases hb with hb | hb
     ·exact h4.high b (.inl hb)
     ·exact absurd hb (nm' _ b)
    lt:=fun r b c hb=>Nat.lt_of_lt_of_le (h4.lt r b c hb) hw'.size
    outlt:=h4.outlt
    keep:=fun b hb _=>hw'.keep b hb (fun h=>h)
    old:=fun b hb=>absurd hb (nm' _ b)
    size:=hw'.size
    pre:=fun r x hr hb=>by rw [h3] at hb;exact hb
    os:=hw'.os
    tape:=hw'.tape
    output:=hw'.output
    laid:=hw'.laid
    gle:=h4.gle }
  ·rcases hb' with hb' | hb'
   ·exact hb (.inl hb')
   ·exact nm' _ b hb'
def wlu:Spec
 |[.str a,.str b],[]=>some (.int .i64 (cmpS a b),[],True)
 |_,_=>none
def wl4:Spec
 |[.int .i64 _],[]=>some (.bool false,[],True)
 |_,_=>none
def wmr:Spec
 |[.int .i64 a,.int .i64 b],[]=>some (.int .i64 (cmpI a b),[],True)
 |_,_=>none
def orN (v:Nat→Int):Nat→Int
 |0=>0
 |k+1=>bif decide (orN v k=0) then v k else orN v k
def S_or:Spec
 |[.own 0 n],[.row t 1 m f fr]=>some (.int .i64 (orN (vInt f) n),[(0,.row 3 1 n f false)],t=3∧fr=false∧n=m∧n≤100∧∀ i,i<n→f i=waa (vInt f) i)
 |_,_=>none
def wl0 (v:Nat→Int) (n k:Nat):St:=⟨[(3,.int .i64 0),(6,.own 0 n),(7,.int .i64 n),(8,.int .i64 k)],[(0,.row 3 1 n (waa v) false)],1,[]⟩
def L_or (v:Nat→Int) (n:Nat):war:=fun st Q=>canonIs te 1 [3,6,7,8] st (wl0 v n 0)∧n≤100∧
 wad (decide (orN v n=0)) (Q (.exit 0) ⟨[(3,.int .i64 0)],[(0,.row 3 1 n (waa v) false)],1,[]⟩) (Q .ret ⟨[(2,.int .i64 (orN v n))],[(0,.row 3 1 n (waa v) false)],1,[]⟩)
def wai (g:Nat→RW) (i:Nat):List AV:=[.str (g i).o,.str (g i).p,.int .i64 (g i).per,.int .i64 (g i).u,.int .i64 (g i).tv]
def rwOf (f:Nat→List AV) (i:Nat):RW:=match f i with
 |[.str o,.str p,.int .i64 per,.int .i64 u,.int .i64 tv]=>⟨o,p,per,u,tv⟩
 |_=>default
def lst {α:Type} (g:Nat→α) (n:Nat):List α:=(List.range n).map g
def mgC (m:MG):List AV:=[.str m.dev,.int .i64 m.seq,.int .i64 m.kind,.str m.v.o,.str m.v.p,.int .i64 m.v.per,.int .i64 m.v.day,.int .i64 m.v.st,.int .i64 m.v.pr,.str m.v.rep,.str m.d.o,.str m.d.p,.int .i64 m.d.per,.str m.d.dev,.int .i64 m.d.num]
def wag (g:Nat→MG) (i:Nat):List AV:=[.str (g i).dev,.int .i64 (g i).seq,.int .i64 (g i).kind,.str (g i).v.o,.str (g i).v.p,.int .i64 (g i).v.per,.int .i64 (g i).v.day,.int .i64 (g i).v.st,.int .i64 (g i).v.pr,.str (g i).v.rep,.str (g i).d.o,.str (g i).d.p,.int .i64 (g i).d.per,.str (g i).d.dev,.int .i64 (g i).d.num]
def mgOf (f:Nat→List AV) (i:Nat):MG:=match f i with
 |[.str dev,.int .i64 seq,.int .i64 kind,.str o,.str p,.int .i64 per,.int .i64 day,.int .i64 st,.int .i64 pr,.str rep,.str o',.str p',.int .i64 per',.str dev',.int .i64 num]=>⟨dev,seq,kind,⟨o,p,per,day,st,pr,rep⟩,⟨o',p',per',dev',num⟩⟩
 |_=>default
structure CI where
 k:Nat
 w:Nat
 h:Nat→MG
def atM (L:List MG) (i:Nat):MG:=L.getD i default
structure MG.Sm (m:MG):Prop where
 a:m.dev.length<4294967281
 b:m.v.o.length<4294967281
 c:m.d.o.length<4294967281
 d:m.d.dev.length<4294967281
def mk2 (m:MG):List UInt8×Int:=(m.dev,m.seq)
def addC:List ((List UInt8×Int)×Int)→List UInt8×Int→List ((List UInt8×Int)×Int)
 |[],p=>[(p,1)]
 |x::l,p=>bif decide (x.1.1=p.1) && decide (x.1.2=p.2) then (p,x.2+1)::l else x::addC l p
def getC:List ((List UInt8×Int)×Int)→List UInt8×Int→Int
 |[],_=>0
 |x::l,p=>bif decide (x.1.1=p.1) && decide (x.1.2=p.2) then x.2 else getC l p
def cntL (g:Nat→MG):Nat→List ((List UInt8×Int)×Int)
 |0=>[]
 |k+1=>addC (cntL g k) (mk2 (g k))
def numC (g:Nat→MG) (p:List UInt8×Int):Nat→Int
 |0=>0
 |k+1=>numC g p k+bif decide ((mk2 (g k)).1=p.1) && decide ((mk2 (g k)).2=p.2) then 1 else 0
theorem wgg {a b:List UInt8×Int}:(decide (a.1=b.1) && decide (a.2=b.2))=true↔a=b:=by
 simp [Prod.ext_iff]
theorem wur (q p:List UInt8×Int):∀ L,getC (addC L p) q=getC L q+bif decide (p.1=q.1) && decide (p.2=q.2) then 1 else 0
 |[]=>by
  show (bif decide (p.1=q.1) && decide (p.2=q.2) then (1:Int) else 0)=0+bif decide (p.1=q.1) && decide (p.2=q.2) then 1 else 0
  generalize (decide (p.1=q.1) && decide (p.2=q.2))=b
  cases b<;>rfl
 |x::l=>by
  have ih:=wur q p l
  rw [addC]
  cases h:decide (x.1.1=p.1) && decide (x.1.2=p.2) with
  |true=>
   have e:=wgg.1 h
   show getC ((p,x.2+1)::l) q=getC (x::l) q+_
   rw [getC,getC,e]
   cases h2:decide (p.1=q.1) && decide (p.2=q.2) with
   |true=>rfl
   |false=>show getC l q=getC l q+0;omega
  |false=>
   show getC (x::addC l p) q=getC (x::l) q+_
   rw [getC,getC]
   cases h2:decide (x.1.1=q.1) && decide (x.1.2=q.2) with
   |true=>
    have e:=wgg.1 h2
    have:(decide (p.1=q.1) && decide (p.2=q.2))=false:=by
     cases r:decide (p.1=q.1) && decide (p.2=q.2) with
     |false=>rfl
     |true=>rw [e, ← wgg.1 r] at h;simp at h
    rw [this];show x.2=x.2+0;omega
   |false=>exact ih
theorem wql (g:Nat→MG) (q:List UInt8×Int):∀ k,getC (cntL g k) q=numC g q k
 |0=>rfl
 |k+1=>by rw [cntL,wur,wql g q k,numC]
theorem ws7 (g:Nat→MG) (q:List UInt8×Int):∀ k,0≤numC g q k∧numC g q k≤k
 |0=>by simp [numC]
 |k+1=>by
  have:=ws7 g q k
  rw [numC]
  cases decide ((mk2 (g k)).1=q.1) && decide ((mk2 (g k)).2=q.2)<;>simp<;>omega
theorem wwc (p:List UInt8×Int):∀ (L:List ((List UInt8×Int)×Int)) (x:List UInt8×Int),x∈(addC L p).map Prod.fst→x∈L.map Prod.fst∨x=p
 |[],x,h=>by simpa [addC] using h
 |y::l,x,h=>by
  rw [addC] at h
  cases e:decide (y.1.1=p.1) && decide (y.1.2=p.2) with
  |true=>
   rw [e] at h
   rcases List.mem_cons.1 h with h | h
   ·exact .inr h
   ·exact .inl (List.mem_cons_of_mem _ h)
  |false=>
   rw [e] at h
   rcases List.mem_cons.1 h with h | h
   ·exact .inl (by rw [h];exact List.mem_cons_self ..)
   ·rcases wwc p l x h with h | h
    ·exact .inl (List.mem_cons_of_mem _ h)
    ·exact .inr h
theorem wrb (p:List UInt8×Int):∀ {L:List ((List UInt8×Int)×Int)},(L.map Prod.fst).Nodup→((addC L p).map Prod.fst).Nodup
 |[],_=>by simp [addC]
 |y::l,h=>by
  obtain ⟨h1,h2⟩:=List.nodup_cons.1 (show (y.1::l.map Prod.fst).Nodup from h)
  rw [addC]
  cases e:decide (y.1.1=p.1) && decide (y.1.2=p.2) with
  |true=>
   have e':=wgg.1 e
   exact List.nodup_cons.2 ⟨by rw [← e'];exact h1,h2⟩
  |false=>
   refine List.nodup_cons.2 ⟨fun q=>?_,wrb p h2⟩
   rcases wwc p l y.1 q with q | q
   ·exact h1 q
   ·rw [q] at e;simp at e
theorem wqx (g:Nat→MG):∀ k,((cntL g k).map Prod.fst).Nodup
 |0=>by simp [cntL]
 |k+1=>wrb _ (wqx g k)
def entM (L:List ((List UInt8×Int)×Int)):List (AV×AV):=L.map fun x=>(.agg [.str x.1.1,.int .i64 x.1.2],.int .i64 x.2)
def fstB (q:Nat→Bool):Nat→Nat
 |0=>0
 |k+1=>bif decide (fstB q k<k) then fstB q k else (bif q k then k else k+1)
def ixB (q:Nat→Bool) (n:Nat):Int:=bif decide (fstB q n<n) then (fstB q n:Int) else -1
theorem wil (q:Nat→Bool):∀ k,fstB q k≤k
 |0=>Nat.le_refl _
 |k+1=>by
  have ih:=wil q k
  rw [fstB]
  cases decide (fstB q k<k) with
  |true=>show fstB q k≤k+1;omega
  |false=>cases q k with
   |true=>show k≤k+1;omega
   |false=>exact Nat.le_refl _
theorem wik {q:Nat→Bool} {k:Nat} (h:fstB q k=k) (hk:q k=false):fstB q (k+1)=k+1:=by
 rw [fstB,decide_eq_false (show ¬ fstB q k<k by omega),hk];rfl
theorem wim {q:Nat→Bool} {k:Nat} (h:fstB q k=k) (hk:q k=true):∀ n,k<n→fstB q n=k
 |0,hn=>absurd hn (Nat.not_lt_zero _)
 |n+1,hn=>by
  rw [fstB]
  by_cases e:k=n
  ·subst e
   rw [decide_eq_false (show ¬ fstB q k<k by omega),hk];rfl
  ·have ih:=wim h hk n (by omega)
   rw [ih,decide_eq_true (show k<n by omega)];rfl
theorem wki (q:Nat→Bool):∀ n,(∀ j,j<fstB q n→q j=false)∧(fstB q n<n→q (fstB q n)=true)
 |0=>⟨fun j hj=>absurd hj (Nat.not_lt_zero _),fun h=>absurd h (Nat.not_lt_zero _)⟩
 |n+1=>by
  obtain ⟨h1,h2⟩:=wki q n
  have hle:=wil q n
  by_cases h:fstB q n<n
  ·have e:fstB q (n+1)=fstB q n:=by rw [fstB,decide_eq_true h];rfl
   rw [e]
   exact ⟨h1,fun _=>h2 h⟩
  ·have h0:fstB q n=n:=by omega
   rw [h0] at h1
   cases hq:q n with
   |true=>
    have e:fstB q (n+1)=n:=by rw [fstB,decide_eq_false h,hq];rfl
    rw [e]
    exact ⟨h1,fun _=>hq⟩
   |false=>
    have e:fstB q (n+1)=n+1:=wik h0 hq
    rw [e]
    refine ⟨fun j hj=>?_,fun h=>absurd h (Nat.lt_irrefl _)⟩
    by_cases q':j=n
    ·rw [q'];exact hq
    ·exact h1 j (by omega)
end Go.Eng
namespace Go.Proofs
open Go.Shelf
end Go.Proofs
namespace Go.Eng
open Go.Proofs Go.RowKit
variable {C:Ctx} [C.Loose]
set_option maxRecDepth 20000
end Go.Eng
namespace Go.Eng
theorem waj.mkI {C:Ctx} {te:TE} (hte:Prg C te) {m N:Nat} {x:Code} {s:St} {Q:Exit→St→Prop} (calls:List (Nat×CSpec)) {ι:Type} (loops:ι→List (Nat×war)) (fuel:Nat) (hc:wc5 C calls) (ls:ι→List (Code×war)) (hls:∀ i,wbh (loops i) x=ls i) (hL:∀ i,wfk C m N (ls i))
  (F Fe Fr:List Nat) (S:ι→St) (I:ι→Prop) (μ:ι→Nat) (i0:ι) (hI:I i0)
  (h0:canonIs te m F s (S i0)) (round:∀ i,I i→wa2 ⟨te,calls,loops i,m,N,fuel⟩ x F Fe Fr S (fun i'=>I i'∧μ i'<μ i) Q (S i)) (hS:∀ i,wcg (S i).O True:=by intro i;trivial):AWP C m N (.loop x) Q s:=by
 obtain ⟨ρ0,hw⟩:=wiz h0 (wdj (hS i0)).1
 have key:AWP C m N (.loop x) (Eng.canQ te m Fe Fr Q) s:=by
  refine AWP.loop S I μ i0 hI hw fun i hi=>?_
  have hG:EnvOK C ⟨te,calls,loops i,m,N,fuel⟩:=⟨hte.ok,hte.one,hc⟩
  refine (wdg hG x _ _ (by rw [hls i];exact (hL i).all) (round i hi)).mono fun e s hq=>woy (fun s hs=>?_) e s hq
  obtain ⟨i',h3,h1,h2⟩:=hs
  obtain ⟨ρ,hw'⟩:=wiz h3 (wdj (hS i')).1
  exact ⟨i',ρ,h1,h2,hw'⟩
 exact key.canQ
theorem putRowL {α:Type} [Inhabited α] (enc:α→List AV) (L:List α) (x:α) (ch:Nat→List AV) (hch:ch 0=enc x) (j:Nat) (hj:j<L.length+1):
  apF L.length (fun i=>enc (L.getD i default)) ch j=enc ((L++[x]).getD j default):=by
 unfold apF
 by_cases h1:j<L.length
 ·rw [if_pos h1]
  show enc _=enc _
  congr 1
  rw [List.getD_eq_getElem?_getD,List.getD_eq_getElem?_getD,List.getElem?_append_left h1]
 ·have:j=L.length:=by omega
  subst this
  rw [if_neg h1,Nat.sub_self,hch]
  show enc _=enc _
  congr 1
  simp
end Go.Eng
namespace Go.Eng
open Go.Proofs Go.RowKit
variable {C:Ctx} [C.Loose]
set_option maxRecDepth 20000
end Go.Eng
namespace Go.Proofs
open Go.Shelf
def Tryz.sort91_ren:Go.Shelf.Ren:=⟨fun | 6=>91 | 15=>137 | 14=>136 | 28=>175 | 29=>176 | 20=>167 | 21=>168 | 22=>169 | 23=>170 | 24=>171 | 25=>172 | 26=>173 | 27=>174 | 46=>208 | 47=>209 | 48=>210 | 49=>211 | 50=>212 | 57=>236 | n=>n,fun | 22=>92 | 24=>9 | 25=>125 | 3=>3 | 39=>168 | 0=>0 | 53=>201 | 55=>118 | 4=>4 | 46=>195 | 45=>194 | 50=>128 | 5=>5 | 9=>9 | 66=>226 | 70=>230 | 76=>250 | 77=>251 | n=>n,fun | n=>n⟩
theorem Tryz.sort91:Go.Proofs.SlLaysF0.n6 Tryz.prog Tryz.sort91_ren:={
 mixed:=by kernel_rfl
 f6:=⟨Tryz.f91.name,by decide,Tryz.func91.trans (congrArg some (by kernel_rfl))⟩
 f14:=⟨Tryz.f136.name,by decide,Tryz.func136.trans (congrArg some (by kernel_rfl))⟩
 f15:=Tryz.func137.trans (congrArg some (by kernel_rfl))
 f20:=⟨Tryz.f167.name,by decide,Tryz.func167.trans (congrArg some (by kernel_rfl))⟩
 f21:=⟨Tryz.f168.name,by decide,Tryz.func168.trans (congrArg some (by kernel_rfl))⟩
 f22:=⟨Tryz.f169.name,by decide,Tryz.func169.trans (congrArg some (by kernel_rfl))⟩
 f23:=⟨Tryz.f170.name,by decide,Tryz.func170.trans (congrArg some (by kernel_rfl))⟩
 f24:=⟨Tryz.f171.name,by decide,Tryz.func171.trans (congrArg some (by kernel_rfl))⟩
 f25:=⟨Tryz.f172.name,by decide,Tryz.func172.trans (congrArg some (by kernel_rfl))⟩
 f26:=⟨Tryz.f173.name,by decide,Tryz.func173.trans (congrArg some (by kernel_rfl))⟩
 f27:=⟨Tryz.f174.name,by decide,Tryz.func174.trans (congrArg some (by kernel_rfl))⟩
 f28:=Tryz.func175.trans (congrArg some (by kernel_rfl))
 f29:=Tryz.func176.trans (congrArg some (by kernel_rfl))
 f46:=⟨Tryz.f208.name,by decide,Tryz.func208.trans (congrArg some (by kernel_rfl))⟩
 f47:=Tryz.func209.trans (congrArg some (by kernel_rfl))
 f48:=Tryz.func210.trans (congrArg some (by kernel_rfl))
 f49:=⟨Tryz.f211.name,by decide,Tryz.func211.trans (congrArg some (by kernel_rfl))⟩
 f50:=⟨Tryz.f212.name,by decide,Tryz.func212.trans (congrArg some (by kernel_rfl))⟩
 f57:=⟨Tryz.f236.name,by decide,Tryz.func236.trans (congrArg some (by kernel_rfl))⟩
 t0:=Tryz.underlying0
 a0:=Tryz.isAgg0
 z0:=Tryz.sizeOf0
 v0:=Tryz.zeroValue0
 t3:=Tryz.underlying3
 a3:=Tryz.isAgg3
 z3:=Tryz.sizeOf3
 v3:=Tryz.zeroValue3
 t4:=Tryz.underlying4
 a4:=Tryz.isAgg4
 z4:=Tryz.sizeOf4
 v4:=Tryz.zeroValue4
 t5:=Tryz.underlying5
 a5:=Tryz.isAgg5
 z5:=Tryz.sizeOf5
 v5:=Tryz.zeroValue5
 t9:=Tryz.underlying9
 a9:=Tryz.isAgg9
 z9:=Tryz.sizeOf9
 v9:=Tryz.zeroValue9
 t22:=Tryz.underlying92
 a22:=Tryz.isAgg92
 z22:=Tryz.sizeOf92
 v22:=Tryz.zeroValue92
 t25:=Tryz.underlying125
 a25:=Tryz.isAgg125
 z25:=Tryz.sizeOf125
 v25:=Tryz.zeroValue125
 t39:=Tryz.underlying168
 a39:=Tryz.isAgg168
 z39:=Tryz.sizeOf168
 v39:=Tryz.zeroValue168
 t45:=Tryz.underlying194
 a45:=Tryz.isAgg194
 z45:=Tryz.sizeOf194
 v45:=Tryz.zeroValue194
 t46:=Tryz.underlying195
 a46:=Tryz.isAgg195
 z46:=Tryz.sizeOf195
 v46:=Tryz.zeroValue195
 t50:=Tryz.underlying128
 a50:=Tryz.isAgg128
 z50:=Tryz.sizeOf128
 v50:=Tryz.zeroValue128
 t53:=Tryz.underlying201
 a53:=Tryz.isAgg201
 z53:=Tryz.sizeOf201
 v53:=Tryz.zeroValue201
 t55:=Tryz.underlying118
 a55:=Tryz.isAgg118
 z55:=Tryz.sizeOf118
 v55:=Tryz.zeroValue118
 t66:=Tryz.underlying226
 a66:=Tryz.isAgg226
 z66:=Tryz.sizeOf226
 v66:=Tryz.zeroValue226
 t70:=Tryz.underlying230
 a70:=Tryz.isAgg230
 z70:=Tryz.sizeOf230
 v70:=Tryz.zeroValue230
 t76:=Tryz.underlying250
 a76:=Tryz.isAgg250
 z76:=Tryz.sizeOf250
 v76:=Tryz.zeroValue250
 t77:=Tryz.underlying251
 a77:=Tryz.isAgg251
 z77:=Tryz.sizeOf251
 v77:=Tryz.zeroValue251 }
end Go.Proofs
namespace Go.Eng
open Go.Proofs Go.RowKit Go.Sort
def valA:AV→Value
 |.str l=>.string ⟨l.toArray⟩
 |.int k n=>.int k n
 |.bool b=>.bool b
 |_=>default
def wpg:AV→Bool
 |.str _=>true
 |.int _ _=>true
 |.bool _=>true
 |_=>false
theorem V_plain {w:World} {M:Nat→Prop} {bs:Nat→Option Hd} {v:Value} {u:AV} (hp:wpg u=true) (h:V w M bs v u):v=valA u:=by
 cases u<;>simp only [wpg,Bool.false_eq_true] at hp
 ·cases h;rfl
 ·cases h;rfl
 ·exact h.str_iff
def Ctx.bare (P:Program) (h:P.follows .mixedOrders=true):Ctx:=⟨P,0,fun _=>True,h,fun _ _ _ h=>h,true⟩
theorem grow_of {w w':World} (h1:w'.os=w.os) (h2:w'.tape=w.tape) (h3:w'.output=w.output) (h4:w.heap.size≤w'.heap.size) (h5:∀ b,b<w.heap.size→w'.heap[b]?=w.heap[b]?) (h6:w.drawn≤w'.drawn):
  ∃ q os,w'=grow (w.drewN q) os:=by
 refine ⟨w'.drawn - w.drawn,w'.heap.extract w.heap.size w'.heap.size,?_⟩
 obtain ⟨hp,tp,dr,os,out⟩:=w
 obtain ⟨hp',tp',dr',os',out'⟩:=w'
 simp only at h1 h2 h3 h4 h5 h6
 subst h1;subst h2;subst h3
 simp only [grow,World.drewN,World.mk.injEq,and_true,true_and]
 refine ⟨?_,by omega⟩
 apply Array.ext_getElem?
 intro i
 rw [Array.getElem?_append]
 by_cases h:i<hp.size
 ·rw [if_pos h,h5 i h]
 ·rw [if_neg h,Array.getElem?_extract]
  by_cases h':i<hp'.size
  ·rw [if_pos (by omega)];congr 1;omega
  ·rw [if_neg (by omega),Array.getElem?_eq_none (by omega)]
theorem ADet.grown {P:Program} {hm:P.follows .mixedOrders=true} {f:FuncId} {args:List AV} {u:AV} (h:ADet (Ctx.bare P hm) f args [] u []) (hu:wpg u=true) {w:World} {cargs:List Value} (hlen:cargs.length=args.length)
  (hV:∀ (j:Nat) v x,cargs[j]?=some v→args[j]?=some x→V w (fun _=>False) nob v x):Calls P f cargs.toArray w fun e w'=>e= .returned (valA u)∧∃ q os,w'=grow (w.drewN q) os:=by
 have no:∀ r,lkL [] r=none:=fun r=>by cases r<;>rfl
 have nm:∀ b',¬ mutB (lkL []) nob b':=by
  rintro b' ⟨r,o,c,ho,_⟩
  rw [no r] at ho;cases ho
 have hw:WRep (Ctx.bare P hm) ⟨w,0,nob,fun _=>False,fun _=>False⟩ (lkL []) nob w:={
  obj:=fun r o ho=>by rw [no r] at ho;cases ho
  sep:=fun r r' o o' b c c' ho=>by rw [no r] at ho;cases ho
  out:=fun b hb=>absurd hb (nm b)
  frz:=fun r t sz n f b c ho=>by rw [no r] at ho;cases ho
  high:=fun b hb=>Nat.zero_le _
  lt:=fun r b c hb=>by simp [nob] at hb
  outlt:=fun b hb=>hb.elim
  keep:=fun b _ _=>rfl
  old:=fun b hb=>absurd hb (nm b)
  size:=Nat.le_refl _
  pre:=fun r x hr=>absurd hr (Nat.not_lt_zero r)
  os:=rfl
  tape:=.refl _ _
  output:=rfl
  laid:=trivial
  gle:=Nat.zero_le _ }
 refine (h.2 ⟨w,0,nob,fun _=>False,fun _=>False⟩ nob w cargs rfl rfl rfl hw (fun _ _=>rfl) hlen (fun j v u hv hu=>(hV j v u hv hu).step_ (fun b _ _ hb=>?_) (fun _ _ _=>rfl) (Nat.le_refl _) nob (fun _ _ h=>h))).mono ?_
 ·rcases hb with hb | hb
  ·exact hb
  ·exact nm b hb
 ·rintro e w' ⟨v,u',O',bs',rfl,⟨rfl,rfl⟩,hw',hV',_⟩
  rw [V_plain hu hV']
  exact ⟨rfl,grow_of hw'.os hw'.tape.tape hw'.output hw'.size (fun i hi=>hw'.keep i hi (fun h=>h)) (hw'.tape.drawn rfl)⟩
section
variable {α:Type} [Inhabited α]
theorem arr_get (n:Nat) (f:Nat→α) {i:Nat} (hi:i<n):(((List.range n).map f).toArray)[i]! =f i:=by simp [hi]
end
end Go.Eng
namespace Go.Eng
open Go.Proofs Go.RowKit Go.Sort
variable {C:Ctx}
set_option maxRecDepth 20000
theorem nf_nan (x:Int) (R:AV→List (Nat×AObj)→Prop):wpFn te [] [] 0 Tryz.f139 [.int .i64 x] [] R=(R (.bool !decide (x=x)) []):=by kernel_rfl
theorem nf_icmp (a b:Int) (R:AV→List (Nat×AObj)→Prop):wpFn te [(139,.det wl4)] [] 0 Tryz.f95 [.int .i64 a,.int .i64 b] [] R=(True∧True∧wad (decide (a<b)) (R (.int .i64 (-1:Int)) []) (wad (decide (b<a)) (R (.int .i64 1) []) (R (.int .i64 0) []))):=by kernel_rfl
theorem nf_or (f:Nat→List AV) (n:Nat) (R:AV→List (Nat×AObj)→Prop):wpFn te [] [(3,L_or (vInt f) n)] 0 Tryz.f93 [.own 0 n] [.row 3 1 n f false] R=(letI z0:=([(0,.row 3 1 n (waa (vInt f)) false)]:List (Nat×AObj));(TEq [(3,.int .i64 0),(6,.own 0 n),(7,.int .i64 (↑n:Int)),(8,.int .i64 0)] [(3,.int .i64 0),(6,.own 0 n),(7,.int .i64 (↑n:Int)),(8,.int .i64 (↑0:Int))]∧wae [(0,.row 3 1 n f false)] z0)∧n≤100∧wad (decide (orN (vInt f) n=(0:Int))) ((∀ (i:Nat),i<n→true=true)∧∃ (O':List (Nat×AObj)),wae z0 O'∧R (.int .i64 0) O') ((∀ (i:Nat),i<n→true=true)∧∃ (O':List (Nat×AObj)),wae z0 O'∧R (.int .i64 (orN (vInt f) n)) O')):=by kernel_rfl
theorem wy8 (v:Nat→Int) (n k:Nat) (P:Nat→Prop) (R:Exit→St→Prop):wa2 ⟨te,[],[],1,18,0⟩ (wa3 Tryz.f93 3) [3,6,7,8] [3] [2] (wl0 v n) P R (wl0 v n k)=(letI z0:=([(0,.row 3 1 n (waa v) false)]:List (Nat×AObj));wad (decide ((↑k:Int)<(↑n:Int))) (((0:Int)≤(↑k:Int)∧(↑k:Int)<(↑n:Int))∧(Int.toNat (↑k:Int)<n∧1=1)∧wad (!decide (v (Int.toNat (↑k:Int))=(0:Int))) ((∀ (i:Nat),i<n→true=true)∧∃ (O':List (Nat×AObj)),wae z0 O'∧R .ret (St.mk [(2,.int .i64 (v (Int.toNat (↑k:Int))))] O' 1 [])) (inR .i64 ((↑k:Int)+(1:Int))∧∃ (i':Nat),(TEq [(3,.int .i64 0),(6,.own 0 n),(7,.int .i64 (↑n:Int)),(8,.int .i64 ((↑k:Int)+(1:Int)))] [(3,.int .i64 0),(6,.own 0 n),(7,.int .i64 (↑n:Int)),(8,.int .i64 (↑i':Int))]∧wae z0 z0)∧P i')) ((∀ (i:Nat),i<n→true=true)∧∃ (O':List (Nat×AObj)),wae z0 O'∧R (.exit 0) (St.mk [(3,.int .i64 0)] O' 1 []))):=by kernel_rfl
theorem wvo:∀ a b:List UInt8,Lib.compareBytes a b=cmpS a b
 |[],[]=>rfl
 |[],_::_=>rfl
 |_::_,[]=>rfl
 |a::x,b::y=>by
  have ih:=wvo x y
  rw [Lib.compareBytes,ih]
  unfold cmpS
  simp only [Op.bytesLess]
  by_cases h:a<b
  ·simp [h]
  ·by_cases h':b<a
   ·have:(a==b)=false:=by
     rw [beq_eq_false_iff_ne]
     exact fun e=>by subst e;exact h h'
    simp [h,h',this]
   ·have e:a=b:=by
     rcases Nat.lt_trichotomy a.toNat b.toNat with q | q | q
     ·exact absurd q h
     ·exact UInt8.toNat_inj.1 q
     ·exact absurd q h'
    subst e
    simp [h]
theorem scmp_ok (hP:C.P=Tryz.prog):waf C 94 wlu:=by
 rintro args objs U Os vc h hvc
 unfold wlu at h
 split at h<;>simp only [Option.some.injEq,Prod.mk.injEq,reduceCtorEq] at h
 rename_i a b
 obtain ⟨rfl,rfl,rfl⟩:=h
 refine wal.quiet ⟨Tryz.f94,hP ▸ Tryz.func94,rfl,by decide⟩ fun E bs w cargs hW hl hv=>?_
 obtain ⟨x,y,rfl⟩:∃ x y,cargs=[x,y]:=by
  match cargs,hl with
  |[x,y],_=>exact ⟨x,y,rfl⟩
 have e1:=(hv 0 _ _ rfl rfl).str_iff
 have e2:=(hv 1 _ _ rfl rfl).str_iff
 subst e1;subst e2
 rw [hP]
 refine (Tryz.strings_Compare ⟨a.toArray⟩ ⟨b.toArray⟩ w).mono ?_
 rintro e w' ⟨rfl,rfl⟩
 refine ⟨_,rfl,rfl,?_⟩
 rw [wvo]
 exact .int
theorem nan_ok (hP:C.P=Tryz.prog):waf C 139 wl4:=by
 rintro args objs U Os vc h hvc
 unfold wl4 at h
 split at h<;>simp only [Option.some.injEq,Prod.mk.injEq,reduceCtorEq] at h
 obtain ⟨rfl,rfl,rfl⟩:=h
 refine waf.wp0 (prg hP) [] 0 .nil (hP ▸ Tryz.func139) rfl rfl rfl ?_
 rw [nf_nan,decide_eq_true rfl]
 exact ⟨rfl,rfl⟩
theorem icmp_ok (hP:C.P=Tryz.prog):waf C 95 wmr:=by
 rintro args objs U Os vc h hvc
 unfold wmr at h
 split at h<;>simp only [Option.some.injEq,Prod.mk.injEq,reduceCtorEq] at h
 obtain ⟨rfl,rfl,rfl⟩:=h
 refine waf.wp0 (prg hP) [(139,.det wl4)] 0 (.cons (nan_ok hP) .nil) (hP ▸ Tryz.func95) rfl rfl rfl ?_
 rw [nf_icmp]
 unfold cmpI
 exact ⟨trivial,trivial,waz (fun h=>by rw [h];exact ⟨rfl,rfl⟩) (fun h=>waz (fun k=>by rw [h,k];exact ⟨rfl,rfl⟩) (fun k=>by rw [h,k];exact ⟨rfl,rfl⟩))⟩
theorem ws1 {v:Nat→Int} {k:Nat} (h:orN v k=0) (hv:v k≠0):∀ n,k<n→orN v n=v k
 |0,hn=>by omega
 |n+1,hn=>by
  rw [orN]
  by_cases e:k=n
  ·subst e;rw [h];rfl
  ·rw [ws1 h hv n (by omega),decide_eq_false hv];rfl
theorem or_loop (hP:C.P=Tryz.prog) (v:Nat→Int) (n:Nat):waj C 1 18 (wam Tryz.f93 3) (L_or v n):=by
 rintro st Q ⟨h0,hn,hQ⟩
 have hR:=wcb hQ
 refine waj.mk (prg hP) [] 0 .nil [3,6,7,8] [3] [2] (wl0 v n) (fun k=>k≤n∧orN v k=0) (fun k=>n - k) 0 ⟨Nat.zero_le _,rfl⟩ h0 (fun k hk=>?_) (fun i=>⟨fun _ _=>rfl,trivial⟩)
 obtain ⟨hkn,hok⟩:=hk
 rw [wy8,Int.toNat_natCast]
 refine wak (fun h1=>⟨⟨by omega,by omega⟩,⟨by omega,rfl⟩,wca (fun h2=>⟨fun _ _=>rfl,_,wan _,?_⟩) (fun h2=>⟨by simp only [inR];omega,k+1,⟨rfl,wan _⟩,⟨by omega,?_⟩,by omega⟩)⟩) (fun h1=>⟨fun _ _=>rfl,_,wan _,?_⟩)
 ·have e:=ws1 hok h2 n (by omega)
  have:=hR.2 (by rw [e,decide_eq_false h2])
  rw [e] at this;exact this
 ·rw [orN,hok];exact h2
 ·have:k=n:=by omega
  subst this
  exact hR.1 (by rw [hok];rfl)
theorem or_ok (hP:C.P=Tryz.prog):waf C 93 S_or:=by
 rintro args objs U Os vc h hvc
 unfold S_or at h
 split at h<;>simp only [Option.some.injEq,Prod.mk.injEq,reduceCtorEq] at h
 rename_i n t m f fr
 obtain ⟨rfl,rfl,rfl⟩:=h
 obtain ⟨rfl,rfl,rfl,hn,hf⟩:=hvc
 have hrow:wae [(0,AObj.row 3 1 n (waa (vInt f)) false)] [(0,.row 3 1 n f false)]:=⟨⟨rfl,rfl,rfl,rfl,rfl,fun i hi=>(hf i hi).symm⟩,trivial⟩
 refine waf.wpL (prg hP) [] [(3,L_or (vInt f) n)] 0 .nil (hP ▸ Tryz.func93) rfl rfl rfl [(wam Tryz.f93 3,L_or (vInt f) n)] (by kernel_rfl) ⟨or_loop hP _ _,trivial⟩ ?_
 rw [nf_or]
 refine ⟨⟨rfl,⟨rfl,rfl,rfl,rfl,rfl,hf⟩,trivial⟩,hn,wak (fun h=>⟨fun _ _=>rfl,_,hrow,?_⟩) (fun h=>⟨fun _ _=>rfl,_,hrow,rfl,rfl⟩)⟩
 rw [h];exact ⟨rfl,rfl⟩
theorem ws2 (x:Int):∀ l:List Int,orL (l++[x])=bif decide (orL l=0) then x else orL l
 |[]=>by simp only [List.nil_append,orL];by_cases h:x=0<;>simp [h]
 |y::l=>by
  rw [List.cons_append,orL,ws2 x l,orL]
  by_cases h:y=0
  ·simp [h]
  ·simp [h]
theorem orN_eq (v:Nat→Int):∀ n,orN v n=orL ((List.range n).map v)
 |0=>rfl
 |n+1=>by rw [List.range_succ,List.map_append,List.map_singleton,ws2,orN,orN_eq v n]
theorem swo_of {α:Type} {c:α→α→Int} (h:PreC c):SWO (ltOf c) where
 irrefl x:=by simp [ltOf,h.self x]
 trans x y z h1 h2:=by
  simp only [ltOf,decide_eq_true_eq] at *
  exact h.lt_trans h1 h2
 ntrans x y z h1 h2:=by
  simp only [ltOf,decide_eq_false_iff_not] at *
  intro q
  have:=h.neg x y
  have:=h.neg y x
  have:=h.neg y z
  have:=h.neg z y
  have:=h.neg x z
  have:=h.neg z x
  have:=h.trans z y x (by omega) (by omega)
  omega
end Go.Eng
namespace Go.Eng
open Go.Proofs Go.RowKit
set_option maxRecDepth 20000
theorem wyi (s:List UInt8) (cells:List AV) (R:AV→List (Nat×AObj)→Prop):wpFn te [] [(1,wnr s cells 262)] 0 Tryz.f248 [.str s,.ptr 0 0] [.cells cells 262] R=(letI z0:=([(0,.cells (AV.rnL (ren 1 []) cells) 262)]:List (Nat×AObj));some (St.mk [(0,.str s),(1,.ptr 0 0)] z0 1 [])=some (St.mk [(0,.str s),(1,.ptr 0 0)] [(0,.cells cells 262)] 1 [])∧wcn cells∧R (.str (List.dropWhile (wbl cells) s)) z0):=by kernel_rfl
theorem wyg (cells:List AV) (P:List UInt8→Prop) (R:Exit→St→Prop):wa2 ⟨te,[(262,.det wga)],[],1,16,0⟩ (wa3 Tryz.f248 1) [0,1] [0] [0] (web cells 262) P R (web cells 262 [])=(R (.exit 0) (St.mk [(0,.str [])] [(0,.cells (AV.rnL (ren 1 []) cells) 262)] 1 [])):=by kernel_rfl
theorem wyh (x:UInt8) (s:List UInt8) (cells:List AV) (P:List UInt8→Prop) (R:Exit→St→Prop):wa2 ⟨te,[(262,.det wga)],[],1,16,0⟩ (wa3 Tryz.f248 1) [0,1] [0] [0] (web cells 262) P R (web cells 262 (x::s))=(letI z3:=AV.rnL (idxN [0]) cells;letI z2:=(↑(List.length (x::s)):Int);letI z1:=([(0,.cells (AV.rnL (ren 1 []) (AV.rnL (sig [0] 1) z3)) 262)]:List (Nat×AObj));letI z0:=(↑(UInt8.toNat (List.getD (x::s) (Int.toNat (0:Int)) (0:UInt8))):Int);wad (decide ((0:Int)<z2)) (((0:Int)≤(0:Int)∧(0:Int)<z2)∧(wcn z3∧(0:Int)≤z0∧z0<(256:Int))∧wad (!wbl z3 (UInt8.ofNat (Int.toNat z0))) (R (.exit 0) (St.mk [(0,.str (x::s))] z1 1 [])) (((0:Int)≤(1:Int)∧(1:Int)≤z2)∧∃ (i':List UInt8),some (St.mk [(0,.str (List.drop (Int.toNat (1:Int)) (x::s))),(1,.ptr 0 0)] z1 1 [])=some (St.mk [(0,.str i'),(1,.ptr 0 0)] [(0,.cells cells 262)] 1 [])∧P i')) (R (.exit 0) (St.mk [(0,.str (x::s))] [(0,.cells (AV.rnL (ren 1 []) cells) 262)] 1 []))):=by kernel_rfl
theorem wyf (s:List UInt8) (cells:List AV) (R:AV→List (Nat×AObj)→Prop):wpFn te [] [(1,wnq s cells 262)] 0 Tryz.f249 [.str s,.ptr 0 0] [.cells cells 262] R=(letI z0:=([(0,.cells (AV.rnL (ren 1 []) cells) 262)]:List (Nat×AObj));some (St.mk [(0,.str s),(1,.ptr 0 0)] z0 1 [])=some (St.mk [(0,.str s),(1,.ptr 0 0)] [(0,.cells cells 262)] 1 [])∧wcn cells∧List.length s≤9223372036854775807∧R (.str (wc9 (wbl cells) s)) z0):=by kernel_rfl
theorem wye (s:List UInt8) (cells:List AV) (P:List UInt8→Prop) (R:Exit→St→Prop):wa2 ⟨te,[(262,.det wga)],[],1,22,0⟩ (wa3 Tryz.f249 1) [0,1] [0] [0] (web cells 262) P R (web cells 262 s)=(letI z3:=AV.rnL (idxN [0]) cells;letI z2:=([(0,.cells (AV.rnL (ren 1 []) (AV.rnL (sig [0] 1) z3)) 262)]:List (Nat×AObj));letI z0:=(↑(List.length s):Int);letI z1:=(↑(UInt8.toNat (List.getD s (Int.toNat (z0 - (1:Int))) (0:UInt8))):Int);wad (decide ((0:Int)<z0)) (inR .i64 (z0 - (1:Int))∧((0:Int)≤z0 - (1:Int)∧z0 - (1:Int)<z0)∧(wcn z3∧(0:Int)≤z1∧z1<(256:Int))∧wad (!wbl z3 (UInt8.ofNat (Int.toNat z1))) (R (.exit 0) (St.mk [(0,.str s)] z2 1 [])) (inR .i64 (z0 - (1:Int))∧((0:Int)≤z0 - (1:Int)∧z0 - (1:Int)≤z0)∧∃ (i':List UInt8),some (St.mk [(0,.str (List.take (Int.toNat (z0 - (1:Int))) s)),(1,.ptr 0 0)] z2 1 [])=some (St.mk [(0,.str i'),(1,.ptr 0 0)] [(0,.cells cells 262)] 1 [])∧P i')) (R (.exit 0) (St.mk [(0,.str s)] [(0,.cells (AV.rnL (ren 1 []) cells) 262)] 1 []))):=by kernel_rfl
theorem nf_trim (s cs:List UInt8) (R:AV→List (Nat×AObj)→Prop):wpFn te [(248,.det wll),(249,.det wlk)] [(1005,wnp s cs)] 0 Tryz.f228 [.str s,.str cs] [] R=(letI z3:=St.mk [(0,.str s),(1,.str cs)] [] 0 [];letI z2:=((0:Int)≤(0:Int)∧(0:Int)<(↑(List.length cs):Int):Prop);letI z1:=AV.rnL (idxN [0]) (setAV cs);letI z4:=AV.rnL (idxN [0]) (AV.rnL (sig [0] 1) z1);letI z0:=(some z3=some z3∧List.length cs<4294967281∧(∀ (b:UInt8),b∈cs→UInt8.toNat b<128)∧(wcn z1∧List.length s≤9223372036854775807)∧wcn z4∧R (.str (List.dropWhile (wbl z4) (wc9 (wbl z1) s))) []);wad (decide (s=[])) (R (.str s) []) (wad (decide (cs=[])) (R (.str s) []) (wad (decide ((↑(List.length cs):Int)=(1:Int))) (z2∧wad (decide ((↑(UInt8.toNat (List.getD cs (Int.toNat (0:Int)) (0:UInt8))):Int)<(128:Int))) (z2∧False) z0) z0))):=by kernel_rfl
variable {C:Ctx} [C.Loose]
theorem mem2 {α:Type} {l:List α} (h:l.length=2):∃ a b,l=[a,b]:=by
 match l,h with
 |[a,b],_=>exact ⟨a,b,rfl⟩
theorem mem1 {α:Type} {l:List α} (h:l.length=1):∃ a,l=[a]:=by
 match l,h with
 |[a],_=>exact ⟨a,rfl⟩
theorem wsc (hP:C.P=Tryz.prog):waf C 262 wga:=by
 have _:C.Loose:=inferInstance
 rintro args objs U Os vc h hvc
 unfold wga at h
 split at h<;>simp only [Option.some.injEq,Prod.mk.injEq,reduceCtorEq] at h
 rename_i x cells t
 obtain ⟨rfl,rfl,rfl⟩:=h
 obtain ⟨hc,h0,h1⟩:=hvc
 obtain ⟨n,rfl⟩:∃ n:UInt8,x=n.toNat:=⟨UInt8.ofNat x.toNat,by simp;omega⟩
 refine wal.quiet ⟨Tryz.f262,hP ▸ Tryz.func262,rfl,by decide⟩ fun E bs w cargs hW hl hv=>?_
 obtain ⟨a,b,rfl⟩:=mem2 hl
 have e2:=(hv 1 _ _ rfl rfl).int_iff
 subst e2
 obtain ⟨b,y,rfl,hcc,hy⟩:=hW.cell (r:=0) rfl (hv 0 _ _ rfl rfl) (hc.at_ n)
 cases hy
 rw [hP]
 refine (Tryz.asciiSet_contains b n _ w hcc).mono ?_
 rintro e w' ⟨rfl,rfl⟩
 refine ⟨_,rfl,rfl,?_⟩
 have:UInt8.ofNat (n.toNat:Int).toNat=n:=by simp
 rw [this]
 exact .bool
theorem wwy (hP:C.P=Tryz.prog) (s:List UInt8) (cells:List AV):waj C 1 16 (wam Tryz.f248 1) (wnr s cells 262):=by
 rintro st Q ⟨h0,hc,hQ⟩
 refine waj.mk (prg hP) [(262,.det wga)] 0 (.cons (wsc hP) .nil) [0,1] [0] [0] (web cells 262) (fun s'=>s'.dropWhile (wbl cells)=s.dropWhile (wbl cells)) List.length s rfl h0 fun s' hs'=>?_
 have hrn:=hc.rn
 cases s' with
 |nil=>
  rw [wyg]
  simp only [hrn]
  rw [← hs'] at hQ
  exact hQ
 |cons x r=>
  rw [wyh]
  simp only [hrn]
  have ex:UInt8.ofNat (Int.toNat (↑(UInt8.toNat (List.getD (x::r) (Int.toNat 0) 0))))=x:=by simp
  have hx:(List.getD (x::r) (Int.toNat 0) 0)=x:=rfl
  have hlt:x.toNat<256:=x.toNat_lt
  have hlen:(((x::r).length:Nat):Int)=(r.length:Int)+1:=by simp
  rw [hx] at ex
  simp only [hx,ex,hlen]
  refine waz (fun _=>⟨by omega,⟨hc,by omega,by omega⟩,waz (fun h=>?_) (fun h=>?_)⟩) (fun h=>?_)
  ·have h:wbl cells x=false:=by simpa using h
   rw [← hs',List.dropWhile_cons,h] at hQ
   exact hQ
  ·have h:wbl cells x=true:=by simpa using h
   refine ⟨by omega,r,rfl,?_,by simp⟩
   rw [← hs',List.dropWhile_cons,h];rfl
  ·have:=of_decide_eq_false h;omega
theorem wwx (hP:C.P=Tryz.prog):waf C 248 wll:=by
 rintro args objs U Os vc h hvc
 unfold wll at h
 split at h<;>simp only [Option.some.injEq,Prod.mk.injEq,reduceCtorEq] at h
 rename_i s cells
 obtain ⟨rfl,rfl,rfl⟩:=h
 refine waf.wpL (prg hP) [] [(1,wnr s cells 262)] 0 .nil (hP ▸ Tryz.func248) rfl rfl rfl [(wam Tryz.f248 1,wnr s cells 262)] (by kernel_rfl) ⟨wwy hP s cells,trivial⟩ ?_
 rw [wyi]
 simp only [hvc.rn]
 exact ⟨trivial,hvc,by simp⟩
theorem www (hP:C.P=Tryz.prog) (s:List UInt8) (cells:List AV):waj C 1 22 (wam Tryz.f249 1) (wnq s cells 262):=by
 rintro st Q ⟨h0,hc,hm,hQ⟩
 refine waj.mk (prg hP) [(262,.det wga)] 0 (.cons (wsc hP) .nil) [0,1] [0] [0] (web cells 262) (fun s'=>wc9 (wbl cells) s'=wc9 (wbl cells) s∧s'.length≤maxLen) List.length s ⟨rfl,hm⟩ h0 fun s' hs'=>?_
 have hrn:=hc.rn
 obtain ⟨hs',hm'⟩:=hs'
 have hm2:s'.length≤9223372036854775807:=hm'
 rw [wye]
 simp only [hrn]
 rcases wxb s' with rfl | ⟨r,x,rfl⟩
 ·refine waz (fun h=>?_) (fun _=>?_)
  ·have:=of_decide_eq_true h;simp at this
  ·rw [← hs'] at hQ;exact hQ
 ·have hlen:(((r++[x]).length:Nat):Int)=(r.length:Int)+1:=by simp
  have e1:((r.length:Int)+1 - 1).toNat=r.length:=by omega
  have hx:(r++[x]).getD r.length 0=x:=by simp
  have ht:(r++[x]).take r.length=r:=by simp
  have ex:UInt8.ofNat ((x.toNat:Int)).toNat=x:=by simp
  have hlt:x.toNat<256:=x.toNat_lt
  have hlr:(r++[x]).length=r.length+1:=by simp
  simp only [hlen,e1,hx,ht,ex,inR]
  refine waz (fun _=>⟨by omega,by omega,⟨hc,by omega,by omega⟩,waz (fun h=>?_) (fun h=>?_)⟩) (fun h=>?_)
  ·have h:wbl cells x=false:=by simpa using h
   rw [← hs',wvi,h] at hQ
   exact hQ
  ·have h:wbl cells x=true:=by simpa using h
   refine ⟨by omega,by omega,r,rfl,⟨?_,?_⟩,by omega⟩
   ·rw [← hs',wvi,h];rfl
   ·show r.length≤9223372036854775807
    omega
  ·have:=of_decide_eq_false h;omega
theorem wwv (hP:C.P=Tryz.prog):waf C 249 wlk:=by
 rintro args objs U Os vc h hvc
 unfold wlk at h
 split at h<;>simp only [Option.some.injEq,Prod.mk.injEq,reduceCtorEq] at h
 rename_i s cells
 obtain ⟨rfl,rfl,rfl⟩:=h
 refine waf.wpL (prg hP) [] [(1,wnq s cells 262)] 0 .nil (hP ▸ Tryz.func249) rfl rfl rfl [(wam Tryz.f249 1,wnq s cells 262)] (by kernel_rfl) ⟨www hP s cells,trivial⟩ ?_
 rw [wyf]
 simp only [hvc.1.rn]
 exact ⟨trivial,hvc.1,hvc.2,by simp⟩
theorem wxf {w:World} {M:Nat→Prop} {bs:Nat→Option Hd} (l:List UInt8):wc4 w M bs (Lib.setCells l) (setAV l):=by
 have hs:(Lib.setCells l).size=256:=Lib.setCells_size l
 have hl:(setAV l).length=256:=(wfs l).1
 have at_:∀ j,j<256→(Lib.setCells l)[j]?=some (.bool (l.contains (UInt8.ofNat j))):=by
  intro j hj
  have:=Lib.setCells_at l (UInt8.ofNat j)
  have e:(UInt8.ofNat j).toNat=j:=by simp;omega
  rwa [e] at this
 refine ⟨by rw [hs,hl],fun j v hv=>?_,fun j v u hv hu=>?_⟩
 ·have hj:j<256:=by rw [← hs];exact (Array.getElem?_eq_some_iff.1 hv).1
  rw [at_ j hj] at hv
  cases hv;rfl
 ·have hj:j<256:=by rw [← hs];exact (Array.getElem?_eq_some_iff.1 hv).1
  rw [at_ j hj] at hv
  cases hv
  have:(setAV l)[j]?=some (.bool (l.contains (UInt8.ofNat j))):=by unfold setAV;simp [hj]
  rw [this] at hu
  cases hu
  exact .bool
theorem w0y (hP:C.P=Tryz.prog):waf C 247 wwf:=by
 rintro args objs U Os vc h hvc
 unfold wwf at h
 split at h<;>simp only [Option.some.injEq,Prod.mk.injEq,reduceCtorEq] at h
 rename_i l
 obtain ⟨rfl,rfl,rfl⟩:=h
 obtain ⟨hl,hascii⟩:=hvc
 refine wal.below ⟨Tryz.f247,hP ▸ Tryz.func247,rfl,by decide⟩ fun w M cargs _ _ hM hlen hv=>?_
 obtain ⟨a,rfl⟩:=mem1 hlen
 have e1:=(hv 0 _ _ rfl rfl).str_iff
 subst e1
 rw [hP]
 refine (Tryz.strings_makeASCIISet (fun w=>Tryz.zeroValue262 w) ⟨l.toArray⟩ w (by simpa [ByteArray.size] using hl) (fun j b hb=>hascii b (by simpa using List.mem_of_getElem? hb))).mono ?_
 rintro e w' ⟨rfl,rfl⟩
 have hc:=wxf (w:=w.alloc (.cells (Lib.setCells l) 262)) (M:=M) (bs:=nob) l
 refine ⟨_,rfl,(Below.refl _ _).alloc (Nat.le_refl _) _,.tuple rfl fun j v u hv hu=>?_⟩
 match j with
 |0=>simp at hv hu;subst hv;subst hu;exact .agg hc.1 hc.2.1 hc.2.2
 |1=>simp at hv hu;subst hv;subst hu;exact .bool
 |j+2=>simp at hv
def teSet:TE:=[(262,{ desc:=.array 256 4,sz:=256,bytes:=256,zero:=.agg (Array.replicate 256 (.bool false)) })]
@[irreducible] def zeroSet:List AV:=List.replicate 256 (.bool false)
theorem w3q (n:Nat):avcs (List.replicate n (.bool false))=some (List.replicate n (.bool false)):=by
 induction n with
 |zero=>rfl
 |succ n ih=>simp [List.replicate_succ,avcs,avc,ih]
theorem ww2:TE.ok Tryz.prog teSet:=by
 refine TE.ok_cons Tryz.underlying262 ⟨Tryz.t262,Tryz.type262,rfl,rfl,by kernel_rfl⟩ (fun h=>by cases h) TE.ok_nil
theorem wwh:avcs (Value.agg (Array.replicate 256 (.bool false))).cells.toList=some zeroSet:=by
 have e:(Value.agg (Array.replicate 256 (.bool false))).cells.toList=List.replicate 256 (Value.bool false):=Array.toList_replicate
 rw [e]
 unfold zeroSet
 exact w3q 256
theorem wwi (cs:List UInt8):zeroSet.length=(setAV cs).length:=by
 rw [(wfs cs).1]
 unfold zeroSet
 rw [List.length_replicate]
theorem wwu (hP:C.P=Tryz.prog) (s cs:List UInt8):waj C 0 43 (regC Tryz.f228 5) (wnp s cs):=by
 rintro st Q ⟨h0,hl,hascii,hQ⟩
 refine AWP.canonIs [0,1] h0 ?_ trivial
 have hte:=(prg hP).ok
 have hts:TE.ok C.P teSet:=hP ▸ ww2
 have hrn:=(wfs cs).rn
 refine AWP.canQ (te:=te) (Fe:=[0,5,6]) (Fr:=[]) ?_
 show AWP C 0 43 (.region 5 (List.toArray _) false) _ _
 refine AWP.region ?_
 refine AOps.pure hte (prg hP).one rfl rfl rfl trivial ?_
 refine AOps.callD (u2:=.nil) (cobjs:=[]) (U:=.tuple [.agg (setAV cs),.bool true]) (Os:=[]) (T2:=[(31,.tuple [.agg (setAV cs),.bool true]),(30,.str cs),(0,.str s),(1,.str cs)]) [] rfl rfl rfl rfl rfl rfl trivial (w0y hP [.str cs] [] _ _ _ rfl ⟨hl,hascii⟩) rfl ?_ rfl rfl ?_
 ·show (31,AV.tuple [.agg (AV.rnL _ (setAV cs)),.bool true])::_=_
  rw [hrn];rfl
 refine AOps.pure hte (prg hP).one rfl rfl rfl trivial ?_
 refine AOps.pure hte (prg hP).one rfl rfl rfl trivial ?_
 refine AOps.pure hte (prg hP).one rfl rfl rfl trivial ?_
 refine AOps.step (l:=[(_,.cells zeroSet 262)]) rfl (was.allocW hts (t:=262) rfl rfl rfl wwh) rfl rfl rfl rfl ?_
 refine AOps.step rfl (was.storeW hts (t:=262) (new:=setAV cs) rfl rfl rfl rfl rfl rfl (wwi cs) (wfs cs).1) rfl rfl rfl rfl ?_
 refine AOps.pure hte (prg hP).one rfl rfl rfl trivial ?_
 refine AOps.nil ?_
 refine canQ_of (s':=⟨[(0,.str s),(5,.ptr 0 0),(6,.bool true)],[(0,.cells (AV.rnL (ren 0 [(16,0)]) (setAV cs)) 262)],1,[]⟩) (by simp) ?_ ?_
 ·rfl
 ·rw [hrn];exact hQ
theorem whr (hP:C.P=Tryz.prog):waf C 228 weu:=by
 rintro args objs U Os vc h hvc
 unfold weu at h
 split at h<;>simp only [Option.some.injEq,Prod.mk.injEq,reduceCtorEq] at h
 rename_i s cs
 obtain ⟨rfl,rfl,rfl⟩:=h
 obtain ⟨hs,h2,hl,hascii⟩:=hvc
 refine waf.wpL (prg hP) [(248,.det wll),(249,.det wlk)] [(1005,wnp s cs)] 0 (.cons (wwx hP) (.cons (wwv hP) .nil)) (hP ▸ Tryz.func228) rfl rfl rfl
  [(regC Tryz.f228 5,wnp s cs)] (by kernel_rfl) ⟨wwu hP s cs,trivial⟩ ?_
 rw [nf_trim]
 have hrn:=(wfs cs).rn
 have hc1:∀ h:(cs.length:Int)=1,False:=by intro h;omega
 have hin:wbl (setAV cs)=(cs.contains ·):=funext (w1w cs)
 simp only [hrn,hin]
 refine waz (fun h=>?_) (fun _=>waz (fun h=>?_) (fun _=>waz (fun h=>?_) (fun _=>?_)))
 ·have h:=of_decide_eq_true h
  subst h
  simp [wex,wc9]
 ·have h:=of_decide_eq_true h
  subst h
  simp at h2
 ·exact (hc1 (of_decide_eq_true h)).elim
 ·exact ⟨trivial,hl,hascii,⟨wfs cs,hs⟩,wfs cs,rfl,trivial⟩
end Go.Eng
