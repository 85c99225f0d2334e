/- Codes of classifications. -/
import Derived.Test.YtgcboligphndhaaGreatDoorBp
import Derived.Shelf.SlGeneric
import Derived.Ground.Names8Prog
import Derived.Shelf.Spec.SlicesGrow
import Derived.Test.YtgcboligphndhaaGreatDoorProg
import Derived.Test.YtgcboligphndhaaGreatDoorBl
import Derived.Test.YtgcboligphndhaaGreatDoorBd
import Derived.Test.YtgcboligphndhaaGreatDoorBc
import Derived.Ground.SlsfProg
import Derived.Shelf.SlSortCmp.NoneTotal
import Derived.Test.YtgcboligphndhaaGreatDoorBi
import Derived.Test.YtgcboligphndhaaGreatDoorBh
import Derived.Test.YtgcboligphndhaaGreatDoorBm
namespace Go.Eng
def mk2 (m:MG):List UInt8×Int:=(m.dev,m.seq)
def addC:List ((List UInt8×Int)×Int)→List UInt8×Int→List ((List UInt8×Int)×Int)
 |[],p=>[(p,1)]
 |x::l,p=>bif decide (x.1.1=p.1) && decide (x.1.2=p.2) then (p,x.2+1)::l else x::addC l p
def getC:List ((List UInt8×Int)×Int)→List UInt8×Int→Int
 |[],_=>0
 |x::l,p=>bif decide (x.1.1=p.1) && decide (x.1.2=p.2) then x.2 else getC l p
def cntL (g:Nat→MG):Nat→List ((List UInt8×Int)×Int)
 |0=>[]
 |k+1=>addC (cntL g k) (mk2 (g k))
def numC (g:Nat→MG) (p:List UInt8×Int):Nat→Int
 |0=>0
 |k+1=>numC g p k+bif decide ((mk2 (g k)).1=p.1) && decide ((mk2 (g k)).2=p.2) then 1 else 0
theorem wee {a b:List UInt8×Int}:(decide (a.1=b.1) && decide (a.2=b.2))=true↔a=b:=by
 simp [Prod.ext_iff]
theorem wsv (q p:List UInt8×Int):∀ L,getC (addC L p) q=getC L q+bif decide (p.1=q.1) && decide (p.2=q.2) then 1 else 0
 |[]=>by
  show (bif decide (p.1=q.1) && decide (p.2=q.2) then (1:Int) else 0)=0+bif decide (p.1=q.1) && decide (p.2=q.2) then 1 else 0
  generalize (decide (p.1=q.1) && decide (p.2=q.2))=b
  cases b<;>rfl
 |x::l=>by
  have ih:=wsv q p l
  rw [addC]
  cases h:decide (x.1.1=p.1) && decide (x.1.2=p.2) with
  |true=>
   have e:=wee.1 h
   show getC ((p,x.2+1)::l) q=getC (x::l) q+_
   rw [getC,getC,e]
   cases h2:decide (p.1=q.1) && decide (p.2=q.2) with
   |true=>rfl
   |false=>show getC l q=getC l q+0;omega
  |false=>
   show getC (x::addC l p) q=getC (x::l) q+_
   rw [getC,getC]
   cases h2:decide (x.1.1=q.1) && decide (x.1.2=q.2) with
   |true=>
    have e:=wee.1 h2
    have:(decide (p.1=q.1) && decide (p.2=q.2))=false:=by
     cases r:decide (p.1=q.1) && decide (p.2=q.2) with
     |false=>rfl
     |true=>rw [e, ← wee.1 r] at h;simp at h
    rw [this];show x.2=x.2+0;omega
   |false=>exact ih
theorem wou (g:Nat→MG) (q:List UInt8×Int):∀ k,getC (cntL g k) q=numC g q k
 |0=>rfl
 |k+1=>by rw [cntL,wsv,wou g q k,numC]
theorem wnx (g:Nat→MG) (q:List UInt8×Int):∀ k,0≤numC g q k∧numC g q k≤k
 |0=>by simp [numC]
 |k+1=>by
  have:=wnx g q k
  rw [numC]
  cases decide ((mk2 (g k)).1=q.1) && decide ((mk2 (g k)).2=q.2)<;>simp<;>omega
theorem wuc (p:List UInt8×Int):∀ (L:List ((List UInt8×Int)×Int)) (x:List UInt8×Int),x∈(addC L p).map Prod.fst→x∈L.map Prod.fst∨x=p
 |[],x,h=>by simpa [addC] using h
 |y::l,x,h=>by
  rw [addC] at h
  cases e:decide (y.1.1=p.1) && decide (y.1.2=p.2) with
  |true=>
   rw [e] at h
   rcases List.mem_cons.1 h with h | h
   ·exact .inr h
   ·exact .inl (List.mem_cons_of_mem _ h)
  |false=>
   rw [e] at h
   rcases List.mem_cons.1 h with h | h
   ·exact .inl (by rw [h];exact List.mem_cons_self ..)
   ·rcases wuc p l x h with h | h
    ·exact .inl (List.mem_cons_of_mem _ h)
    ·exact .inr h
theorem wpl (p:List UInt8×Int):∀ {L:List ((List UInt8×Int)×Int)},(L.map Prod.fst).Nodup→((addC L p).map Prod.fst).Nodup
 |[],_=>by simp [addC]
 |y::l,h=>by
  obtain ⟨h1,h2⟩:=List.nodup_cons.1 (show (y.1::l.map Prod.fst).Nodup from h)
  rw [addC]
  cases e:decide (y.1.1=p.1) && decide (y.1.2=p.2) with
  |true=>
   have e':=wee.1 e
   exact List.nodup_cons.2 ⟨by rw [← e'];exact h1,h2⟩
  |false=>
   refine List.nodup_cons.2 ⟨fun q=>?_,wpl p h2⟩
   rcases wuc p l y.1 q with q | q
   ·exact h1 q
   ·rw [q] at e;simp at e
theorem wo7 (g:Nat→MG):∀ k,((cntL g k).map Prod.fst).Nodup
 |0=>by simp [cntL]
 |k+1=>wpl _ (wo7 g k)
def entM (L:List ((List UInt8×Int)×Int)):List (AV×AV):=L.map fun x=>(.agg [.str x.1.1,.int .i64 x.1.2],.int .i64 x.2)
def fstB (q:Nat→Bool):Nat→Nat
 |0=>0
 |k+1=>bif decide (fstB q k<k) then fstB q k else (bif q k then k else k+1)
def ixB (q:Nat→Bool) (n:Nat):Int:=bif decide (fstB q n<n) then (fstB q n:Int) else -1
theorem whw (q:Nat→Bool):∀ k,fstB q k≤k
 |0=>Nat.le_refl _
 |k+1=>by
  have ih:=whw q k
  rw [fstB]
  cases decide (fstB q k<k) with
  |true=>show fstB q k≤k+1;omega
  |false=>cases q k with
   |true=>show k≤k+1;omega
   |false=>exact Nat.le_refl _
theorem whv {q:Nat→Bool} {k:Nat} (h:fstB q k=k) (hk:q k=false):fstB q (k+1)=k+1:=by
 rw [fstB,decide_eq_false (show ¬ fstB q k<k by omega),hk];rfl
theorem whx {q:Nat→Bool} {k:Nat} (h:fstB q k=k) (hk:q k=true):∀ n,k<n→fstB q n=k
 |0,hn=>absurd hn (Nat.not_lt_zero _)
 |n+1,hn=>by
  rw [fstB]
  by_cases e:k=n
  ·subst e
   rw [decide_eq_false (show ¬ fstB q k<k by omega),hk];rfl
  ·have ih:=whx h hk n (by omega)
   rw [ih,decide_eq_true (show k<n by omega)];rfl
theorem wjn (q:Nat→Bool):∀ n,(∀ j,j<fstB q n→q j=false)∧(fstB q n<n→q (fstB q n)=true)
 |0=>⟨fun j hj=>absurd hj (Nat.not_lt_zero _),fun h=>absurd h (Nat.not_lt_zero _)⟩
 |n+1=>by
  obtain ⟨h1,h2⟩:=wjn q n
  have hle:=whw q n
  by_cases h:fstB q n<n
  ·have e:fstB q (n+1)=fstB q n:=by rw [fstB,decide_eq_true h];rfl
   rw [e]
   exact ⟨h1,fun _=>h2 h⟩
  ·have h0:fstB q n=n:=by omega
   rw [h0] at h1
   cases hq:q n with
   |true=>
    have e:fstB q (n+1)=n:=by rw [fstB,decide_eq_false h,hq];rfl
    rw [e]
    exact ⟨h1,fun _=>hq⟩
   |false=>
    have e:fstB q (n+1)=n+1:=whv h0 hq
    rw [e]
    refine ⟨fun j hj=>?_,fun h=>absurd h (Nat.lt_irrefl _)⟩
    by_cases q':j=n
    ·rw [q'];exact hq
    ·exact h1 j (by omega)
end Go.Eng
namespace Go.Proofs
open Go.Shelf
end Go.Proofs
namespace Go.Eng
open Go.Proofs Go.RowKit
variable {C:Ctx} [C.Loose]
set_option maxRecDepth 20000
end Go.Eng
namespace Go.Eng
theorem wae.mkI {C:Ctx} {te:TE} (hte:Prg C te) {m N:Nat} {x:Code} {s:St} {Q:Exit→St→Prop} (calls:List (Nat×CSpec)) {ι:Type} (loops:ι→List (Nat×wau)) (fuel:Nat) (hc:wcs C calls) (ls:ι→List (Code×wau)) (hls:∀ i,wbc (loops i) x=ls i) (hL:∀ i,we4 C m N (ls i))
  (F Fe Fr:List Nat) (S:ι→St) (I:ι→Prop) (μ:ι→Nat) (i0:ι) (hI:I i0)
  (h0:canonIs te m F s (S i0)) (round:∀ i,I i→wa2 ⟨te,calls,loops i,m,N,fuel⟩ x F Fe Fr S (fun i'=>I i'∧μ i'<μ i) Q (S i)) (hS:∀ i,wb9 (S i).O True:=by intro i;trivial):AWP C m N (.loop x) Q s:=by
 obtain ⟨ρ0,hw⟩:=wh9 h0 (wc5 (hS i0)).1
 have key:AWP C m N (.loop x) (Eng.canQ te m Fe Fr Q) s:=by
  refine AWP.loop S I μ i0 hI hw fun i hi=>?_
  have hG:EnvOK C ⟨te,calls,loops i,m,N,fuel⟩:=⟨hte.ok,hte.one,hc⟩
  refine (wc4 hG x _ _ (by rw [hls i];exact (hL i).all) (round i hi)).mono fun e s hq=>wnc (fun s hs=>?_) e s hq
  obtain ⟨i',h3,h1,h2⟩:=hs
  obtain ⟨ρ,hw'⟩:=wh9 h3 (wc5 (hS i')).1
  exact ⟨i',ρ,h1,h2,hw'⟩
 exact key.canQ
theorem putRowL {α:Type} [Inhabited α] (enc:α→List AV) (L:List α) (x:α) (ch:Nat→List AV) (hch:ch 0=enc x) (j:Nat) (hj:j<L.length+1):
  apF L.length (fun i=>enc (L.getD i default)) ch j=enc ((L++[x]).getD j default):=by
 unfold apF
 by_cases h1:j<L.length
 ·rw [if_pos h1]
  show enc _=enc _
  congr 1
  rw [List.getD_eq_getElem?_getD,List.getD_eq_getElem?_getD,List.getElem?_append_left h1]
 ·have:j=L.length:=by omega
  subst this
  rw [if_neg h1,Nat.sub_self,hch]
  show enc _=enc _
  congr 1
  simp
end Go.Eng
namespace Go.Eng
open Go.Proofs Go.RowKit
variable {C:Ctx} [C.Loose]
set_option maxRecDepth 20000
end Go.Eng
namespace Go.Proofs
open Go.Shelf
def Tryz.sort91_ren:Go.Shelf.Ren:=⟨fun | 6=>91 | 15=>137 | 14=>136 | 28=>175 | 29=>176 | 20=>167 | 21=>168 | 22=>169 | 23=>170 | 24=>171 | 25=>172 | 26=>173 | 27=>174 | 46=>208 | 47=>209 | 48=>210 | 49=>211 | 50=>212 | 57=>236 | n=>n,fun | 22=>92 | 24=>9 | 25=>125 | 3=>3 | 39=>168 | 0=>0 | 53=>201 | 55=>118 | 4=>4 | 46=>195 | 45=>194 | 50=>128 | 5=>5 | 9=>9 | 66=>226 | 70=>230 | 76=>250 | 77=>251 | n=>n,fun | n=>n⟩
theorem Tryz.sort91:Go.Proofs.SlLaysF0.n6 Tryz.prog Tryz.sort91_ren:={
 mixed:=by kernel_rfl
 f6:=⟨Tryz.f91.name,by decide,Tryz.func91.trans (congrArg some (by kernel_rfl))⟩
 f14:=⟨Tryz.f136.name,by decide,Tryz.func136.trans (congrArg some (by kernel_rfl))⟩
 f15:=Tryz.func137.trans (congrArg some (by kernel_rfl))
 f20:=⟨Tryz.f167.name,by decide,Tryz.func167.trans (congrArg some (by kernel_rfl))⟩
 f21:=⟨Tryz.f168.name,by decide,Tryz.func168.trans (congrArg some (by kernel_rfl))⟩
 f22:=⟨Tryz.f169.name,by decide,Tryz.func169.trans (congrArg some (by kernel_rfl))⟩
 f23:=⟨Tryz.f170.name,by decide,Tryz.func170.trans (congrArg some (by kernel_rfl))⟩
 f24:=⟨Tryz.f171.name,by decide,Tryz.func171.trans (congrArg some (by kernel_rfl))⟩
 f25:=⟨Tryz.f172.name,by decide,Tryz.func172.trans (congrArg some (by kernel_rfl))⟩
 f26:=⟨Tryz.f173.name,by decide,Tryz.func173.trans (congrArg some (by kernel_rfl))⟩
 f27:=⟨Tryz.f174.name,by decide,Tryz.func174.trans (congrArg some (by kernel_rfl))⟩
 f28:=Tryz.func175.trans (congrArg some (by kernel_rfl))
 f29:=Tryz.func176.trans (congrArg some (by kernel_rfl))
 f46:=⟨Tryz.f208.name,by decide,Tryz.func208.trans (congrArg some (by kernel_rfl))⟩
 f47:=Tryz.func209.trans (congrArg some (by kernel_rfl))
 f48:=Tryz.func210.trans (congrArg some (by kernel_rfl))
 f49:=⟨Tryz.f211.name,by decide,Tryz.func211.trans (congrArg some (by kernel_rfl))⟩
 f50:=⟨Tryz.f212.name,by decide,Tryz.func212.trans (congrArg some (by kernel_rfl))⟩
 f57:=⟨Tryz.f236.name,by decide,Tryz.func236.trans (congrArg some (by kernel_rfl))⟩
 t0:=Tryz.underlying0
 a0:=Tryz.isAgg0
 z0:=Tryz.sizeOf0
 v0:=Tryz.zeroValue0
 t3:=Tryz.underlying3
 a3:=Tryz.isAgg3
 z3:=Tryz.sizeOf3
 v3:=Tryz.zeroValue3
 t4:=Tryz.underlying4
 a4:=Tryz.isAgg4
 z4:=Tryz.sizeOf4
 v4:=Tryz.zeroValue4
 t5:=Tryz.underlying5
 a5:=Tryz.isAgg5
 z5:=Tryz.sizeOf5
 v5:=Tryz.zeroValue5
 t9:=Tryz.underlying9
 a9:=Tryz.isAgg9
 z9:=Tryz.sizeOf9
 v9:=Tryz.zeroValue9
 t22:=Tryz.underlying92
 a22:=Tryz.isAgg92
 z22:=Tryz.sizeOf92
 v22:=Tryz.zeroValue92
 t25:=Tryz.underlying125
 a25:=Tryz.isAgg125
 z25:=Tryz.sizeOf125
 v25:=Tryz.zeroValue125
 t39:=Tryz.underlying168
 a39:=Tryz.isAgg168
 z39:=Tryz.sizeOf168
 v39:=Tryz.zeroValue168
 t45:=Tryz.underlying194
 a45:=Tryz.isAgg194
 z45:=Tryz.sizeOf194
 v45:=Tryz.zeroValue194
 t46:=Tryz.underlying195
 a46:=Tryz.isAgg195
 z46:=Tryz.sizeOf195
 v46:=Tryz.zeroValue195
 t50:=Tryz.underlying128
 a50:=Tryz.isAgg128
 z50:=Tryz.sizeOf128
 v50:=Tryz.zeroValue128
 t53:=Tryz.underlying201
 a53:=Tryz.isAgg201
 z53:=Tryz.sizeOf201
 v53:=Tryz.zeroValue201
 t55:=Tryz.underlying118
 a55:=Tryz.isAgg118
 z55:=Tryz.sizeOf118
 v55:=Tryz.zeroValue118
 t66:=Tryz.underlying226
 a66:=Tryz.isAgg226
 z66:=Tryz.sizeOf226
 v66:=Tryz.zeroValue226
 t70:=Tryz.underlying230
 a70:=Tryz.isAgg230
 z70:=Tryz.sizeOf230
 v70:=Tryz.zeroValue230
 t76:=Tryz.underlying250
 a76:=Tryz.isAgg250
 z76:=Tryz.sizeOf250
 v76:=Tryz.zeroValue250
 t77:=Tryz.underlying251
 a77:=Tryz.isAgg251
 z77:=Tryz.sizeOf251
 v77:=Tryz.zeroValue251 }
end Go.Proofs
namespace Go.Eng
open Go.Proofs Go.RowKit Go.Sort
def valA:AV→Value
 |.str l=>.string ⟨l.toArray⟩
 |.int k n=>.int k n
 |.bool b=>.bool b
 |_=>default
def wnr:AV→Bool
 |.str _=>true
 |.int _ _=>true
 |.bool _=>true
 |_=>false
theorem V_plain {w:World} {M:Nat→Prop} {bs:Nat→Option Hd} {v:Value} {u:AV} (hp:wnr u=true) (h:V w M bs v u):v=valA u:=by
 cases u<;>simp only [wnr,Bool.false_eq_true] at hp
 ·cases h;rfl
 ·cases h;rfl
 ·exact h.str_iff
def Ctx.bare (P:Program) (h:P.follows .mixedOrders=true):Ctx:=⟨P,0,fun _=>True,h,fun _ _ _ h=>h,true⟩
theorem grow_of {w w':World} (h1:w'.os=w.os) (h2:w'.tape=w.tape) (h3:w'.output=w.output) (h4:w.heap.size≤w'.heap.size) (h5:∀ b,b<w.heap.size→w'.heap[b]?=w.heap[b]?) (h6:w.drawn≤w'.drawn):
  ∃ q os,w'=grow (w.drewN q) os:=by
 refine ⟨w'.drawn - w.drawn,w'.heap.extract w.heap.size w'.heap.size,?_⟩
 obtain ⟨hp,tp,dr,os,out⟩:=w
 obtain ⟨hp',tp',dr',os',out'⟩:=w'
 simp only at h1 h2 h3 h4 h5 h6
 subst h1;subst h2;subst h3
 simp only [grow,World.drewN,World.mk.injEq,and_true,true_and]
 refine ⟨?_,by omega⟩
 apply Array.ext_getElem?
 intro i
 rw [Array.getElem?_append]
 by_cases h:i<hp.size
 ·rw [if_pos h,h5 i h]
 ·rw [if_neg h,Array.getElem?_extract]
  by_cases h':i<hp'.size
  ·rw [if_pos (by omega)];congr 1;omega
  ·rw [if_neg (by omega),Array.getElem?_eq_none (by omega)]
theorem ADet.grown {P:Program} {hm:P.follows .mixedOrders=true} {f:FuncId} {args:List AV} {u:AV} (h:ADet (Ctx.bare P hm) f args [] u []) (hu:wnr u=true) {w:World} {cargs:List Value} (hlen:cargs.length=args.length)
  (hV:∀ (j:Nat) v x,cargs[j]?=some v→args[j]?=some x→V w (fun _=>False) nob v x):Calls P f cargs.toArray w fun e w'=>e= .returned (valA u)∧∃ q os,w'=grow (w.drewN q) os:=by
 have no:∀ r,lkL [] r=none:=fun r=>by cases r<;>rfl
 have nm:∀ b',¬ mutB (lkL []) nob b':=by
  rintro b' ⟨r,o,c,ho,_⟩
  rw [no r] at ho;cases ho
 have hw:WRep (Ctx.bare P hm) ⟨w,0,nob,fun _=>False,fun _=>False⟩ (lkL []) nob w:={
  obj:=fun r o ho=>by rw [no r] at ho;cases ho
  sep:=fun r r' o o' b c c' ho=>by rw [no r] at ho;cases ho
  out:=fun b hb=>absurd hb (nm b)
  frz:=fun r t sz n f b c ho=>by rw [no r] at ho;cases ho
  high:=fun b hb=>Nat.zero_le _
  lt:=fun r b c hb=>by simp [nob] at hb
  outlt:=fun b hb=>hb.elim
  keep:=fun b _ _=>rfl
  old:=fun b hb=>absurd hb (nm b)
  size:=Nat.le_refl _
  pre:=fun r x hr=>absurd hr (Nat.not_lt_zero r)
  os:=rfl
  tape:=.refl _ _
  output:=rfl
  laid:=trivial
  gle:=Nat.zero_le _ }
 refine (h.2 ⟨w,0,nob,fun _=>False,fun _=>False⟩ nob w cargs rfl rfl rfl hw (fun _ _=>rfl) hlen (fun j v u hv hu=>(hV j v u hv hu).step_ (fun b _ _ hb=>?_) (fun _ _ _=>rfl) (Nat.le_refl _) nob (fun _ _ h=>h))).mono ?_
 ·rcases hb with hb | hb
  ·exact hb
  ·exact nm b hb
 ·rintro e w' ⟨v,u',O',bs',rfl,⟨rfl,rfl⟩,hw',hV',_⟩
  rw [V_plain hu hV']
  exact ⟨rfl,grow_of hw'.os hw'.tape.tape hw'.output hw'.size (fun i hi=>hw'.keep i hi (fun h=>h)) (hw'.tape.drawn rfl)⟩
section
variable {α:Type} [Inhabited α]
theorem arr_get (n:Nat) (f:Nat→α) {i:Nat} (hi:i<n):(((List.range n).map f).toArray)[i]! =f i:=by simp [hi]
end
end Go.Eng
namespace Go.Eng
open Go.Proofs Go.RowKit Go.Sort
variable {C:Ctx}
set_option maxRecDepth 20000
theorem nf_nan (x:Int) (R:AV→List (Nat×AObj)→Prop):wpFn te [] [] 0 Tryz.f139 [.int .i64 x] [] R=(R (.bool !decide (x=x)) []):=by kernel_rfl
theorem nf_icmp (a b:Int) (R:AV→List (Nat×AObj)→Prop):wpFn te [(139,.det wk3)] [] 0 Tryz.f95 [.int .i64 a,.int .i64 b] [] R=(True∧True∧waa (decide (a<b)) (R (.int .i64 (-1:Int)) []) (waa (decide (b<a)) (R (.int .i64 1) []) (R (.int .i64 0) []))):=by kernel_rfl
theorem nf_or (f:Nat→List AV) (n:Nat) (R:AV→List (Nat×AObj)→Prop):wpFn te [] [(3,L_or (vInt f) n)] 0 Tryz.f93 [.own 0 n] [.row 3 1 n f false] R=(letI z0:=([(0,.row 3 1 n (waf (vInt f)) false)]:List (Nat×AObj));(TEq [(3,.int .i64 0),(6,.own 0 n),(7,.int .i64 (↑n:Int)),(8,.int .i64 0)] [(3,.int .i64 0),(6,.own 0 n),(7,.int .i64 (↑n:Int)),(8,.int .i64 (↑0:Int))]∧wac [(0,.row 3 1 n f false)] z0)∧n≤100∧waa (decide (orN (vInt f) n=(0:Int))) ((∀ (i:Nat),i<n→true=true)∧∃ (O':List (Nat×AObj)),wac z0 O'∧R (.int .i64 0) O') ((∀ (i:Nat),i<n→true=true)∧∃ (O':List (Nat×AObj)),wac z0 O'∧R (.int .i64 (orN (vInt f) n)) O')):=by kernel_rfl
theorem wwr (v:Nat→Int) (n k:Nat) (P:Nat→Prop) (R:Exit→St→Prop):wa2 ⟨te,[],[],1,18,0⟩ (wa4 Tryz.f93 3) [3,6,7,8] [3] [2] (wkw v n) P R (wkw v n k)=(letI z0:=([(0,.row 3 1 n (waf v) false)]:List (Nat×AObj));waa (decide ((↑k:Int)<(↑n:Int))) (((0:Int)≤(↑k:Int)∧(↑k:Int)<(↑n:Int))∧(Int.toNat (↑k:Int)<n∧1=1)∧waa (!decide (v (Int.toNat (↑k:Int))=(0:Int))) ((∀ (i:Nat),i<n→true=true)∧∃ (O':List (Nat×AObj)),wac z0 O'∧R .ret (St.mk [(2,.int .i64 (v (Int.toNat (↑k:Int))))] O' 1 [])) (inR .i64 ((↑k:Int)+(1:Int))∧∃ (i':Nat),(TEq [(3,.int .i64 0),(6,.own 0 n),(7,.int .i64 (↑n:Int)),(8,.int .i64 ((↑k:Int)+(1:Int)))] [(3,.int .i64 0),(6,.own 0 n),(7,.int .i64 (↑n:Int)),(8,.int .i64 (↑i':Int))]∧wac z0 z0)∧P i')) ((∀ (i:Nat),i<n→true=true)∧∃ (O':List (Nat×AObj)),wac z0 O'∧R (.exit 0) (St.mk [(3,.int .i64 0)] O' 1 []))):=by kernel_rfl
theorem wtp:∀ a b:List UInt8,Lib.compareBytes a b=cmpS a b
 |[],[]=>rfl
 |[],_::_=>rfl
 |_::_,[]=>rfl
 |a::x,b::y=>by
  have ih:=wtp x y
  rw [Lib.compareBytes,ih]
  unfold cmpS
  simp only [Op.bytesLess]
  by_cases h:a<b
  ·simp [h]
  ·by_cases h':b<a
   ·have:(a==b)=false:=by
     rw [beq_eq_false_iff_ne]
     exact fun e=>by subst e;exact h h'
    simp [h,h',this]
   ·have e:a=b:=by
     rcases Nat.lt_trichotomy a.toNat b.toNat with q | q | q
     ·exact absurd q h
     ·exact UInt8.toNat_inj.1 q
     ·exact absurd q h'
    subst e
    simp [h]
theorem scmp_ok (hP:C.P=Tryz.prog):wad C 94 wks:=by
 rintro args objs U Os vc h hvc
 unfold wks at h
 split at h<;>simp only [Option.some.injEq,Prod.mk.injEq,reduceCtorEq] at h
 rename_i a b
 obtain ⟨rfl,rfl,rfl⟩:=h
 refine wag.quiet ⟨Tryz.f94,hP ▸ Tryz.func94,rfl,by decide⟩ fun E bs w cargs hW hl hv=>?_
 obtain ⟨x,y,rfl⟩:∃ x y,cargs=[x,y]:=by
  match cargs,hl with
  |[x,y],_=>exact ⟨x,y,rfl⟩
 have e1:=(hv 0 _ _ rfl rfl).str_iff
 have e2:=(hv 1 _ _ rfl rfl).str_iff
 subst e1;subst e2
 rw [hP]
 refine (Tryz.strings_Compare ⟨a.toArray⟩ ⟨b.toArray⟩ w).mono ?_
 rintro e w' ⟨rfl,rfl⟩
 refine ⟨_,rfl,rfl,?_⟩
 rw [wtp]
 exact .int
theorem nan_ok (hP:C.P=Tryz.prog):wad C 139 wk3:=by
 rintro args objs U Os vc h hvc
 unfold wk3 at h
 split at h<;>simp only [Option.some.injEq,Prod.mk.injEq,reduceCtorEq] at h
 obtain ⟨rfl,rfl,rfl⟩:=h
 refine wad.wp0 (prg hP) [] 0 .nil (hP ▸ Tryz.func139) rfl rfl rfl ?_
 rw [nf_nan,decide_eq_true rfl]
 exact ⟨rfl,rfl⟩
theorem icmp_ok (hP:C.P=Tryz.prog):wad C 95 wlo:=by
 rintro args objs U Os vc h hvc
 unfold wlo at h
 split at h<;>simp only [Option.some.injEq,Prod.mk.injEq,reduceCtorEq] at h
 obtain ⟨rfl,rfl,rfl⟩:=h
 refine wad.wp0 (prg hP) [(139,.det wk3)] 0 (.cons (nan_ok hP) .nil) (hP ▸ Tryz.func95) rfl rfl rfl ?_
 rw [nf_icmp]
 unfold cmpI
 exact ⟨trivial,trivial,wat (fun h=>by rw [h];exact ⟨rfl,rfl⟩) (fun h=>wat (fun k=>by rw [h,k];exact ⟨rfl,rfl⟩) (fun k=>by rw [h,k];exact ⟨rfl,rfl⟩))⟩
theorem wq7 {v:Nat→Int} {k:Nat} (h:orN v k=0) (hv:v k≠0):∀ n,k<n→orN v n=v k
 |0,hn=>by omega
 |n+1,hn=>by
  rw [orN]
  by_cases e:k=n
  ·subst e;rw [h];rfl
  ·rw [wq7 h hv n (by omega),decide_eq_false hv];rfl
theorem or_loop (hP:C.P=Tryz.prog) (v:Nat→Int) (n:Nat):wae C 1 18 (wan Tryz.f93 3) (L_or v n):=by
 rintro st Q ⟨h0,hn,hQ⟩
 have hR:=wb4 hQ
 refine wae.mk (prg hP) [] 0 .nil [3,6,7,8] [3] [2] (wkw v n) (fun k=>k≤n∧orN v k=0) (fun k=>n - k) 0 ⟨Nat.zero_le _,rfl⟩ h0 (fun k hk=>?_) (fun i=>⟨fun _ _=>rfl,trivial⟩)
 obtain ⟨hkn,hok⟩:=hk
 rw [wwr,Int.toNat_natCast]
 refine war (fun h1=>⟨⟨by omega,by omega⟩,⟨by omega,rfl⟩,wc0 (fun h2=>⟨fun _ _=>rfl,_,wam _,?_⟩) (fun h2=>⟨by simp only [inR];omega,k+1,⟨rfl,wam _⟩,⟨by omega,?_⟩,by omega⟩)⟩) (fun h1=>⟨fun _ _=>rfl,_,wam _,?_⟩)
 ·have e:=wq7 hok h2 n (by omega)
  have:=hR.2 (by rw [e,decide_eq_false h2])
  rw [e] at this;exact this
 ·rw [orN,hok];exact h2
 ·have:k=n:=by omega
  subst this
  exact hR.1 (by rw [hok];rfl)
theorem or_ok (hP:C.P=Tryz.prog):wad C 93 S_or:=by
 rintro args objs U Os vc h hvc
 unfold S_or at h
 split at h<;>simp only [Option.some.injEq,Prod.mk.injEq,reduceCtorEq] at h
 rename_i n t m f fr
 obtain ⟨rfl,rfl,rfl⟩:=h
 obtain ⟨rfl,rfl,rfl,hn,hf⟩:=hvc
 have hrow:wac [(0,AObj.row 3 1 n (waf (vInt f)) false)] [(0,.row 3 1 n f false)]:=⟨⟨rfl,rfl,rfl,rfl,rfl,fun i hi=>(hf i hi).symm⟩,trivial⟩
 refine wad.wpL (prg hP) [] [(3,L_or (vInt f) n)] 0 .nil (hP ▸ Tryz.func93) rfl rfl rfl [(wan Tryz.f93 3,L_or (vInt f) n)] (by kernel_rfl) ⟨or_loop hP _ _,trivial⟩ ?_
 rw [nf_or]
 refine ⟨⟨rfl,⟨rfl,rfl,rfl,rfl,rfl,hf⟩,trivial⟩,hn,war (fun h=>⟨fun _ _=>rfl,_,hrow,?_⟩) (fun h=>⟨fun _ _=>rfl,_,hrow,rfl,rfl⟩)⟩
 rw [h];exact ⟨rfl,rfl⟩
theorem wq8 (x:Int):∀ l:List Int,orL (l++[x])=bif decide (orL l=0) then x else orL l
 |[]=>by simp only [List.nil_append,orL];by_cases h:x=0<;>simp [h]
 |y::l=>by
  rw [List.cons_append,orL,wq8 x l,orL]
  by_cases h:y=0
  ·simp [h]
  ·simp [h]
theorem orN_eq (v:Nat→Int):∀ n,orN v n=orL ((List.range n).map v)
 |0=>rfl
 |n+1=>by rw [List.range_succ,List.map_append,List.map_singleton,wq8,orN,orN_eq v n]
theorem swo_of {α:Type} {c:α→α→Int} (h:PreC c):SWO (ltOf c) where
 irrefl x:=by simp [ltOf,h.self x]
 trans x y z h1 h2:=by
  simp only [ltOf,decide_eq_true_eq] at *
  exact h.lt_trans h1 h2
 ntrans x y z h1 h2:=by
  simp only [ltOf,decide_eq_false_iff_not] at *
  intro q
  have:=h.neg x y
  have:=h.neg y x
  have:=h.neg y z
  have:=h.neg z y
  have:=h.neg x z
  have:=h.neg z x
  have:=h.trans z y x (by omega) (by omega)
  omega
end Go.Eng
namespace Go.Eng
open Go.Proofs Go.RowKit
set_option maxRecDepth 20000
theorem wwd (s:List UInt8) (cells:List AV) (R:AV→List (Nat×AObj)→Prop):wpFn te [] [(1,wmd s cells 262)] 0 Tryz.f248 [.str s,.ptr 0 0] [.cells cells 262] R=(letI z0:=([(0,.cells (AV.rnL (ren 1 []) cells) 262)]:List (Nat×AObj));some (St.mk [(0,.str s),(1,.ptr 0 0)] z0 1 [])=some (St.mk [(0,.str s),(1,.ptr 0 0)] [(0,.cells cells 262)] 1 [])∧wce cells∧R (.str (List.dropWhile (wbg cells) s)) z0):=by kernel_rfl
theorem wwb (cells:List AV) (P:List UInt8→Prop) (R:Exit→St→Prop):wa2 ⟨te,[(262,.det wft)],[],1,16,0⟩ (wa4 Tryz.f248 1) [0,1] [0] [0] (wdp cells 262) P R (wdp cells 262 [])=(R (.exit 0) (St.mk [(0,.str [])] [(0,.cells (AV.rnL (ren 1 []) cells) 262)] 1 [])):=by kernel_rfl
theorem wwc (x:UInt8) (s:List UInt8) (cells:List AV) (P:List UInt8→Prop) (R:Exit→St→Prop):wa2 ⟨te,[(262,.det wft)],[],1,16,0⟩ (wa4 Tryz.f248 1) [0,1] [0] [0] (wdp cells 262) P R (wdp cells 262 (x::s))=(letI z3:=AV.rnL (idxN [0]) cells;letI z2:=(↑(List.length (x::s)):Int);letI z1:=([(0,.cells (AV.rnL (ren 1 []) (AV.rnL (sig [0] 1) z3)) 262)]:List (Nat×AObj));letI z0:=(↑(UInt8.toNat (List.getD (x::s) (Int.toNat (0:Int)) (0:UInt8))):Int);waa (decide ((0:Int)<z2)) (((0:Int)≤(0:Int)∧(0:Int)<z2)∧(wce z3∧(0:Int)≤z0∧z0<(256:Int))∧waa (!wbg z3 (UInt8.ofNat (Int.toNat z0))) (R (.exit 0) (St.mk [(0,.str (x::s))] z1 1 [])) (((0:Int)≤(1:Int)∧(1:Int)≤z2)∧∃ (i':List UInt8),some (St.mk [(0,.str (List.drop (Int.toNat (1:Int)) (x::s))),(1,.ptr 0 0)] z1 1 [])=some (St.mk [(0,.str i'),(1,.ptr 0 0)] [(0,.cells cells 262)] 1 [])∧P i')) (R (.exit 0) (St.mk [(0,.str (x::s))] [(0,.cells (AV.rnL (ren 1 []) cells) 262)] 1 []))):=by kernel_rfl
theorem wwa (s:List UInt8) (cells:List AV) (R:AV→List (Nat×AObj)→Prop):wpFn te [] [(1,wmc s cells 262)] 0 Tryz.f249 [.str s,.ptr 0 0] [.cells cells 262] R=(letI z0:=([(0,.cells (AV.rnL (ren 1 []) cells) 262)]:List (Nat×AObj));some (St.mk [(0,.str s),(1,.ptr 0 0)] z0 1 [])=some (St.mk [(0,.str s),(1,.ptr 0 0)] [(0,.cells cells 262)] 1 [])∧wce cells∧List.length s≤9223372036854775807∧R (.str (wcy (wbg cells) s)) z0):=by kernel_rfl
theorem wv9 (s:List UInt8) (cells:List AV) (P:List UInt8→Prop) (R:Exit→St→Prop):wa2 ⟨te,[(262,.det wft)],[],1,22,0⟩ (wa4 Tryz.f249 1) [0,1] [0] [0] (wdp cells 262) P R (wdp cells 262 s)=(letI z3:=AV.rnL (idxN [0]) cells;letI z2:=([(0,.cells (AV.rnL (ren 1 []) (AV.rnL (sig [0] 1) z3)) 262)]:List (Nat×AObj));letI z0:=(↑(List.length s):Int);letI z1:=(↑(UInt8.toNat (List.getD s (Int.toNat (z0 - (1:Int))) (0:UInt8))):Int);waa (decide ((0:Int)<z0)) (inR .i64 (z0 - (1:Int))∧((0:Int)≤z0 - (1:Int)∧z0 - (1:Int)<z0)∧(wce z3∧(0:Int)≤z1∧z1<(256:Int))∧waa (!wbg z3 (UInt8.ofNat (Int.toNat z1))) (R (.exit 0) (St.mk [(0,.str s)] z2 1 [])) (inR .i64 (z0 - (1:Int))∧((0:Int)≤z0 - (1:Int)∧z0 - (1:Int)≤z0)∧∃ (i':List UInt8),some (St.mk [(0,.str (List.take (Int.toNat (z0 - (1:Int))) s)),(1,.ptr 0 0)] z2 1 [])=some (St.mk [(0,.str i'),(1,.ptr 0 0)] [(0,.cells cells 262)] 1 [])∧P i')) (R (.exit 0) (St.mk [(0,.str s)] [(0,.cells (AV.rnL (ren 1 []) cells) 262)] 1 []))):=by kernel_rfl
theorem nf_trim (s cs:List UInt8) (R:AV→List (Nat×AObj)→Prop):wpFn te [(248,.det wkl),(249,.det wkk)] [(1005,wmb s cs)] 0 Tryz.f228 [.str s,.str cs] [] R=(letI z3:=St.mk [(0,.str s),(1,.str cs)] [] 0 [];letI z2:=((0:Int)≤(0:Int)∧(0:Int)<(↑(List.length cs):Int):Prop);letI z1:=AV.rnL (idxN [0]) (setAV cs);letI z4:=AV.rnL (idxN [0]) (AV.rnL (sig [0] 1) z1);letI z0:=(some z3=some z3∧List.length cs<4294967281∧(∀ (b:UInt8),b∈cs→UInt8.toNat b<128)∧(wce z1∧List.length s≤9223372036854775807)∧wce z4∧R (.str (List.dropWhile (wbg z4) (wcy (wbg z1) s))) []);waa (decide (s=[])) (R (.str s) []) (waa (decide (cs=[])) (R (.str s) []) (waa (decide ((↑(List.length cs):Int)=(1:Int))) (z2∧waa (decide ((↑(UInt8.toNat (List.getD cs (Int.toNat (0:Int)) (0:UInt8))):Int)<(128:Int))) (z2∧False) z0) z0))):=by kernel_rfl
variable {C:Ctx} [C.Loose]
theorem mem2 {α:Type} {l:List α} (h:l.length=2):∃ a b,l=[a,b]:=by
 match l,h with
 |[a,b],_=>exact ⟨a,b,rfl⟩
theorem mem1 {α:Type} {l:List α} (h:l.length=1):∃ a,l=[a]:=by
 match l,h with
 |[a],_=>exact ⟨a,rfl⟩
theorem wqj (hP:C.P=Tryz.prog):wad C 262 wft:=by
 have _:C.Loose:=inferInstance
 rintro args objs U Os vc h hvc
 unfold wft at h
 split at h<;>simp only [Option.some.injEq,Prod.mk.injEq,reduceCtorEq] at h
 rename_i x cells t
 obtain ⟨rfl,rfl,rfl⟩:=h
 obtain ⟨hc,h0,h1⟩:=hvc
 obtain ⟨n,rfl⟩:∃ n:UInt8,x=n.toNat:=⟨UInt8.ofNat x.toNat,by simp;omega⟩
 refine wag.quiet ⟨Tryz.f262,hP ▸ Tryz.func262,rfl,by decide⟩ fun E bs w cargs hW hl hv=>?_
 obtain ⟨a,b,rfl⟩:=mem2 hl
 have e2:=(hv 1 _ _ rfl rfl).int_iff
 subst e2
 obtain ⟨b,y,rfl,hcc,hy⟩:=hW.cell (r:=0) rfl (hv 0 _ _ rfl rfl) (hc.at_ n)
 cases hy
 rw [hP]
 refine (Tryz.asciiSet_contains b n _ w hcc).mono ?_
 rintro e w' ⟨rfl,rfl⟩
 refine ⟨_,rfl,rfl,?_⟩
 have:UInt8.ofNat (n.toNat:Int).toNat=n:=by simp
 rw [this]
 exact .bool
theorem wuy (hP:C.P=Tryz.prog) (s:List UInt8) (cells:List AV):wae C 1 16 (wan Tryz.f248 1) (wmd s cells 262):=by
 rintro st Q ⟨h0,hc,hQ⟩
 refine wae.mk (prg hP) [(262,.det wft)] 0 (.cons (wqj hP) .nil) [0,1] [0] [0] (wdp cells 262) (fun s'=>s'.dropWhile (wbg cells)=s.dropWhile (wbg cells)) List.length s rfl h0 fun s' hs'=>?_
 have hrn:=hc.rn
 cases s' with
 |nil=>
  rw [wwb]
  simp only [hrn]
  rw [← hs'] at hQ
  exact hQ
 |cons x r=>
  rw [wwc]
  simp only [hrn]
  have ex:UInt8.ofNat (Int.toNat (↑(UInt8.toNat (List.getD (x::r) (Int.toNat 0) 0))))=x:=by simp
  have hx:(List.getD (x::r) (Int.toNat 0) 0)=x:=rfl
  have hlt:x.toNat<256:=x.toNat_lt
  have hlen:(((x::r).length:Nat):Int)=(r.length:Int)+1:=by simp
  rw [hx] at ex
  simp only [hx,ex,hlen]
  refine wat (fun _=>⟨by omega,⟨hc,by omega,by omega⟩,wat (fun h=>?_) (fun h=>?_)⟩) (fun h=>?_)
  ·have h:wbg cells x=false:=by simpa using h
   rw [← hs',List.dropWhile_cons,h] at hQ
   exact hQ
  ·have h:wbg cells x=true:=by simpa using h
   refine ⟨by omega,r,rfl,?_,by simp⟩
   rw [← hs',List.dropWhile_cons,h];rfl
  ·have:=of_decide_eq_false h;omega
theorem wux (hP:C.P=Tryz.prog):wad C 248 wkl:=by
 rintro args objs U Os vc h hvc
 unfold wkl at h
 split at h<;>simp only [Option.some.injEq,Prod.mk.injEq,reduceCtorEq] at h
 rename_i s cells
 obtain ⟨rfl,rfl,rfl⟩:=h
 refine wad.wpL (prg hP) [] [(1,wmd s cells 262)] 0 .nil (hP ▸ Tryz.func248) rfl rfl rfl [(wan Tryz.f248 1,wmd s cells 262)] (by kernel_rfl) ⟨wuy hP s cells,trivial⟩ ?_
 rw [wwd]
 simp only [hvc.rn]
 exact ⟨trivial,hvc,by simp⟩
theorem wuw (hP:C.P=Tryz.prog) (s:List UInt8) (cells:List AV):wae C 1 22 (wan Tryz.f249 1) (wmc s cells 262):=by
 rintro st Q ⟨h0,hc,hm,hQ⟩
 refine wae.mk (prg hP) [(262,.det wft)] 0 (.cons (wqj hP) .nil) [0,1] [0] [0] (wdp cells 262) (fun s'=>wcy (wbg cells) s'=wcy (wbg cells) s∧s'.length≤maxLen) List.length s ⟨rfl,hm⟩ h0 fun s' hs'=>?_
 have hrn:=hc.rn
 obtain ⟨hs',hm'⟩:=hs'
 have hm2:s'.length≤9223372036854775807:=hm'
 rw [wv9]
 simp only [hrn]
 rcases wu6 s' with rfl | ⟨r,x,rfl⟩
 ·refine wat (fun h=>?_) (fun _=>?_)
  ·have:=of_decide_eq_true h;simp at this
  ·rw [← hs'] at hQ;exact hQ
 ·have hlen:(((r++[x]).length:Nat):Int)=(r.length:Int)+1:=by simp
  have e1:((r.length:Int)+1 - 1).toNat=r.length:=by omega
  have hx:(r++[x]).getD r.length 0=x:=by simp
  have ht:(r++[x]).take r.length=r:=by simp
  have ex:UInt8.ofNat ((x.toNat:Int)).toNat=x:=by simp
  have hlt:x.toNat<256:=x.toNat_lt
  have hlr:(r++[x]).length=r.length+1:=by simp
  simp only [hlen,e1,hx,ht,ex,inR]
  refine wat (fun _=>⟨by omega,by omega,⟨hc,by omega,by omega⟩,wat (fun h=>?_) (fun h=>?_)⟩) (fun h=>?_)
  ·have h:wbg cells x=false:=by simpa using h
   rw [← hs',wtk,h] at hQ
   exact hQ
  ·have h:wbg cells x=true:=by simpa using h
   refine ⟨by omega,by omega,r,rfl,⟨?_,?_⟩,by omega⟩
   ·rw [← hs',wtk,h];rfl
   ·show r.length≤9223372036854775807
    omega
  ·have:=of_decide_eq_false h;omega
theorem wuv (hP:C.P=Tryz.prog):wad C 249 wkk:=by
 rintro args objs U Os vc h hvc
 unfold wkk at h
 split at h<;>simp only [Option.some.injEq,Prod.mk.injEq,reduceCtorEq] at h
 rename_i s cells
 obtain ⟨rfl,rfl,rfl⟩:=h
 refine wad.wpL (prg hP) [] [(1,wmc s cells 262)] 0 .nil (hP ▸ Tryz.func249) rfl rfl rfl [(wan Tryz.f249 1,wmc s cells 262)] (by kernel_rfl) ⟨wuw hP s cells,trivial⟩ ?_
 rw [wwa]
 simp only [hvc.1.rn]
 exact ⟨trivial,hvc.1,hvc.2,by simp⟩
theorem wvb {w:World} {M:Nat→Prop} {bs:Nat→Option Hd} (l:List UInt8):wcr w M bs (Lib.setCells l) (setAV l):=by
 have hs:(Lib.setCells l).size=256:=Lib.setCells_size l
 have hl:(setAV l).length=256:=(we9 l).1
 have at_:∀ j,j<256→(Lib.setCells l)[j]?=some (.bool (l.contains (UInt8.ofNat j))):=by
  intro j hj
  have:=Lib.setCells_at l (UInt8.ofNat j)
  have e:(UInt8.ofNat j).toNat=j:=by simp;omega
  rwa [e] at this
 refine ⟨by rw [hs,hl],fun j v hv=>?_,fun j v u hv hu=>?_⟩
 ·have hj:j<256:=by rw [← hs];exact (Array.getElem?_eq_some_iff.1 hv).1
  rw [at_ j hj] at hv
  cases hv;rfl
 ·have hj:j<256:=by rw [← hs];exact (Array.getElem?_eq_some_iff.1 hv).1
  rw [at_ j hj] at hv
  cases hv
  have:(setAV l)[j]?=some (.bool (l.contains (UInt8.ofNat j))):=by unfold setAV;simp [hj]
  rw [this] at hu
  cases hu
  exact .bool
theorem wx7 (hP:C.P=Tryz.prog):wad C 247 wug:=by
 rintro args objs U Os vc h hvc
 unfold wug at h
 split at h<;>simp only [Option.some.injEq,Prod.mk.injEq,reduceCtorEq] at h
 rename_i l
 obtain ⟨rfl,rfl,rfl⟩:=h
 obtain ⟨hl,hascii⟩:=hvc
 refine wag.below ⟨Tryz.f247,hP ▸ Tryz.func247,rfl,by decide⟩ fun w M cargs _ _ hM hlen hv=>?_
 obtain ⟨a,rfl⟩:=mem1 hlen
 have e1:=(hv 0 _ _ rfl rfl).str_iff
 subst e1
 rw [hP]
 refine (Tryz.strings_makeASCIISet (fun w=>Tryz.zeroValue262 w) ⟨l.toArray⟩ w (by simpa [ByteArray.size] using hl) (fun j b hb=>hascii b (by simpa using List.mem_of_getElem? hb))).mono ?_
 rintro e w' ⟨rfl,rfl⟩
 have hc:=wvb (w:=w.alloc (.cells (Lib.setCells l) 262)) (M:=M) (bs:=nob) l
 refine ⟨_,rfl,(Below.refl _ _).alloc (Nat.le_refl _) _,.tuple rfl fun j v u hv hu=>?_⟩
 match j with
 |0=>simp at hv hu;subst hv;subst hu;exact .agg hc.1 hc.2.1 hc.2.2
 |1=>simp at hv hu;subst hv;subst hu;exact .bool
 |j+2=>simp at hv
def teSet:TE:=[(262,{ desc:=.array 256 4,sz:=256,bytes:=256,zero:=.agg (Array.replicate 256 (.bool false)) })]
@[irreducible] def zeroSet:List AV:=List.replicate 256 (.bool false)
theorem w0o (n:Nat):avcs (List.replicate n (.bool false))=some (List.replicate n (.bool false)):=by
 induction n with
 |zero=>rfl
 |succ n ih=>simp [List.replicate_succ,avcs,avc,ih]
theorem wu0:TE.ok Tryz.prog teSet:=by
 refine TE.ok_cons Tryz.underlying262 ⟨Tryz.t262,Tryz.type262,rfl,rfl,by kernel_rfl⟩ (fun h=>by cases h) TE.ok_nil
theorem wui:avcs (Value.agg (Array.replicate 256 (.bool false))).cells.toList=some zeroSet:=by
 have e:(Value.agg (Array.replicate 256 (.bool false))).cells.toList=List.replicate 256 (Value.bool false):=Array.toList_replicate
 rw [e]
 unfold zeroSet
 exact w0o 256
theorem wuj (cs:List UInt8):zeroSet.length=(setAV cs).length:=by
 rw [(we9 cs).1]
 unfold zeroSet
 rw [List.length_replicate]
theorem wuu (hP:C.P=Tryz.prog) (s cs:List UInt8):wae C 0 43 (regC Tryz.f228 5) (wmb s cs):=by
 rintro st Q ⟨h0,hl,hascii,hQ⟩
 refine AWP.canonIs [0,1] h0 ?_ trivial
 have hte:=(prg hP).ok
 have hts:TE.ok C.P teSet:=hP ▸ wu0
 have hrn:=(we9 cs).rn
 refine AWP.canQ (te:=te) (Fe:=[0,5,6]) (Fr:=[]) ?_
 show AWP C 0 43 (.region 5 (List.toArray _) false) _ _
 refine AWP.region ?_
 refine AOps.pure hte (prg hP).one rfl rfl rfl trivial ?_
 refine AOps.callD (u2:=.nil) (cobjs:=[]) (U:=.tuple [.agg (setAV cs),.bool true]) (Os:=[]) (T2:=[(31,.tuple [.agg (setAV cs),.bool true]),(30,.str cs),(0,.str s),(1,.str cs)]) [] rfl rfl rfl rfl rfl rfl trivial (wx7 hP [.str cs] [] _ _ _ rfl ⟨hl,hascii⟩) rfl ?_ rfl rfl ?_
 ·show (31,AV.tuple [.agg (AV.rnL _ (setAV cs)),.bool true])::_=_
  rw [hrn];rfl
 refine AOps.pure hte (prg hP).one rfl rfl rfl trivial ?_
 refine AOps.pure hte (prg hP).one rfl rfl rfl trivial ?_
 refine AOps.pure hte (prg hP).one rfl rfl rfl trivial ?_
 refine AOps.step (l:=[(_,.cells zeroSet 262)]) rfl (wao.allocW hts (t:=262) rfl rfl rfl wui) rfl rfl rfl rfl ?_
 refine AOps.step rfl (wao.storeW hts (t:=262) (new:=setAV cs) rfl rfl rfl rfl rfl rfl (wuj cs) (we9 cs).1) rfl rfl rfl rfl ?_
 refine AOps.pure hte (prg hP).one rfl rfl rfl trivial ?_
 refine AOps.nil ?_
 refine canQ_of (s':=⟨[(0,.str s),(5,.ptr 0 0),(6,.bool true)],[(0,.cells (AV.rnL (ren 0 [(16,0)]) (setAV cs)) 262)],1,[]⟩) (by simp) ?_ ?_
 ·rfl
 ·rw [hrn];exact hQ
theorem wg1 (hP:C.P=Tryz.prog):wad C 228 wea:=by
 rintro args objs U Os vc h hvc
 unfold wea at h
 split at h<;>simp only [Option.some.injEq,Prod.mk.injEq,reduceCtorEq] at h
 rename_i s cs
 obtain ⟨rfl,rfl,rfl⟩:=h
 obtain ⟨hs,h2,hl,hascii⟩:=hvc
 refine wad.wpL (prg hP) [(248,.det wkl),(249,.det wkk)] [(1005,wmb s cs)] 0 (.cons (wux hP) (.cons (wuv hP) .nil)) (hP ▸ Tryz.func228) rfl rfl rfl
  [(regC Tryz.f228 5,wmb s cs)] (by kernel_rfl) ⟨wuu hP s cs,trivial⟩ ?_
 rw [nf_trim]
 have hrn:=(we9 cs).rn
 have hc1:∀ h:(cs.length:Int)=1,False:=by intro h;omega
 have hin:wbg (setAV cs)=(cs.contains ·):=funext (wy1 cs)
 simp only [hrn,hin]
 refine wat (fun h=>?_) (fun _=>wat (fun h=>?_) (fun _=>wat (fun h=>?_) (fun _=>?_)))
 ·have h:=of_decide_eq_true h
  subst h
  simp [wed,wcy]
 ·have h:=of_decide_eq_true h
  subst h
  simp at h2
 ·exact (hc1 (of_decide_eq_true h)).elim
 ·exact ⟨trivial,hl,hascii,⟨we9 cs,hs⟩,we9 cs,rfl,trivial⟩
theorem nf_min (n:Nat) (v:Nat→Int) (R:AV→List (Nat×AObj)→Prop):wpFn te [] [(5,L_mm n v (minV v)),(1002,fun _ _=>False)] 0 Tryz.f260 [.own 0 n] [.row 3 1 n (fun i=>[.int .i64 (v i)]) false] R=(letI z0:=([(0,.row 3 1 n (fun (i:Nat)=>[.int .i64 (v i)]) false)]:List (Nat×AObj));waa (decide ((↑n:Int)<(1:Int))) False (((0:Int)≤(0:Int)∧(0:Int)<(↑n:Int))∧(0<n∧1=1)∧(TEq [(0,.own 0 n),(3,.int .i64 (v 0)),(4,.int .i64 1)] [(0,.own 0 n),(3,.int .i64 (minV v 0)),(4,.int .i64 ((↑0:Int)+(1:Int)))]∧wac z0 z0)∧1≤n∧n≤4611686018427387904∧(∀ (i:Nat),i<n→true=true)∧∃ (O':List (Nat×AObj)),wac z0 O'∧R (.int .i64 (minV v (n - 1))) O')):=by kernel_rfl
theorem wwz (n:Nat) (v:Nat→Int) (k:Nat) (P:Nat→Prop) (R:Exit→St→Prop):wa2 ⟨te,[],[],1,25,0⟩ (wa4 Tryz.f260 5) [0,3,4] [3] [] (wfu n v (minV v)) P R (wfu n v (minV v) k)=(letI z0:=([(0,.row 3 1 n (fun (i:Nat)=>[.int .i64 (v i)]) false)]:List (Nat×AObj));waa (decide ((↑k:Int)+(1:Int)<(↑n:Int))) (((0:Int)≤(↑k:Int)+(1:Int)∧(↑k:Int)+(1:Int)<(↑n:Int))∧(Int.toNat ((↑k:Int)+(1:Int))<n∧1=1)∧inR .i64 ((↑k:Int)+(1:Int)+(1:Int))∧∃ (i':Nat),(TEq [(0,.own 0 n),(3,.int .i64 (min (minV v k) (v (Int.toNat ((↑k:Int)+(1:Int)))))),(4,.int .i64 ((↑k:Int)+(1:Int)+(1:Int)))] [(0,.own 0 n),(3,.int .i64 (minV v i')),(4,.int .i64 ((↑i':Int)+(1:Int)))]∧wac z0 z0)∧P i') ((∀ (i:Nat),i<n→true=true)∧∃ (O':List (Nat×AObj)),wac z0 O'∧R (.exit 0) (St.mk [(3,.int .i64 (minV v k))] O' 1 []))):=by kernel_rfl
theorem nf_max (n:Nat) (v:Nat→Int) (R:AV→List (Nat×AObj)→Prop):wpFn te [] [(5,L_mm n v (maxV v)),(1002,fun _ _=>False)] 0 Tryz.f261 [.own 0 n] [.row 3 1 n (fun i=>[.int .i64 (v i)]) false] R=(letI z0:=([(0,.row 3 1 n (fun (i:Nat)=>[.int .i64 (v i)]) false)]:List (Nat×AObj));waa (decide ((↑n:Int)<(1:Int))) False (((0:Int)≤(0:Int)∧(0:Int)<(↑n:Int))∧(0<n∧1=1)∧(TEq [(0,.own 0 n),(3,.int .i64 (v 0)),(4,.int .i64 1)] [(0,.own 0 n),(3,.int .i64 (maxV v 0)),(4,.int .i64 ((↑0:Int)+(1:Int)))]∧wac z0 z0)∧1≤n∧n≤4611686018427387904∧(∀ (i:Nat),i<n→true=true)∧∃ (O':List (Nat×AObj)),wac z0 O'∧R (.int .i64 (maxV v (n - 1))) O')):=by kernel_rfl
theorem ww0 (n:Nat) (v:Nat→Int) (k:Nat) (P:Nat→Prop) (R:Exit→St→Prop):wa2 ⟨te,[],[],1,25,0⟩ (wa4 Tryz.f261 5) [0,3,4] [3] [] (wfu n v (maxV v)) P R (wfu n v (maxV v) k)=(letI z0:=([(0,.row 3 1 n (fun (i:Nat)=>[.int .i64 (v i)]) false)]:List (Nat×AObj));waa (decide ((↑k:Int)+(1:Int)<(↑n:Int))) (((0:Int)≤(↑k:Int)+(1:Int)∧(↑k:Int)+(1:Int)<(↑n:Int))∧(Int.toNat ((↑k:Int)+(1:Int))<n∧1=1)∧inR .i64 ((↑k:Int)+(1:Int)+(1:Int))∧∃ (i':Nat),(TEq [(0,.own 0 n),(3,.int .i64 (max (maxV v k) (v (Int.toNat ((↑k:Int)+(1:Int)))))),(4,.int .i64 ((↑k:Int)+(1:Int)+(1:Int)))] [(0,.own 0 n),(3,.int .i64 (maxV v i')),(4,.int .i64 ((↑i':Int)+(1:Int)))]∧wac z0 z0)∧P i') ((∀ (i:Nat),i<n→true=true)∧∃ (O':List (Nat×AObj)),wac z0 O'∧R (.exit 0) (St.mk [(3,.int .i64 (maxV v k))] O' 1 []))):=by kernel_rfl
theorem wxe (n:Nat) (v:Nat→Int) (R:AV→List (Nat×AObj)→Prop):wpFn te [(260,.det wk7),(261,.det wk8),(133,.det wgo)] [(7,wmy n v)] 0 Tryz.f244 [.own 0 n] [.row 3 1 n (fun i=>[.int .i64 (v i)]) false] R=(letI z8:=((0:Int)≤(0:Int)∧(0:Int)<(↑n:Int):Prop);letI z7:=((0:Int)≤(1:Int)∧(1:Int)≤(↑n:Int):Prop);letI z6:=(n - Int.toNat (1:Int));letI z5:=(vInt fun (i:Nat)=>[.int .i64 (v i)]);letI z4:=([(4,.str (wc7 (v 0)++wch v 0)),(36,.sub 0 1 1 (n - 1)),(37,.int .i64 (↑(n - 1):Int)),(38,.int .i64 (↑0:Int))]:List (Nat×AV));letI z3:=(3=3∧false=false∧1≤n∧n=n∧n≤4611686018427387904∧(fun (i:Nat)=>[.int .i64 (v i)])=waf z5:Prop);letI z2:=(∀ (i:Nat),i<n→true=true:Prop);letI z1:=([(0,.row 3 1 n (fun (i:Nat)=>[.int .i64 (v i)]) false)]:List (Nat×AObj));letI z0:=(z2∧∃ (O':List (Nat×AObj)),wac z1 O'∧R (.tuple [.str [],.int .i64 64]) O':Prop);waa (decide ((↑n:Int)<(1:Int))) z0 (waa (decide ((5:Int)<(↑n:Int))) z0 (z2∧z3∧z2∧waa (decide (minV z5 (n - 1)<(1:Int))) z0 (z2∧z3∧z2∧waa (decide ((99:Int)<maxV z5 (n - 1))) z0 (z8∧(0<n∧1=1)∧((0:Int)≤v 0∧v 0<(100:Int))∧z8∧(0<n∧1=1)∧waa (decide (v 0<(10:Int))) (List.length ([(48:UInt8)])+List.length (decF (v 0))≤9223372036854775807∧z7∧(TEq [(4,.str ([(48:UInt8)]++decF (v 0))),(36,.sub 0 1 1 z6),(37,.int .i64 (↑z6:Int)),(38,.int .i64 0)] z4∧wac z1 z1)∧wbi n v=true∧z2∧∃ (O':List (Nat×AObj)),wac z1 O'∧R (.tuple [.str (fmtZ n v),.int .i64 0]) O') (z7∧(TEq [(4,.str (decF (v 0))),(36,.sub 0 1 1 z6),(37,.int .i64 (↑z6:Int)),(38,.int .i64 0)] z4∧wac z1 z1)∧wbi n v=true∧z2∧∃ (O':List (Nat×AObj)),wac z1 O'∧R (.tuple [.str (fmtZ n v),.int .i64 0]) O')))))):=by kernel_rfl
theorem wxd (n:Nat) (v:Nat→Int) (k:Nat) (P:Nat→Prop) (R:Exit→St→Prop):wa2 ⟨te,[(133,.det wgo)],[],1,49,0⟩ (wa4 Tryz.f244 7) [4,36,37,38] [4] [] (wlr n v) P R (wlr n v k)=(letI z1:=(v (1+Int.toNat (↑k:Int)));letI z0:=([(0,.row 3 1 n (fun (i:Nat)=>[.int .i64 (v i)]) false)]:List (Nat×AObj));waa (decide ((↑k:Int)<(↑(n - 1):Int))) (((0:Int)≤(↑k:Int)∧(↑k:Int)<(↑(n - 1):Int)∧1=1)∧(1+Int.toNat (↑k:Int)<n∧1=1)∧((0:Int)≤v (1+Int.toNat (↑k:Int))∧v (1+Int.toNat (↑k:Int))<(100:Int))∧List.length ([(46:UInt8)])+List.length (decF z1)≤9223372036854775807∧List.length (wc7 (v 0)++wch v k)+List.length ([(46:UInt8)]++decF z1)≤9223372036854775807∧inR .i64 ((↑k:Int)+(1:Int))∧∃ (i':Nat),(TEq [(4,.str (wc7 (v 0)++wch v k++([(46:UInt8)]++decF z1))),(36,.sub 0 1 1 (n - 1)),(37,.int .i64 (↑(n - 1):Int)),(38,.int .i64 ((↑k:Int)+(1:Int)))] [(4,.str (wc7 (v 0)++wch v i')),(36,.sub 0 1 1 (n - 1)),(37,.int .i64 (↑(n - 1):Int)),(38,.int .i64 (↑i':Int))]∧wac z0 z0)∧P i') ((∀ (i:Nat),i<n→true=true)∧∃ (O':List (Nat×AObj)),wac z0 O'∧R (.exit 0) (St.mk [(4,.str (wc7 (v 0)++wch v k))] O' 1 []))):=by kernel_rfl
variable {C:Ctx} [C.Loose]
theorem wx4 (hP:C.P=Tryz.prog) (n:Nat) (v:Nat→Int):wae C 1 25 (wan Tryz.f260 5) (L_mm n v (minV v)):=by
 have _:C.Loose:=inferInstance
 rintro st Q ⟨h0,hn,hn2,hQ⟩
 refine wae.mk (prg hP) [] 0 .nil [0,3,4] [3] [] (wfu n v (minV v)) (fun k=>k+1≤n) (fun k=>n - k) 0 hn h0 (fun k hk=>?_) (fun i=>⟨fun _ _=>rfl,trivial⟩)
 rw [wwz]
 refine war (fun h=>?_) (fun h=>⟨fun _ _=>rfl,_,wbz,?_⟩)
 ·have e:((k:Int)+1).toNat=k+1:=by omega
  simp only [inR,e,and_true]
  exact ⟨by omega,by omega,by omega,k+1,⟨rfl,wbz⟩,by omega,by omega⟩
 ·have:k=n - 1:=by omega
  rw [this];exact hQ
theorem wx5 (hP:C.P=Tryz.prog) (n:Nat) (v:Nat→Int):wae C 1 25 (wan Tryz.f261 5) (L_mm n v (maxV v)):=by
 have _:C.Loose:=inferInstance
 rintro st Q ⟨h0,hn,hn2,hQ⟩
 refine wae.mk (prg hP) [] 0 .nil [0,3,4] [3] [] (wfu n v (maxV v)) (fun k=>k+1≤n) (fun k=>n - k) 0 hn h0 (fun k hk=>?_) (fun i=>⟨fun _ _=>rfl,trivial⟩)
 rw [ww0]
 refine war (fun h=>?_) (fun h=>⟨fun _ _=>rfl,_,wbz,?_⟩)
 ·have e:((k:Int)+1).toNat=k+1:=by omega
  simp only [inR,e,and_true]
  exact ⟨by omega,by omega,by omega,k+1,⟨rfl,wbz⟩,by omega,by omega⟩
 ·have:k=n - 1:=by omega
  rw [this];exact hQ
theorem min_ok (hP:C.P=Tryz.prog):wad C 260 wk7:=by
 rintro args objs U Os vc h hvc
 unfold wk7 at h
 split at h<;>simp only [Option.some.injEq,Prod.mk.injEq,reduceCtorEq] at h
 rename_i n t m f fr
 obtain ⟨rfl,rfl,rfl⟩:=h
 obtain ⟨rfl,rfl,hn,rfl,hn2,hf⟩:=hvc
 generalize vInt f=v at hf
 subst hf
 refine wad.wpL (prg hP) [] [(5,L_mm n v (minV v)),(1002,fun _ _=>False)] 0 .nil (hP ▸ Tryz.func260) rfl rfl rfl
  [(regC Tryz.f260 2,fun _ _=>False),(wan Tryz.f260 5,L_mm n v (minV v))] (by kernel_rfl) ⟨fun _ _ h=>h.elim,wx4 hP n v,trivial⟩ ?_
 show wpFn _ _ _ _ _ _ [.row _ _ _ (fun i=>[.int .i64 (v i)]) _] _
 rw [nf_min]
 exact war (fun h=>absurd h (by omega)) (fun _=>⟨by omega,by omega,⟨rfl,wbz⟩,hn,hn2,fun _ _=>rfl,_,wbz,rfl,rfl⟩)
theorem max_ok (hP:C.P=Tryz.prog):wad C 261 wk8:=by
 rintro args objs U Os vc h hvc
 unfold wk8 at h
 split at h<;>simp only [Option.some.injEq,Prod.mk.injEq,reduceCtorEq] at h
 rename_i n t m f fr
 obtain ⟨rfl,rfl,rfl⟩:=h
 obtain ⟨rfl,rfl,hn,rfl,hn2,hf⟩:=hvc
 generalize vInt f=v at hf
 subst hf
 refine wad.wpL (prg hP) [] [(5,L_mm n v (maxV v)),(1002,fun _ _=>False)] 0 .nil (hP ▸ Tryz.func261) rfl rfl rfl
  [(regC Tryz.f261 2,fun _ _=>False),(wan Tryz.f261 5,L_mm n v (maxV v))] (by kernel_rfl) ⟨fun _ _ h=>h.elim,wx5 hP n v,trivial⟩ ?_
 show wpFn _ _ _ _ _ _ [.row _ _ _ (fun i=>[.int .i64 (v i)]) _] _
 rw [nf_max]
 exact war (fun h=>absurd h (by omega)) (fun _=>⟨by omega,by omega,⟨rfl,wbz⟩,hn,hn2,fun _ _=>rfl,_,wbz,rfl,rfl⟩)
theorem wsb (hP:C.P=Tryz.prog):wad C 133 wgo:=by
 rintro args objs U Os vc h hvc
 unfold wgo at h
 split at h<;>simp only [Option.some.injEq,Prod.mk.injEq,reduceCtorEq] at h
 rename_i n
 obtain ⟨rfl,rfl,rfl⟩:=h
 obtain ⟨i,rfl⟩:∃ i:Nat,n=i:=⟨n.toNat,by omega⟩
 refine wag.below ⟨Tryz.f133,hP ▸ Tryz.func133,rfl,by decide⟩ fun w M cargs _ _ hM hl hv=>?_
 obtain ⟨a,rfl⟩:=mem1 hl
 have:=(hv 0 _ _ rfl rfl).int_iff
 subst this
 rw [hP]
 refine (Tryz.strconv_Itoa_small i (by omega) w).mono ?_
 rintro e w' ⟨rfl,rfl⟩
 exact ⟨_,rfl,Below.refl _ _,.str (by simp [decF])⟩
theorem wza (hP:C.P=Tryz.prog) (n:Nat) (v:Nat→Int):wae C 1 49 (wan Tryz.f244 7) (wmy n v):=by
 rintro st Q ⟨h0,hok,hQ⟩
 have hv:=wsz hok
 have hn:=fmtOK_n hok
 refine wae.mk (prg hP) [(133,.det wgo)] 0 (.cons (wsb hP) .nil) [4,36,37,38] [4] [] (wlr n v) (fun k=>k≤n - 1) (fun k=>n - k) 0 (Nat.zero_le _) h0 (fun k hk=>?_) (fun i=>⟨fun _ _=>rfl,trivial⟩)
 rw [wxd]
 have hl1:=wzb (hv 0 (by omega))
 have hl2:=wsy (n:=n) (fun i hi=>hv i hi) k (by omega)
 refine war (fun h=>?_) (fun h=>⟨fun _ _=>rfl,_,wbz,?_⟩)
 ·have hlt:k<n - 1:=by omega
  have e:1+(k:Int).toNat=k+1:=by omega
  have hk1:=hv (k+1) (by omega)
  have hl3:=wjz hk1
  simp only [inR,e,and_true,List.length_append,List.length_cons,List.length_nil]
  refine ⟨by omega,by omega,by omega,by omega,by omega,by omega,k+1,⟨?_,wbz⟩,by omega,by omega⟩
  unfold TEq
  rw [show wch v (k+1)=wch v k++(46::decF (v (k+1))) from rfl]
  simp
 ·have:k=n - 1:=by omega
  rw [this];exact hQ
theorem wy9 (hP:C.P=Tryz.prog):wad C 244 wlp:=by
 rintro args objs U Os vc h hvc
 unfold wlp at h
 split at h<;>simp only [Option.some.injEq,Prod.mk.injEq,reduceCtorEq] at h
 rename_i n t m f fr
 obtain ⟨rfl,rfl,rfl⟩:=h
 obtain ⟨rfl,rfl,rfl,hn2,hf⟩:=hvc
 generalize vInt f=v at hf
 subst hf
 refine wad.wpL (prg hP) [(260,.det wk7),(261,.det wk8),(133,.det wgo)] [(7,wmy n v)] 0 (.cons (min_ok hP) (.cons (max_ok hP) (.cons (wsb hP) .nil))) (hP ▸ Tryz.func244) rfl rfl rfl
  [(wan Tryz.f244 7,wmy n v)] (by kernel_rfl) ⟨wza hP n v,trivial⟩ ?_
 show wpFn _ _ _ _ _ _ [.row _ _ _ (fun i=>[.int .i64 (v i)]) _] _
 rw [wxe]
 have hvi:(vInt fun i=>[AV.int .i64 (v i)])=v:=rfl
 rw [hvi]
 have bad:wbi n v=false→(AV.tuple [.str [],.int .i64 64]= .tuple [.str (bif wbi n v then fmtZ n v else []),.int .i64 (bif wbi n v then 0 else 64)]):=fun h=>by rw [h];rfl
 have good:wbi n v=true→(AV.tuple [.str (fmtZ n v),.int .i64 0]= .tuple [.str (bif wbi n v then fmtZ n v else []),.int .i64 (bif wbi n v then 0 else 64)]):=fun h=>by rw [h];rfl
 refine war (fun h1=>⟨fun _ _=>rfl,_,wbz,bad ?_,rfl⟩) (fun h1=>war (fun h2=>⟨fun _ _=>rfl,_,wbz,bad ?_,rfl⟩) (fun h2=>⟨fun _ _=>rfl,⟨rfl,rfl,by omega,rfl,hn2,rfl⟩,fun _ _=>rfl,
  war (fun h3=>⟨fun _ _=>rfl,_,wbz,bad ?_,rfl⟩) (fun h3=>⟨fun _ _=>rfl,⟨rfl,rfl,by omega,rfl,hn2,rfl⟩,fun _ _=>rfl,war (fun h4=>⟨fun _ _=>rfl,_,wbz,bad ?_,rfl⟩) (fun h4=>?_)⟩)⟩))
 ·unfold wbi;rw [decide_eq_false (p:=1≤n) (by omega)];rfl
 ·unfold wbi;rw [decide_eq_false (p:=n≤5) (by omega)];simp
 ·unfold wbi;rw [decide_eq_false (p:=1≤minV v (n - 1)) (by omega)];simp
 ·unfold wbi;rw [decide_eq_false (p:=maxV v (n - 1)≤99) (by omega)];simp
 ·have hok:wbi n v=true:=by
   unfold wbi
   rw [decide_eq_true (p:=1≤n) (by omega),decide_eq_true (p:=n≤5) (by omega),decide_eq_true (p:=1≤minV v (n - 1)) (by omega),decide_eq_true (p:=maxV v (n - 1)≤99) (by omega)];rfl
  have hv:=wsz hok 0 (by omega)
  have hl3:=wjz hv
  refine ⟨by omega,⟨by omega,rfl⟩,by omega,by omega,⟨by omega,rfl⟩,war (fun h5=>⟨by simp only [List.length_cons,List.length_nil];omega,by omega,⟨?_,wbz⟩,hok,fun _ _=>rfl,_,wbz,good hok,rfl⟩) (fun h5=>⟨by omega,⟨?_,wbz⟩,hok,fun _ _=>rfl,_,wbz,good hok,rfl⟩)⟩
  ·unfold TEq wc7
   rw [decide_eq_true h5]
   simp [wch]
  ·unfold TEq wc7
   rw [decide_eq_false h5]
   simp [wch]
end Go.Eng
