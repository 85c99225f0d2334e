/- What all rows share: the context of the engine at this program. -/
import Derived.Test.YtgcboligphndhaaGreatDoorZm
import Derived.Test.YtgcboligphndhaaGreatDoorRows
import Derived.Shelf.Vars
import Derived.FnData
import Derived.LaidLaws
import Derived.Deep.DeepLaidRun
import Derived.WalkKit
import Derived.OpenShut
import Derived.ShutString
import Derived.ChangeOld
namespace Go.Eng
open Go.Proofs Go.RowKit
variable {H:Type} {enc:TypeId×Value->H} {W:World}
noncomputable def fsOf (t:TypeId):Array Field:=match Tryz.prog.underlying t with
 |some (.struct fs)=>fs
 |_=>#[]
theorem undIs:Tryz.prog.underlying 23=some (.slice 3):=by kernel_rfl
theorem undI:Tryz.prog.underlying 3=some (.int .i64):=by kernel_rfl
theorem wg0:Tryz.prog.underlying 2=some (.int .i64):=by kernel_rfl
theorem undS:Tryz.prog.underlying 9=some .string:=by kernel_rfl
theorem cI:Tryz.prog.cellsOf 3=1:=by kernel_rfl
theorem cI2:Tryz.prog.cellsOf 2=1:=by kernel_rfl
theorem cS:Tryz.prog.cellsOf 9=1:=by kernel_rfl
theorem field{t:TypeId}{n:Nat}{cs:List Value}{xs:List (DataW H×List MemPlace)}{sp:Nat->Bool}{hd:Bool}(hl:xs.length=(fsOf t).size)
  (h:∀(i:Nat) (f:Field),(fsOf t)[i]?=some f->DataW.trod enc Tryz.prog W 0 sp hd n f.type ((cs.drop f.offset).take (Tryz.prog.cellsOf f.type))=xs[i]?)
  (i:Nat) (ty:TypeId) (off:Nat) (hf:((fsOf t)[i]?).map (λf=>(f.type,f.offset))=some (ty,off)):∃y,DataW.trod enc Tryz.prog W 0 sp hd n ty ((cs.drop off).take (Tryz.prog.cellsOf ty))=some y:=by
 obtain⟨f,hf1,hf2⟩:=Option.map_eq_some_iff.1 hf;simp only[pI7] at hf2;obtain⟨rfl,rfl⟩:=hf2;have hi:i<xs.length:=by rw[hl];exact(Array.getElem?_eq_some_iff.1 hf1).1
 exact⟨xs[i],by rw[h i f hf1];simp[hi]⟩
theorem wx4(a:Addr)(i j:Nat):(a.add i).add j=a.add (i+j):=by
 obtain⟨b,o,e⟩:=a
 by_cases h1:i=0<;>by_cases h2:j=0<;>simp[Addr.add,h1,h2,Nat.add_assoc]
theorem wx5(a:Addr)(i:Nat):(a.add i).block=a.block:=by
 unfold Addr.add;split<;>rfl
theorem list2{l:List Value}(h:l.length=2):∃a b,l=[a,b]:=by
 match l,h with
 |[a,b],_=>exact⟨a,b,rfl⟩
theorem list7{l:List Value}(h:l.length=7):∃a b c d e f g,l=[a,b,c,d,e,f,g]:=by
 match l,h with
 |[a,b,c,d,e,f,g],_=>exact⟨a,b,c,d,e,f,g,rfl⟩
theorem wzs{fuel:Nat}{cs:List Value}{x:DataW H×List MemPlace}{sp:Nat->Bool}{hd:Bool}(h:DataW.trod enc Tryz.prog W 0 sp hd fuel 23 cs=some x):
  ∃(A:Option Addr) (n c:Nat) (v:Nat->Int),cs=[.slice A n c]/\V W (λ_=>False) nob (.slice A n c) (.view 1 n (λi=>[.int .i64 (v i)])):=by
 rcases DataW.trod_slice undIs h with⟨rfl,_⟩ | ⟨a,len,cap,elems,rest,n,_,rfl,_,hb,hl,hm,hlen,hel,_⟩
 ·exact⟨none,0,0,λ_=>0,rfl,wl5 _ (lR7 _) (zL7 _) (λi hi=>by omega) (.inl rfl)⟩
 ·have hat:∀i,i<len->∃z,W.cell? (a.add i)=some (.int .i64 z):=by
   intro i hi;have h1:=hel i hi;rw[cI,Nat.mul_one,List.getElem?_eq_getElem (by omega),Option.bind_eq_some_iff] at h1;obtain⟨cs',hcs,hy⟩:=h1;obtain⟨z,rfl,_⟩:=DataW.trod_int undI hy;obtain⟨_,_,h2⟩:=World.cells?_some hcs;have q0:=h2 0 (by omega);rw[wx4,Nat.add_zero] at q0;exact⟨z,q0⟩
  refine⟨some a,len,cap,λi=>match W.cell? (a.add i) with | some (.int .i64 z)=>z | _=>0,rfl,wl5 _ hl hm (λ_ _=>rfl) ?_⟩
  by_cases h0:len=0
  ·exact .inl h0
  ·refine .inr ⟨a,rfl,?_,λi hi j hj=>?_⟩
   ·have h1:=hel 0 (by omega);rw[List.getElem?_eq_getElem (show 0<elems.length by omega),Option.bind_eq_some_iff] at h1;obtain⟨cs',hcs,_⟩:=h1;rw[cI] at hcs;have q:=World.cells?_block hcs (by omega);rw[wx5] at q;exact q
   ·obtain rfl:j=0:=by omega
    obtain⟨z,hz⟩:=hat i hi;rw[Nat.mul_one,Nat.add_zero];refine⟨_,hz,rfl,λu hu=>?_⟩;dsimp only at hu;rw[hz] at hu;obtain rfl:=oJ7 hu;exact .int
theorem wyt{P:Program}{w:World}{base fuel:Nat}{t:TypeId}{ms}{cs:List Value}{name:String}{d:DataW H}{p:List MemPlace}{sp:Nat->Bool}{hd:Bool}(ht:P.underlying t=some (.interface ms))
  (h:DataW.trod enc P w base sp hd fuel t cs=some (.iface name d,p)):∃u v,cs=[.iface u v]:=by
 cases fuel with
 |zero=>simp[DataW.trod] at h
 |succ n=>
  unfold DataW.trod at h;rw[ht] at h;split at h<;>simp_all
theorem wv0{n:String}{g:Nat}{t:TypeId}{ms}{w:World}{name:String}{d:DataW Unit}{r:List (String×DataW Unit)}{ps:List MemPlace}(hg:Tryz.prog.globalNamed n=some g)(ht:(Tryz.prog.globals[g]?).map (·.type)=some t)(hu:Tryz.prog.underlying t=some (.interface ms))
  (h:DataW.LaidVars Tryz.prog w ((n,.iface name d)::r) ps):∃u v,w.cell? ⟨g,0,none⟩=some (.iface u v):=by
 obtain⟨g',t',cs,fuel,p,q,hg',ht',hv,htr,_,_⟩:=h;obtain rfl:=oJ7 (hg.symm.trans hg');obtain rfl:=oJ7 (ht.symm.trans ht');obtain⟨u,v,hc⟩:=wyt hu htr;have:=World.var?_cell hg hv 0;refine⟨u,v,this.trans ?_⟩;rw[← Array.getElem?_toList,hc];rfl
theorem wiu{w:World}{x:String×DataW Unit}{r:List (String×DataW Unit)}{ps:List MemPlace}(h:DataW.LaidVars Tryz.prog w (x::r) ps):∃q,DataW.LaidVars Tryz.prog w r q:=by
 obtain⟨_,_,_,_,_,q,_,_,_,_,h,_⟩:=h;exact⟨q,h⟩
theorem w32{w:World}(h:w.ShapedOpen Tryz.prog):∃m,w.cell? ⟨0,0,none⟩=some (.int .i64 m):=
 cell_of_shapedOpen_int (t:=3) (zero:=#[.int .i64 0]) h (of_decide_eq_true (by kernel_rfl)) (by kernel_rfl) rfl (by kernel_rfl) (by kernel_rfl) (by kernel_rfl)
noncomputable def msE:Array (String×TypeId):=match Tryz.prog.underlying 160 with
 |some (.interface ms)=>ms
 |_=>#[]
theorem gErrS : Tryz.prog.globalNamed "strconv.ErrSyntax" = some 4 := by kernel_rfl
theorem gErrR : Tryz.prog.globalNamed "strconv.ErrRange" = some 5 := by kernel_rfl
theorem w4e{w:World}{n:String}{k:IntKind}{zs:List Int}{r:List (String×DataW Unit)}{ps:List MemPlace}{g t e m:Nat}(hg:Tryz.prog.globalNamed n=some g)(hty:(Tryz.prog.globals[g]?).map (·.type)=some t)(ht:Tryz.prog.underlying t=some (.array m e))
  (he:Tryz.prog.underlying e=some (.int k)) (hce:Tryz.prog.cellsOf e=1) (hct:Tryz.prog.cellsOf t=m) (h:DataW.LaidVars Tryz.prog w ((n,Lib.tabData k zs)::r) ps):Lib.TabIs Tryz.prog w n k zs:=by
 obtain⟨g',t',cs,fuel,p,q,hg',ht',hvar,hd,_,_⟩:=h;obtain rfl:=oJ7 (hg.symm.trans hg');obtain rfl:=oJ7 (hty.symm.trans ht');unfold Lib.TabIs;rw[hvar, ← Lib.cells_of_tab ht he hce hct hd]
theorem gPow : Tryz.prog.globalNamed "internal/strconv.uint64pow10" = some 1 := by kernel_rfl
noncomputable def tPow:TypeId:=((Tryz.prog.globals[1]?).map (·.type)).getD 0
noncomputable def ePow:TypeId:=match Tryz.prog.underlying tPow with
 |some (.array _ e)=>e
 |_=>0
theorem powTab:(Go.Proofs.YtgcboligphndhaaGreatDoor.Rows.laid_internal_strconv_uint64pow10:DataW Unit)=Lib.tabData .u64 Lib.pow10Tab:=by kernel_rfl
theorem w4g{w:World}(hL:laidMetH Tryz.prog Go.Proofs.YtgcboligphndhaaGreatDoor.Rows.collectionMarksRow.laid w)(hsh:w.ShapedOpen Tryz.prog):LaidW w:=by
 have h':laidMet Tryz.prog Go.Proofs.YtgcboligphndhaaGreatDoor.Rows.collectionMarksRow.laid w:=hL;obtain⟨ps,h0,_⟩:=h';obtain⟨_,h1⟩:=wiu h0;obtain⟨_,h2⟩:=wiu h1;obtain⟨_,h3⟩:=wiu h2;obtain⟨_,h4⟩:=wiu h3;obtain⟨_,h5⟩:=wiu h4;exact⟨w32 hsh,wv0 gErrS (t:=160) (ms:=msE) (by kernel_rfl) (by kernel_rfl) h5,wv0 gErrR (t:=160) (ms:=msE) (by kernel_rfl) (by kernel_rfl) h4,
  w4e (r:=_) gPow (t:=tPow) (e:=ePow) (m:=20) (by kernel_rfl) (by kernel_rfl) (by kernel_rfl) (by kernel_rfl) (by kernel_rfl) (powTab ▸ h2)⟩
end Go.Eng
namespace Go.Eng
open Go.Proofs Go.RowKit
def litV:DataW Unit->Value
 |.lit (.int k n)=>.int k n
 |_=>default
def whh:DataW Unit->List (DataW Unit)
 |.agg l=>l
 |x=>[x]
noncomputable def low:Nat:=(World.holding Tryz.prog default ⟨#[],#[],[]⟩).heap.size
noncomputable def wv1 (os:Os):World:=
 let w0:=World.holding Tryz.prog os ⟨#[.cells #[.string ⟨#[118,97,108,117,101,32,111,117,116,32,111,102,32,114,97,110,103,101]⟩] 300,.cells #[.string ⟨#[105,110,118,97,108,105,100,32,115,121,110,116,97,120]⟩] 300],#[],[]⟩
 let put (h:Array Obj) (g:Nat) (cs:Array Value):Array Obj:=h.modify g fun
  |.cells _ t frozen=>.cells cs t frozen
  |o=>o
 let h1:=put w0.heap 2 ((whh Go.Proofs.YtgcboligphndhaaGreatDoor.Rows.laid_math_bits_deBruijn32tab).map litV).toArray
 let h2:=put h1 3 ((whh Go.Proofs.YtgcboligphndhaaGreatDoor.Rows.laid_math_bits_deBruijn64tab).map litV).toArray
 let h3:=put h2 1 ((whh Go.Proofs.YtgcboligphndhaaGreatDoor.Rows.laid_internal_strconv_uint64pow10).map litV).toArray
 let h4:=put h3 7 (((whh Go.Proofs.YtgcboligphndhaaGreatDoor.Rows.laid_unicode_utf8_acceptRanges).flatMap whh).map litV).toArray
 let h5:=put h4 6 ((whh Go.Proofs.YtgcboligphndhaaGreatDoor.Rows.laid_unicode_utf8_first).map litV).toArray
 let h6:=put h5 5 #[.iface 298 (.pointer (some ⟨low,0,none⟩))]
 let h7:=put h6 4 #[.iface 298 (.pointer (some ⟨low+1,0,none⟩))]
 { w0 with heap:=h7 }
theorem w4f(os:Os)(args:Array Value):laidMet Tryz.prog Go.Proofs.YtgcboligphndhaaGreatDoor.Rows.collectionMarksRow.laid ((wv1 os).forCall (λ_ _=>0) ⟨#[],args,[]⟩).memory:=
 laidMet_of_run3 8 (by kernel_rfl) (by kernel_rfl) (by kernel_rfl)
end Go.Eng
namespace Go.Eng
open Go.Proofs Go.RowKit Go.ChangeShapes Go.WideShapes Go.ChangeAt
theorem mixedOK:Tryz.prog.follows .mixedOrders=true:=by kernel_rfl
def gTop:Nat:=max (max (max 0 4) 5) 1+1
theorem keepOK(w w':World)(h:∀b,b<gTop->w'.heap[b]?=w.heap[b]?)(hl:LaidW w):LaidW w':=by
 have k:∀g:Nat,g<gTop->w'.cell? ⟨g,0,none⟩=w.cell? ⟨g,0,none⟩:=λg hg=>World.cell?_of_block (w:=w) (h g hg);obtain⟨h1,h2,h3,h4⟩:=hl;refine⟨by rw[k _ (by decide)];exact h1,by rw[k _ (by decide)];exact h2,by rw[k _ (by decide)];exact h3,?_⟩;have e:=h 1 (by decide);unfold Lib.TabIs at h4 ⊢;rw[← h4];simp only[World.var?,gPow,Option.bind_some,e]
noncomputable def cx:Ctx:=⟨Tryz.prog,gTop,LaidW,mixedOK,keepOK,false⟩
instance:Ctx.Loose cx:=⟨rfl⟩
theorem wlt{w:World}{g:Nat}{v:Value}(h:w.cell? ⟨g,0,none⟩=some v):g<w.heap.size:=by
 have hc:w.cells? 0 ⟨g,0,none⟩ 1=some [v]:=Go.ChangeShapes.cells?_of (by omega) rfl (λi hi=>by
  obtain rfl:i=0:=by omega
  exact h)
 exact World.cells?_block hc (by omega)
theorem gsz_le{w:World}(h:LaidW w):cx.gsz<=w.heap.size:=by
 obtain⟨⟨_,h1⟩,⟨_,_,h2⟩,⟨_,_,h3⟩,h4⟩:=h;have a:=wlt h1;have b:=wlt h2;have c:=wlt h3;have d:=wlt (h4.cell gPow 0 (by decide));show max (max (max _ _) _) _+1<=_;omega
theorem ownK:ownKnob Tryz.prog.godebug=none:=by kernel_rfl
theorem wiv:laidOutB Tryz.prog=true:=by kernel_rfl
end Go.Eng
