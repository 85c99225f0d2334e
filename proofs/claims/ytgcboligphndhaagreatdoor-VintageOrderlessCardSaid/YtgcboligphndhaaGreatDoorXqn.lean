/- What all rows share: the context of the engine at this program. -/
import Derived.Test.YtgcboligphndhaaGreatDoorXqm
import Derived.Test.YtgcboligphndhaaGreatDoorRows
import Derived.Shelf.Vars
import Derived.FnData
import Derived.LaidLaws
import Derived.Deep.DeepLaidRun
import Derived.WalkKit
import Derived.OpenShut
import Derived.ShutString
import Derived.ChangeOld
namespace Go.Eng
open Go.Proofs Go.RowKit
variable {H:Type} {enc:TypeId×Value->H} {W:World}
theorem wwy{P:Program}{w:World}{base fuel:Nat}{t:TypeId}{ms}{cs:List Value}{name:String}{d:DataW H}{p:List MemPlace}{sp:Nat->Bool}{hd:Bool}(ht:P.underlying t=some (.interface ms))
  (h:DataW.trod enc P w base sp hd fuel t cs=some (.iface name d,p)):∃u v,cs=[.iface u v]:=by
 cases fuel with
 |zero=>simp[DataW.trod] at h
 |succ n=>
  unfold DataW.trod at h;rw[ht] at h;split at h<;>simp_all
theorem wt9{n:String}{g:Nat}{t:TypeId}{ms}{w:World}{name:String}{d:DataW Unit}{r:List (String×DataW Unit)}{ps:List MemPlace}(hg:Tryz.prog.globalNamed n=some g)(ht:(Tryz.prog.globals[g]?).map (·.type)=some t)(hu:Tryz.prog.underlying t=some (.interface ms))
  (h:DataW.LaidVars Tryz.prog w ((n,.iface name d)::r) ps):∃u v,w.cell? ⟨g,0,none⟩=some (.iface u v):=by
 obtain⟨g',t',cs,fuel,p,q,hg',ht',hv,htr,_,_⟩:=h;obtain rfl:=oJ7 (hg.symm.trans hg');obtain rfl:=oJ7 (ht.symm.trans ht');obtain⟨u,v,hc⟩:=wwy hu htr;have:=World.var?_cell hg hv 0;refine⟨u,v,this.trans ?_⟩;rw[← Array.getElem?_toList,hc];rfl
theorem wh9{w:World}{x:String×DataW Unit}{r:List (String×DataW Unit)}{ps:List MemPlace}(h:DataW.LaidVars Tryz.prog w (x::r) ps):∃q,DataW.LaidVars Tryz.prog w r q:=by
 obtain⟨_,_,_,_,_,q,_,_,_,_,h,_⟩:=h;exact⟨q,h⟩
theorem w06{w:World}(h:w.ShapedOpen Tryz.prog):∃m,w.cell? ⟨0,0,none⟩=some (.int .i64 m):=
 cell_of_shapedOpen_int (t:=3) (zero:=#[.int .i64 0]) h (of_decide_eq_true (by kernel_rfl)) (by kernel_rfl) rfl (by kernel_rfl) (by kernel_rfl) (by kernel_rfl)
noncomputable def msE:Array (String×TypeId):=match Tryz.prog.underlying 160 with
 |some (.interface ms)=>ms
 |_=>#[]
theorem gErrS : Tryz.prog.globalNamed "strconv.ErrSyntax" = some 4 := by kernel_rfl
theorem gErrR : Tryz.prog.globalNamed "strconv.ErrRange" = some 5 := by kernel_rfl
theorem w1j{w:World}{n:String}{k:IntKind}{zs:List Int}{r:List (String×DataW Unit)}{ps:List MemPlace}{g t e m:Nat}(hg:Tryz.prog.globalNamed n=some g)(hty:(Tryz.prog.globals[g]?).map (·.type)=some t)(ht:Tryz.prog.underlying t=some (.array m e))
  (he:Tryz.prog.underlying e=some (.int k)) (hce:Tryz.prog.cellsOf e=1) (hct:Tryz.prog.cellsOf t=m) (h:DataW.LaidVars Tryz.prog w ((n,Lib.tabData k zs)::r) ps):Lib.TabIs Tryz.prog w n k zs:=by
 obtain⟨g',t',cs,fuel,p,q,hg',ht',hvar,hd,_,_⟩:=h;obtain rfl:=oJ7 (hg.symm.trans hg');obtain rfl:=oJ7 (hty.symm.trans ht');unfold Lib.TabIs;rw[hvar, ← Lib.cells_of_tab ht he hce hct hd]
theorem gPow : Tryz.prog.globalNamed "internal/strconv.uint64pow10" = some 1 := by kernel_rfl
noncomputable def tPow:TypeId:=((Tryz.prog.globals[1]?).map (·.type)).getD 0
noncomputable def ePow:TypeId:=match Tryz.prog.underlying tPow with
 |some (.array _ e)=>e
 |_=>0
theorem powTab:(Go.Proofs.YtgcboligphndhaaGreatDoor.Rows.laid_internal_strconv_uint64pow10:DataW Unit)=Lib.tabData .u64 Lib.pow10Tab:=by kernel_rfl
theorem w1l{w:World}(hL:laidMetH Tryz.prog Go.Proofs.YtgcboligphndhaaGreatDoor.Rows.collectionMarksRow.laid w)(hsh:w.ShapedOpen Tryz.prog):LaidW w:=by
 have h':laidMet Tryz.prog Go.Proofs.YtgcboligphndhaaGreatDoor.Rows.collectionMarksRow.laid w:=hL;obtain⟨ps,h0,_⟩:=h';obtain⟨_,h1⟩:=wh9 h0;obtain⟨_,h2⟩:=wh9 h1;obtain⟨_,h3⟩:=wh9 h2;obtain⟨_,h4⟩:=wh9 h3;obtain⟨_,h5⟩:=wh9 h4;exact⟨w06 hsh,wt9 gErrS (t:=160) (ms:=msE) (by kernel_rfl) (by kernel_rfl) h5,wt9 gErrR (t:=160) (ms:=msE) (by kernel_rfl) (by kernel_rfl) h4,
  w1j (r:=_) gPow (t:=tPow) (e:=ePow) (m:=20) (by kernel_rfl) (by kernel_rfl) (by kernel_rfl) (by kernel_rfl) (by kernel_rfl) (powTab ▸ h2)⟩
end Go.Eng
namespace Go.Eng
open Go.Proofs Go.RowKit
def litV:DataW Unit->Value
 |.lit (.int k n)=>.int k n
 |_=>default
def wgx:DataW Unit->List (DataW Unit)
 |.agg l=>l
 |x=>[x]
noncomputable def low:Nat:=(World.holding Tryz.prog default ⟨#[],#[],[]⟩).heap.size
noncomputable def wua (os:Os):World:=
 let w0:=World.holding Tryz.prog os ⟨#[.cells #[.string ⟨#[118,97,108,117,101,32,111,117,116,32,111,102,32,114,97,110,103,101]⟩] 300,.cells #[.string ⟨#[105,110,118,97,108,105,100,32,115,121,110,116,97,120]⟩] 300],#[],[]⟩
 let put (h:Array Obj) (g:Nat) (cs:Array Value):Array Obj:=h.modify g fun
  |.cells _ t frozen=>.cells cs t frozen
  |o=>o
 let h1:=put w0.heap 2 ((wgx Go.Proofs.YtgcboligphndhaaGreatDoor.Rows.laid_math_bits_deBruijn32tab).map litV).toArray
 let h2:=put h1 3 ((wgx Go.Proofs.YtgcboligphndhaaGreatDoor.Rows.laid_math_bits_deBruijn64tab).map litV).toArray
 let h3:=put h2 1 ((wgx Go.Proofs.YtgcboligphndhaaGreatDoor.Rows.laid_internal_strconv_uint64pow10).map litV).toArray
 let h4:=put h3 7 (((wgx Go.Proofs.YtgcboligphndhaaGreatDoor.Rows.laid_unicode_utf8_acceptRanges).flatMap wgx).map litV).toArray
 let h5:=put h4 6 ((wgx Go.Proofs.YtgcboligphndhaaGreatDoor.Rows.laid_unicode_utf8_first).map litV).toArray
 let h6:=put h5 5 #[.iface 298 (.pointer (some ⟨low,0,none⟩))]
 let h7:=put h6 4 #[.iface 298 (.pointer (some ⟨low+1,0,none⟩))]
 { w0 with heap:=h7 }
theorem w1k(os:Os)(args:Array Value):laidMet Tryz.prog Go.Proofs.YtgcboligphndhaaGreatDoor.Rows.collectionMarksRow.laid ((wua os).forCall (λ_ _=>0) ⟨#[],args,[]⟩).memory:=
 laidMet_of_run3 8 (by kernel_rfl) (by kernel_rfl) (by kernel_rfl)
end Go.Eng
namespace Go.Eng
open Go.Proofs Go.RowKit Go.ChangeShapes Go.WideShapes Go.ChangeAt
theorem mixedOK:Tryz.prog.follows .mixedOrders=true:=by kernel_rfl
def gTop:Nat:=max (max (max 0 4) 5) 1+1
theorem keepOK(w w':World)(h:∀b,b<gTop->w'.heap[b]?=w.heap[b]?)(hl:LaidW w):LaidW w':=by
 have k:∀g:Nat,g<gTop->w'.cell? ⟨g,0,none⟩=w.cell? ⟨g,0,none⟩:=λg hg=>World.cell?_of_block (w:=w) (h g hg);obtain⟨h1,h2,h3,h4⟩:=hl;refine⟨by rw[k _ (by decide)];exact h1,by rw[k _ (by decide)];exact h2,by rw[k _ (by decide)];exact h3,?_⟩;have e:=h 1 (by decide);unfold Lib.TabIs at h4 ⊢;rw[← h4];simp only[World.var?,gPow,Option.bind_some,e]
noncomputable def cx:Ctx:=⟨Tryz.prog,gTop,LaidW,mixedOK,keepOK,false⟩
instance:Ctx.Loose cx:=⟨rfl⟩
theorem wkz{w:World}{g:Nat}{v:Value}(h:w.cell? ⟨g,0,none⟩=some v):g<w.heap.size:=by
 have hc:w.cells? 0 ⟨g,0,none⟩ 1=some [v]:=Go.ChangeShapes.cells?_of (by omega) rfl (λi hi=>by
  obtain rfl:i=0:=by omega
  exact h)
 exact World.cells?_block hc (by omega)
theorem gsz_le{w:World}(h:LaidW w):cx.gsz<=w.heap.size:=by
 obtain⟨⟨_,h1⟩,⟨_,_,h2⟩,⟨_,_,h3⟩,h4⟩:=h;have a:=wkz h1;have b:=wkz h2;have c:=wkz h3;have d:=wkz (h4.cell gPow 0 (by decide));show max (max (max _ _) _) _+1<=_;omega
theorem ownK:ownKnob Tryz.prog.godebug=none:=by kernel_rfl
theorem wub:laidOutB Tryz.prog=true:=by kernel_rfl
end Go.Eng
