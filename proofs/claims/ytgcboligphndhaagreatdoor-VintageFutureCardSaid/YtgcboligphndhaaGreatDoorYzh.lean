/- The tied card of VintageFuture: its statement is 'VintageFutureCardSaid' of the given cards. -/
import Derived.Test.YtgcboligphndhaaGreatDoorYv
import Derived.Test.YtgcboligphndhaaGreatDoorYzg
import Derived.Test.YtgcboligphndhaaGreatDoorYo
import Derived.Test.YtgcboligphndhaaGreatDoorYp
import Derived.Test.YtgcboligphndhaaGreatDoorYn
import Derived.Test.YtgcboligphndhaaGreatDoorCards
import Derived.Test.YtgcboligphndhaaGreatDoorTie
import Derived.SevenTiedAt
namespace Go.Eng
open Go.Proofs Go.RowKit
variable {C:Ctx} [C.Loose]
set_option maxRecDepth 20000
theorem nf_fu (n:Nat) (v:Nat→Int) (R:AV→List (Nat×AObj)→Prop):wpFn te [(38,.rel wnk),(42,.det wba)] [(5,woe n v),(1010,wof)] 0 Tryz.f11 [.view 1 n (waa v)] [] R=(27=27∧1=1∧waa v=waa (vInt (waa v))∧((0:Int)≤(0:Int)∧(0:Int)≤(4611686018427300000:Int))∧∀ (L:List FL) (a':Int),List.length L≤8→(0:Int)≤a'∧a'≤(0:Int)+(25000:Int)→(∀ (F:FL),F∈L→FL.Tn F)→(∀ (i:Nat),i<List.length L→true=true)∧27=27∧1=1∧waa v=waa (vInt (waa v))∧((0:Int)≤a'∧a'≤(4611686018427300000:Int))∧∀ (L_1:List FL) (a'_1:Int),List.length L_1≤8→a'≤a'_1∧a'_1≤a'+(25000:Int)→(∀ (F:FL),F∈L_1→FL.Tn F)→(∀ (i:Nat),i<List.length L_1→true=true)∧(27=27∧1=1∧waa v=waa (vInt (waa v))∧((1:Int)≤(6:Int)∧(6:Int)≤(1000000:Int))∧(0:Int)≤a'_1∧a'_1≤(4611686018427387904:Int))∧inR .i64 ((43860:Int)+wab n (vInt (waa v)) a'_1 (6:Int))∧∃ (A:List FL),∃ (B:List FL),∃ (d:Int),∃ (a:Int),(TEq [(3,.ptr 0 0),(4,.own 1 (List.length L)),(5,.own 2 (List.length L_1)),(6,.int .i64 ((43860:Int)+wab n (vInt (waa v)) a'_1 (6:Int))),(20,.int .i64 (↑(List.length L_1):Int)),(21,.int .i64 0)] [(3,.ptr 0 0),(4,.own 1 (List.length A)),(5,.own 2 (List.length B)),(6,.int .i64 d),(20,.int .i64 (↑(List.length B):Int)),(21,.int .i64 (↑(FuS.k (FuS.mk 0 B a)):Int))]∧wae [(0,.cells [.view 1 n (waa v),.int .i64 (a'_1+(1:Int))] 27),(1,.row 49 7 (List.length L) (wac (atF L)) false),(2,.row 49 7 (List.length L_1) (wac (atF L_1)) false)] [(0,.cells [.view 1 n (waa v),.int .i64 (FuS.a (FuS.mk 0 B a))] 27),(1,.row 49 7 (List.length A) (wac (atF A)) false),(2,.row 49 7 (List.length B) (wac (atF (FuS.M (FuS.mk 0 B a)))) false)])∧List.length A≤8∧List.length B≤8∧(∀ (F:FL),F∈A→FL.Tn F)∧(∀ (F:FL),F∈B→FL.Tn F)∧((0:Int)≤d∧d≤(100000:Int))∧((0:Int)≤a∧a≤(4611686018427365000:Int))∧∀ (M:List FL),List.length M=List.length B→(∀ (F:FL),F∈M→FL.Tn F)→(∀ (F:FL),F∈M→d<FL.day F)→(0≤16777216∧7=7∧0≤9223372036854775807)∧((List.length M≤List.length M∧7=7)∧0≤0∧7=7∧49=49∧7=7∧0+List.length M≤9223372036854775807∧(0+List.length M) * TI.bytes wb5≤140737488355328)∧((List.length A≤List.length A∧7=7)∧0+List.length M≤0+List.length M∧7=7∧49=49∧7=7∧0+List.length M+List.length A≤9223372036854775807∧(0+List.length M+List.length A) * TI.bytes wb5≤140737488355328)∧∃ (A_1:List FL),∃ (M_1:List FL),∃ (d_1:Int),(TEq [(4,.own 0 (List.length A)),(6,.int .i64 d),(8,.own 1 (0+List.length M+List.length A))] [(4,.own 0 (List.length A_1)),(6,.int .i64 d_1),(8,.own 1 (List.length (M_1++A_1)))]∧wae [(0,.row 49 7 (List.length A) (wac (atF A)) false),(1,.row 49 7 (0+List.length M+List.length A) (apF (0+List.length M) (apF 0 (waq (TI.sz wb5) (List.flatten (List.replicate 0 [.str ([]),.int .i64 0,.int .i64 0,.int .i64 0,.nil,.nil,.nil]))) (wac (atF M))) (wac (atF A))) false)] [(0,.row 49 7 (List.length A_1) (wac (atF A_1)) false),(1,.row 49 7 (List.length (M_1++A_1)) (wac (atF (M_1++A_1))) false)])∧List.length A_1≤8∧List.length M_1≤8∧(∀ (F:FL),F∈A_1→FL.Tn F)∧(∀ (F:FL),F∈M_1→FL.Tn F)∧(∀ (F:FL),F∈M_1→d_1<FL.day F)∧R (.bool true) []):=by kernel_rfl
theorem wzv (n:Nat) (v:Nat→Int) (A:List FL) (lb:Nat) (d:Int) (i:FuS) (P:FuS→Prop) (R:Exit→St→Prop):wa2 ⟨te,[(42,.det wba)],[],0,58,0⟩ (wa3 Tryz.f11 5) [3,4,5,6,20,21] [4,5,6] [] (wms n v A lb d) P R (wms n v A lb d i)=(letI z2:=(↑(FuS.k i):Int);letI z1:=(d+(1:Int)+wab n (vInt (waa v)) (FuS.a i) (9:Int));letI z0:=(atF (FuS.M i) (Int.toNat z2));wad (decide (z2<(↑lb:Int))) (inR .i64 (d+(1:Int))∧(27=27∧1=1∧waa v=waa (vInt (waa v))∧((1:Int)≤(9:Int)∧(9:Int)≤(1000000:Int))∧(0:Int)≤FuS.a i∧FuS.a i≤(4611686018427387904:Int))∧inR .i64 z1∧((0:Int)≤z2∧z2<(↑lb:Int))∧(List.length [AV.int .i64 z1]=1∧Int.toNat z2<lb∧7=7)∧inR .i64 (z2+(1:Int))∧∃ (i':FuS),(TEq [(3,.ptr 0 0),(4,.own 1 (List.length A)),(5,.own 2 lb),(6,.int .i64 d),(20,.int .i64 (↑lb:Int)),(21,.int .i64 (z2+(1:Int)))] [(3,.ptr 0 0),(4,.own 1 (List.length A)),(5,.own 2 lb),(6,.int .i64 d),(20,.int .i64 (↑lb:Int)),(21,.int .i64 (↑(FuS.k i'):Int))]∧wae [(0,.cells [.view 1 n (waa v),.int .i64 (FuS.a i+(1:Int))] 27),(1,.row 49 7 (List.length A) (wac (atF A)) false),(2,.row 49 7 lb (fun (k:Nat)=>if k=Int.toNat z2 then [.str (FL.id z0),.int .i64 (FL.ver z0),.int .i64 z1,.int .i64 (FL.kind z0),.view 15 (List.length (FL.ms z0)) (wag (atM (FL.ms z0))),.view 5 (List.length (FL.rs z0)) (wai (atR (FL.rs z0))),.view 5 (List.length (FL.ts z0)) (wah (atT (FL.ts z0)))] else wac (atF (FuS.M i)) k) false)] [(0,.cells [.view 1 n (waa v),.int .i64 (FuS.a i')] 27),(1,.row 49 7 (List.length A) (wac (atF A)) false),(2,.row 49 7 lb (wac (atF (FuS.M i'))) false)])∧P i') ((∀ (i:Nat),i<List.length A→true=true)∧(∀ (i:Nat),i<lb→true=true)∧∃ (O':List (Nat×AObj)),wae [(0,.row 49 7 (List.length A) (wac (atF A)) false),(1,.row 49 7 lb (wac (atF (FuS.M i))) false)] O'∧R (.exit 0) (St.mk [(4,.own 0 (List.length A)),(5,.own 1 lb),(6,.int .i64 d)] O' 2 []))):=by kernel_rfl
theorem nf_fu10 (A X:List FL) (d:Int) (Q:Exit→St→Prop):regP ⟨te,[(44,.det wlg),(46,.det wm3),(40,.det wlv),(31,.det wna)],[],0,58,0⟩ (regC Tryz.f11 10) [2] Q (wmt A X d 0)=(letI z8:=flOf (wac (atF X));letI z7:=Q .normal (St.mk [(2,.bool false)] [] 0 []);letI z5:=(List.length X≤1000∧wac (atF X)=wac z8∧∀ (i:Nat),i<List.length X→FL.Gd (flOf (wac (atF X)) i));letI z2:=flOf (wac (atF A));letI z6:=(List.length A≤1000∧wac (atF A)=wac z2∧∀ (i:Nat),i<List.length A→FL.Gd (flOf (wac (atF A)) i));letI z4:=cfL okV z2 (List.length A) d;letI z3:=vwL okV z2 (List.length A) d;letI z1:=cfL okV z8 (List.length X) d;letI z0:=vwL okV z8 (List.length X) d;z5∧z6∧(List.length z0≤1000000∧List.length z3≤1000000∧wac (atF z0)=wac (flOf (wac (atF z0)))∧wac (atF z3)=wac (flOf (wac (atF z3)))∧(∀ (i:Nat),i<List.length z0→FL.Rg (flOf (wac (atF z0)) i))∧∀ (i:Nat),i<List.length z3→FL.Rg (flOf (wac (atF z3)) i))∧wad (decide (List.length z0=List.length z3) && eqFs (flOf (wac (atF z0))) (flOf (wac (atF z3))) (List.length z0)) (z5∧z6∧(List.length z1≤1000000∧List.length z4≤1000000∧wac (atF z1)=wac (flOf (wac (atF z1)))∧wac (atF z4)=wac (flOf (wac (atF z4)))∧(∀ (i:Nat),i<List.length z1→FL.Rg (flOf (wac (atF z1)) i))∧∀ (i:Nat),i<List.length z4→FL.Rg (flOf (wac (atF z4)) i))∧wad (decide (List.length z1=List.length z4) && eqFs (flOf (wac (atF z1))) (flOf (wac (atF z4))) (List.length z1)) (True∧Q .normal (St.mk [(2,.bool true)] [] 0 [])) z7) z7):=by kernel_rfl
theorem atF_app (M A:List FL) (i:Nat):atF (M++A) i=if i<M.length then atF M i else atF A (i - M.length):=by
 unfold atF
 rw [List.getD_eq_getElem?_getD,List.getElem?_append]
 split<;>rw [List.getD_eq_getElem?_getD]
theorem wv8 (M:List FL) (k:Nat) (F:FL) (i:Nat) (hk:k<M.length):atF (M.set k F) i=if i=k then F else atF M i:=by
 unfold atF
 rw [List.getD_eq_getElem?_getD,List.getElem?_set]
 by_cases h:i=k
 ·rw [if_pos h,if_pos h.symm,if_pos hk];rfl
 ·rw [if_neg h,if_neg (fun e=>h e.symm),List.getD_eq_getElem?_getD]
theorem fu_row (c:Nat→List AV) (M A:List FL) (i:Nat):apF (0+M.length) (apF 0 c (wac (atF M))) (wac (atF A)) i=wac (atF (M++A)) i:=by
 unfold apF wac
 rw [atF_app,Nat.zero_add]
 by_cases h:i<M.length
 ·rw [if_pos h,if_neg (Nat.not_lt_zero _),if_pos h];rfl
 ·rw [if_neg h,if_neg h]
theorem wwn {A M:List FL} {d:Int} (h:∀ F∈M,d<F.day):vwL okV (atF (M++A)) (M++A).length d=vwL okV (atF A) A.length d∧cfL okV (atF (M++A)) (M++A).length d=cfL okV (atF A) A.length d:=by
 have e:=w1b (ok:=okV) (g:=atF A) (n:=A.length) (h:=atF (M++A)) (m:=(M++A).length) (k:=M) (d:=d) (fun x=>by rw [wtx,wtx];exact List.mem_append) h
 unfold vwL cfL
 rw [e]
 exact ⟨rfl,rfl⟩
theorem fu_frz (A X:List FL) (d:Int):frzX 0 [] (frzX 1 [] (wrc A X d))=wmt A X d 2:=by
 have b1:Nat.ble A.length A.length=true:=Nat.ble_eq_true_of_le (Nat.le_refl _)
 have b2:Nat.ble X.length X.length=true:=Nat.ble_eq_true_of_le (Nat.le_refl _)
 have c1:Nat.beq 0 1=false:=rfl
 have c2:Nat.beq 1 0=false:=rfl
 simp [wrc,wmt,frzX,lk,frzT,frzC,frzA,frz,rm,mapO,mapR,hasN,b1,b2,c1]
theorem w11 (hP:C.P=Tryz.prog) (hL:∀ w,C.laid w→LaidW w):waj C 0 58 (regC Tryz.f11 10) wof:=by
 rintro st Q ⟨A,M,d,h0,hA,hM,tA,tM,hd,hQ⟩
 refine AWP.canonIs (te:=te) [4,6,8] h0 (AWP.frzX 1 [] (fun _ _=>rfl) (AWP.frzX 0 [] (fun _ _=>rfl) ?_)) ⟨fun _ _=>rfl,fun _ _=>rfl,trivial⟩
 rw [fu_frz]
 refine waj.reg (S:=wmt A (M++A) d 0) (prg hP) [(44,.det wlg),(46,.det wm3),(40,.det wlv),(31,.det wna)] 0 (.cons (wrp hP hL) (.cons (w2x hP hL) (.cons (wxh hP) (.cons (w3p hP hL) .nil)))) [4,6,8] [2] (show _=_ from rfl) ?_ trivial
 rw [nf_fu10]
 repeat rw [wdo]
 obtain ⟨e1,e2⟩:=wwn (A:=A) hd
 have gA:=lGd tA
 have hl:(M++A).length≤1000:=by rw [List.length_append];omega
 have gX:=lGd (L:=M++A) (fun F hF=>(List.mem_append.1 hF).elim (tM F) (tA F))
 have g1:=vw_gd (d:=d) gA
 have g2:=cf_gd (d:=d) gA
 have l1:=vw_len (atF A) A.length d
 have l2:=cf_len (atF A) A.length d
 rw [e1,e2,sameFT,sameFT]
 repeat rw [condP_true]
 exact ⟨⟨hl,rfl,gX⟩,⟨by omega,rfl,gA⟩,⟨by omega,by omega,rfl,rfl,rgL g1,rgL g1⟩,⟨hl,rfl,gX⟩,⟨by omega,rfl,gA⟩,⟨by omega,by omega,rfl,rfl,rgL g2,rgL g2⟩,trivial,hQ⟩
theorem w10 (hP:C.P=Tryz.prog) (n:Nat) (v:Nat→Int):waj C 0 58 (wam Tryz.f11 5) (woe n v):=by
 rintro st Q ⟨A,B,d,a,h0,hA,hB,tA,tB,hd,ha,hQ⟩
 refine waj.mk (prg hP) [(42,.det wba)] 0 (.cons (wb7 hP) .nil) [3,4,5,6,20,21] [4,5,6] [] (wms n v A B.length d)
  (fun i=>i.M.length=B.length∧(∀ F∈i.M,F.Tn)∧i.k≤B.length∧(∀ j,j<i.k→d<(atF i.M j).day)∧(a≤i.a∧i.a≤a+i.k)) (fun i=>B.length - i.k) ⟨0,B,a⟩ ⟨rfl,tB,Nat.zero_le _,fun j hj=>absurd hj (Nat.not_lt_zero j),by simp⟩ h0 (fun i hi=>?_) (fun i=>⟨fun _ _=>rfl,fun _ _=>rfl,trivial⟩)
 obtain ⟨hl,hT,hk,hdk,ha1,ha2⟩:=hi
 rw [wzv,show vInt (waa v)=v from rfl,Int.toNat_natCast]
 refine wak (fun q=>?_) (fun q=>?_)
 ·have hkb:i.k<B.length:=by omega
  have r:=wav (show (1:Int)≤9 by omega) n v i.a
  have rx:inR .i64 (d+1+wab n v i.a 9):=by simp only [inR];omega
  refine ⟨by simp only [inR];omega,⟨rfl,rfl,rfl,⟨by omega,by omega⟩,by omega,by omega⟩,rx,⟨by omega,by omega⟩,⟨rfl,hkb,rfl⟩,by simp only [inR];omega,?_⟩
  generalize hx:d+1+wab n v i.a 9=x at *
  refine ⟨⟨i.k+1,i.M.set i.k ⟨(atF i.M i.k).id,(atF i.M i.k).ver,x,(atF i.M i.k).kind,(atF i.M i.k).ms,(atF i.M i.k).rs,(atF i.M i.k).ts⟩,i.a+1⟩,⟨rfl,rfl,⟨rfl,rfl,rfl,rfl,rfl,fun _ _=>rfl⟩,⟨rfl,rfl,rfl,rfl,rfl,fun j hj=>?_⟩,trivial⟩,⟨(List.length_set ..).trans hl,fun F hF=>?_,hkb,fun j hj=>?_,by dsimp only;omega,by dsimp only;omega⟩,by dsimp only;omega⟩
  ·show _=wac (atF (List.set ..)) j
   unfold wac
   rw [wv8 _ _ _ _ (hl ▸ hkb)]
   show (if j=i.k then _ else _)=_
   by_cases e:j=i.k
   ·rw [if_pos e]
    simp only [if_pos e]
   ·rw [if_neg e]
    simp only [if_neg e]
  ·have hm:=hT _ (wd9 (hl ▸ hkb:i.k<i.M.length))
   rcases List.mem_or_eq_of_mem_set hF with h | h
   ·exact hT F h
   ·subst h
    exact ⟨hm.id,hm.ver,hm.kind,hm.m,hm.r,hm.t⟩
  ·show d<(atF (List.set ..) j).day
   rw [wv8 _ _ _ _ (hl ▸ hkb)]
   split
   ·show d<x;omega
   ·exact hdk j (by have:j<i.k+1:=hj;omega)
 ·have hkb:i.k=B.length:=by omega
  have:=hQ i.M hl hT (fun F hF=>by
   obtain ⟨j,hj,rfl⟩:=List.mem_iff_getElem.1 hF
   have:=hdk j (by omega)
   rwa [wg5 hj] at this)
  rw [hl] at this
  exact ⟨fun _ _=>rfl,fun _ _=>rfl,_,wan _,this⟩
theorem fu_ok (hP:C.P=Tryz.prog) (hL:∀ w,C.laid w→LaidW w) (n:Nat) (v:Nat→Int):ADet C 11 [.view 1 n (waa v)] [] (.bool true) []:=by
 refine waf.wpL (prg hP) [(38,.rel wnk),(42,.det wba)] [(5,woe n v),(1010,wof)] 0 (.cons (w03 hP) (.cons (wb7 hP) .nil)) (hP ▸ Tryz.func11) rfl rfl rfl [(wam Tryz.f11 5,woe n v),(regC Tryz.f11 10,wof)] (by kernel_rfl) ⟨w10 hP n v,w11 hP hL,trivial⟩ ?_
 rw [nf_fu,show vInt (waa v)=v from rfl]
 refine ⟨rfl,rfl,rfl,⟨by omega,by omega⟩,fun L a hl ha hT=>⟨fun _ _=>rfl,rfl,rfl,rfl,⟨by omega,by omega⟩,fun L1 a1 hl1 ha1 hT1=>?_⟩⟩
 have r:=wav (show (1:Int)≤6 by omega) n v a1
 refine ⟨fun _ _=>rfl,⟨rfl,rfl,rfl,⟨by omega,by omega⟩,by omega,by omega⟩,by simp only [inR];omega,L,L1,_,a1+1,⟨rfl,rfl,⟨rfl,rfl,rfl,rfl,rfl,fun _ _=>rfl⟩,⟨rfl,rfl,rfl,rfl,rfl,fun _ _=>rfl⟩,trivial⟩,hl,hl1,hT,hT1,⟨by omega,by omega⟩,⟨by omega,by omega⟩,fun M hM tM hd=>?_⟩
 have hn:0+M.length+L.length=(M++L).length:=by rw [List.length_append,Nat.zero_add]
 refine ⟨⟨by omega,rfl,by omega⟩,⟨⟨Nat.le_refl _,rfl⟩,Nat.le_refl _,rfl,rfl,rfl,by omega,?_⟩,⟨⟨Nat.le_refl _,rfl⟩,Nat.le_refl _,rfl,rfl,rfl,by omega,?_⟩,L,M,_,⟨by rw [hn];rfl,⟨rfl,rfl,rfl,rfl,rfl,fun _ _=>rfl⟩,⟨rfl,rfl,rfl,hn,rfl,fun i _=>fu_row _ _ _ _⟩,trivial⟩,hl,by omega,hT,tM,hd,rfl,rfl⟩
 ·show (0+M.length) * 112≤_
  omega
 ·show (0+M.length+L.length) * 112≤_
  omega
end Go.Eng
namespace Go.Eng
open Go.Proofs Go.RowKit Go.ChangeShapes Go.WideShapes Go.ChangeAt
theorem params_Ft:Tryz.f11.params=#[23]:=by kernel_rfl
set_option maxRecDepth 100000 in
theorem w04 (os:Os) (started:os.Started) (H:Type) (enc:TypeId×Value→H):
  ReturnsInHanded {} Tryz.checked os 11 .any (fun w args=>(Go.Proofs.YtgcboligphndhaaGreatDoor.Rows.vintageFutureSpec.pre enc Tryz.prog Tryz.f11 [] false w args∧laidMetH Tryz.prog Go.Proofs.YtgcboligphndhaaGreatDoor.Rows.vintageFutureRow.laid w)∧sizedMet enc Tryz.prog Tryz.f11 (OpenSpec.ofChange Go.Proofs.YtgcboligphndhaaGreatDoor.Rows.vintageFutureSpec) false w args)
   (Go.Proofs.YtgcboligphndhaaGreatDoor.Rows.vintageFutureSpec.post enc Tryz.prog Tryz.f11 false true false false):=by
 refine w1z (C:=Tryz.checked) (X:=fun w _=>laidMetH Tryz.prog Go.Proofs.YtgcboligphndhaaGreatDoor.Rows.vintageFutureRow.laid w) (fun _ _ _ hh h=>h.of_heap hh) ownK started (by kernel_rfl) Tryz.func11
  (ChangeSpec.witness_at (enc:=enc) (C:=Tryz.checked) (os:=os) (X:=fun w _=>laidMetH Tryz.prog Go.Proofs.YtgcboligphndhaaGreatDoor.Rows.vintageFutureRow.laid w) false (wt3 os) #[.slice none 0 0] 8 rfl (by kernel_rfl) (by kernel_rfl) (by kernel_rfl) (by kernel_rfl) (by kernel_rfl) (w09 os _)) ?_
 intro W base args ds gs before hval0 hW hL hsh
 have hval:∀ (j:Nat) t v,Tryz.f11.params[j]?=some t→args[j]?=some v→Value.okWide Tryz.prog W .any base t v:=hval0
 have hW':=hW
 obtain ⟨p,q,hA0,hV,rfl,hfz,hnd⟩:=hW
 have hA:DataW.TrodAll enc Tryz.prog W 0 (fun _=>true) true Tryz.f11.params.toList args.toList ds p:=hA0
 rw [params_Ft] at hA hval
 obtain ⟨v0,vs0,d0,ds0,p0,q0,hargs,rfl,rfl,h0,r0⟩:=trodAll_cons hA
 obtain ⟨rfl,rfl,rfl⟩:=trodAll_nil r0
 obtain rfl:args=#[v0]:=by cases args;simp_all
 obtain ⟨rfl,rfl⟩:=trodVars_none hV
 obtain ⟨a0,len0,cap0,rfl⟩:=okWide_slice undIs (hval 0 23 v0 rfl rfl)
 have k0:=h0
 have lt0:∀ x∈p0,x.block<W.heap.size:=by obtain ⟨m,hm⟩:=k0;exact DataW.trod_lt m _ _ _ hm
 obtain ⟨m0,hm0⟩:=h0
 obtain ⟨A0,n0,c0,w0,e0,V0⟩:=wxo hm0
 have e0:[Value.slice a0 len0 cap0]=[Value.slice A0 n0 c0]:=e0
 simp only [List.cons.injEq,and_true] at e0
 rw [← e0] at V0
 have lw:=w1a hL hsh
 refine (ADet.top (C:=cx) (fu_ok rfl (fun _ h=>h) n0 w0) lw (gsz_le lw) (cargs:=[.slice a0 len0 cap0]) rfl (fun j x u hx hu=>?_)).mono fun e W' ⟨he,bel⟩=>?_
 ·match j with
  |0=>obtain rfl:=Option.some.inj hx;obtain rfl:=Option.some.inj hu;exact V0
  |j+1=>simp at hx
 ·subst he
  exact ⟨_,rfl,_,_,_,[],_,[],hW',trodAll_mk1 (shut_bool (show Tryz.prog.underlying 4=some .bool by kernel_rfl) _),(trodAll_cons_mk (Below.trod wt4 (by kernel_rfl) (of_decide_eq_true (by kernel_rfl)) k0 bel lt0) trodAll_mk0),rfl,bel.frame _,fun h=>by cases h⟩
set_option maxRecDepth 100000 in
theorem over_Ft:Go.Proofs.YtgcboligphndhaaGreatDoor.Rows.vintageFutureRow.holds Go.Proofs.YtgcboligphndhaaGreatDoor.Tryz.pinned (OpenSpec.ofChange Go.Proofs.YtgcboligphndhaaGreatDoor.Rows.vintageFutureSpec):=
 OpenClaim.holds_of_wide 11 Tryz.f11 rfl rfl rfl rfl rfl rfl rfl ⟨rfl,rfl,rfl,rfl,rfl⟩ rfl rfl rfl rfl rfl (by kernel_rfl) Tryz.func11 w23
  inst_Ft (by unfold Func.isWrapper;rw [if_neg (of_decide_eq_false (by kernel_rfl))];exact ⟨rfl,rfl⟩)
  (fun os started H enc _=>w04 os started H enc)
end Go.Eng
namespace Go.Proofs.YtgcboligphndhaaGreatDoor
open Go
def harB : Bool × String := (true, "40fb3bd35b79f194dc6e91eb15eecf1db62dc7e1bded180275d4dc3755fccfaf")
set_option maxRecDepth 100000 in
theorem mainB:Tryz.prog.mainIs=some (harB.1,harB.2.toList):=by kernel_rfl
set_option maxRecDepth 100000 in
theorem looksB:true=Tryz.prog.looks []:=by kernel_rfl
end Go.Proofs.YtgcboligphndhaaGreatDoor
namespace Go.Proofs.YtgcboligphndhaaGreatDoor
open Go
set_option maxRecDepth 100000 in
theorem wf_Ft:Rows.vintageFutureRow.wfByText (OpenSpec.ofChange Rows.vintageFutureSpec)=true:=by kernel_rfl
set_option maxRecDepth 100000 in
theorem goes_Ft:false=Rows.vintageFutureRow.goesBy Tryz.prog:=by kernel_rfl
theorem w0i : Tryz.prog.funcNamed "priceoffice/priceofficelaw15.VintageFuture" = some 11 := by kernel_rfl
theorem ww6:Tryz.prog.wantsStandIn 23=false:=by kernel_rfl
theorem card_Ft:Rows.VintageFutureCardSaid:=
 Claim7.holds_tied_plain_at .later [] [.data,.data,.data,.data,.sentinel,.sentinel,.pinned] true harB true
  Go.Eng.over_Ft (fun _ h=>by cases h) wf_Ft (fun _ h=>by cases h) vintageFuture_row_tie rfl ⟨rfl,rfl⟩ mainB rfl
  (fun f fn hf hfn=>by
   obtain rfl:f=11:=Option.some.inj (w0i.symm.trans hf) |>.symm
   obtain rfl:fn=Tryz.f11:=(Option.some.inj (Tryz.func11.symm.trans hfn)).symm
   exact ⟨looksB,fun j t ht=>by
    rw [Go.Eng.params_Ft] at ht
    have h3:t=23:=by
     rcases j with _ | j
     ·exact by simpa using ht.symm
     ·simp at ht
    rcases h3 with rfl
    ·exact ww6⟩)
  goes_Ft
end Go.Proofs.YtgcboligphndhaaGreatDoor
