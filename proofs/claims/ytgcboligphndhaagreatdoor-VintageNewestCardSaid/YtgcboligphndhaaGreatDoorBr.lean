/- The rows' products cut short: the loop's states. -/
import Derived.Test.YtgcboligphndhaaGreatDoorBq
import Derived.Test.YtgcboligphndhaaGreatDoorBm
import Derived.Test.YtgcboligphndhaaGreatDoorBl
import Derived.Test.YtgcboligphndhaaGreatDoorBp
namespace Go.Eng
open Go.Proofs Go.RowKit
set_option maxRecDepth 20000
theorem wwm (s:List UInt8) (R:AV→List (Nat×AObj)→Prop):wpFn te [(242,.det wkp),(244,.det wlp)] [(3,wme s)] 0 Tryz.f227 [.str s] [] R=(letI z2:=(∀ (i:Nat),i<List.length (words s)→true=true:Prop);letI z1:=(vInt fun (i:Nat)=>[.int .i64 (wb5 s i)]);letI z0:=List.length (words s);(List.length s<4294967281∧[(46:UInt8)]=[(46:UInt8)])∧(TEq [(0,.str s),(4,.own 0 0),(12,.view 1 z0 fun (i:Nat)=>[.str (List.getD (words s) i [])]),(13,.int .i64 (↑z0:Int)),(14,.int .i64 0)] [(0,.str s),(4,.own 0 0),(12,.view 1 z0 fun (i:Nat)=>[.str (List.getD (words s) i [])]),(13,.int .i64 (↑z0:Int)),(14,.int .i64 (↑0:Int))]∧wac [(0,.row 3 1 0 (fun (_x:Nat)=>[]) false)] [(0,.row 3 1 0 (fun (i:Nat)=>[.int .i64 (wb5 s i)]) false)])∧List.length s<4294967281∧z2∧(3=3∧false=false∧List.length (words s)=List.length (words s)∧List.length (words s)≤4611686018427387904∧(fun (i:Nat)=>[.int .i64 (wb5 s i)])=waf z1)∧z2∧waa (!decide ((bif wbi z0 z1 then (0:Int) else (64:Int))=(0:Int))) (R (.tuple [.nil,.int .i64 60]) []) (waa (!decide ((bif wbi z0 z1 then fmtZ z0 z1 else [])=s)) (R (.tuple [.nil,.int .i64 60]) []) (z2∧∃ (O':List (Nat×AObj)),wac [(0,.row 3 1 z0 (fun (i:Nat)=>[.int .i64 (wb5 s i)]) false)] O'∧R (.tuple [.own 0 z0,.int .i64 0]) O'))):=by kernel_rfl
theorem wwl (s:List UInt8) (k:Nat) (P:Nat→Prop) (R:Exit→St→Prop):wa2 ⟨te,[(243,.det wl4)],[],0,41,0⟩ (wa4 Tryz.f227 3) [0,4,12,13,14] [0,4] [] (wkv s) P R (wkv s k)=(letI z2:=(List.getD (words s) (Int.toNat (↑k:Int)) []);letI z1:=TI.mk (TypeDesc.int IntKind.i64) 1 8 (Value.int IntKind.i64 0) false;letI z0:=List.length (words s);waa (decide ((↑k:Int)<(↑z0:Int))) (((0:Int)≤(↑k:Int)∧(↑k:Int)<(↑z0:Int)∧1=1)∧List.length z2≤281474976710656∧(1≤16777216∧1=1∧1≤9223372036854775807)∧((1≤1∧1=1)∧k≤k∧1=1∧3=3∧1=1∧k+1≤9223372036854775807∧(k+1) * TI.bytes z1≤140737488355328)∧inR .i64 ((↑k:Int)+(1:Int))∧∃ (i':Nat),(TEq [(0,.str s),(4,.own 0 (k+1)),(12,.view 1 z0 fun (i:Nat)=>[.str (List.getD (words s) i [])]),(13,.int .i64 (↑z0:Int)),(14,.int .i64 ((↑k:Int)+(1:Int)))] [(0,.str s),(4,.own 0 i'),(12,.view 1 z0 fun (i:Nat)=>[.str (List.getD (words s) i [])]),(13,.int .i64 (↑z0:Int)),(14,.int .i64 (↑i':Int))]∧wac [(0,.row 3 1 (k+1) (apF k (fun (i:Nat)=>[.int .i64 (wb5 s i)]) (wa0 (TI.sz z1) (.int .i64 (wid z2)::List.append [] wcv))) false)] [(0,.row 3 1 i' (fun (i:Nat)=>[.int .i64 (wb5 s i)]) false)])∧P i') ((∀ (i:Nat),i<k→true=true)∧∃ (O':List (Nat×AObj)),wac [(0,.row 3 1 k (fun (i:Nat)=>[.int .i64 (wb5 s i)]) false)] O'∧R (.exit 0) (St.mk [(0,.str s),(4,.own 0 k)] O' 1 []))):=by kernel_rfl
variable {C:Ctx} [C.Loose]
theorem wu3 (hP:C.P=Tryz.prog) (hL:∀ w,C.laid w→LaidW w):wad C 242 wkp:=by
 rintro args objs U Os vc h hvc
 unfold wkp at h
 split at h<;>simp only [Option.some.injEq,Prod.mk.injEq,reduceCtorEq] at h
 rename_i s sep
 obtain ⟨rfl,rfl,rfl⟩:=h
 obtain ⟨hs,rfl⟩:=hvc
 refine wag.below ⟨Tryz.f242,hP ▸ Tryz.func242,rfl,by decide⟩ fun w M cargs hlaid _ hM hl hv=>?_
 obtain ⟨m,hm⟩:=(hL w hlaid).maxLen
 obtain ⟨a,b,rfl⟩:=mem2 hl
 have e1:=(hv 0 _ _ rfl rfl).str_iff
 have e2:=(hv 1 _ _ rfl rfl).str_iff
 subst e1;subst e2
 rw [hP]
 refine (Tryz.strings_Split ⟨s.toArray⟩ ⟨#[46]⟩ m w (by simpa [ByteArray.size] using hs) hm (by decide)).mono ?_
 rintro e w' ⟨rfl,rfl⟩
 have hd:=Lib.splitB_data ⟨#[46]⟩ 0 (Lib.countB ⟨s.toArray⟩ ⟨#[46]⟩) ⟨s.toArray⟩
 have hw:(Lib.splitB ⟨#[46]⟩ 0 (Lib.countB ⟨s.toArray⟩ ⟨#[46]⟩) ⟨s.toArray⟩).map (·.data.toList)=words s:=by
  rw [hd]
  simp [words,Lib.split]
 have hlen:(Lib.splitB ⟨#[46]⟩ 0 (Lib.countB ⟨s.toArray⟩ ⟨#[46]⟩) ⟨s.toArray⟩).length=(words s).length:=by rw [← hw];simp
 have hcnt:Lib.countB ⟨s.toArray⟩ ⟨#[46]⟩+1=(words s).length:=by
  rw [wgz]
 refine ⟨_,rfl,(Below.refl _ _).alloc (Nat.le_refl _) _,?_⟩
 rw [hcnt]
 have hle:=Lib.count_le s [46]
 refine V.newview hM (by simp [hlen]) (by rw [wgz];unfold maxLen;omega) (fun i v hv=>?_) (fun i v hv=>?_)
 ·rw [List.getElem?_toArray,List.getElem?_map] at hv
  obtain ⟨x,_,rfl⟩:=Option.map_eq_some_iff.1 hv
  exact rfl
 ·simp at hv
  obtain ⟨x,hx,rfl⟩:=hv
  refine ⟨_,rfl,.str ?_⟩
  have:(words s)[i]?=some x.data.toList:=by rw [← hw];simp [hx]
  simp [List.getD,this]
theorem atoi_ok (hP:C.P=Tryz.prog) (hL:∀ w,C.laid w→LaidW w):wad C 243 wl4:=by
 rintro args objs U Os vc h hvc
 unfold wl4 at h
 split at h<;>simp only [Option.some.injEq,Prod.mk.injEq,reduceCtorEq] at h
 rename_i s
 obtain ⟨rfl,rfl,rfl⟩:=h
 refine wag.below ⟨Tryz.f243,hP ▸ Tryz.func243,rfl,by decide⟩ fun w M cargs hlaid _ hM hl hv=>?_
 obtain ⟨a,rfl⟩:=mem1 hl
 have e1:=(hv 0 _ _ rfl rfl).str_iff
 subst e1
 rw [hP]
 have hsz:(⟨s.toArray⟩:ByteArray).size=s.length:=by simp [ByteArray.size]
 have hdt:(⟨s.toArray⟩:ByteArray).data.toList=s:=by simp
 have tup:∀ (w':World) (n:Int) (e:Value),V w' M nob (.tuple #[.int .i64 n,e]) (.tuple [.int .i64 n,.any]):=fun w' n e=>.tuple rfl fun j v u hv hu=>by
  match j with
  |0=>simp at hv hu;subst hv;subst hu;exact .int
  |1=>simp at hv hu;subst hv;subst hu;exact .any
  |j+2=>simp at hv
 unfold wid
 cases hh:Lib.atoiAll s with
 |ok v=>
  refine (Tryz.strconv_Atoi_ok ⟨s.toArray⟩ (by omega) v (by rw [hdt];exact hh) w).mono ?_
  rintro e w' ⟨rfl,hw⟩
  refine ⟨_,rfl,?_,tup _ _ _⟩
  rcases hw with rfl | ⟨t,rfl⟩
  ·exact Below.refl _ _
  ·exact Lib.bytesWorld_below _ _ _
 |range=>
  obtain ⟨t,p,he⟩:=(hL w hlaid).errR
  refine (Any.strconv_Atoi_range Tryz.laysC172 ⟨s.toArray⟩ (by omega) (by rw [hdt];exact hh) _ w he (.inr ⟨t,p,rfl⟩)).mono ?_
  rintro e w' ⟨N,rfl,_,_,hb⟩
  rw [hdt]
  exact ⟨_,rfl,hb,tup _ _ _⟩
 |_=>
  obtain ⟨t,p,he⟩:=(hL w hlaid).errS
  refine (Any.strconv_Atoi_syntax Tryz.laysC172 ⟨s.toArray⟩ (by omega) (by rw [hdt];exact hh) _ w he (.inr ⟨t,p,rfl⟩)).mono ?_
  rintro e w' ⟨N,rfl,_,_,hb⟩
  exact ⟨_,rfl,hb,tup _ _ _⟩
theorem wvr (hP:C.P=Tryz.prog) (hL:∀ w,C.laid w→LaidW w) (s:List UInt8):wae C 0 41 (wan Tryz.f227 3) (wme s):=by
 rintro st Q ⟨h0,hs,hQ⟩
 refine AWP.ownNil 4 3 1 ?_
 have hwl:(words s).length≤s.length+2:=by
  have:=Lib.count_le s [46]
  rw [wgz];omega
 refine wae.mk (prg hP) [(243,.det wl4)] 0 (.cons (atoi_ok hP hL) .nil) [0,4,12,13,14] [0,4] [] (wkv s) (fun k=>k≤(words s).length) (fun k=>(words s).length - k) 0 (Nat.zero_le _) h0 (fun k hk=>?_) (fun i=>⟨fun _ _=>rfl,trivial⟩)
 rw [wwl]
 refine war (fun h=>?_) (fun h=>⟨fun _ _=>rfl,_,wbz,?_⟩)
 ·have hlt:k<(words s).length:=by omega
  have hlw:((words s).getD k []).length≤s.length:=by
   have:=wun s ((words s).getD k []) (by simp [List.getD,hlt])
   exact this
  have hrow:∀ i,i<k+1→apF k (fun i=>[AV.int .i64 (wb5 s i)]) (wa0 1 [.int .i64 (wid ((words s).getD k []))]) i=[.int .i64 (wb5 s i)]:=by
   intro i hi
   unfold apF
   split
   ·rfl
   ·have:i=k:=by omega
    subst this
    rw [Nat.sub_self];rfl
  simp only [inR,Int.toNat_natCast]
  and_intros
  any_goals omega
  any_goals (simp;done)
  exact ⟨k+1,⟨rfl,⟨rfl,rfl,rfl,rfl,rfl,hrow⟩,trivial⟩,by omega,by omega⟩
 ·have:k=(words s).length:=by omega
  rw [this] at *
  exact hQ
theorem wvq (hP:C.P=Tryz.prog) (hL:∀ w,C.laid w→LaidW w):wbs C 227 wl8:=by
 rintro args objs R h
 unfold wl8 at h
 split at h
 ·rename_i s
  obtain ⟨hs,hR⟩:=h
  have hR:=wb4 hR
  refine wbs.wpL (prg hP) [(242,.det wkp),(244,.det wlp)] [(3,wme s)] 0 (.cons (wu3 hP hL) (.cons (wy9 hP) .nil)) (hP ▸ Tryz.func227) rfl rfl rfl
   [(wan Tryz.f227 3,wme s)] (by kernel_rfl) ⟨wvr hP hL s,trivial⟩ ?_
  rw [wwm]
  have hvi:(vInt fun i=>[AV.int .i64 (wb5 s i)])=wb5 s:=rfl
  rw [hvi]
  have hwl:(words s).length≤s.length+2:=by
   have:=Lib.count_le s [46]
   rw [wgz];omega
  refine ⟨⟨hs,rfl⟩,⟨rfl,⟨rfl,rfl,rfl,rfl,rfl,fun i hi=>by omega⟩,trivial⟩,hs,fun _ _=>rfl,⟨rfl,rfl,rfl,by omega,rfl⟩,fun _ _=>rfl,?_⟩
  cases hok:wbi (words s).length (wb5 s) with
  |false=>exact hR.2 (by unfold wdb;rw [hok];rfl)
  |true=>
   have e0:(!decide ((bif true then (0:Int) else 64)=0))=false:=rfl
   rw [e0]
   show waa (!decide (fmtZ (words s).length (wb5 s)=s)) _ _
   refine wc0 (fun h1=>hR.2 ?_) (fun h1=>⟨fun _ _=>rfl,_,wbz,hR.1 ?_⟩)
   ·unfold wdb;rw [hok,decide_eq_false h1];rfl
   ·unfold wdb;rw [hok];exact decide_eq_true h1
 ·exact h.elim
end Go.Eng
namespace Go.Eng
open Go.Proofs Go.RowKit
variable {C:Ctx} [C.Loose]
set_option maxRecDepth 20000
theorem ww1 (s:List UInt8) (R:AV→List (Nat×AObj)→Prop):wpFn te [(227,.rel wl8)] [] 0 Tryz.f198 [.str s] [] R=(List.length s<4294967281∧waa (wdb s) ((∀ (i:Nat),i<List.length (words s)→true=true)∧R (.int .i64 (↑(List.length (words s)):Int)) []) (waa (!decide (s=[])) (R (.int .i64 (-1:Int)) []) (R (.int .i64 0) []))):=by kernel_rfl
theorem wyc (hP:C.P=Tryz.prog) (hL:∀ w,C.laid w→LaidW w):wad C 198 wk9:=by
 rintro args objs U Os vc h hvc
 unfold wk9 at h
 split at h<;>simp only [Option.some.injEq,Prod.mk.injEq,reduceCtorEq] at h
 rename_i s
 obtain ⟨rfl,rfl,rfl⟩:=h
 refine wad.wp0 (prg hP) [(227,.rel wl8)] 0 (.cons (wvq hP hL) .nil) (hP ▸ Tryz.func198) rfl rfl rfl ?_
 rw [ww1]
 refine ⟨hvc,wat (fun h=>⟨fun _ _=>rfl,?_,rfl⟩) (fun h=>wc0 (fun h'=>⟨?_,rfl⟩) (fun h'=>⟨?_,rfl⟩))⟩
 ·unfold wfe;rw [h]
 ·unfold wfe;rw [h,decide_eq_false h']
 ·unfold wfe;rw [h,decide_eq_true h']
end Go.Eng
namespace Go.Eng
open Go.Proofs Go.RowKit
set_option maxRecDepth 20000
theorem nf_qty (d c a:Int) (R:AV→List (Nat×AObj)→Prop):wpFn te [] [] 0 Tryz.f200 [.agg [.int .i64 d,.int .i64 c,.int .i64 a]] [] R=(waa (decide (d<(1:Int))) (R (.int .i64 80) []) (waa (decide ((4:Int)<d)) (R (.int .i64 80) []) (waa (decide (c<(1:Int))) (R (.int .i64 81) []) (waa (decide ((100:Int)<c)) (R (.int .i64 81) []) (waa (decide (a<(1:Int))) (R (.int .i64 82) []) ((c≠(0:Int)∧inR .i64 (Int.tdiv (1099511627776:Int) c))∧waa (decide (Int.tdiv (1099511627776:Int) c<a)) (R (.int .i64 82) []) (R (.int .i64 0) []))))))):=by kernel_rfl
variable {C:Ctx} [C.Loose]
theorem qty_ok (hP:C.P=Tryz.prog):wad C 200 wku:=by
 have _:C.Loose:=inferInstance
 rintro args objs U Os vc h hvc
 unfold wku at h
 split at h<;>simp only [Option.some.injEq,Prod.mk.injEq,reduceCtorEq] at h
 rename_i d c a
 obtain ⟨rfl,rfl,rfl⟩:=h
 refine wad.wp0 (prg hP) [] 0 .nil (hP ▸ Tryz.func200) rfl rfl rfl ?_
 rw [nf_qty]
 refine wat (fun h1=>?_) (fun h1=>wat (fun h2=>?_) (fun h2=>wat (fun h3=>?_) (fun h3=>wat (fun h4=>?_) (fun h4=>wat (fun h5=>?_) (fun h5=>⟨wvk (of_decide_eq_false h3) (of_decide_eq_false h4),wat (fun h6=>?_) (fun h6=>?_)⟩)))))
 all_goals simp only [qtyF, *,cond_true,cond_false,and_self]
theorem ww7 (s:List UInt8) (r:Int) (R:AV→List (Nat×AObj)→Prop):wpFn te [(266,.det wgp),(267,.det wki)] [(38,wmu s),(5,wmt s (Utf8.encode r).data.toList),(25,fun _ _=>False)] 0 Tryz.f253 [.str s,.int .i32 r] [] R=(letI z3:=St.mk [(0,.str s),(175,.ptr 0 0)] [(0,.siter s 0)] 1 [];letI z1:=Array.toList (ByteArray.data (Utf8.encode r));letI z4:=(↑(List.length z1):Int);letI z2:=(St.mk [(0,.str s),(7,.str z1),(8,.int .i64 (z4 - (1:Int))),(9,.int .i64 (z4 - (1:Int)))] [] 0 []);letI z0:=(waa (decide (r=(65533:Int))) (some z3=some z3∧ascii s=true∧R (.int .i64 (-1:Int)) []) (True∧waa (!Lib.validRune r) (R (.int .i64 (-1:Int)) []) (True∧inR .i64 (z4 - (1:Int))∧some z2=some z2∧ascii s=true∧List.length s≤1000000∧2≤List.length z1∧List.length z1≤4∧128≤UInt8.toNat (List.getD z1 (List.length z1 - 1) (0:UInt8))∧R (.int .i64 (-1:Int)) []∧R (.int .i64 (-1:Int)) [])));waa (decide ((0:Int)≤r)) (waa (decide (r<(128:Int))) (inR .u8 r∧True∧R (.int .i64 (Lib.indexByte s (Nat.toUInt8 (Int.toNat r)))) []) z0) z0):=by kernel_rfl
theorem ww6 (s:List UInt8) (k:Nat) (P:Nat→Prop) (R:Exit→St→Prop):wa2 ⟨te,[],[],0,187,0⟩ (wa4 Tryz.f253 38) [0,175] [] [4] (wlf s) P R (wlf s k)=(waa (decide (k<List.length s)) (True∧waa (decide ((↑(Prod.fst (wbn s k)):Int)=(65533:Int))) (R .ret (St.mk [(4,.int .i64 (↑k:Int))] [] 0 [])) (∃ (i':Nat),some (St.mk [(0,.str s),(175,.ptr 0 0)] [(0,.siter s (k+Prod.snd (wbn s k)))] 1 [])=some (St.mk [(0,.str s),(175,.ptr 0 0)] [(0,.siter s i')] 1 [])∧P i')) (True∧R (.exit 9) (St.mk [] [] 0 []))):=by kernel_rfl
theorem ww5 (s e:List UInt8) (P:Unit→Prop) (R:Exit→St→Prop):wa2 ⟨te,[(266,.det wgp)],[(12,fun _ _=>False),(1015,fun _ _=>False),(1016,fun _ _=>False)],0,187,0⟩ (wa4 Tryz.f253 5) [0,7,8,9] [] [4] (fun _=>wle s e) P R (wle s e)=(letI z5:=(↑(List.length s):Int);letI z0:=(↑(List.length e):Int);letI z4:=((0:Int)≤z0 - (1:Int)∧z0 - (1:Int)<z0:Prop);letI z3:=(List.drop (Int.toNat (z0 - (1:Int)+(1:Int))) s);letI z1:=(↑(UInt8.toNat (List.getD e (Int.toNat (z0 - (1:Int))) (0:UInt8))):Int);letI z2:=(Lib.indexByte z3 (Nat.toUInt8 (Int.toNat z1))+(1:Int));waa (decide (z0 - (1:Int)<z5)) (((0:Int)≤z0 - (1:Int)∧z0 - (1:Int)<z5)∧z4∧waa (!decide ((↑(UInt8.toNat (List.getD s (Int.toNat (z0 - (1:Int))) (0:UInt8))):Int)=z1)) (inR .i64 (z0 - (1:Int)+(1:Int))∧((0:Int)≤z0 - (1:Int)+(1:Int)∧z0 - (1:Int)+(1:Int)≤z5)∧z4∧True∧waa (decide (Lib.indexByte z3 (Nat.toUInt8 (Int.toNat z1))<(0:Int))) (R .ret (St.mk [(4,.int .i64 (-1:Int))] [] 0 [])) (inR .i64 z2∧inR .i64 (z0 - (1:Int)+z2)∧False)) False) (R (.exit 1) (St.mk [] [] 0 []))):=by kernel_rfl
theorem wxj (s:List UInt8) (r:Int) (R:AV→List (Nat×AObj)→Prop):wpFn te [(253,.det wlg)] [] 0 Tryz.f231 [.str s,.int .i32 r] [] R=((ascii s=true∧List.length s≤1000000∧(0:Int)≤r∧r≤(1114111:Int))∧R (.bool (decide ((0:Int)≤wcd s r))) []):=by kernel_rfl
variable {C:Ctx} [C.Loose]
theorem wsf (hP:C.P=Tryz.prog):wad C 266 wgp:=by
 rintro args objs U Os vc h hvc
 unfold wgp at h
 split at h<;>simp only [Option.some.injEq,Prod.mk.injEq,reduceCtorEq] at h
 rename_i s c
 obtain ⟨rfl,rfl,rfl⟩:=h
 refine wag.below ⟨Tryz.f266,hP ▸ Tryz.func266,rfl,by decide⟩ fun w M cargs _ _ hM hl hv=>?_
 obtain ⟨a,b,rfl⟩:=mem2 hl
 have e1:=(hv 0 _ _ rfl rfl).str_iff
 have e2:=(hv 1 _ _ rfl rfl).int_iff
 subst e1;subst e2
 rw [hP]
 refine (Tryz.strings_IndexByte ⟨s.toArray⟩ c w).mono ?_
 rintro e w' ⟨rfl,rfl⟩
 exact ⟨_,rfl,Below.refl _ _,.int⟩
theorem wur (hP:C.P=Tryz.prog):wad C 267 wki:=by
 rintro args objs U Os vc h hvc
 unfold wki at h
 split at h<;>simp only [Option.some.injEq,Prod.mk.injEq,reduceCtorEq] at h
 rename_i r
 obtain ⟨rfl,rfl,rfl⟩:=h
 refine wag.below ⟨Tryz.f267,hP ▸ Tryz.func267,rfl,by decide⟩ fun w M cargs _ _ hM hl hv=>?_
 obtain ⟨a,rfl⟩:=mem1 hl
 have e1:=(hv 0 _ _ rfl rfl).int_iff
 subst e1
 rw [hP]
 refine (Tryz.utf8_ValidRune r w).mono ?_
 rintro e w' ⟨rfl,rfl⟩
 exact ⟨_,rfl,Below.refl _ _,.bool⟩
theorem wys (hP:C.P=Tryz.prog) (s:List UInt8):wae C 0 187 (wan Tryz.f253 38) (wmu s):=by
 have _:C.Loose:=inferInstance
 rintro st Q ⟨h0,ha,hQ⟩
 refine wae.mk (prg hP) [] 0 .nil [0,175] [] [4] (wlf s) (fun k=>k≤s.length) (fun k=>s.length - k) 0 (Nat.zero_le _) h0 fun k hk=>?_
 rw [ww6]
 refine wat (fun h=>?_) (fun h=>⟨trivial,hQ⟩)
 have h:=of_decide_eq_true h
 have hlt:=wt9 ha h
 rw [wnn h hlt]
 refine ⟨trivial,wat (fun h'=>?_) (fun _=>⟨k+1,rfl,by omega,by omega⟩)⟩
 have h':=of_decide_eq_true h'
 simp only at h'
 omega
theorem wyr (hP:C.P=Tryz.prog) (s e:List UInt8):wae C 0 187 (wan Tryz.f253 5) (wmt s e):=by
 rintro st Q ⟨h0,ha,hs,h2,h4,hl,hQ1,hQ2⟩
 refine wae.mkL (prg hP) [(266,.det wgp)] [(12,fun _ _=>False),(1015,fun _ _=>False),(1016,fun _ _=>False)] 0 (.cons (wsf hP) .nil)
  [(wan Tryz.f253 12,fun _ _=>False),(regC Tryz.f253 15,fun _ _=>False),(regC Tryz.f253 16,fun _ _=>False)] (by kernel_rfl)
  ⟨fun _ _ h=>h.elim,fun _ _ h=>h.elim,fun _ _ h=>h.elim,trivial⟩ [0,7,8,9] [] [4] (fun _:Unit=>wle s e) (fun _=>True) (fun _=>0) () trivial h0 fun _ _=>?_
 rw [ww5]
 refine wat (fun h=>?_) (fun h=>hQ1)
 have h:=of_decide_eq_true h
 have e1:((e.length:Int) - 1).toNat=e.length - 1:=by omega
 have e2:((e.length:Int) - 1+1).toNat=e.length:=by omega
 have hlo:=wt9 ha (k:=e.length - 1) (by omega)
 simp only [e1,e2,inR]
 have hne:decide (((s.getD (e.length - 1) 0).toNat:Int)=((e.getD (e.length - 1) 0).toNat:Int))=false:=decide_eq_false (by omega)
 rw [hne]
 have hb:(e.getD (e.length - 1) 0).toNat<256:=(e.getD (e.length - 1) 0).toNat_lt
 have hneg:=wyz (w0p ha e.length) (c:=((e.getD (e.length - 1) 0).toNat:Int).toNat.toUInt8) (by rw [wpz];exact hl)
 refine ⟨by omega,by omega,by omega,by omega,by omega,trivial,?_⟩
 rw [hneg]
 exact hQ2
theorem wyw (hP:C.P=Tryz.prog):wad C 253 wlg:=by
 rintro args objs U Os vc h hvc
 unfold wlg at h
 split at h<;>simp only [Option.some.injEq,Prod.mk.injEq,reduceCtorEq] at h
 rename_i s r
 obtain ⟨rfl,rfl,rfl⟩:=h
 obtain ⟨ha,hs,h0,h1⟩:=hvc
 refine wad.wpL (prg hP) [(266,.det wgp),(267,.det wki)] [(38,wmu s),(5,wmt s (Utf8.encode r).data.toList),(25,fun _ _=>False)] 0
  (.cons (wsf hP) (.cons (wur hP) .nil)) (hP ▸ Tryz.func253) rfl rfl rfl
  [(wan Tryz.f253 38,wmu s),(wan Tryz.f253 5,wmt s (Utf8.encode r).data.toList),(wan Tryz.f253 25,fun _ _=>False)] (by kernel_rfl)
  ⟨wys hP s,wyr hP s _,fun _ _ h=>h.elim,trivial⟩ ?_
 rw [ww7]
 refine wat (fun _=>wat (fun h=>?_) (fun h=>?_)) (fun h=>absurd h0 (of_decide_eq_false h))
 ·have h':=of_decide_eq_true h
  refine ⟨by simp only [inR];omega,trivial,?_,rfl⟩
  simp only [wcd,h]
 ·have h':=of_decide_eq_false h
  refine wat (fun _=>⟨rfl,ha,?_,rfl⟩) (fun _=>⟨trivial,wat (fun _=>⟨?_,rfl⟩) (fun hv=>?_)⟩)
  ·simp only [wcd,h]
  ·simp only [wcd,h]
  ·have hv:Lib.validRune r=true:=by simpa using hv
   obtain ⟨l1,l2,l3⟩:=wzk (by omega) hv
   refine ⟨trivial,by simp only [inR];omega,rfl,ha,hs,l1,l2,l3,⟨?_,rfl⟩,⟨?_,rfl⟩⟩
   ·simp only [wcd,h]
   ·simp only [wcd,h]
theorem wzu (hP:C.P=Tryz.prog):wad C 231 wlw:=by
 rintro args objs U Os vc h hvc
 unfold wlw at h
 split at h<;>simp only [Option.some.injEq,Prod.mk.injEq,reduceCtorEq] at h
 rename_i s r
 obtain ⟨rfl,rfl,rfl⟩:=h
 refine wad.wp0 (prg hP) [(253,.det wlg)] 0 (.cons (wyw hP) .nil) (hP ▸ Tryz.func231) rfl rfl rfl ?_
 rw [wxj]
 exact ⟨hvc,rfl,rfl⟩
theorem wwv (r:Int) (R:AV→List (Nat×AObj)→Prop):wpFn te [(231,.det wlw)] [] 0 Tryz.f230 [.int .i32 r] [] R=((true=true∧38≤1000000∧(0:Int)≤r∧r≤(1114111:Int))∧R (.bool !decide ((0:Int)≤wcd ([(97:UInt8),98,99,100,101,102,103,104,105,106,107,108,109,110,111,112,113,114,115,116,117,118,119,120,121,122,48,49,50,51,52,53,54,55,56,57,45,46]) r)) []):=by kernel_rfl
theorem ww9 (s:List UInt8) (R:AV→List (Nat×AObj)→Prop):wpFn te [] [(2,wmv s)] 0 Tryz.f265 [.str s,.func 230 [],.bool true] [] R=(letI z0:=St.mk [(1,.func 230 []),(2,.bool true),(10,.ptr 0 0)] [(0,.siter s 0)] 1 [];some z0=some z0∧waa (List.all s isNB) (R (.int .i64 (-1:Int)) []) (R (.int .i64 (↑(wc2 s):Int)) [])):=by kernel_rfl
theorem ww8 (s:List UInt8) (k:Nat) (P:Nat→Prop) (R:Exit→St→Prop):wa2 ⟨te,[(230,.det wk4)],[],0,21,0⟩ (wa4 Tryz.f265 2) [1,2,10] [] [6] (wlm s) P R (wlm s k)=(letI z1:=([(1,.func 230 []),(2,.bool true),(10,.ptr 0 0)]:List (Nat×AV));letI z0:=(↑(Prod.fst (wbn s k)):Int);waa (decide (k<List.length s)) (True∧((0:Int)≤z0∧z0≤(1114111:Int))∧waa (decide ((!decide ((0:Int)≤wcd wem z0))=true)) (R .ret (St.mk [(6,.int .i64 (↑k:Int))] [] 0 [])) (∃ (i':Nat),some (St.mk z1 [(0,.siter s (k+Prod.snd (wbn s k)))] 1 [])=some (St.mk z1 [(0,.siter s i')] 1 [])∧P i')) (True∧R (.exit 0) (St.mk [] [] 0 []))):=by kernel_rfl
theorem wxs (s:List UInt8) (R:AV→List (Nat×AObj)→Prop):wpFn te [(265,.det wlh)] [] 0 Tryz.f252 [.str s,.func 230 []] [] R=(True∧R (.int .i64 (wer s)) []):=by kernel_rfl
theorem wxt (s:List UInt8) (R:AV→List (Nat×AObj)→Prop):wpFn te [(252,.det wl5)] [] 0 Tryz.f229 [.str s,.func 230 []] [] R=(True∧R (.bool (decide ((0:Int)≤wer s))) []):=by kernel_rfl
theorem nf_name (s:List UInt8) (R:AV→List (Nat×AObj)→Prop):wpFn te [(228,.det wea),(229,.det wl6)] [] 0 Tryz.f199 [.str s] [] R=(waa (!decide (s=[])) (waa (decide ((↑(List.length s):Int)≤(24:Int))) (((0:Int)≤(1:Int)∧(1:Int)≤(↑(List.length s):Int))∧(List.length (List.take (Int.toNat (1:Int)) s)≤9223372036854775807∧2≤36∧36<4294967281∧∀ (b:UInt8),b∈[(97:UInt8),98,99,100,101,102,103,104,105,106,107,108,109,110,111,112,113,114,115,116,117,118,119,120,121,122,48,49,50,51,52,53,54,55,56,57]→UInt8.toNat b<128)∧waa (decide (wed ([(97:UInt8),98,99,100,101,102,103,104,105,106,107,108,109,110,111,112,113,114,115,116,117,118,119,120,121,122,48,49,50,51,52,53,54,55,56,57]) (List.take (Int.toNat (1:Int)) s)=[])) (True∧R (.bool !!List.all s isNB) []) (R (.bool false) [])) (R (.bool false) [])) (R (.bool false) [])):=by kernel_rfl
variable {C:Ctx} [C.Loose]
theorem wx0 (hP:C.P=Tryz.prog):wad C 230 wk4:=by
 rintro args objs U Os vc h hvc
 unfold wk4 at h
 split at h<;>simp only [Option.some.injEq,Prod.mk.injEq,reduceCtorEq] at h
 rename_i r
 obtain ⟨rfl,rfl,rfl⟩:=h
 refine wad.wp0 (prg hP) [(231,.det wlw)] 0 (.cons (wzu hP) .nil) (hP ▸ Tryz.func230) rfl rfl rfl ?_
 rw [wwv]
 exact ⟨⟨rfl,by omega,hvc.1,hvc.2⟩,rfl,rfl⟩
theorem wyy (hP:C.P=Tryz.prog) (s:List UInt8):wae C 0 21 (wan Tryz.f265 2) (wmv s):=by
 rintro st Q ⟨h0,hQ⟩
 have hQ:=wb4 hQ
 refine wae.mk (prg hP) [(230,.det wk4)] 0 (.cons (wx0 hP) .nil) [1,2,10] [] [6] (wlm s) (fun k=>k≤s.length∧∀ j,j<k→isNB (s.getD j 0)=true) (fun k=>s.length - k) 0 ⟨Nat.zero_le _,fun j h=>by omega⟩ h0 fun k ⟨hk,hall⟩=>?_
 rw [ww8]
 refine wat (fun h=>?_) (fun h=>⟨trivial,?_⟩)
 ·have h:=of_decide_eq_true h
  have hle:=wvd h
  refine ⟨trivial,⟨by omega,by omega⟩,?_⟩
  -- what the predicate says of the rune is what isNB says of the byte
  have key:(decide (0≤wcd wem ((wbn s k).1:Int)))=isNB (s.getD k 0)∧(isNB (s.getD k 0)=true→(wbn s k).2=1):=by
   by_cases hlo:(s.getD k 0).toNat<128
   ·rw [wnn h hlo]
    exact ⟨wxv _ hlo,fun _=>rfl⟩
   ·have hh:=wqp h (by omega)
    have hn:isNB (s.getD k 0)=false:=by
     generalize s.getD k 0=b at *
     simp only [isNB,wfj,Bool.or_eq_false_iff,Bool.and_eq_false_imp,decide_eq_true_eq,decide_eq_false_iff_not]
     omega
    rw [wxw _ hh.1,hn]
    exact ⟨rfl,fun h=>by cases h⟩
  rw [key.1]
  refine wat (fun hb=>?_) (fun hb=>?_)
  ·have hb:isNB (s.getD k 0)=false:=by simpa using hb
   have hf:s.all isNB=false:=by
    cases ha:s.all isNB with
    |false=>rfl
    |true=>
     have:=List.all_eq_true.1 ha (s.getD k 0) (by simp [List.getD,h])
     rw [hb] at this;cases this
   obtain ⟨b1,b2,b3⟩:=w0m hf
   have:wc2 s=k:=by
    rcases Nat.lt_trichotomy (wc2 s) k with hl | hl | hl
    ·rw [hall _ hl] at b2;cases b2
    ·exact hl
    ·rw [b3 k hl] at hb;cases hb
   have hq:=hQ.2 hf
   rw [this] at hq
   exact hq
  ·have hb:isNB (s.getD k 0)=true:=by simpa using hb
   rw [key.2 hb]
   refine ⟨k+1,rfl,⟨by omega,fun j hj=>?_⟩,by omega⟩
   rcases Nat.lt_succ_iff_lt_or_eq.1 hj with hj | rfl
   ·exact hall j hj
   ·exact hb
 ·have h:=of_decide_eq_false h
  refine hQ.1 (List.all_eq_true.2 fun b hb=>?_)
  obtain ⟨j,hj,rfl⟩:=List.getElem_of_mem hb
  have:=hall j (by omega)
  simpa [List.getD,hj] using this
theorem wyx (hP:C.P=Tryz.prog):wad C 265 wlh:=by
 rintro args objs U Os vc h hvc
 unfold wlh at h
 split at h<;>simp only [Option.some.injEq,Prod.mk.injEq,reduceCtorEq] at h
 rename_i s
 obtain ⟨rfl,rfl,rfl⟩:=h
 refine wad.wpL (prg hP) [] [(2,wmv s)] 0 .nil (hP ▸ Tryz.func265) rfl rfl rfl [(wan Tryz.f265 2,wmv s)] (by kernel_rfl) ⟨wyy hP s,trivial⟩ ?_
 rw [ww9]
 refine ⟨rfl,wat (fun h=>⟨?_,rfl⟩) (fun h=>⟨?_,rfl⟩)⟩
 ·simp only [wer,h]
 ·simp only [wer,h]
theorem w0z (hP:C.P=Tryz.prog):wad C 252 wl5:=by
 rintro args objs U Os vc h hvc
 unfold wl5 at h
 split at h<;>simp only [Option.some.injEq,Prod.mk.injEq,reduceCtorEq] at h
 rename_i s
 obtain ⟨rfl,rfl,rfl⟩:=h
 refine wad.wp0 (prg hP) [(265,.det wlh)] 0 (.cons (wyx hP) .nil) (hP ▸ Tryz.func252) rfl rfl rfl ?_
 rw [wxs]
 exact ⟨trivial,rfl,rfl⟩
theorem w00 (hP:C.P=Tryz.prog):wad C 229 wl6:=by
 rintro args objs U Os vc h hvc
 unfold wl6 at h
 split at h<;>simp only [Option.some.injEq,Prod.mk.injEq,reduceCtorEq] at h
 rename_i s
 obtain ⟨rfl,rfl,rfl⟩:=h
 refine wad.wp0 (prg hP) [(252,.det wl5)] 0 (.cons (w0z hP) .nil) (hP ▸ Tryz.func229) rfl rfl rfl ?_
 rw [wxt,wzc]
 exact ⟨trivial,rfl,rfl⟩
theorem wro (hP:C.P=Tryz.prog):wad C 199 wgn:=by
 rintro args objs U Os vc h hvc
 unfold wgn at h
 split at h<;>simp only [Option.some.injEq,Prod.mk.injEq,reduceCtorEq] at h
 rename_i s
 obtain ⟨rfl,rfl,rfl⟩:=h
 refine wad.wp0 (prg hP) [(228,.det wea),(229,.det wl6)] 0 (.cons (wg1 hP) (.cons (w00 hP) .nil)) (hP ▸ Tryz.func199) rfl rfl rfl ?_
 rw [nf_name]
 cases s with
 |nil=>exact ⟨rfl,rfl⟩
 |cons b r=>
  have e:(b::r).take (Int.toNat 1)=[b]:=rfl
  have hasc:∀ x∈wi9,UInt8.toNat x<128:=by decide+kernel
  rw [e,wuz]
  have hl:(List.length (b::r):Int)=r.length+1:=by simp
  have hl':List.length (b::r)=r.length+1:=rfl
  have hd:(b::r).getD 0 0=b:=rfl
  refine wat (fun _=>wat (fun h=>⟨by omega,⟨by simp,by omega,by omega,hasc⟩,wat (fun h'=>⟨trivial,?_,rfl⟩) (fun h'=>⟨?_,rfl⟩)⟩) (fun h=>⟨?_,rfl⟩)) (fun h=>by simp at h)
  ·have h:=of_decide_eq_true h
   simp only [wa7,hd,h',hl',Bool.not_not]
   rw [decide_eq_true (by omega),decide_eq_true (by omega)]
   rfl
  ·simp only [wa7,hd,h',Bool.and_false,Bool.false_and]
  ·have h:=of_decide_eq_false h
   simp only [wa7,hl']
   rw [decide_eq_false (p:=r.length+1≤24) (by omega)]
   simp
end Go.Eng
namespace Go.Eng
open Go.Proofs
set_option maxRecDepth 20000
theorem wxf (s:List UInt8) (a b:Int) (R:AV→List (Nat×AObj)→Prop):wpFn te [(228,.det wea)] [] 0 Tryz.f201 [.str s,.int .i64 a,.int .i64 b] [] R=(letI z0:=((List.length s≤9223372036854775807∧2≤10∧10<4294967281∧∀ (b:UInt8),b∈[(48:UInt8),49,50,51,52,53,54,55,56,57]→UInt8.toNat b<128)∧R (.bool (decide (wed ([(48:UInt8),49,50,51,52,53,54,55,56,57]) s=[]))) []:Prop);waa (decide ((↑(List.length s):Int)=a)) z0 (waa (decide ((↑(List.length s):Int)=b)) z0 (R (.bool false) []))):=by kernel_rfl
theorem wxq (s:List UInt8) (R:AV→List (Nat×AObj)→Prop):wpFn te [(201,.det wgr)] [(5,wm2 s)] 0 Tryz.f202 [.str s] [] R=(((7:Int)≤(100:Int)∧(12:Int)≤(100:Int))∧waa (!wby s (7:Int) (12:Int)) (R (.tuple [.int .i64 0,.bool false]) []) (some (St.mk [(0,.str s),(4,.int .i64 0),(11,.int .i64 (↑(List.length s):Int)),(12,.int .i64 0)] [] 0 [])=some (St.mk [(0,.str s),(4,.int .i64 (wa3 s 0)),(11,.int .i64 (↑(List.length s):Int)),(12,.int .i64 (↑0:Int))] [] 0 [])∧List.length s≤12∧List.all s wbv=true∧(10:Int)≠(0:Int)∧inR .i64 ((10:Int) - Int.tmod (wa3 s (List.length s)) (10:Int))∧(10:Int)≠(0:Int)∧R (.tuple [.int .i64 (Int.tmod ((10:Int) - Int.tmod (wa3 s (List.length s)) (10:Int)) (10:Int)),.bool true]) [])):=by kernel_rfl
theorem wxp (s:List UInt8) (k:Nat) (P:Nat→Prop) (R:Exit→St→Prop):wa2 ⟨te,[],[],0,36,0⟩ (wa4 Tryz.f202 5) [0,4,11,12] [4] [] (S_cd s) P R (S_cd s k)=(letI z1:=(↑(List.length s):Int);letI z0:=(↑(UInt8.toNat (List.getD s (Int.toNat (↑k:Int)) (0:UInt8))):Int);letI z2:=(wa3 s k+((1:Int)+(2:Int) * Int.tmod (z1 - (↑k:Int)) (2:Int)) * ((z0 - (48:Int)) % (256:Int)));waa (decide ((↑k:Int)<z1)) (inR .i64 (z1 - (↑k:Int))∧(2:Int)≠(0:Int)∧inR .i64 ((2:Int) * Int.tmod (z1 - (↑k:Int)) (2:Int))∧inR .i64 ((1:Int)+(2:Int) * Int.tmod (z1 - (↑k:Int)) (2:Int))∧((0:Int)≤(↑k:Int)∧(↑k:Int)<z1)∧inR .i64 ((z0 - (48:Int)) % (256:Int))∧inR .i64 (((1:Int)+(2:Int) * Int.tmod (z1 - (↑k:Int)) (2:Int)) * ((z0 - (48:Int)) % (256:Int)))∧inR .i64 z2∧inR .i64 ((↑k:Int)+(1:Int))∧∃ (i':Nat),some (St.mk [(0,.str s),(4,.int .i64 z2),(11,.int .i64 z1),(12,.int .i64 ((↑k:Int)+(1:Int)))] [] 0 [])=some (St.mk [(0,.str s),(4,.int .i64 (wa3 s i')),(11,.int .i64 z1),(12,.int .i64 (↑i':Int))] [] 0 [])∧P i') (R (.exit 0) (St.mk [(4,.int .i64 (wa3 s k))] [] 0 []))):=by kernel_rfl
theorem wv5 (s:List UInt8) (R:AV→List (Nat×AObj)→Prop):wpFn te [(201,.det wgr),(202,.det we1)] [] 0 Tryz.f160 [.str s] [] R=(letI z0:=(↑(List.length s):Int);letI z1:=(↑(UInt8.toNat (List.getD s (Int.toNat (z0 - (1:Int))) (0:UInt8))):Int);((8:Int)≤(100:Int)∧(13:Int)≤(100:Int))∧waa (!wby s (8:Int) (13:Int)) (R (.bool false) []) (inR .i64 (z0 - (1:Int))∧((0:Int)≤z0 - (1:Int)∧z0 - (1:Int)≤z0)∧True∧((0:Int)≤z0 - (1:Int)∧z0 - (1:Int)<z0)∧inR .i64 ((z1 - (48:Int)) % (256:Int))∧R (.bool (decide (Prod.fst (cdF (List.take (Int.toNat (z0 - (1:Int))) s))=(z1 - (48:Int)) % (256:Int)))) [])):=by kernel_rfl
variable {C:Ctx} [C.Loose]
theorem wtl (hP:C.P=Tryz.prog) (htrim:wad C 228 wea):wad C 201 wgr:=by
 have _:C.Loose:=inferInstance
 rintro args objs U Os vc h hvc
 unfold wgr at h
 split at h<;>simp only [Option.some.injEq,Prod.mk.injEq,reduceCtorEq] at h
 rename_i s a b
 obtain ⟨rfl,rfl,rfl⟩:=h
 refine wad.wp0 (prg hP) [(228,.det wea)] 0 (.cons htrim .nil) (hP ▸ Tryz.func201) rfl rfl rfl ?_
 rw [wxf]
 have hm:(9223372036854775807:Nat)=maxLen:=rfl
 have hlt:∀ b∈([48,49,50,51,52,53,54,55,56,57]:List UInt8),UInt8.toNat b<128:=by decide
 refine wat (fun h=>?_) (fun h=>wat (fun h'=>?_) (fun h'=>?_))
 ·have h2:=of_decide_eq_true h
  refine ⟨⟨by omega,by omega,by omega,hlt⟩,?_,rfl⟩
  simp only [wby,h,Bool.true_or,Bool.true_and,wp5]
 ·have h2:=of_decide_eq_true h'
  refine ⟨⟨by omega,by omega,by omega,hlt⟩,?_,rfl⟩
  simp only [wby,h',Bool.or_true,Bool.true_and,wp5]
 ·simp [wby,h,h']
theorem wj4 {s:List UInt8} (h:s.all wbv=true):∀ k,k≤s.length→0≤wa3 s k∧wa3 s k≤27 * k
 |0,_=>by simp [wa3]
 |k+1,hk=>by
  have ih:=wj4 h k (by omega)
  have hd:=wjk h k (by omega)
  simp only [wa3]
  rcases Int.emod_two_eq (↑s.length - ↑k) with e | e<;>rw [e]<;>omega
theorem wz5 (hP:C.P=Tryz.prog) (s:List UInt8):wae C 0 36 (wan Tryz.f202 5) (wm2 s):=by
 have _:C.Loose:=inferInstance
 rintro st Q ⟨h0,hlen,hall,hQ⟩
 refine wae.mk (prg hP) [] 0 .nil [0,4,11,12] [4] [] (S_cd s) (fun k=>k≤s.length) (fun k=>s.length - k) 0 (Nat.zero_le _) h0 fun k hk=>?_
 rw [wxp]
 have hb:=wj4 hall k hk
 refine wat (fun h=>?_) (fun h=>?_)
 ·have h:=of_decide_eq_true h
  have hd:=wjk hall k (by omega)
  have e:Int.tmod (↑s.length - ↑k) 2=(↑s.length - ↑k) % 2:=Int.tmod_eq_emod_of_nonneg (by omega)
  have e3:((s.getD k 0).toNat - 48:Int) % 256=(s.getD k 0).toNat - 48:=by omega
  simp only [inR,e,Int.toNat_natCast,e3]
  have hs:wa3 s (k+1)=wa3 s k+(1+2 * ((↑s.length - ↑k) % 2)) * (↑(s.getD k 0).toNat - 48):=rfl
  rcases Int.emod_two_eq (↑s.length - ↑k) with e | e<;>rw [e] at hs ⊢ <;>and_intros<;>first
   |omega
   |exact ⟨k+1,by rw [hs];rfl,by omega,by omega⟩
 ·have h:=of_decide_eq_false h
  have hk:k=s.length:=by omega
  rw [hk];exact hQ
theorem wz4 (hP:C.P=Tryz.prog) (htrim:wad C 228 wea):wad C 202 we1:=by
 rintro args objs U Os vc h hvc
 unfold we1 at h
 split at h<;>simp only [Option.some.injEq,Prod.mk.injEq,reduceCtorEq] at h
 rename_i s
 obtain ⟨rfl,rfl,rfl⟩:=h
 refine wad.wpL (prg hP) [(201,.det wgr)] [(5,wm2 s)] 0 (.cons (wtl hP htrim) .nil) (hP ▸ Tryz.func202) rfl rfl rfl [(wan Tryz.f202 5,wm2 s)] (by kernel_rfl) ⟨wz5 hP s,trivial⟩ ?_
 rw [wxq]
 refine ⟨by omega,wat (fun h=>?_) (fun h=>?_)⟩
 ·have h:wby s 7 12=false:=by simpa using h
  simp [cdF,h]
 ·have h:wby s 7 12=true:=by simpa using h
  have h':=h
  simp only [wby,Bool.and_eq_true,Bool.or_eq_true,decide_eq_true_eq] at h'
  have hb:=wj4 h'.2 s.length (Nat.le_refl _)
  have e:Int.tmod (wa3 s s.length) 10=wa3 s s.length % 10:=Int.tmod_eq_emod_of_nonneg (by omega)
  rw [e,Int.tmod_eq_emod_of_nonneg (by omega)]
  refine ⟨rfl,by omega,h'.2,by omega,by simp only [inR];omega,by omega,?_,rfl⟩
  simp [cdF,h]
theorem wik (hP:C.P=Tryz.prog) (htrim:wad C 228 wea):wad C 160 wdo:=by
 rintro args objs U Os vc h hvc
 unfold wdo at h
 split at h<;>simp only [Option.some.injEq,Prod.mk.injEq,reduceCtorEq] at h
 rename_i s
 obtain ⟨rfl,rfl,rfl⟩:=h
 refine wad.wp0 (prg hP) [(201,.det wgr),(202,.det we1)] 0 (.cons (wtl hP htrim) (.cons (wz4 hP htrim) .nil)) (hP ▸ Tryz.func160) rfl rfl rfl ?_
 rw [wv5]
 refine ⟨by omega,wat (fun h=>?_) (fun h=>?_)⟩
 ·have h:wby s 8 13=false:=by simpa using h
  simp [wbq,h]
 ·have h:wby s 8 13=true:=by simpa using h
  have h':=h
  simp only [wby,Bool.and_eq_true,Bool.or_eq_true,decide_eq_true_eq] at h'
  have e:(↑s.length - 1:Int).toNat=s.length - 1:=by omega
  have hd:=wjk h'.2 (s.length - 1) (by omega)
  rw [e]
  have e2:((s.getD (s.length - 1) 0).toNat - 48:Int) % 256=(s.getD (s.length - 1) 0).toNat - 48:=by omega
  simp only [inR,e2]
  refine ⟨by omega,by omega,trivial,by omega,by omega,?_,trivial⟩
  simp [wbq,h]
end Go.Eng
namespace Go.Eng
open Go.Proofs Go.RowKit
variable {C:Ctx} [C.Loose]
set_option maxRecDepth 20000
theorem nf_valw (id code brand:List UInt8) (d c a:Int) (n:Nat) (nm vl:Nat→List UInt8) (R:AV→List (Nat×AObj)→Prop):wpFn te [(160,.det wdo),(198,.det wk9),(199,.det wgn),(200,.det wku)] [(13,L_vw n nm vl)] 2 Tryz.f159 [.agg [.str id,.str code,.str brand,.int .i64 d,.int .i64 c,.int .i64 a,.view 2 n (weu nm vl)]] [] R=(True∧waa (!wbq id) (R (.int .i64 90) []) (List.length code<4294967281∧waa (decide (wfe code<(1:Int))) (R (.int .i64 91) []) (True∧waa (!wa7 brand) (R (.int .i64 92) []) (True∧waa (!decide (qtyF d c a=(0:Int))) (R (.int .i64 93) []) (waa (decide ((12:Int)<(↑n:Int))) (R (.int .i64 94) []) (some (St.mk [(3,.map 0),(33,.view 2 n (weu nm vl)),(34,.int .i64 (↑n:Int)),(35,.int .i64 0)] [(0,.amap (List.map (fun (p:AV×AV)=>(AV.rn (ren 0 [(65,0)]) (Prod.fst p),AV.rn (ren 0 [(65,0)]) (Prod.snd p))) []))] 1 [])=some (St.mk [(3,.map 0),(33,.view 2 n (weu nm vl)),(34,.int .i64 (↑n:Int)),(35,.int .i64 (↑0:Int))] [(0,.amap (wbm nm 0))] 1 [])∧n≤12∧(∀ (i:Nat),i<n→List.length (nm i)<4294967281∧List.length (vl i)<4294967281)∧waa (wdn nm vl n) (R (.int .i64 0) []) (R (.int .i64 94) []))))))):=by kernel_rfl
theorem wv3 (n:Nat) (nm vl:Nat→List UInt8) (k:Nat) (P:Nat→Prop) (R:Exit→St→Prop):wa2 ⟨te,[(199,.det wgn)],[],0,59,0⟩ (wa4 Tryz.f159 13) [3,33,34,35] [] [2] (S_vw n nm vl) P R (S_vw n nm vl k)=(letI z3:=(Int.toNat (↑k:Int));letI z2:=TI.desc (TI.mk TypeDesc.string 1 16 (Value.string (ByteArray.mk #[])) false);letI z1:=R .ret (St.mk [(2,.int .i64 94)] [] 0 []);letI z0:=(mget (wbm nm k) (.str (nm z3)));letI z4:=wgd (Option.getD z0 (zvA (.bool false)));waa (decide ((↑k:Int)<(↑n:Int))) (((0:Int)≤(↑k:Int)∧(↑k:Int)<(↑n:Int)∧2=2)∧True∧waa (!wa7 (nm z3)) z1 (True∧waa (!wa7 (vl z3)) z1 ((wbl z2 (wbm nm k)∧.bool z4=Option.getD z0 (zvA (.bool false)))∧waa z4 z1 (wbl z2 (wbm nm k)∧inR .i64 ((↑k:Int)+(1:Int))∧∃ (i':Nat),some (St.mk [(3,.map 0),(33,.view 2 n (weu nm vl)),(34,.int .i64 (↑n:Int)),(35,.int .i64 ((↑k:Int)+(1:Int)))] [(0,.amap (List.map (fun (p:AV×AV)=>(AV.rn (ren 0 [(0,0)]) (Prod.fst p),AV.rn (ren 0 [(0,0)]) (Prod.snd p))) (mset (wbm nm k) (.str (nm z3)) (.bool true))))] 1 [])=some (St.mk [(3,.map 0),(33,.view 2 n (weu nm vl)),(34,.int .i64 (↑n:Int)),(35,.int .i64 (↑i':Int))] [(0,.amap (wbm nm i'))] 1 [])∧P i')))) (R (.exit 1) (St.mk [] [] 0 []))):=by kernel_rfl
theorem wuq (hP:C.P=Tryz.prog) (n:Nat) (nm vl:Nat→List UInt8):wae C 0 59 (wan Tryz.f159 13) (L_vw n nm vl):=by
 rintro st Q ⟨h0,hn,hs,hQ⟩
 have hR:=wb4 hQ
 refine wae.mk (prg hP) [(199,.det wgn)] 0 (.cons (wro hP) .nil) [3,33,34,35] [] [2] (S_vw n nm vl) (fun k=>k≤n∧wdn nm vl k=true) (fun k=>n - k) 0 ⟨by omega,rfl⟩ h0 (fun k hk=>?_)
 obtain ⟨hkn,hok⟩:=hk
 rw [wv3]
 have hbad:∀ m,k≤m→k<m→atOK nm vl k=false→wdn nm vl m=false:=by
  intro m
  induction m with
  |zero=>intro _ h;omega
  |succ m ih=>
   intro _ h2 h3
   rw [wdn]
   by_cases hkm:k=m
   ·subst hkm;rw [h3,Bool.and_false]
   ·rw [ih (by omega) (by omega) h3,Bool.false_and]
 rw [Int.toNat_natCast]
 refine war (fun h1=>?_) (fun h1=>?_)
 ·have hlt:k<n:=by omega
  have hfail:atOK nm vl k=false→Q .ret (St.mk [(2,.int .i64 94)] [] 0 []):=fun h=>hR.2 (hbad n hkn hlt h)
  have hk:=wql nm vl k hok
  rw [wrw]
  refine ⟨⟨by omega,by omega,rfl⟩,trivial,wcq (fun h2=>hfail (by unfold atOK;rw [h2];rfl)) (fun h2=>⟨trivial,wcq (fun h3=>hfail (by unfold atOK;rw [h3,Bool.and_false];rfl)) (fun h3=>⟨⟨hk,?_⟩,?_⟩)⟩)⟩
  ·cases (List.range k).any (fun i=>decide (nm i=nm k))<;>rfl
  ·cases ha:(List.range k).any (fun i=>decide (nm i=nm k)) with
   |true=>exact hfail (by unfold atOK;rw [wjo,ha];simp)
   |false=>
    have hat:atOK nm vl k=true:=by unfold atOK;rw [h2,h3,wjo,ha];rfl
    refine ⟨hk,by simp only [inR];omega,k+1,?_,⟨by omega,by rw [wdn,hok,hat];rfl⟩,by omega⟩
    rw [wx3 nm _ _ k ha,show wbm nm k++[(.str (nm k),AV.bool true)]=wbm nm (k+1) from rfl,wqk]
    rfl
 ·have:k=n:=by omega
  subst this
  exact hR.1 hok
theorem valV_ok (hP:C.P=Tryz.prog) (hL:∀ w,C.laid w→LaidW w):wad C 159 S_valV:=by
 rintro args objs U Os vc h hvc
 unfold S_valV at h
 split at h<;>simp only [Option.some.injEq,Prod.mk.injEq,reduceCtorEq] at h
 rename_i id code brand d c a n f
 obtain ⟨rfl,rfl,rfl⟩:=h
 obtain ⟨hn,h1,h2,hs,hf⟩:=hvc
 rw [hf]
 rw [← hf]
 generalize nmOf f=nm at *
 generalize vlOf f=vl at *
 rw [hf]
 unfold valF
 refine wad.wpL (prg hP) [(160,.det wdo),(198,.det wk9),(199,.det wgn),(200,.det wku)] [(13,L_vw n nm vl)] 2 (.cons (wik hP (wg1 hP)) (.cons (wyc hP hL) (.cons (wro hP) (.cons (qty_ok hP) .nil)))) (hP ▸ Tryz.func159) rfl rfl rfl [(wan Tryz.f159 13,L_vw n nm vl)] (by kernel_rfl) ⟨wuq hP n nm vl,trivial⟩ ?_
 rw [nf_valw,wyd]
 refine ⟨trivial,wcq (fun q1=>?_) (fun q1=>⟨h1,wcq (fun q2=>?_) (fun q2=>⟨trivial,wcq (fun q3=>?_) (fun q3=>⟨trivial,wc0 (fun q4=>?_) (fun q4=>war (fun q5=>?_) (fun q5=>⟨rfl,by omega,hs,wat (fun q6=>?_) (fun q6=>?_)⟩))⟩)⟩)⟩)⟩
 ·rw [q1];exact ⟨rfl,rfl⟩
 ·rw [q1,q2];exact ⟨rfl,rfl⟩
 ·rw [q1,q2,q3];exact ⟨rfl,rfl⟩
 ·rw [q1,q2,q3,decide_eq_false q4];exact ⟨rfl,rfl⟩
 ·rw [q1,q2,q3,decide_eq_true q4,decide_eq_true (show 12<n by omega)];exact ⟨rfl,rfl⟩
 ·rw [q1,q2,q3,decide_eq_true q4,decide_eq_false (show ¬ 12<n by omega),q6];exact ⟨rfl,rfl⟩
 ·rw [q1,q2,q3,decide_eq_true q4,decide_eq_false (show ¬ 12<n by omega),q6];exact ⟨rfl,rfl⟩
theorem wxk (s:List UInt8) (R:AV→List (Nat×AObj)→Prop):wpFn te [(159,.det wkj)] [] 0 Tryz.f120 [.str s] [] R=((2<4294967281∧List.length s<4294967281)∧R (.bool (decide ((valF [(48:UInt8),48,48,48,48,48,48,48] [(48:UInt8),49] s (4:Int) (1:Int) (1:Int) 0 (fun (_x:Nat)=>[]) fun (_x:Nat)=>[])=(0:Int)))) []):=by kernel_rfl
theorem nf_cnum (n:Int) (R:AV→List (Nat×AObj)→Prop):wpFn te [] [] 0 Tryz.f121 [.int .i64 n] [] R=(waa (decide ((1:Int)≤n)) (R (.bool (decide (n≤(1048576:Int)))) []) (R (.bool false) [])):=by kernel_rfl
theorem nf_calv (n:Int) (R:AV→List (Nat×AObj)→Prop):wpFn te [] [] 0 Tryz.f124 [.int .i64 n] [] R=(waa (decide ((0:Int)≤n)) (R (.bool (decide (n≤(182620:Int)))) []) (R (.bool false) [])):=by kernel_rfl
theorem wv2 (n:Int) (R:AV→List (Nat×AObj)→Prop):wpFn te [(124,.det wl1)] [] 0 Tryz.f73 [.int .i64 n] [] R=(True∧waa (!(decide ((0:Int)≤n) && decide (n≤(182620:Int)))) (R (.int .i64 (-1:Int)) []) ((7:Int)≠(0:Int)∧R (.int .i64 (Int.tmod n (7:Int))) [])):=by kernel_rfl
theorem nf_slot (o p:List UInt8) (per:Int) (R:AV→List (Nat×AObj)→Prop):wpFn te [(120,.det wgs),(160,.det wdo)] [] 0 Tryz.f123 [.str o,.str p,.int .i64 per] [] R=(List.length o<4294967281∧waa (wa7 o) (True∧waa (wbq p) (waa (decide ((0:Int)≤per)) (R (.bool (decide (per≤(5999:Int)))) []) (R (.bool false) [])) (R (.bool false) [])) (R (.bool false) [])):=by kernel_rfl
theorem wv4 (o p:List UInt8) (per day st pr:Int) (rep:List UInt8) (R:AV→List (Nat×AObj)→Prop):wpFn te [(123,.det wdq),(160,.det wdo),(73,.det wgi)] [] 0 Tryz.f122 [.agg [.str o,.str p,.int .i64 per,.int .i64 day,.int .i64 st,.int .i64 pr,.str rep]] [] R=(letI z3:=R (.bool false) [];letI z0:=(waa (decide (st=(5:Int))) (True∧waa (wbq rep) (R (.bool !decide (rep=p)) []) z3) (R (.bool (decide (rep=[]))) []));letI z2:=(waa (decide (pr<(1:Int))) z3 (waa (decide ((1099511627776:Int)<pr)) z3 z0));letI z1:=(waa (decide (st=(3:Int))) (waa (decide (st=(3:Int))) (waa (!decide (pr=(0:Int))) z3 z0) z3) (waa (decide (st=(4:Int))) (waa (!decide (pr=(0:Int))) z3 z0) z3));List.length o<4294967281∧waa (!wb3 o p per) z3 (True∧waa (decide ((bif decide ((0:Int)≤day) && decide (day≤(182620:Int)) then day % (7:Int) else (-1:Int))<(0:Int))) z3 (waa (decide (st=(1:Int))) (waa (decide (st=(1:Int))) z2 z1) (waa (decide (st=(2:Int))) (waa (decide (st=(2:Int))) z2 z1) (waa (decide (st=(5:Int))) z2 z1))))):=by kernel_rfl
theorem nf_msg (m:MG) (R:AV→List (Nat×AObj)→Prop):wpFn te [(120,.det wgs),(123,.det wdq),(122,.det wkg),(121,.det wk1)] [] 0 Tryz.f72 [.agg [.str m.dev,.int .i64 m.seq,.int .i64 m.kind,.str m.v.o,.str m.v.p,.int .i64 m.v.per,.int .i64 m.v.day,.int .i64 m.v.st,.int .i64 m.v.pr,.str m.v.rep,.str m.d.o,.str m.d.p,.int .i64 m.d.per,.str m.d.dev,.int .i64 m.d.num]] [] R=(letI z6:=(MG.kind m=(1:Int));letI z5:=(MG.kind m=(2:Int));letI z4:=R (.int .i64 114) [];letI z2:=(waa (decide z5) (List.length (DT.o (MG.d m))<4294967281∧waa (wb3 (DT.o (MG.d m)) (DT.p (MG.d m)) (DT.per (MG.d m))) (List.length (DT.dev (MG.d m))<4294967281∧waa (wa7 (DT.dev (MG.d m))) (True∧waa (!numF (DT.num (MG.d m))) z4 (R (.int .i64 0) [])) z4) z4) (R (.int .i64 0) []));letI z0:=(waa (decide z6) (waa (!(decide (DT.o (MG.d m)=[]) && (decide (DT.p (MG.d m)=[]) && (decide (DT.per (MG.d m)=(0:Int)) && (decide (DT.dev (MG.d m)=[]) && decide (DT.num (MG.d m)=(0:Int))))))) z4 z2) z2);letI z1:=(waa (decide z5) (waa (!(decide (VT.o (MG.v m)=[]) && (decide (VT.p (MG.v m)=[]) && (decide (VT.per (MG.v m)=(0:Int)) && (decide (VT.day (MG.v m)=(0:Int)) && (decide (VT.st (MG.v m)=(0:Int)) && (decide (VT.pr (MG.v m)=(0:Int)) && decide (VT.rep (MG.v m)=[])))))))) (R (.int .i64 113) []) z0) z0);letI z3:=(waa (decide z6) (List.length (VT.o (MG.v m))<4294967281∧waa (!visF (VT.mk (VT.o (MG.v m)) (VT.p (MG.v m)) (VT.per (MG.v m)) (VT.day (MG.v m)) (VT.st (MG.v m)) (VT.pr (MG.v m)) (VT.rep (MG.v m)))) (R (.int .i64 113) []) z1) z1);List.length (MG.dev m)<4294967281∧waa (!wa7 (MG.dev m)) (R (.int .i64 110) []) (True∧waa (!numF (MG.seq m)) (R (.int .i64 111) []) (waa (!decide z6) (waa (!decide z5) (R (.int .i64 112) []) z3) z3))):=by kernel_rfl
theorem val0_ok (hP:C.P=Tryz.prog) (hL:∀ w,C.laid w→LaidW w):wad C 159 wkj:=by
 rintro args objs U Os vc h hvc
 unfold wkj at h
 split at h<;>simp only [Option.some.injEq,Prod.mk.injEq,reduceCtorEq] at h
 rename_i id code brand d c a
 obtain ⟨rfl,rfl,rfl⟩:=h
 exact wag.nilArg 2 (weu (fun _=>[]) (fun _=>[])) (valV_ok hP hL _ _ _ _ _ rfl ⟨Nat.zero_le _,hvc.1,hvc.2,fun i hi=>absurd hi (Nat.not_lt_zero i),rfl⟩)
theorem wzw (s:List UInt8):decide (valF [48,48,48,48,48,48,48,48] [48,49] s 4 1 1 0 (fun _=>[]) (fun _=>[])=0)=wa7 s:=by
 unfold valF
 rw [show wbq [48,48,48,48,48,48,48,48]=true by decide+kernel,show wdb [48,49]=true by decide+kernel,show qtyF 4 1 1=0 by rfl]
 cases wa7 s<;>rfl
theorem wtq (hP:C.P=Tryz.prog) (hL:∀ w,C.laid w→LaidW w):wad C 120 wgs:=by
 rintro args objs U Os vc h hvc
 unfold wgs at h
 split at h<;>simp only [Option.some.injEq,Prod.mk.injEq,reduceCtorEq] at h
 rename_i s
 obtain ⟨rfl,rfl,rfl⟩:=h
 refine wad.wp0 (prg hP) [(159,.det wkj)] 0 (.cons (val0_ok hP hL) .nil) (hP ▸ Tryz.func120) rfl rfl rfl ?_
 rw [wxk,wzw]
 exact ⟨⟨by omega,hvc⟩,rfl,rfl⟩
theorem cnum_ok (hP:C.P=Tryz.prog):wad C 121 wk1:=by
 have _:C.Loose:=inferInstance
 rintro args objs U Os vc h hvc
 unfold wk1 at h
 split at h<;>simp only [Option.some.injEq,Prod.mk.injEq,reduceCtorEq] at h
 rename_i n
 obtain ⟨rfl,rfl,rfl⟩:=h
 refine wad.wp0 (prg hP) [] 0 .nil (hP ▸ Tryz.func121) rfl rfl rfl ?_
 rw [nf_cnum]
 unfold numF
 exact wat (fun h=>by rw [h];exact ⟨rfl,rfl⟩) (fun h=>by rw [h];exact ⟨rfl,rfl⟩)
theorem calv_ok (hP:C.P=Tryz.prog):wad C 124 wl1:=by
 have _:C.Loose:=inferInstance
 rintro args objs U Os vc h hvc
 unfold wl1 at h
 split at h<;>simp only [Option.some.injEq,Prod.mk.injEq,reduceCtorEq] at h
 rename_i n
 obtain ⟨rfl,rfl,rfl⟩:=h
 refine wad.wp0 (prg hP) [] 0 .nil (hP ▸ Tryz.func124) rfl rfl rfl ?_
 rw [nf_calv]
 exact wat (fun h=>by rw [h];exact ⟨rfl,rfl⟩) (fun h=>by rw [h];exact ⟨rfl,rfl⟩)
theorem wpu (hP:C.P=Tryz.prog):wad C 73 wgi:=by
 rintro args objs U Os vc h hvc
 unfold wgi at h
 split at h<;>simp only [Option.some.injEq,Prod.mk.injEq,reduceCtorEq] at h
 rename_i n
 obtain ⟨rfl,rfl,rfl⟩:=h
 refine wad.wp0 (prg hP) [(124,.det wl1)] 0 (.cons (calv_ok hP) .nil) (hP ▸ Tryz.func73) rfl rfl rfl ?_
 rw [wv2]
 refine ⟨trivial,wcq (fun h=>by rw [h];exact ⟨rfl,rfl⟩) (fun h=>⟨by decide,?_⟩)⟩
 rw [h]
 have h0:0≤n:=of_decide_eq_true (Bool.and_eq_true_iff.1 h).1
 exact ⟨by rw [Int.tmod_eq_emod_of_nonneg h0];rfl,rfl⟩
theorem wqg (hP:C.P=Tryz.prog) (hL:∀ w,C.laid w→LaidW w):wad C 123 wdq:=by
 rintro args objs U Os vc h hvc
 unfold wdq at h
 split at h<;>simp only [Option.some.injEq,Prod.mk.injEq,reduceCtorEq] at h
 rename_i o p per
 obtain ⟨rfl,rfl,rfl⟩:=h
 refine wad.wp0 (prg hP) [(120,.det wgs),(160,.det wdo)] 0 (.cons (wtq hP hL) (.cons (wik hP (wg1 hP)) .nil)) (hP ▸ Tryz.func123) rfl rfl rfl ?_
 rw [nf_slot]
 unfold wb3
 exact ⟨hvc,wat (fun h1=>⟨trivial,wat (fun h2=>wat (fun h3=>by rw [h1,h2,h3];exact ⟨rfl,rfl⟩) (fun h3=>by rw [h1,h2,h3];exact ⟨rfl,rfl⟩)) (fun h2=>by rw [h1,h2];exact ⟨rfl,rfl⟩)⟩) (fun h1=>by rw [h1];exact ⟨rfl,rfl⟩)⟩
theorem wk_neg (day:Int):decide ((bif decide (0≤day) && decide (day≤182620) then day % 7 else -1)<0)= !(decide (0≤day) && decide (day≤182620)):=by
 cases h:decide (0≤day) && decide (day≤182620) with
 |true=>
  show decide (day % 7<0)=false
  rw [decide_eq_false]
  have:=Int.emod_nonneg day (show (7:Int)≠0 by decide)
  omega
 |false=>rfl
theorem wuo (hP:C.P=Tryz.prog) (hL:∀ w,C.laid w→LaidW w):wad C 122 wkg:=by
 rintro args objs U Os vc h hvc
 unfold wkg at h
 split at h<;>simp only [Option.some.injEq,Prod.mk.injEq,reduceCtorEq] at h
 rename_i o p per day st pr rep
 obtain ⟨rfl,rfl,rfl⟩:=h
 refine wad.wp0 (prg hP) [(123,.det wdq),(160,.det wdo),(73,.det wgi)] 0 (.cons (wqg hP hL) (.cons (wik hP (wg1 hP)) (.cons (wpu hP) .nil))) (hP ▸ Tryz.func122) rfl rfl rfl ?_
 rw [wv4,wk_neg]
 refine ⟨hvc,wcq (fun h1=>?_) (fun h1=>⟨trivial,wcq (fun h2=>?_) (fun h2=>?_)⟩)⟩
 ·unfold visF;simp [h1]
 ·unfold visF;simp [h1,h2]
 have hv:visF ⟨o,p,per,day,st,pr,rep⟩=(bif decide (st=1) || decide (st=2) then decide (1≤pr) && decide (pr≤1099511627776) && decide (rep=[])
  else bif decide (st=3) || decide (st=4) then decide (pr=0) && decide (rep=[])
  else bif decide (st=5) then decide (1≤pr) && decide (pr≤1099511627776) && wbq rep && !decide (rep=p) else false):=by
  unfold visF;simp only [h1,Bool.true_and,h2]
 rw [hv]
 have e1:decide (1≤pr)= !decide (pr<1):=by by_cases h:pr<1<;>simp [h]<;>omega
 have e2:decide (pr≤1099511627776)= !decide (1099511627776<pr):=by by_cases h:1099511627776<pr<;>simp [h]<;>omega
 rw [e1,e2]
 clear hv h1 h2 e1 e2
 by_cases s1:st=1
 ·subst s1
  generalize decide (pr<1)=b1,decide (1099511627776<pr)=b2,decide (pr=0)=b3,decide (rep=p)=b4,decide (rep=[])=b5,wbq rep=b6
  cases b1<;>cases b2<;>exact ⟨rfl,rfl⟩
 by_cases s2:st=2
 ·subst s2
  generalize decide (pr<1)=b1,decide (1099511627776<pr)=b2,decide (pr=0)=b3,decide (rep=p)=b4,decide (rep=[])=b5,wbq rep=b6
  cases b1<;>cases b2<;>exact ⟨rfl,rfl⟩
 by_cases s3:st=3
 ·subst s3
  generalize decide (pr<1)=b1,decide (1099511627776<pr)=b2,decide (pr=0)=b3,decide (rep=p)=b4,decide (rep=[])=b5,wbq rep=b6
  cases b3<;>exact ⟨rfl,rfl⟩
 by_cases s4:st=4
 ·subst s4
  generalize decide (pr<1)=b1,decide (1099511627776<pr)=b2,decide (pr=0)=b3,decide (rep=p)=b4,decide (rep=[])=b5,wbq rep=b6
  cases b3<;>exact ⟨rfl,rfl⟩
 by_cases s5:st=5
 ·subst s5
  generalize decide (pr<1)=b1,decide (1099511627776<pr)=b2,decide (pr=0)=b3,decide (rep=p)=b4,decide (rep=[])=b5,wbq rep=b6
  cases b1<;>cases b2<;>cases b6<;>first | exact ⟨rfl,rfl⟩ | exact ⟨trivial,rfl,rfl⟩
 rw [decide_eq_false s1,decide_eq_false s2,decide_eq_false s3,decide_eq_false s4,decide_eq_false s5]
 exact ⟨rfl,rfl⟩
theorem wn0 (hP:C.P=Tryz.prog) (hL:∀ w,C.laid w→LaidW w):wad C 72 wey:=by
 rintro args objs U Os vc h hvc
 unfold wey at h
 split at h<;>simp only [Option.some.injEq,Prod.mk.injEq,reduceCtorEq] at h
 rename_i dev seq kind o p per day st pr rep o2 p2 per2 dev2 num
 obtain ⟨rfl,rfl,rfl⟩:=h
 refine wad.wp0 (prg hP) [(120,.det wgs),(123,.det wdq),(122,.det wkg),(121,.det wk1)] 0 (.cons (wtq hP hL) (.cons (wqg hP hL) (.cons (wuo hP hL) (.cons (cnum_ok hP) .nil)))) (hP ▸ Tryz.func72) rfl rfl rfl ?_
 have nf:=fun R=>nf_msg ⟨dev,seq,kind,⟨o,p,per,day,st,pr,rep⟩,⟨o2,p2,per2,dev2,num⟩⟩ R
 refine (nf _).mpr ?_
 clear nf
 obtain ⟨l1,l2,l3,l4⟩:=hvc
 unfold msgF VT.nil DT.nil
 dsimp only
 generalize (decide (o=[]) && (decide (p=[]) && (decide (per=0) && (decide (day=0) && (decide (st=0) && (decide (pr=0) && decide (rep=[])))))))=vn
 generalize (decide (o2=[]) && (decide (p2=[]) && (decide (per2=0) && (decide (dev2=[]) && decide (num=0)))))=dn
 generalize wa7 dev=b1,numF seq=b2,visF ⟨o,p,per,day,st,pr,rep⟩=b3,wb3 o2 p2 per2=b4,wa7 dev2=b5,numF num=b6
 refine ⟨l1,?_⟩
 cases b1
 ·exact ⟨rfl,rfl⟩
 refine ⟨trivial,?_⟩
 cases b2
 ·exact ⟨rfl,rfl⟩
 by_cases k1:kind=1
 ·subst k1
  refine ⟨l2,?_⟩
  cases b3<;>cases dn<;>exact ⟨rfl,rfl⟩
 by_cases k2:kind=2
 ·subst k2
  cases vn
  ·exact ⟨rfl,rfl⟩
  refine ⟨l3,?_⟩
  cases b4
  ·exact ⟨rfl,rfl⟩
  refine ⟨l4,?_⟩
  cases b5
  ·exact ⟨rfl,rfl⟩
  refine ⟨trivial,?_⟩
  cases b6<;>exact ⟨rfl,rfl⟩
 rw [decide_eq_false k1,decide_eq_false k2]
 exact ⟨rfl,rfl⟩
end Go.Eng
namespace Go.Eng
theorem atM_get {L:List MG} {i:Nat} (h:i<L.length):atM L i=L[i]:=by simp [atM,h]
theorem wt8 {L:List MG} {i:Nat} (h:i<L.length):atM L i∈L:=by rw [atM_get h];exact List.getElem_mem h
theorem wrh (g:Nat→MG) (p:List UInt8×Int):∀ n,0<numC g p n↔∃ i,i<n∧mk2 (g i)=p
 |0=>by simp [numC]
 |n+1=>by
  have ih:=wrh g p n
  have nn:=(wnx g p n).1
  rw [numC]
  cases q:decide ((mk2 (g n)).1=p.1) && decide ((mk2 (g n)).2=p.2) with
  |true=>
   have e:=wee.1 q
   simp only [cond_true]
   exact ⟨fun _=>⟨n,by omega,e⟩,fun _=>by omega⟩
  |false=>
   have ne:mk2 (g n)≠p:=fun e=>by rw [e] at q;simp at q
   simp only [cond_false]
   constructor
   ·intro h
    obtain ⟨i,hi,e⟩:=ih.1 (by omega)
    exact ⟨i,by omega,e⟩
   ·rintro ⟨i,hi,e⟩
    have:i≠n:=fun q=>ne (q ▸ e)
    have:=ih.2 ⟨i,by omega,e⟩
    omega
theorem wrg (g:Nat→MG) (p:List UInt8×Int):∀ n,1<numC g p n↔∃ i j,i<j∧j<n∧mk2 (g i)=p∧mk2 (g j)=p
 |0=>by simp [numC]
 |n+1=>by
  have ih:=wrg g p n
  have ip:=wrh g p n
  rw [numC]
  cases q:decide ((mk2 (g n)).1=p.1) && decide ((mk2 (g n)).2=p.2) with
  |true=>
   have e:=wee.1 q
   simp only [cond_true]
   constructor
   ·intro h
    obtain ⟨i,hi,e'⟩:=ip.1 (by omega)
    exact ⟨i,n,hi,by omega,e',e⟩
   ·rintro ⟨i,j,hij,hj,e1,e2⟩
    have:=ip.2 ⟨i,by omega,e1⟩
    omega
  |false=>
   have ne:mk2 (g n)≠p:=fun e=>by rw [e] at q;simp at q
   simp only [cond_false]
   constructor
   ·intro h
    obtain ⟨i,j,hij,hj,e⟩:=ih.1 (by omega)
    exact ⟨i,j,hij,by omega,e⟩
   ·rintro ⟨i,j,hij,hj,e1,e2⟩
    have:j≠n:=fun q=>ne (q ▸ e2)
    have:=ih.2 ⟨i,j,hij,by omega,e1,e2⟩
    omega
def t30 (nm:Nat→List UInt8) (i:Nat):List UInt8:=(nm i).take 30
end Go.Eng
