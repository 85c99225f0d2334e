/- The texts of files: plain lists. -/
import Derived.Test.YtgcboligphndhaaGreatDoorXr
namespace Go.Eng
open Go.Proofs Go.RowKit
variable {C:Ctx} [C.Loose]
set_option maxRecDepth 20000
theorem w1q(s:List UInt8)(R:oR7):wpFn te [(227,.rel wod)] [] 0 Tryz.f198 [.str s] [] R=(s.length<4294967281/\wab (wd4 s) ((∀(i:Nat),i<(words s).length->true=true)/\R (.q (↑(words s).length:Int)) []) (wab (!decide (s=[])) (R (.q (-1:Int)) []) (R (.q 0) []))):=by kernel_rfl
theorem w3i(hP:C.P=Tryz.prog)(hL:∀w,C.laid w->LaidW w):wai C 198 wm8:=by
 rintro args objs U Os vc h hvc;unfold wm8 at h;split at h<;>cases h;rename_i s;refine wai.wp0 (prg hP) [(227,.rel wod)] 0 (.cons (wzh hP hL) .nil) (hP ▸ Tryz.func198) rfl rfl rfl ?_;rw[w1q];refine⟨hvc,waz (λh=>⟨λ_ _=>rfl,?_,rfl⟩) (λh=>wbj (λh'=>⟨?_,rfl⟩) (λh'=>⟨?_,rfl⟩))⟩
 ·unfold wgf;rw[h]
 ·unfold wgf;rw[h,decide_eq_false h']
 ·unfold wgf;rw[h,decide_eq_true h']
end Go.Eng
namespace Go.Eng
open Go.Proofs Go.RowKit
set_option maxRecDepth 20000
theorem nf_qty(d c a:Int)(R:oR7):wpFn te [] [] 0 Tryz.f200 [.agg [.q d,.q c,.q a]] [] R=(wab (decide (d<1)) (R (.q 80) []) (wab (decide ((4:Int)<d)) (R (.q 80) []) (wab (decide (c<1)) (R (.q 81) []) (wab (decide ((100:Int)<c)) (R (.q 81) []) (wab (decide (a<1)) (R (.q 82) []) ((c≠(0:Int)/\inR .i64 (Int.tdiv (1099511627776:Int) c))/\wab (decide (Int.tdiv (1099511627776:Int) c<a)) (R (.q 82) []) (R (.q 0) []))))))):=by kernel_rfl
variable {C:Ctx} [C.Loose]
theorem qty_ok(hP:C.P=Tryz.prog):wai C 200 wmr:=by
 have _:C.Loose:=inferInstance;rintro args objs U Os vc h hvc;unfold wmr at h;split at h<;>cases h;rename_i d c a;refine wai.wp0 (prg hP) [] 0 .nil (hP ▸ Tryz.func200) rfl rfl rfl ?_;rw[nf_qty];refine waz (λh1=>?_) (λh1=>waz (λh2=>?_) (λh2=>waz (λh3=>?_) (λh3=>waz (λh4=>?_) (λh4=>waz (λh5=>?_) (λh5=>⟨wza (of_decide_eq_false h3) (of_decide_eq_false h4),waz (λh6=>?_) (λh6=>?_)⟩)))))
 all_goals simp only[qtyF, *,cond_true,cond_false,and_self]
theorem w1x(s:List UInt8)(r:Int)(R:oR7):wpFn te [(266,.det whu),(267,.det wl9)] [(38,wpg s),(5,wpf s (Utf8.encode r).data.toList),(25,λ_ _=>False)] 0 Tryz.f253 [.str s,.int .i32 r] [] R=(letI z3:=St.mk [(0,.str s),(175,.ptr 0 0)] [(0,.siter s 0)] 1 [];letI z1:=Array.toList (ByteArray.data (Utf8.encode r));letI z4:=(z1.length:Int);letI z2:=(St.mk [(0,.str s),(7,.str z1),(8,.q (z4 - (1:Int))),(9,.q (z4 - (1:Int)))] [] 0 []);letI z0:=(wab (decide (r=65533)) (some z3=some z3/\ascii s=true/\R (.q (-1:Int)) []) (True/\wab (!Lib.validRune r) (R (.q (-1:Int)) []) (True/\inR .i64 (z4 - (1:Int))/\some z2=some z2/\ascii s=true/\s.length<=1000000/\2<=z1.length/\z1.length<=4/\128<=UInt8.toNat (List.getD z1 (z1.length - 1) (0:UInt8))/\R (.q (-1:Int)) []/\R (.q (-1:Int)) [])));wab (decide ((0:Int)<=r)) (wab (decide (r<128)) (inR .u8 r/\True/\R (.q (Lib.indexByte s (Nat.toUInt8 r.toNat))) []) z0) z0):=by kernel_rfl
theorem w1w(s:List UInt8)(k:Nat)(P:Nat->Prop)(R:eR7):waw ⟨te,[],[],0,187,0⟩ (way Tryz.f253 38) [0,175] [] [4] (wne s) P R (wne s k)=(wab (decide (k<s.length)) (True/\wab (decide ((↑(wbx s k).1:Int)=65533)) (R .ret (St.mk [(4,.q (k:Int))] [] 0 [])) (∃(i':Nat),some (St.mk [(0,.str s),(175,.ptr 0 0)] [(0,.siter s (k+(wbx s k).2))] 1 [])=some (St.mk [(0,.str s),(175,.ptr 0 0)] [(0,.siter s i')] 1 [])/\P i')) (True/\R (.exit 9) (St.mk [] [] 0 []))):=by kernel_rfl
theorem w1v(s e:List UInt8)(P:Unit->Prop)(R:eR7):waw ⟨te,[(266,.det whu)],[(12,λ_ _=>False),(1015,λ_ _=>False),(1016,λ_ _=>False)],0,187,0⟩ (way Tryz.f253 5) [0,7,8,9] [] [4] (λ_=>wnd s e) P R (wnd s e)=(letI z5:=(s.length:Int);letI z0:=(e.length:Int);letI z4:=((0:Int)<=z0 - (1:Int)/\z0 - (1:Int)<z0:Prop);letI z3:=(List.drop (z0 - (1:Int)+1).toNat s);letI z1:=(↑(UInt8.toNat (List.getD e (z0 - (1:Int)).toNat (0:UInt8))):Int);letI z2:=(Lib.indexByte z3 (Nat.toUInt8 z1.toNat)+1);wab (decide (z0 - (1:Int)<z5)) (((0:Int)<=z0 - (1:Int)/\z0 - (1:Int)<z5)/\z4/\wab (!decide ((↑(UInt8.toNat (List.getD s (z0 - (1:Int)).toNat (0:UInt8))):Int)=z1)) (inR .i64 (z0 - (1:Int)+1)/\((0:Int)<=z0 - (1:Int)+1/\z0 - (1:Int)+1<=z5)/\z4/\True/\wab (decide (Lib.indexByte z3 (Nat.toUInt8 z1.toNat)<0)) (R .ret (St.mk [(4,.q (-1:Int))] [] 0 [])) (inR .i64 z2/\inR .i64 (z0 - (1:Int)+z2)/\False)) False) (R (.exit 1) (St.mk [] [] 0 []))):=by kernel_rfl
theorem w2h(s:List UInt8)(r:Int)(R:oR7):wpFn te [(253,.det wnf)] [] 0 Tryz.f231 [.str s,.int .i32 r] [] R=((ascii s=true/\s.length<=1000000/\(0:Int)<=r/\r<=1114111)/\R (.bool (decide ((0:Int)<=wcr s r))) []):=by kernel_rfl
variable {C:Ctx} [C.Loose]
theorem wvl(hP:C.P=Tryz.prog):wai C 266 whu:=by
 rintro args objs U Os vc h hvc;unfold whu at h;split at h<;>cases h;rename_i s c;refine wan.below ⟨Tryz.f266,hP ▸ Tryz.func266,rfl,by decide⟩ λw M cargs _ _ hM hl hv=>?_;obtain⟨a,b,rfl⟩:=mem2 hl;have e1:=(hv 0 _ _ rfl rfl).str_iff;have e2:=(hv 1 _ _ rfl rfl).int_iff;subst e1;subst e2;rw[hP];refine(Tryz.strings_IndexByte ⟨s.toArray⟩ c w).mono ?_;rintro e w' ⟨rfl,rfl⟩;exact⟨_,rfl,Below.refl _ _,.int⟩
theorem wx5(hP:C.P=Tryz.prog):wai C 267 wl9:=by
 rintro args objs U Os vc h hvc;unfold wl9 at h;split at h<;>cases h;rename_i r;refine wan.below ⟨Tryz.f267,hP ▸ Tryz.func267,rfl,by decide⟩ λw M cargs _ _ hM hl hv=>?_;obtain⟨a,rfl⟩:=mem1 hl;have e1:=(hv 0 _ _ rfl rfl).int_iff;subst e1;rw[hP];refine(Tryz.utf8_ValidRune r w).mono ?_;rintro e w' ⟨rfl,rfl⟩;exact⟨_,rfl,Below.refl _ _,.bool⟩
theorem w3x(hP:C.P=Tryz.prog)(s:List UInt8):waj C 0 187 (wal Tryz.f253 38) (wpg s):=by
 have _:C.Loose:=inferInstance;rintro st Q ⟨h0,ha,hQ⟩;refine waj.mk (prg hP) [] 0 .nil [0,175] [] [4] (wne s) (λk=>k<=s.length) (λk=>s.length - k) 0 (zL7 _) h0 λk hk=>?_;rw[w1w];refine waz (λh=>?_) (λh=>⟨trivial,hQ⟩);have h:=of_decide_eq_true h;have hlt:=wxf ha h;rw[wqf h hlt];refine⟨trivial,waz (λh'=>?_) (λ_=>⟨k+1,rfl,by omega,by omega⟩)⟩;have h':=of_decide_eq_true h';simp only at h';omega
theorem w3w(hP:C.P=Tryz.prog)(s e:List UInt8):waj C 0 187 (wal Tryz.f253 5) (wpf s e):=by
 rintro st Q ⟨h0,ha,hs,h2,h4,hl,hQ1,hQ2⟩
 refine waj.mkL (prg hP) [(266,.det whu)] [(12,λ_ _=>False),(1015,λ_ _=>False),(1016,λ_ _=>False)] 0 (.cons (wvl hP) .nil)
  [(wal Tryz.f253 12,λ_ _=>False),(regC Tryz.f253 15,λ_ _=>False),(regC Tryz.f253 16,λ_ _=>False)] (by kernel_rfl)
  ⟨λ_ _ h=>h.elim,λ_ _ h=>h.elim,λ_ _ h=>h.elim,trivial⟩ [0,7,8,9] [] [4] (λ_:Unit=>wnd s e) (λ_=>True) (λ_=>0) () trivial h0 λ_ _=>?_
 rw[w1v];refine waz (λh=>?_) (λh=>hQ1);have h:=of_decide_eq_true h;have e1:((e.length:Int) - 1).toNat=e.length - 1:=by omega
 have e2:((e.length:Int) - 1+1).toNat=e.length:=by omega
 have hlo:=wxf ha (k:=e.length - 1) (by omega);simp only[e1,e2,inR];have hne:decide (((s.getD (e.length - 1) 0).toNat:Int)=((e.getD (e.length - 1) 0).toNat:Int))=false:=decide_eq_false (by omega);rw[hne];have hb:(e.getD (e.length - 1) 0).toNat<256:=(e.getD (e.length - 1) 0).toNat_lt;have hneg:=w34 (w51 ha e.length) (c:=((e.getD (e.length - 1) 0).toNat:Int).toNat.toUInt8) (by rw[ws3];exact hl);refine⟨by omega,by omega,by omega,by omega,by omega,trivial,?_⟩;rw[hneg];exact hQ2
theorem w31(hP:C.P=Tryz.prog):wai C 253 wnf:=by
 rintro args objs U Os vc h hvc;unfold wnf at h;split at h<;>cases h;rename_i s r;obtain⟨ha,hs,h0,h1⟩:=hvc
 refine wai.wpL (prg hP) [(266,.det whu),(267,.det wl9)] [(38,wpg s),(5,wpf s (Utf8.encode r).data.toList),(25,λ_ _=>False)] 0
  (.cons (wvl hP) (.cons (wx5 hP) .nil)) (hP ▸ Tryz.func253) rfl rfl rfl
  [(wal Tryz.f253 38,wpg s),(wal Tryz.f253 5,wpf s (Utf8.encode r).data.toList),(wal Tryz.f253 25,λ_ _=>False)] (by kernel_rfl)
  ⟨w3x hP s,w3w hP s _,λ_ _ h=>h.elim,trivial⟩ ?_
 rw[w1x];refine waz (λ_=>waz (λh=>?_) (λh=>?_)) (λh=>absurd h0 (of_decide_eq_false h))
 ·have h':=of_decide_eq_true h;refine⟨by simp only[inR];omega,trivial,?_,rfl⟩;simp only[wcr,h]
 ·have h':=of_decide_eq_false h;refine waz (λ_=>⟨rfl,ha,?_,rfl⟩) (λ_=>⟨trivial,waz (λ_=>⟨?_,rfl⟩) (λhv=>?_)⟩)
  ·simp only[wcr,h]
  ·simp only[wcr,h]
  ·have hv:Lib.validRune r=true:=by simpa using hv
   obtain⟨l1,l2,l3⟩:=w4r (by omega) hv;refine⟨trivial,by simp only[inR];omega,rfl,ha,hs,l1,l2,l3,⟨?_,rfl⟩,⟨?_,rfl⟩⟩
   ·simp only[wcr,h]
   ·simp only[wcr,h]
theorem w46(hP:C.P=Tryz.prog):wai C 231 wnx:=by
 rintro args objs U Os vc h hvc;unfold wnx at h;split at h<;>cases h;rename_i s r;refine wai.wp0 (prg hP) [(253,.det wnf)] 0 (.cons (w31 hP) .nil) (hP ▸ Tryz.func231) rfl rfl rfl ?_;rw[w2h];exact⟨hvc,rfl,rfl⟩
theorem w1h(r:Int)(R:oR7):wpFn te [(231,.det wnx)] [] 0 Tryz.f230 [.int .i32 r] [] R=((true=true/\38<=1000000/\(0:Int)<=r/\r<=1114111)/\R (.bool !decide ((0:Int)<=wcr ([(97:UInt8),98,99,100,101,102,103,104,105,106,107,108,109,110,111,112,113,114,115,116,117,118,119,120,121,122,48,49,50,51,52,53,54,55,56,57,45,46]) r)) []):=by kernel_rfl
theorem w1z(s:List UInt8)(R:oR7):wpFn te [] [(2,wph s)] 0 Tryz.f265 [.str s,.func 230 [],.bool true] [] R=(letI z0:=St.mk [(1,.func 230 []),(2,.bool true),(10,.ptr 0 0)] [(0,.siter s 0)] 1 [];some z0=some z0/\wab (List.all s isNB) (R (.q (-1:Int)) []) (R (.q (↑(wdn s):Int)) [])):=by kernel_rfl
theorem w1y(s:List UInt8)(k:Nat)(P:Nat->Prop)(R:eR7):waw ⟨te,[(230,.det wm1)],[],0,21,0⟩ (way Tryz.f265 2) [1,2,10] [] [6] (wnl s) P R (wnl s k)=(letI z1:=([(1,.func 230 []),(2,.bool true),(10,.ptr 0 0)]:tL7);letI z0:=(↑(wbx s k).1:Int);wab (decide (k<s.length)) (True/\((0:Int)<=z0/\z0<=1114111)/\wab (decide ((!decide ((0:Int)<=wcr wfn z0))=true)) (R .ret (St.mk [(6,.q (k:Int))] [] 0 [])) (∃(i':Nat),some (St.mk z1 [(0,.siter s (k+(wbx s k).2))] 1 [])=some (St.mk z1 [(0,.siter s i')] 1 [])/\P i')) (True/\R (.exit 0) (St.mk [] [] 0 []))):=by kernel_rfl
theorem w2r(s:List UInt8)(R:oR7):wpFn te [(265,.det wng)] [] 0 Tryz.f252 [.str s,.func 230 []] [] R=(True/\R (.q (wft s)) []):=by kernel_rfl
theorem w2s(s:List UInt8)(R:oR7):wpFn te [(252,.det wn7)] [] 0 Tryz.f229 [.str s,.func 230 []] [] R=(True/\R (.bool (decide ((0:Int)<=wft s))) []):=by kernel_rfl
theorem nf_name(s:List UInt8)(R:oR7):wpFn te [(228,.det we8),(229,.det wn8)] [] 0 Tryz.f199 [.str s] [] R=(wab (!decide (s=[])) (wab (decide ((s.length:Int)<=24)) (((0:Int)<=1/\(1:Int)<=(s.length:Int))/\((List.take (1:Int).toNat s).length<=9223372036854775807/\2<=36/\36<4294967281/\∀(b:UInt8),b∈[(97:UInt8),98,99,100,101,102,103,104,105,106,107,108,109,110,111,112,113,114,115,116,117,118,119,120,121,122,48,49,50,51,52,53,54,55,56,57]->UInt8.toNat b<128)/\wab (decide (wfd ([(97:UInt8),98,99,100,101,102,103,104,105,106,107,108,109,110,111,112,113,114,115,116,117,118,119,120,121,122,48,49,50,51,52,53,54,55,56,57]) (List.take (1:Int).toNat s)=[])) (True/\R (.bool !!List.all s isNB) []) (R (.bool false) [])) (R (.bool false) [])) (R (.bool false) [])):=by kernel_rfl
variable {C:Ctx} [C.Loose]
theorem w2z(hP:C.P=Tryz.prog):wai C 230 wm1:=by
 rintro args objs U Os vc h hvc;unfold wm1 at h;split at h<;>cases h;rename_i r;refine wai.wp0 (prg hP) [(231,.det wnx)] 0 (.cons (w46 hP) .nil) (hP ▸ Tryz.func230) rfl rfl rfl ?_;rw[w1h];exact⟨⟨rfl,by omega,hvc.1,hvc.2⟩,rfl,rfl⟩
theorem w33(hP:C.P=Tryz.prog)(s:List UInt8):waj C 0 21 (wal Tryz.f265 2) (wph s):=by
 rintro st Q ⟨h0,hQ⟩;have hQ:=wbs hQ;refine waj.mk (prg hP) [(230,.det wm1)] 0 (.cons (w2z hP) .nil) [1,2,10] [] [6] (wnl s) (λk=>k<=s.length/\∀j,j<k->isNB (s.getD j 0)=true) (λk=>s.length - k) 0 ⟨zL7 _,λj h=>by omega⟩ h0 λk ⟨hk,hall⟩=>?_;rw[w1y];refine waz (λh=>?_) (λh=>⟨trivial,?_⟩)
 ·have h:=of_decide_eq_true h;have hle:=wyz h;refine⟨trivial,⟨by omega,by omega⟩,?_⟩
  -- what the predicate says of the rune is what isNB says of the byte
  have key:(decide (0<=wcr wfn ((wbx s k).1:Int)))=isNB (s.getD k 0)/\(isNB (s.getD k 0)=true->(wbx s k).2=1):=by
   by_cases hlo:(s.getD k 0).toNat<128
   ·rw[wqf h hlo];exact⟨w2u _ hlo,λ_=>rfl⟩
   ·have hh:=wtu h (by omega);have hn:isNB (s.getD k 0)=false:=by
     generalize s.getD k 0=b at *;simp only[isNB,we5,Bool.or_eq_false_iff,Bool.and_eq_false_imp,decide_eq_true_eq,decide_eq_false_iff_not];omega
    rw[w2v _ hh.1,hn];exact⟨rfl,λh=>by cases h⟩
  rw[key.1];refine waz (λhb=>?_) (λhb=>?_)
  ·have hb:isNB (s.getD k 0)=false:=by simpa using hb
   have hf:s.all isNB=false:=by
    cases ha:s.all isNB with
    |false=>rfl
    |true=>
     have:=List.all_eq_true.1 ha (s.getD k 0) (by simp[List.getD,h]);rw[hb] at this;cases this
   obtain⟨b1,b2,b3⟩:=w5y hf;have:wdn s=k:=by
    rcases Nat.lt_trichotomy (wdn s) k with hl | hl | hl
    ·rw[hall _ hl] at b2;cases b2
    ·exact hl
    ·rw[b3 k hl] at hb;cases hb
   have hq:=hQ.2 hf;rw[this] at hq;exact hq
  ·have hb:isNB (s.getD k 0)=true:=by simpa using hb
   rw[key.2 hb];refine⟨k+1,rfl,⟨by omega,λj hj=>?_⟩,by omega⟩
   rcases Nat.lt_succ_iff_lt_or_eq.1 hj with hj | rfl
   ·exact hall j hj
   ·exact hb
 ·have h:=of_decide_eq_false h;refine hQ.1 (List.all_eq_true.2 λb hb=>?_);obtain⟨j,hj,rfl⟩:=List.getElem_of_mem hb;have:=hall j (by omega);simpa[List.getD,hj] using this
theorem w32(hP:C.P=Tryz.prog):wai C 265 wng:=by
 rintro args objs U Os vc h hvc;unfold wng at h;split at h<;>cases h;rename_i s;refine wai.wpL (prg hP) [] [(2,wph s)] 0 .nil (hP ▸ Tryz.func265) rfl rfl rfl [(wal Tryz.f265 2,wph s)] (by kernel_rfl) ⟨w33 hP s,trivial⟩ ?_;rw[w1z];refine⟨rfl,waz (λh=>⟨?_,rfl⟩) (λh=>⟨?_,rfl⟩)⟩
 ·simp only[wft,h]
 ·simp only[wft,h]
theorem w58(hP:C.P=Tryz.prog):wai C 252 wn7:=by
 rintro args objs U Os vc h hvc;unfold wn7 at h;split at h<;>cases h;rename_i s;refine wai.wp0 (prg hP) [(265,.det wng)] 0 (.cons (w32 hP) .nil) (hP ▸ Tryz.func252) rfl rfl rfl ?_;rw[w2r];exact⟨trivial,rfl,rfl⟩
theorem w59(hP:C.P=Tryz.prog):wai C 229 wn8:=by
 rintro args objs U Os vc h hvc;unfold wn8 at h;split at h<;>cases h;rename_i s;refine wai.wp0 (prg hP) [(252,.det wn7)] 0 (.cons (w58 hP) .nil) (hP ▸ Tryz.func229) rfl rfl rfl ?_;rw[w2s,w4i];exact⟨trivial,rfl,rfl⟩
theorem wus(hP:C.P=Tryz.prog):wai C 199 whr:=by
 rintro args objs U Os vc h hvc;unfold whr at h;split at h<;>cases h;rename_i s;refine wai.wp0 (prg hP) [(228,.det we8),(229,.det wn8)] 0 (.cons (wh9 hP) (.cons (w59 hP) .nil)) (hP ▸ Tryz.func199) rfl rfl rfl ?_;rw[nf_name]
 cases s with
 |nil=>exact⟨rfl,rfl⟩
 |cons b r=>
  have e:(b::r).take (Int.toNat 1)=[b]:=rfl;have hasc:∀x∈wkn,UInt8.toNat x<128:=by decide+kernel
  rw[e,wyc];have hl:(List.length (b::r):Int)=r.length+1:=by simp
  have hl':List.length (b::r)=r.length+1:=rfl;have hd:(b::r).getD 0 0=b:=rfl;refine waz (λ_=>waz (λh=>⟨by omega,⟨by simp,by omega,by omega,hasc⟩,waz (λh'=>⟨trivial,?_,rfl⟩) (λh'=>⟨?_,rfl⟩)⟩) (λh=>⟨?_,rfl⟩)) (λh=>by simp at h)
  ·have h:=of_decide_eq_true h;simp only[wa3,hd,h',hl',Bool.not_not];rw[decide_eq_true (by omega),decide_eq_true (by omega)];rfl
  ·simp only[wa3,hd,h',Bool.and_false,Bool.false_and]
  ·have h:=of_decide_eq_false h;simp only[wa3,hl'];rw[decide_eq_false (p:=r.length+1<=24) (by omega)];simp
end Go.Eng
namespace Go.Eng
open Go.Proofs
set_option maxRecDepth 20000
theorem w2a(s:List UInt8)(a b:Int)(R:oR7):wpFn te [(228,.det we8)] [] 0 Tryz.f201 [.str s,.q a,.q b] [] R=(letI z0:=((s.length<=9223372036854775807/\2<=10/\10<4294967281/\∀(b:UInt8),b∈[(48:UInt8),49,50,51,52,53,54,55,56,57]->UInt8.toNat b<128)/\R (.bool (decide (wfd ([(48:UInt8),49,50,51,52,53,54,55,56,57]) s=[]))) []:Prop);wab (decide ((s.length:Int)=a)) z0 (wab (decide ((s.length:Int)=b)) z0 (R (.bool false) []))):=by kernel_rfl
theorem w2p(s:List UInt8)(R:oR7):wpFn te [(201,.det whv)] [(5,wps s)] 0 Tryz.f202 [.str s] [] R=(((7:Int)<=100/\(12:Int)<=100)/\wab (!wbp s (7:Int) (12:Int)) (R (.tuple [.q 0,.bool false]) []) (some (St.mk [(0,.str s),(4,.q 0),(11,.q (s.length:Int)),(12,.q 0)] [] 0 [])=some (St.mk [(0,.str s),(4,.q (wa8 s 0)),(11,.q (s.length:Int)),(12,.q (↑0:Int))] [] 0 [])/\s.length<=12/\List.all s wbk=true/\(10:Int)≠(0:Int)/\inR .i64 ((10:Int) - Int.tmod (wa8 s s.length) (10:Int))/\(10:Int)≠(0:Int)/\R (.tuple [.q (Int.tmod ((10:Int) - Int.tmod (wa8 s s.length) (10:Int)) (10:Int)),.bool true]) [])):=by kernel_rfl
theorem w2o(s:List UInt8)(k:Nat)(P:Nat->Prop)(R:eR7):waw ⟨te,[],[],0,36,0⟩ (way Tryz.f202 5) [0,4,11,12] [4] [] (S_cd s) P R (S_cd s k)=(letI z1:=(s.length:Int);letI z3:=(z1 - (k:Int));letI z0:=(↑(UInt8.toNat (List.getD s (k:Int).toNat (0:UInt8))):Int);letI z2:=(wa8 s k+((1:Int)+2 * Int.tmod z3 (2:Int)) * ((z0 - (48:Int)) % (256:Int)));wab (decide ((k:Int)<z1)) (inR .i64 z3/\(2:Int)≠(0:Int)/\inR .i64 ((2:Int) * Int.tmod z3 (2:Int))/\inR .i64 ((1:Int)+2 * Int.tmod z3 (2:Int))/\((0:Int)<=(k:Int)/\(k:Int)<z1)/\inR .i64 ((z0 - (48:Int)) % (256:Int))/\inR .i64 (((1:Int)+2 * Int.tmod z3 (2:Int)) * ((z0 - (48:Int)) % (256:Int)))/\inR .i64 z2/\inR .i64 ((k:Int)+1)/\∃(i':Nat),some (St.mk [(0,.str s),(4,.q z2),(11,.q z1),(12,.q ((k:Int)+1))] [] 0 [])=some (St.mk [(0,.str s),(4,.q (wa8 s i')),(11,.q z1),(12,.q (i':Int))] [] 0 [])/\P i') (R (.exit 0) (St.mk [(4,.q (wa8 s k))] [] 0 []))):=by kernel_rfl
theorem wz6(s:List UInt8)(R:oR7):wpFn te [(201,.det whv),(202,.det wep)] [] 0 Tryz.f160 [.str s] [] R=(letI z0:=(s.length:Int);letI z1:=(↑(UInt8.toNat (List.getD s (z0 - (1:Int)).toNat (0:UInt8))):Int);((8:Int)<=100/\(13:Int)<=100)/\wab (!wbp s (8:Int) (13:Int)) (R (.bool false) []) (inR .i64 (z0 - (1:Int))/\((0:Int)<=z0 - (1:Int)/\z0 - (1:Int)<=z0)/\True/\((0:Int)<=z0 - (1:Int)/\z0 - (1:Int)<z0)/\inR .i64 ((z1 - (48:Int)) % (256:Int))/\R (.bool (decide ((cdF (List.take (z0 - (1:Int)).toNat s)).1=(z1 - (48:Int)) % (256:Int)))) [])):=by kernel_rfl
variable {C:Ctx} [C.Loose]
theorem wwp(hP:C.P=Tryz.prog)(htrim:wai C 228 we8):wai C 201 whv:=by
 have _:C.Loose:=inferInstance;rintro args objs U Os vc h hvc;unfold whv at h;split at h<;>cases h;rename_i s a b;refine wai.wp0 (prg hP) [(228,.det we8)] 0 (.cons htrim .nil) (hP ▸ Tryz.func201) rfl rfl rfl ?_;rw[w2a];have hm:(9223372036854775807:Nat)=maxLen:=rfl;have hlt:∀b∈([48,49,50,51,52,53,54,55,56,57]:List UInt8),UInt8.toNat b<128:=by decide
 refine waz (λh=>?_) (λh=>waz (λh'=>?_) (λh'=>?_))
 ·have h2:=of_decide_eq_true h;refine⟨⟨by omega,by omega,by omega,hlt⟩,?_,rfl⟩;simp only[wbp,h,Bool.true_or,Bool.true_and,ws7]
 ·have h2:=of_decide_eq_true h';refine⟨⟨by omega,by omega,by omega,hlt⟩,?_,rfl⟩;simp only[wbp,h',Bool.or_true,Bool.true_and,ws7]
 ·simp[wbp,h,h']
theorem wlt{s:List UInt8}(h:s.all wbk=true):∀k,k<=s.length->0<=wa8 s k/\wa8 s k<=27 * k
 |0,_=>by simp[wa8]
 |k+1,hk=>by
  have ih:=wlt h k (by omega);have hd:=wk1 h k (by omega);simp only[wa8]
  rcases Int.emod_two_eq (↑s.length - ↑k) with e | e<;>rw[e]<;>omega
theorem w5f(hP:C.P=Tryz.prog)(s:List UInt8):waj C 0 36 (wal Tryz.f202 5) (wps s):=by
 have _:C.Loose:=inferInstance;rintro st Q ⟨h0,hlen,hall,hQ⟩;refine waj.mk (prg hP) [] 0 .nil [0,4,11,12] [4] [] (S_cd s) (λk=>k<=s.length) (λk=>s.length - k) 0 (zL7 _) h0 λk hk=>?_;rw[w2o];have hb:=wlt hall k hk;refine waz (λh=>?_) (λh=>?_)
 ·have h:=of_decide_eq_true h;have hd:=wk1 hall k (by omega);have e:Int.tmod (↑s.length - ↑k) 2=(↑s.length - ↑k) % 2:=Int.tmod_eq_emod_of_nonneg (by omega);have e3:((s.getD k 0).toNat - 48:Int) % 256=(s.getD k 0).toNat - 48:=by omega
  simp only[inR,e,tN7,e3];have hs:wa8 s (k+1)=wa8 s k+(1+2 * ((↑s.length - ↑k) % 2)) * (↑(s.getD k 0).toNat - 48):=rfl
  rcases Int.emod_two_eq (↑s.length - ↑k) with e | e<;>rw[e] at hs ⊢ <;>and_intros<;>first
   |omega
   |exact⟨k+1,by rw[hs];rfl,by omega,by omega⟩
 ·have h:=of_decide_eq_false h;have hk:k=s.length:=by omega
  rw[hk];exact hQ
theorem w5e(hP:C.P=Tryz.prog)(htrim:wai C 228 we8):wai C 202 wep:=by
 rintro args objs U Os vc h hvc;unfold wep at h;split at h<;>cases h;rename_i s;refine wai.wpL (prg hP) [(201,.det whv)] [(5,wps s)] 0 (.cons (wwp hP htrim) .nil) (hP ▸ Tryz.func202) rfl rfl rfl [(wal Tryz.f202 5,wps s)] (by kernel_rfl) ⟨w5f hP s,trivial⟩ ?_;rw[w2p];refine⟨by omega,waz (λh=>?_) (λh=>?_)⟩
 ·have h:wbp s 7 12=false:=by simpa using h
  simp[cdF,h]
 ·have h:wbp s 7 12=true:=by simpa using h
  have h':=h;simp only[wbp,bA7,Bool.or_eq_true,decide_eq_true_eq] at h';have hb:=wlt h'.2 s.length (lR7 _);have e:Int.tmod (wa8 s s.length) 10=wa8 s s.length % 10:=Int.tmod_eq_emod_of_nonneg (by omega);rw[e,Int.tmod_eq_emod_of_nonneg (by omega)];refine⟨rfl,by omega,h'.2,by omega,by simp only[inR];omega,by omega,?_,rfl⟩;simp[cdF,h]
theorem wjw(hP:C.P=Tryz.prog)(htrim:wai C 228 we8):wai C 160 wct:=by
 rintro args objs U Os vc h hvc;unfold wct at h;split at h<;>cases h;rename_i s;refine wai.wp0 (prg hP) [(201,.det whv),(202,.det wep)] 0 (.cons (wwp hP htrim) (.cons (w5e hP htrim) .nil)) (hP ▸ Tryz.func160) rfl rfl rfl ?_;rw[wz6];refine⟨by omega,waz (λh=>?_) (λh=>?_)⟩
 ·have h:wbp s 8 13=false:=by simpa using h
  simp[wba,h]
 ·have h:wbp s 8 13=true:=by simpa using h
  have h':=h;simp only[wbp,bA7,Bool.or_eq_true,decide_eq_true_eq] at h';have e:(↑s.length - 1:Int).toNat=s.length - 1:=by omega
  have hd:=wk1 h'.2 (s.length - 1) (by omega);rw[e];have e2:((s.getD (s.length - 1) 0).toNat - 48:Int) % 256=(s.getD (s.length - 1) 0).toNat - 48:=by omega
  simp only[inR,e2];refine⟨by omega,by omega,trivial,by omega,by omega,?_,trivial⟩;simp[wba,h]
end Go.Eng
namespace Go.Eng
open Go.Proofs Go.RowKit
variable {C:Ctx} [C.Loose]
set_option maxRecDepth 20000
theorem nf_valw(id code brand:List UInt8)(d c a:Int)(n:Nat)(nm vl:Nat->List UInt8)(R:oR7):wpFn te [(160,.det wct),(198,.det wm8),(199,.det whr),(200,.det wmr)] [(13,L_vw n nm vl)] 2 Tryz.f159 [.agg [.str id,.str code,.str brand,.q d,.q c,.q a,.view 2 n (wfw nm vl)]] [] R=(True/\wab (!wba id) (R (.q 90) []) (code.length<4294967281/\wab (decide (wgf code<1)) (R (.q 91) []) (True/\wab (!wa3 brand) (R (.q 92) []) (True/\wab (!decide (qtyF d c a=0)) (R (.q 93) []) (wab (decide ((12:Int)<(n:Int))) (R (.q 94) []) (some (St.mk [(3,.map 0),(33,.view 2 n (wfw nm vl)),(34,.q (n:Int)),(35,.q 0)] [(0,.amap (List.map (λ(p:AV×AV)=>(AV.rn (ren 0 [(65,0)]) p.1,AV.rn (ren 0 [(65,0)]) p.2)) []))] 1 [])=some (St.mk [(3,.map 0),(33,.view 2 n (wfw nm vl)),(34,.q (n:Int)),(35,.q (↑0:Int))] [(0,.amap (wbw nm 0))] 1 [])/\n<=12/\(∀(i:Nat),i<n->(nm i).length<4294967281/\(vl i).length<4294967281)/\wab (weh nm vl n) (R (.q 0) []) (R (.q 94) []))))))):=by kernel_rfl
theorem wz1(n:Nat)(nm vl:Nat->List UInt8)(k:Nat)(P:Nat->Prop)(R:eR7):waw ⟨te,[(199,.det whr)],[],0,59,0⟩ (way Tryz.f159 13) [3,33,34,35] [] [2] (S_vw n nm vl) P R (S_vw n nm vl k)=(letI z3:=(k:Int).toNat;letI z2:=TI.desc (TI.mk TypeDesc.string 1 16 (Value.string (ByteArray.mk #[])) false);letI z1:=R .ret (St.mk [(2,.q 94)] [] 0 []);letI z0:=(mget (wbw nm k) (.str (nm z3)));letI z4:=whg (Option.getD z0 (zvA (.bool false)));wab (decide ((k:Int)<(n:Int))) (((0:Int)<=(k:Int)/\(k:Int)<(n:Int)/\2=2)/\True/\wab (!wa3 (nm z3)) z1 (True/\wab (!wa3 (vl z3)) z1 ((wbv z2 (wbw nm k)/\.bool z4=Option.getD z0 (zvA (.bool false)))/\wab z4 z1 (wbv z2 (wbw nm k)/\inR .i64 ((k:Int)+1)/\∃(i':Nat),some (St.mk [(3,.map 0),(33,.view 2 n (wfw nm vl)),(34,.q (n:Int)),(35,.q ((k:Int)+1))] [(0,.amap (List.map (λ(p:AV×AV)=>(AV.rn (ren 0 [(0,0)]) p.1,AV.rn (ren 0 [(0,0)]) p.2)) (mset (wbw nm k) (.str (nm z3)) (.bool true))))] 1 [])=some (St.mk [(3,.map 0),(33,.view 2 n (wfw nm vl)),(34,.q (n:Int)),(35,.q (i':Int))] [(0,.amap (wbw nm i'))] 1 [])/\P i')))) (R (.exit 1) (St.mk [] [] 0 []))):=by kernel_rfl
theorem wx4(hP:C.P=Tryz.prog)(n:Nat)(nm vl:Nat->List UInt8):waj C 0 59 (wal Tryz.f159 13) (L_vw n nm vl):=by
 rintro st Q ⟨h0,hn,hs,hQ⟩;have hR:=wbs hQ;refine waj.mk (prg hP) [(199,.det whr)] 0 (.cons (wus hP) .nil) [3,33,34,35] [] [2] (S_vw n nm vl) (λk=>k<=n/\weh nm vl k=true) (λk=>n - k) 0 ⟨by omega,rfl⟩ h0 (λk hk=>?_);obtain⟨hkn,hok⟩:=hk;rw[wz1];have hbad:∀m,k<=m->k<m->atOK nm vl k=false->weh nm vl m=false:=by
  intro m
  induction m with
  |zero=>intro _ h;omega
  |succ m ih=>
   intro _ h2 h3;rw[weh]
   by_cases hkm:k=m
   ·subst hkm;rw[h3,Bool.and_false]
   ·rw[ih (by omega) (by omega) h3,Bool.false_and]
 rw[tN7];refine wak (λh1=>?_) (λh1=>?_)
 ·have hlt:k<n:=by omega
  have hfail:atOK nm vl k=false->Q .ret (St.mk [(2,.q 94)] [] 0 []):=λh=>hR.2 (hbad n hkn hlt h);have hk:=wtp nm vl k hok;rw[wu4];refine⟨⟨by omega,by omega,rfl⟩,trivial,wcb (λh2=>hfail (by unfold atOK;rw[h2];rfl)) (λh2=>⟨trivial,wcb (λh3=>hfail (by unfold atOK;rw[h3,Bool.and_false];rfl)) (λh3=>⟨⟨hk,?_⟩,?_⟩)⟩)⟩
  ·cases (List.range k).any (λi=>decide (nm i=nm k))<;>rfl
  ·cases ha:(List.range k).any (λi=>decide (nm i=nm k)) with
   |true=>exact hfail (by unfold atOK;rw[wk8,ha];simp)
   |false=>
    have hat:atOK nm vl k=true:=by unfold atOK;rw[h2,h3,wk8,ha];rfl
    refine⟨hk,by simp only[inR];omega,k+1,?_,⟨by omega,by rw[weh,hok,hat];rfl⟩,by omega⟩;rw[w25 nm _ _ k ha,show wbw nm k++[(.str (nm k),AV.bool true)]=wbw nm (k+1) from rfl,wto];rfl
 ·have:k=n:=by omega
  subst this;exact hR.1 hok
theorem valV_ok(hP:C.P=Tryz.prog)(hL:∀w,C.laid w->LaidW w):wai C 159 S_valV:=by
 rintro args objs U Os vc h hvc;unfold S_valV at h;split at h<;>cases h;rename_i id code brand d c a n f;obtain⟨hn,h1,h2,hs,hf⟩:=hvc;rw[hf];rw[← hf];generalize nmOf f=nm at *;generalize vlOf f=vl at *;rw[hf];unfold valF;refine wai.wpL (prg hP) [(160,.det wct),(198,.det wm8),(199,.det whr),(200,.det wmr)] [(13,L_vw n nm vl)] 2 (.cons (wjw hP (wh9 hP)) (.cons (w3i hP hL) (.cons (wus hP) (.cons (qty_ok hP) .nil)))) (hP ▸ Tryz.func159) rfl rfl rfl [(wal Tryz.f159 13,L_vw n nm vl)] (by kernel_rfl) ⟨wx4 hP n nm vl,trivial⟩ ?_;rw[nf_valw,w3j];refine⟨trivial,wcb (λq1=>?_) (λq1=>⟨h1,wcb (λq2=>?_) (λq2=>⟨trivial,wcb (λq3=>?_) (λq3=>⟨trivial,wbj (λq4=>?_) (λq4=>wak (λq5=>?_) (λq5=>⟨rfl,by omega,hs,waz (λq6=>?_) (λq6=>?_)⟩))⟩)⟩)⟩)⟩
 ·rw[q1];exact⟨rfl,rfl⟩
 ·rw[q1,q2];exact⟨rfl,rfl⟩
 ·rw[q1,q2,q3];exact⟨rfl,rfl⟩
 ·rw[q1,q2,q3,decide_eq_false q4];exact⟨rfl,rfl⟩
 ·rw[q1,q2,q3,decide_eq_true q4,decide_eq_true (show 12<n by omega)];exact⟨rfl,rfl⟩
 ·rw[q1,q2,q3,decide_eq_true q4,decide_eq_false (show ¬ 12<n by omega),q6];exact⟨rfl,rfl⟩
 ·rw[q1,q2,q3,decide_eq_true q4,decide_eq_false (show ¬ 12<n by omega),q6];exact⟨rfl,rfl⟩
theorem w2i(s:List UInt8)(R:oR7):wpFn te [(159,.det wma)] [] 0 Tryz.f120 [.str s] [] R=((2<4294967281/\s.length<4294967281)/\R (.bool (decide ((valF [(48:UInt8),48,48,48,48,48,48,48] [(48:UInt8),49] s (4:Int) (1:Int) (1:Int) 0 (λ(_x:Nat)=>[]) λ(_x:Nat)=>[])=0))) []):=by kernel_rfl
theorem nf_cnum(n:Int)(R:oR7):wpFn te [] [] 0 Tryz.f121 [.q n] [] R=(wab (decide ((1:Int)<=n)) (R (.bool (decide (n<=1048576))) []) (R (.bool false) [])):=by kernel_rfl
theorem nf_calv(n:Int)(R:oR7):wpFn te [] [] 0 Tryz.f124 [.q n] [] R=(wab (decide ((0:Int)<=n)) (R (.bool (decide (n<=182620))) []) (R (.bool false) [])):=by kernel_rfl
theorem wzu(n:Int)(R:oR7):wpFn te [(124,.det wn2)] [] 0 Tryz.f73 [.q n] [] R=(True/\wab (!(decide ((0:Int)<=n) && decide (n<=182620))) (R (.q (-1:Int)) []) ((7:Int)≠(0:Int)/\R (.q (Int.tmod n (7:Int))) [])):=by kernel_rfl
theorem nf_slot(o p:List UInt8)(per:Int)(R:oR7):wpFn te [(120,.det whx),(160,.det wct)] [] 0 Tryz.f123 [.str o,.str p,.q per] [] R=(o.length<4294967281/\wab (wa3 o) (True/\wab (wba p) (wab (decide ((0:Int)<=per)) (R (.bool (decide (per<=5999))) []) (R (.bool false) [])) (R (.bool false) [])) (R (.bool false) [])):=by kernel_rfl
theorem wz4(o p:List UInt8)(per day st pr:Int)(rep:List UInt8)(R:oR7):wpFn te [(123,.det wem),(160,.det wct),(73,.det whm)] [] 0 Tryz.f122 [.agg [.str o,.str p,.q per,.q day,.q st,.q pr,.str rep]] [] R=(letI z3:=R (.bool false) [];letI z0:=(wab (decide (st=5)) (True/\wab (wba rep) (R (.bool !decide (rep=p)) []) z3) (R (.bool (decide (rep=[]))) []));letI z2:=(wab (decide (pr<1)) z3 (wab (decide ((1099511627776:Int)<pr)) z3 z0));letI z1:=(wab (decide (st=3)) (wab (decide (st=3)) (wab (!decide (pr=0)) z3 z0) z3) (wab (decide (st=4)) (wab (!decide (pr=0)) z3 z0) z3));o.length<4294967281/\wab (!wbh o p per) z3 (True/\wab (decide ((bif decide ((0:Int)<=day) && decide (day<=182620) then day % (7:Int) else (-1:Int))<0)) z3 (wab (decide (st=1)) (wab (decide (st=1)) z2 z1) (wab (decide (st=2)) (wab (decide (st=2)) z2 z1) (wab (decide (st=5)) z2 z1))))):=by kernel_rfl
theorem nf_msg(m:MG)(R:oR7):wpFn te [(120,.det whx),(123,.det wem),(122,.det wfy),(121,.det wmv)] [] 0 Tryz.f72 [.agg [.str m.dev,.q m.seq,.q m.kind,.str m.v.o,.str m.v.p,.q m.v.per,.q m.v.day,.q m.v.st,.q m.v.pr,.str m.v.rep,.str m.d.o,.str m.d.p,.q m.d.per,.str m.d.dev,.q m.d.num]] [] R=(letI z6:=(m.kind=1);letI z5:=(m.kind=2);letI z4:=R (.q 114) [];letI z2:=(wab (decide z5) (m.d.o.length<4294967281/\wab (wbh m.d.o m.d.p m.d.per) (m.d.dev.length<4294967281/\wab (wa3 m.d.dev) (True/\wab (!numF m.d.num) z4 (R (.q 0) [])) z4) z4) (R (.q 0) []));letI z0:=(wab (decide z6) (wab (!(decide (m.d.o=[]) && (decide (m.d.p=[]) && (decide (m.d.per=0) && (decide (m.d.dev=[]) && decide (m.d.num=0)))))) z4 z2) z2);letI z1:=(wab (decide z5) (wab (!(decide (m.v.o=[]) && (decide (m.v.p=[]) && (decide (m.v.per=0) && (decide (m.v.day=0) && (decide (m.v.st=0) && (decide (m.v.pr=0) && decide (m.v.rep=[])))))))) (R (.q 113) []) z0) z0);letI z3:=(wab (decide z6) (m.v.o.length<4294967281/\wab (!visF (VT.mk m.v.o m.v.p m.v.per m.v.day m.v.st m.v.pr m.v.rep)) (R (.q 113) []) z1) z1);m.dev.length<4294967281/\wab (!wa3 m.dev) (R (.q 110) []) (True/\wab (!numF m.seq) (R (.q 111) []) (wab (!decide z6) (wab (!decide z5) (R (.q 112) []) z3) z3))):=by kernel_rfl
theorem val0_ok(hP:C.P=Tryz.prog)(hL:∀w,C.laid w->LaidW w):wai C 159 wma:=by
 rintro args objs U Os vc h hvc;unfold wma at h;split at h<;>cases h;rename_i id code brand d c a;exact wan.nilArg 2 (wfw (λ_=>[]) (λ_=>[])) (valV_ok hP hL _ _ _ _ _ rfl ⟨zL7 _,hvc.1,hvc.2,λi hi=>absurd hi (nZ7 i),rfl⟩)
theorem w48(s:List UInt8):decide (valF [48,48,48,48,48,48,48,48] [48,49] s 4 1 1 0 (λ_=>[]) (λ_=>[])=0)=wa3 s:=by
 unfold valF;rw[show wba [48,48,48,48,48,48,48,48]=true by decide+kernel,show wd4 [48,49]=true by decide+kernel,show qtyF 4 1 1=0 by rfl]
 cases wa3 s<;>rfl
theorem wwx(hP:C.P=Tryz.prog)(hL:∀w,C.laid w->LaidW w):wai C 120 whx:=by
 rintro args objs U Os vc h hvc;unfold whx at h;split at h<;>cases h;rename_i s;refine wai.wp0 (prg hP) [(159,.det wma)] 0 (.cons (val0_ok hP hL) .nil) (hP ▸ Tryz.func120) rfl rfl rfl ?_;rw[w2i,w48];exact⟨⟨by omega,hvc⟩,rfl,rfl⟩
theorem cnum_ok(hP:C.P=Tryz.prog):wai C 121 wmv:=by
 have _:C.Loose:=inferInstance;rintro args objs U Os vc h hvc;unfold wmv at h;split at h<;>cases h;rename_i n;refine wai.wp0 (prg hP) [] 0 .nil (hP ▸ Tryz.func121) rfl rfl rfl ?_;rw[nf_cnum];unfold numF;exact waz (λh=>by rw[h];exact⟨rfl,rfl⟩) (λh=>by rw[h];exact⟨rfl,rfl⟩)
theorem calv_ok(hP:C.P=Tryz.prog):wai C 124 wn2:=by
 have _:C.Loose:=inferInstance;rintro args objs U Os vc h hvc;unfold wn2 at h;split at h<;>cases h;rename_i n;refine wai.wp0 (prg hP) [] 0 .nil (hP ▸ Tryz.func124) rfl rfl rfl ?_;rw[nf_calv];exact waz (λh=>by rw[h];exact⟨rfl,rfl⟩) (λh=>by rw[h];exact⟨rfl,rfl⟩)
theorem wsw(hP:C.P=Tryz.prog):wai C 73 whm:=by
 rintro args objs U Os vc h hvc;unfold whm at h;split at h<;>cases h;rename_i n;refine wai.wp0 (prg hP) [(124,.det wn2)] 0 (.cons (calv_ok hP) .nil) (hP ▸ Tryz.func73) rfl rfl rfl ?_;rw[wzu];refine⟨trivial,wcb (λh=>by rw[h];exact⟨rfl,rfl⟩) (λh=>⟨by decide,?_⟩)⟩;rw[h];have h0:0<=n:=of_decide_eq_true (Bool.and_eq_true_iff.1 h).1;exact⟨by rw[Int.tmod_eq_emod_of_nonneg h0];rfl,rfl⟩
theorem wti(hP:C.P=Tryz.prog)(hL:∀w,C.laid w->LaidW w):wai C 123 wem:=by
 rintro args objs U Os vc h hvc;unfold wem at h;split at h<;>cases h;rename_i o p per;refine wai.wp0 (prg hP) [(120,.det whx),(160,.det wct)] 0 (.cons (wwx hP hL) (.cons (wjw hP (wh9 hP)) .nil)) (hP ▸ Tryz.func123) rfl rfl rfl ?_;rw[nf_slot];unfold wbh;exact⟨hvc,waz (λh1=>⟨trivial,waz (λh2=>waz (λh3=>by rw[h1,h2,h3];exact⟨rfl,rfl⟩) (λh3=>by rw[h1,h2,h3];exact⟨rfl,rfl⟩)) (λh2=>by rw[h1,h2];exact⟨rfl,rfl⟩)⟩) (λh1=>by rw[h1];exact⟨rfl,rfl⟩)⟩
theorem wk_neg(day:Int):decide ((bif decide (0<=day) && decide (day<=182620) then day % 7 else -1)<0)= !(decide (0<=day) && decide (day<=182620)):=by
 cases h:decide (0<=day) && decide (day<=182620) with
 |true=>
  show decide (day % 7<0)=false;rw[decide_eq_false];have:=Int.emod_nonneg day (show (7:Int)≠0 by decide);omega
 |false=>rfl
theorem wxz(hP:C.P=Tryz.prog)(hL:∀w,C.laid w->LaidW w):wai C 122 wfy:=by
 rintro args objs U Os vc h hvc;unfold wfy at h;split at h<;>cases h;rename_i o p per day st pr rep;refine wai.wp0 (prg hP) [(123,.det wem),(160,.det wct),(73,.det whm)] 0 (.cons (wti hP hL) (.cons (wjw hP (wh9 hP)) (.cons (wsw hP) .nil))) (hP ▸ Tryz.func122) rfl rfl rfl ?_;rw[wz4,wk_neg];refine⟨hvc,wcb (λh1=>?_) (λh1=>⟨trivial,wcb (λh2=>?_) (λh2=>?_)⟩)⟩
 ·unfold visF;simp[h1]
 ·unfold visF;simp[h1,h2]
 have hv:visF ⟨o,p,per,day,st,pr,rep⟩=(bif decide (st=1) || decide (st=2) then decide (1<=pr) && decide (pr<=1099511627776) && decide (rep=[])
  else bif decide (st=3) || decide (st=4) then decide (pr=0) && decide (rep=[])
  else bif decide (st=5) then decide (1<=pr) && decide (pr<=1099511627776) && wba rep && !decide (rep=p) else false):=by
  unfold visF;simp only[h1,Bool.true_and,h2]
 rw[hv];have e1:decide (1<=pr)= !decide (pr<1):=by by_cases h:pr<1<;>simp[h]<;>omega
 have e2:decide (pr<=1099511627776)= !decide (1099511627776<pr):=by by_cases h:1099511627776<pr<;>simp[h]<;>omega
 rw[e1,e2];clear hv h1 h2 e1 e2
 by_cases s1:st=1
 ·subst s1;generalize decide (pr<1)=b1,decide (1099511627776<pr)=b2,decide (pr=0)=b3,decide (rep=p)=b4,decide (rep=[])=b5,wba rep=b6
  cases b1<;>cases b2<;>exact⟨rfl,rfl⟩
 by_cases s2:st=2
 ·subst s2;generalize decide (pr<1)=b1,decide (1099511627776<pr)=b2,decide (pr=0)=b3,decide (rep=p)=b4,decide (rep=[])=b5,wba rep=b6
  cases b1<;>cases b2<;>exact⟨rfl,rfl⟩
 by_cases s3:st=3
 ·subst s3;generalize decide (pr<1)=b1,decide (1099511627776<pr)=b2,decide (pr=0)=b3,decide (rep=p)=b4,decide (rep=[])=b5,wba rep=b6
  cases b3<;>exact⟨rfl,rfl⟩
 by_cases s4:st=4
 ·subst s4;generalize decide (pr<1)=b1,decide (1099511627776<pr)=b2,decide (pr=0)=b3,decide (rep=p)=b4,decide (rep=[])=b5,wba rep=b6
  cases b3<;>exact⟨rfl,rfl⟩
 by_cases s5:st=5
 ·subst s5;generalize decide (pr<1)=b1,decide (1099511627776<pr)=b2,decide (pr=0)=b3,decide (rep=p)=b4,decide (rep=[])=b5,wba rep=b6
  cases b1<;>cases b2<;>cases b6<;>first | exact⟨rfl,rfl⟩ | exact⟨trivial,rfl,rfl⟩
 rw[decide_eq_false s1,decide_eq_false s2,decide_eq_false s3,decide_eq_false s4,decide_eq_false s5];exact⟨rfl,rfl⟩
theorem wqv(hP:C.P=Tryz.prog)(hL:∀w,C.laid w->LaidW w):wai C 72 wds:=by
 rintro args objs U Os vc h hvc;unfold wds at h;split at h<;>cases h;rename_i dev seq kind o p per day st pr rep o2 p2 per2 dev2 num;refine wai.wp0 (prg hP) [(120,.det whx),(123,.det wem),(122,.det wfy),(121,.det wmv)] 0 (.cons (wwx hP hL) (.cons (wti hP hL) (.cons (wxz hP hL) (.cons (cnum_ok hP) .nil)))) (hP ▸ Tryz.func72) rfl rfl rfl ?_;have nf:=λR=>nf_msg ⟨dev,seq,kind,⟨o,p,per,day,st,pr,rep⟩,⟨o2,p2,per2,dev2,num⟩⟩ R;refine(nf _).mpr ?_;clear nf;obtain⟨l1,l2,l3,l4⟩:=hvc;unfold msgF VT.nil DT.nil;dsimp only
 generalize (decide (o=[]) && (decide (p=[]) && (decide (per=0) && (decide (day=0) && (decide (st=0) && (decide (pr=0) && decide (rep=[])))))))=vn;generalize (decide (o2=[]) && (decide (p2=[]) && (decide (per2=0) && (decide (dev2=[]) && decide (num=0)))))=dn;generalize wa3 dev=b1,numF seq=b2,visF ⟨o,p,per,day,st,pr,rep⟩=b3,wbh o2 p2 per2=b4,wa3 dev2=b5,numF num=b6;refine⟨l1,?_⟩
 cases b1
 ·exact⟨rfl,rfl⟩
 refine⟨trivial,?_⟩
 cases b2
 ·exact⟨rfl,rfl⟩
 by_cases k1:kind=1
 ·subst k1;refine⟨l2,?_⟩
  cases b3<;>cases dn<;>exact⟨rfl,rfl⟩
 by_cases k2:kind=2
 ·subst k2
  cases vn
  ·exact⟨rfl,rfl⟩
  refine⟨l3,?_⟩
  cases b4
  ·exact⟨rfl,rfl⟩
  refine⟨l4,?_⟩
  cases b5
  ·exact⟨rfl,rfl⟩
  refine⟨trivial,?_⟩
  cases b6<;>exact⟨rfl,rfl⟩
 rw[decide_eq_false k1,decide_eq_false k2];exact⟨rfl,rfl⟩
end Go.Eng
namespace Go.Eng
theorem atM_get{L:List MG}{i:Nat}(h:i<L.length):atM L i=L[i]:=by simp[atM,h]
theorem wxe{L:List MG}{i:Nat}(h:i<L.length):atM L i∈L:=by rw[atM_get h];exact List.getElem_mem h
theorem wum(g:Nat->MG)(p:List UInt8×Int):∀n,0<numC g p n↔∃i,i<n/\mk2 (g i)=p
 |0=>by simp[numC]
 |n+1=>by
  have ih:=wum g p n;have nn:=(wqo g p n).1;rw[numC]
  cases q:decide ((mk2 (g n)).1=p.1) && decide ((mk2 (g n)).2=p.2) with
  |true=>
   have e:=wfh.1 q;simp only[cond_true];exact⟨λ_=>⟨n,by omega,e⟩,λ_=>by omega⟩
  |false=>
   have ne:mk2 (g n)≠p:=λe=>by rw[e] at q;simp at q
   simp only[cond_false]
   constructor
   ·intro h;obtain⟨i,hi,e⟩:=ih.1 (by omega);exact⟨i,by omega,e⟩
   ·rintro⟨i,hi,e⟩;have:i≠n:=λq=>ne (q ▸ e);have:=ih.2 ⟨i,by omega,e⟩;omega
theorem wul(g:Nat->MG)(p:List UInt8×Int):∀n,1<numC g p n↔∃i j,i<j/\j<n/\mk2 (g i)=p/\mk2 (g j)=p
 |0=>by simp[numC]
 |n+1=>by
  have ih:=wul g p n;have ip:=wum g p n;rw[numC]
  cases q:decide ((mk2 (g n)).1=p.1) && decide ((mk2 (g n)).2=p.2) with
  |true=>
   have e:=wfh.1 q;simp only[cond_true]
   constructor
   ·intro h;obtain⟨i,hi,e'⟩:=ip.1 (by omega);exact⟨i,n,hi,by omega,e',e⟩
   ·rintro⟨i,j,hij,hj,e1,e2⟩;have:=ip.2 ⟨i,by omega,e1⟩;omega
  |false=>
   have ne:mk2 (g n)≠p:=λe=>by rw[e] at q;simp at q
   simp only[cond_false]
   constructor
   ·intro h;obtain⟨i,j,hij,hj,e⟩:=ih.1 (by omega);exact⟨i,j,hij,by omega,e⟩
   ·rintro⟨i,j,hij,hj,e1,e2⟩;have:j≠n:=λq=>ne (q ▸ e2);have:=ih.2 ⟨i,j,hij,by omega,e1,e2⟩;omega
def t30(nm:Nat->List UInt8)(i:Nat):List UInt8:=(nm i).take 30
theorem wdi(s:List UInt8)(k:Int):s.take (Int.toNat (min (s.length:Int) k))=s.take k.toNat:=by
 rcases Int.le_total (s.length:Int) k with h | h
 ·rw[Int.min_eq_left h,tN7,List.take_length,List.take_of_length_le (by omega)]
 ·rw[Int.min_eq_right h]
def wec(n k:Int):Int:=n % 18446744073709551616 % k
def wnp:Spec
 |[.int .i64 n,.int .i64 k],[]=>some (.q (wec n k),[],1<=k/\k<=1000000)
 |_,_=>none
def wac(n:Nat)(v:Nat->Int)(a k:Int):Int:=wec (bif decide (a<n) then v a.toNat else 0) k
def wbe:Spec
 |[.ptr 0 0,.int .i64 k],[.cells [.view sz n f,.int .i64 a] t]=>some (.q (wac n (vInt f) a k),[(0,.cells [.view 1 n f,.q (a+1)] 27)],t=27/\sz=1/\f=wad (vInt f)/\(1<=k/\k<=1000000)/\(0<=a/\a<=4611686018427387904))
 |_,_=>none
def pw(V j:Nat):Nat:=V / 10 ^ j
def dgI(V k:Nat):Int:=48+((V / 10 ^ (6 - k) % 10:Nat):Int)
def wbb(V:Nat)(k:Nat):List AV:=[.int .u8 (dgI V k)]
def idV(n:Int):Nat:=1000000+(wec n 1000000).toNat
def id7(n:Int):List UInt8:=waq 7 (wbb (idV n))
def idF(n:Int):List UInt8:=id7 n++[UInt8.ofNat (48+(cdF (id7 n)).1).toNat]
def S_id:Spec
 |[.int .i64 n],[]=>some (.str (idF n),[],True)
 |_,_=>none
def wnm(V:Nat)(j:Nat):St:=⟨[(3,.q (pw V j:Nat)),(4,.own 0 7),(5,.q (6 - (j:Int)))],[(0,.row 5 1 7 (λk=>[.int .u8 (bif decide (7<=k+j) then dgI V k else 0)]) false)],1,[]⟩
def L_id(V:Nat):wao:=λst Q=>canonIs te 0 [3,4,5] st (wnm V 0)/\V<2000000/\
 Q (.exit 0) ⟨[(4,.own 0 7)],[(0,.row 5 1 7 (wbb V) false)],1,[]⟩
theorem wi6{k:Int}(h:1<=k)(n:Int):0<=wec n k/\wec n k<k:=by
 unfold wec;exact⟨Int.emod_nonneg _ (by omega),Int.emod_lt_of_pos _ (by omega)⟩
theorem wax{k:Int}(h:1<=k)(n:Nat)(v:Nat->Int)(a:Int):0<=wac n v a k/\wac n v a k<k:=wi6 h _
theorem ww3(s:List UInt8):0<=(cdF s).1/\(cdF s).1<=9:=by
 unfold cdF;split
 ·show 0<=(10 - wa8 s s.length % 10) % 10/\(10 - wa8 s s.length % 10) % 10<=9;omega
 ·exact⟨by decide,by decide⟩
theorem wiy(n:Int):(id7 n).length=7:=by simp[id7,waq]
theorem wvn(n:Int):(idF n).length=8:=by rw[idF,lA7,wiy];rfl
theorem w4y(V k:Nat):48<=dgI V k/\dgI V k<=57:=by
 unfold dgI;have:=Nat.mod_lt (V / 10 ^ (6 - k)) (show 0<10 by omega);omega
theorem u8_to{n:Int}(h0:0<=n)(h1:n<256):((UInt8.ofNat n.toNat).toNat:Int)=n:=by
 rw[UInt8.toNat_ofNat'];have:n.toNat % 2 ^ 8=n.toNat:=Nat.mod_eq_of_lt (by omega);omega
theorem id7_dig(n:Int):(id7 n).all wbk=true:=by
 unfold id7 waq;rw[List.all_map,List.all_eq_true];intro k _;have h:=w4y (idV n) k;have e:=u8_to (n:=dgI (idV n) k) (by omega) (by omega);show wbk (UInt8.ofNat (dgI (idV n) k).toNat)=true;unfold wbk;rw[bA7,decide_eq_true_eq,decide_eq_true_eq];omega
theorem wea(n:Int):wba (idF n)=true:=by
 have hc:=ww3 (id7 n);have e:=u8_to (n:=48+(cdF (id7 n)).1) (by omega) (by omega);have hd:wbp (idF n) 8 13=true:=by
  unfold wbp;rw[wvn,bA7];refine⟨rfl,?_⟩;unfold idF;rw[List.all_append,id7_dig,List.all_cons];unfold wbk;rw[Bool.true_and,List.all_nil,Bool.and_true,bA7,decide_eq_true_eq,decide_eq_true_eq];omega
 have ht:(idF n).take 7=id7 n:=by unfold idF;rw[← wiy n];exact List.take_left
 have hg:(idF n).getD 7 0=UInt8.ofNat (48+(cdF (id7 n)).1).toNat:=by
  unfold idF;rw[List.getD_eq_getElem?_getD,List.getElem?_append_right (by rw[wiy];exact lR7 _),wiy];rfl
 unfold wba;rw[hd,wvn];show decide ((cdF ((idF n).take 7)).1=(((idF n).getD 7 0).toNat:Int) - 48)=true;rw[ht,hg,e,decide_eq_true_eq];omega
def wdo(g:Nat->RW):Nat->Bool
 |0=>true
 |k+1=>wdo g k && rowF (g k)
def svF(g:Nat->RW)(n:Nat):Int:=bif decide (24000<n) then 130 else bif wdo g n then 0 else 131
def wmj:Spec
 |[.str s],[]=>some (.bool (wa3 s),[],s.length<4294967281)
 |_,_=>none
def wej:Spec
 |[.agg [.str o,.str p,.int .i64 per,.int .i64 u,.int .i64 tv]],[]=>some (.bool (rowF ⟨o,p,per,u,tv⟩),[],o.length<4294967281)
 |_,_=>none
def wmg:Spec
 |[.view 5 n f],[]=>some (.q (svF (rwOf f) n),[],n<=1000000/\f=wah (rwOf f)/\∀i,i<n->(rwOf f i).o.length<4294967281)
 |_,_=>none
def S_sv(g:Nat->RW)(n k:Nat):St:=⟨[(8,.view 5 n (wah g)),(9,.q n),(10,.q k)],[],0,[]⟩
def L_sv(g:Nat->RW)(n:Nat):wao:=λst Q=>canonIs te 0 [8,9,10] st (S_sv g n 0)/\n<=24000/\(∀i,i<n->(g i).o.length<4294967281)/\
 wab (wdo g n) (Q (.exit 0) ⟨[],[],0,[]⟩) (Q .ret ⟨[(2,.q 131)],[],0,[]⟩)
def atR(L:List RW)(i:Nat):RW:=L.getD i default
def outF(i:Int):List UInt8:=List.getD [[111,49],[111,50],[112]] i.toNat []
def wdd:Spec
 |[.ptr 0 0],[.cells [.view sz n f,.int .i64 a] t]=>some (.str (outF (wac n (vInt f) a 3)),[(0,.cells [.view 1 n f,.q (a+1)] 27)],t=27/\sz=1/\f=wad (vInt f)/\(0<=a/\a<=4611686018427387000))
 |_,_=>none
def wdc:Spec
 |[.ptr 0 0],[.cells [.view sz n f,.int .i64 a] t]=>some (.str (idF (wac n (vInt f) a 4)),[(0,.cells [.view 1 n f,.q (a+1)] 27)],t=27/\sz=1/\f=wad (vInt f)/\(0<=a/\a<=4611686018427387000))
 |_,_=>none
def rowV(n:Nat)(v:Nat->Int)(a:Int):RW:=⟨outF (wac n v (a+1) 3),idF (wac n v (a+1+1) 4),1440+wac n v (a+1+1+1) 4,1+wac n v a 20,(1+wac n v a 20) * (90+wac n v (a+1+1+1+1) 30)+wac n v (a+1+1+1+1+1) 3⟩
def wfz:Spec
 |[.ptr 0 0],[.cells [.view sz n f,.int .i64 a] t]=>some (.agg [.str (rowV n (vInt f) a).o,.str (rowV n (vInt f) a).p,.q (rowV n (vInt f) a).per,.q (rowV n (vInt f) a).u,.q (rowV n (vInt f) a).tv],[(0,.cells [.view 1 n f,.q (a+1+1+1+1+1+1)] 27)],
   t=27/\sz=1/\f=wad (vInt f)/\(0<=a/\a<=4611686018427380000))
 |_,_=>none
end Go.Eng
namespace Go.Eng
open Go.Lib
structure BK where
 up:Int
 pr:Int
structure RT where
 o:List UInt8
 p:List UInt8
 per:Int
 st:Int
 bs:List BK
structure FL where
 id:List UInt8
 ver:Int
 day:Int
 kind:Int
 ms:List MG
 rs:List RW
 ts:List RT
def numE(n:Int):List UInt8:=itoa n++[44]
def txtE(s:List UInt8):List UInt8:=itoa s.length++58::(s++[44])
def mgE(m:MG):List UInt8:=txtE m.dev++(numE m.seq++(numE m.kind++(txtE m.v.o++(txtE m.v.p++(numE m.v.per++(numE m.v.day++(numE m.v.st++(numE m.v.pr++(txtE m.v.rep++(txtE m.d.o++(txtE m.d.p++(numE m.d.per++(txtE m.d.dev++numE m.d.num)))))))))))))
def rwE(r:RW):List UInt8:=txtE r.o++(txtE r.p++(numE r.per++(numE r.u++numE r.tv)))
def bkE(b:BK):List UInt8:=numE b.up++numE b.pr
def rtE(t:RT):List UInt8:=txtE t.o++(txtE t.p++(numE t.per++(numE t.st++(numE t.bs.length++t.bs.flatMap bkE))))
def encF(f:FL):List UInt8:=txtE f.id++(numE f.ver++(numE f.kind++(numE f.ms.length++(f.ms.flatMap mgE++(numE f.rs.length++(f.rs.flatMap rwE++(numE f.ts.length++f.ts.flatMap rtE)))))))
def ordF(a b:FL):Int:=orL [cmpS a.id b.id,cmpI a.ver b.ver,cmpI a.day b.day,cmpS (encF a) (encF b)]
theorem wik:PreC ordF:=(wlo.comap FL.id).or ((wlp.comap FL.ver).or ((wlp.comap FL.day).or ((wlo.comap encF).or .nil)))
theorem wuc{a b:FL}(h:ordF a b=0):encF a=encF b/\a.day=b.day:=by
 simp only[ordF,wzk,wjf,whe,show orL []=0 from rfl,and_true] at h;exact⟨h.2.2.2,h.2.2.1⟩
end Go.Eng
