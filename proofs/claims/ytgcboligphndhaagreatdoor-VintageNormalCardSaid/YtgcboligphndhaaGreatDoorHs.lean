/- The texts of files: plain lists. -/
import Derived.Test.YtgcboligphndhaaGreatDoorHr
namespace Go.Eng
open Go.Proofs Go.RowKit
variable {C:Ctx} [C.Loose]
set_option maxRecDepth 20000
theorem w0z(s:List UInt8)(R:oR7):wpFn te [(227,.rel wn5)] [] 0 Tryz.f198 [.str s] [] R=(s.length<4294967281/\wab (wd1 s) ((∀(i:Nat),i<(words s).length->true=true)/\R (.q (↑(words s).length:Int)) []) (wab (!decide (s=[])) (R (.q (-1:Int)) []) (R (.q 0) []))):=by kernel_rfl
theorem w2o(hP:C.P=Tryz.prog)(hL:∀w,C.laid w->LaidW w):wai C 198 wm0:=by
 rintro args objs U Os vc h hvc;unfold wm0 at h;split at h<;>cases h;rename_i s;refine wai.wp0 (prg hP) [(227,.rel wn5)] 0 (.cons (wyr hP hL) .nil) (hP ▸ Tryz.func198) rfl rfl rfl ?_;rw[w0z];refine⟨hvc,wax (λh=>⟨λ_ _=>rfl,?_,rfl⟩) (λh=>wbh (λh'=>⟨?_,rfl⟩) (λh'=>⟨?_,rfl⟩))⟩
 ·unfold wga;rw[h]
 ·unfold wga;rw[h,decide_eq_false h']
 ·unfold wga;rw[h,decide_eq_true h']
end Go.Eng
namespace Go.Eng
open Go.Proofs Go.RowKit
set_option maxRecDepth 20000
theorem nf_qty(d c a:Int)(R:oR7):wpFn te [] [] 0 Tryz.f200 [.agg [.q d,.q c,.q a]] [] R=(wab (decide (d<1)) (R (.q 80) []) (wab (decide ((4:Int)<d)) (R (.q 80) []) (wab (decide (c<1)) (R (.q 81) []) (wab (decide ((100:Int)<c)) (R (.q 81) []) (wab (decide (a<1)) (R (.q 82) []) ((c≠(0:Int)/\inR .i64 (Int.tdiv (1099511627776:Int) c))/\wab (decide (Int.tdiv (1099511627776:Int) c<a)) (R (.q 82) []) (R (.q 0) []))))))):=by kernel_rfl
variable {C:Ctx} [C.Loose]
theorem qty_ok(hP:C.P=Tryz.prog):wai C 200 wmk:=by
 have _:C.Loose:=inferInstance;rintro args objs U Os vc h hvc;unfold wmk at h;split at h<;>cases h;rename_i d c a;refine wai.wp0 (prg hP) [] 0 .nil (hP ▸ Tryz.func200) rfl rfl rfl ?_;rw[nf_qty];refine wax (λh1=>?_) (λh1=>wax (λh2=>?_) (λh2=>wax (λh3=>?_) (λh3=>wax (λh4=>?_) (λh4=>wax (λh5=>?_) (λh5=>⟨wyk (of_decide_eq_false h3) (of_decide_eq_false h4),wax (λh6=>?_) (λh6=>?_)⟩)))))
 all_goals simp only[qtyF, *,cond_true,cond_false,and_self]
theorem w05(s:List UInt8)(r:Int)(R:oR7):wpFn te [(266,.det whq),(267,.det wl0)] [(38,wo5 s),(5,wo4 s (Utf8.encode r).data.toList),(25,λ_ _=>False)] 0 Tryz.f253 [.str s,.int .i32 r] [] R=(letI z3:=St.mk [(0,.str s),(175,.ptr 0 0)] [(0,.siter s 0)] 1 [];letI z1:=Array.toList (ByteArray.data (Utf8.encode r));letI z4:=(z1.length:Int);letI z2:=(St.mk [(0,.str s),(7,.str z1),(8,.q (z4 - (1:Int))),(9,.q (z4 - (1:Int)))] [] 0 []);letI z0:=(wab (decide (r=65533)) (some z3=some z3/\ascii s=true/\R (.q (-1:Int)) []) (True/\wab (!Lib.validRune r) (R (.q (-1:Int)) []) (True/\inR .i64 (z4 - (1:Int))/\some z2=some z2/\ascii s=true/\s.length<=1000000/\2<=z1.length/\z1.length<=4/\128<=UInt8.toNat (List.getD z1 (z1.length - 1) (0:UInt8))/\R (.q (-1:Int)) []/\R (.q (-1:Int)) [])));wab (decide ((0:Int)<=r)) (wab (decide (r<128)) (inR .u8 r/\True/\R (.q (Lib.indexByte s (Nat.toUInt8 r.toNat))) []) z0) z0):=by kernel_rfl
theorem w04(s:List UInt8)(k:Nat)(P:Nat->Prop)(R:eR7):wa0 ⟨te,[],[],0,187,0⟩ (wa1 Tryz.f253 38) [0,175] [] [4] (wm6 s) P R (wm6 s k)=(wab (decide (k<s.length)) (True/\wab (decide ((↑(wbw s k).1:Int)=65533)) (R .ret (St.mk [(4,.q (k:Int))] [] 0 [])) (∃(i':Nat),some (St.mk [(0,.str s),(175,.ptr 0 0)] [(0,.siter s (k+(wbw s k).2))] 1 [])=some (St.mk [(0,.str s),(175,.ptr 0 0)] [(0,.siter s i')] 1 [])/\P i')) (True/\R (.exit 9) (St.mk [] [] 0 []))):=by kernel_rfl
theorem w03(s e:List UInt8)(P:Unit->Prop)(R:eR7):wa0 ⟨te,[(266,.det whq)],[(12,λ_ _=>False),(1015,λ_ _=>False),(1016,λ_ _=>False)],0,187,0⟩ (wa1 Tryz.f253 5) [0,7,8,9] [] [4] (λ_=>wm5 s e) P R (wm5 s e)=(letI z5:=(s.length:Int);letI z0:=(e.length:Int);letI z4:=((0:Int)<=z0 - (1:Int)/\z0 - (1:Int)<z0:Prop);letI z3:=(List.drop (z0 - (1:Int)+1).toNat s);letI z1:=(↑(UInt8.toNat (List.getD e (z0 - (1:Int)).toNat (0:UInt8))):Int);letI z2:=(Lib.indexByte z3 (Nat.toUInt8 z1.toNat)+1);wab (decide (z0 - (1:Int)<z5)) (((0:Int)<=z0 - (1:Int)/\z0 - (1:Int)<z5)/\z4/\wab (!decide ((↑(UInt8.toNat (List.getD s (z0 - (1:Int)).toNat (0:UInt8))):Int)=z1)) (inR .i64 (z0 - (1:Int)+1)/\((0:Int)<=z0 - (1:Int)+1/\z0 - (1:Int)+1<=z5)/\z4/\True/\wab (decide (Lib.indexByte z3 (Nat.toUInt8 z1.toNat)<0)) (R .ret (St.mk [(4,.q (-1:Int))] [] 0 [])) (inR .i64 z2/\inR .i64 (z0 - (1:Int)+z2)/\False)) False) (R (.exit 1) (St.mk [] [] 0 []))):=by kernel_rfl
theorem w1m(s:List UInt8)(r:Int)(R:oR7):wpFn te [(253,.det wm7)] [] 0 Tryz.f231 [.str s,.int .i32 r] [] R=((ascii s=true/\s.length<=1000000/\(0:Int)<=r/\r<=1114111)/\R (.bool (decide ((0:Int)<=wcq s r))) []):=by kernel_rfl
variable {C:Ctx} [C.Loose]
theorem wuw(hP:C.P=Tryz.prog):wai C 266 whq:=by
 rintro args objs U Os vc h hvc;unfold whq at h;split at h<;>cases h;rename_i s c;refine wan.below ⟨Tryz.f266,hP ▸ Tryz.func266,rfl,by decide⟩ λw M cargs _ _ hM hl hv=>?_;obtain⟨a,b,rfl⟩:=mem2 hl;have e1:=(hv 0 _ _ rfl rfl).str_iff;have e2:=(hv 1 _ _ rfl rfl).int_iff;subst e1;subst e2;rw[hP];refine(Tryz.strings_IndexByte ⟨s.toArray⟩ c w).mono ?_;rintro e w' ⟨rfl,rfl⟩;exact⟨_,rfl,Below.refl _ _,.int⟩
theorem wxf(hP:C.P=Tryz.prog):wai C 267 wl0:=by
 rintro args objs U Os vc h hvc;unfold wl0 at h;split at h<;>cases h;rename_i r;refine wan.below ⟨Tryz.f267,hP ▸ Tryz.func267,rfl,by decide⟩ λw M cargs _ _ hM hl hv=>?_;obtain⟨a,rfl⟩:=mem1 hl;have e1:=(hv 0 _ _ rfl rfl).int_iff;subst e1;rw[hP];refine(Tryz.utf8_ValidRune r w).mono ?_;rintro e w' ⟨rfl,rfl⟩;exact⟨_,rfl,Below.refl _ _,.bool⟩
theorem w24(hP:C.P=Tryz.prog)(s:List UInt8):waj C 0 187 (wal Tryz.f253 38) (wo5 s):=by
 have _:C.Loose:=inferInstance;rintro st Q ⟨h0,ha,hQ⟩;refine waj.mk (prg hP) [] 0 .nil [0,175] [] [4] (wm6 s) (λk=>k<=s.length) (λk=>s.length - k) 0 (zL7 _) h0 λk hk=>?_;rw[w04];refine wax (λh=>?_) (λh=>⟨trivial,hQ⟩);have h:=of_decide_eq_true h;have hlt:=wwp ha h;rw[wpz h hlt];refine⟨trivial,wax (λh'=>?_) (λ_=>⟨k+1,rfl,by omega,by omega⟩)⟩;have h':=of_decide_eq_true h';simp only at h';omega
theorem w23(hP:C.P=Tryz.prog)(s e:List UInt8):waj C 0 187 (wal Tryz.f253 5) (wo4 s e):=by
 rintro st Q ⟨h0,ha,hs,h2,h4,hl,hQ1,hQ2⟩
 refine waj.mkL (prg hP) [(266,.det whq)] [(12,λ_ _=>False),(1015,λ_ _=>False),(1016,λ_ _=>False)] 0 (.cons (wuw hP) .nil)
  [(wal Tryz.f253 12,λ_ _=>False),(regC Tryz.f253 15,λ_ _=>False),(regC Tryz.f253 16,λ_ _=>False)] (by kernel_rfl)
  ⟨λ_ _ h=>h.elim,λ_ _ h=>h.elim,λ_ _ h=>h.elim,trivial⟩ [0,7,8,9] [] [4] (λ_:Unit=>wm5 s e) (λ_=>True) (λ_=>0) () trivial h0 λ_ _=>?_
 rw[w03];refine wax (λh=>?_) (λh=>hQ1);have h:=of_decide_eq_true h;have e1:((e.length:Int) - 1).toNat=e.length - 1:=by omega
 have e2:((e.length:Int) - 1+1).toNat=e.length:=by omega
 have hlo:=wwp ha (k:=e.length - 1) (by omega);simp only[e1,e2,inR];have hne:decide (((s.getD (e.length - 1) 0).toNat:Int)=((e.getD (e.length - 1) 0).toNat:Int))=false:=decide_eq_false (by omega);rw[hne];have hb:(e.getD (e.length - 1) 0).toNat<256:=(e.getD (e.length - 1) 0).toNat_lt;have hneg:=w3b (w5a ha e.length) (c:=((e.getD (e.length - 1) 0).toNat:Int).toNat.toUInt8) (by rw[wsk];exact hl);refine⟨by omega,by omega,by omega,by omega,by omega,trivial,?_⟩;rw[hneg];exact hQ2
theorem w28(hP:C.P=Tryz.prog):wai C 253 wm7:=by
 rintro args objs U Os vc h hvc;unfold wm7 at h;split at h<;>cases h;rename_i s r;obtain⟨ha,hs,h0,h1⟩:=hvc
 refine wai.wpL (prg hP) [(266,.det whq),(267,.det wl0)] [(38,wo5 s),(5,wo4 s (Utf8.encode r).data.toList),(25,λ_ _=>False)] 0
  (.cons (wuw hP) (.cons (wxf hP) .nil)) (hP ▸ Tryz.func253) rfl rfl rfl
  [(wal Tryz.f253 38,wo5 s),(wal Tryz.f253 5,wo4 s (Utf8.encode r).data.toList),(wal Tryz.f253 25,λ_ _=>False)] (by kernel_rfl)
  ⟨w24 hP s,w23 hP s _,λ_ _ h=>h.elim,trivial⟩ ?_
 rw[w05];refine wax (λ_=>wax (λh=>?_) (λh=>?_)) (λh=>absurd h0 (of_decide_eq_false h))
 ·have h':=of_decide_eq_true h;refine⟨by simp only[inR];omega,trivial,?_,rfl⟩;simp only[wcq,h]
 ·have h':=of_decide_eq_false h;refine wax (λ_=>⟨rfl,ha,?_,rfl⟩) (λ_=>⟨trivial,wax (λ_=>⟨?_,rfl⟩) (λhv=>?_)⟩)
  ·simp only[wcq,h]
  ·simp only[wcq,h]
  ·have hv:Lib.validRune r=true:=by simpa using hv
   obtain⟨l1,l2,l3⟩:=w3z (by omega) hv;refine⟨trivial,by simp only[inR];omega,rfl,ha,hs,l1,l2,l3,⟨?_,rfl⟩,⟨?_,rfl⟩⟩
   ·simp only[wcq,h]
   ·simp only[wcq,h]
theorem w4f(hP:C.P=Tryz.prog):wai C 231 wnp:=by
 rintro args objs U Os vc h hvc;unfold wnp at h;split at h<;>cases h;rename_i s r;refine wai.wp0 (prg hP) [(253,.det wm7)] 0 (.cons (w28 hP) .nil) (hP ▸ Tryz.func231) rfl rfl rfl ?_;rw[w1m];exact⟨hvc,rfl,rfl⟩
theorem w0q(r:Int)(R:oR7):wpFn te [(231,.det wnp)] [] 0 Tryz.f230 [.int .i32 r] [] R=((true=true/\38<=1000000/\(0:Int)<=r/\r<=1114111)/\R (.bool !decide ((0:Int)<=wcq ([(97:UInt8),98,99,100,101,102,103,104,105,106,107,108,109,110,111,112,113,114,115,116,117,118,119,120,121,122,48,49,50,51,52,53,54,55,56,57,45,46]) r)) []):=by kernel_rfl
theorem w07(s:List UInt8)(R:oR7):wpFn te [] [(2,wo6 s)] 0 Tryz.f265 [.str s,.func 230 [],.bool true] [] R=(letI z0:=St.mk [(1,.func 230 []),(2,.bool true),(10,.ptr 0 0)] [(0,.siter s 0)] 1 [];some z0=some z0/\wab (List.all s isNB) (R (.q (-1:Int)) []) (R (.q (↑(wdn s):Int)) [])):=by kernel_rfl
theorem w06(s:List UInt8)(k:Nat)(P:Nat->Prop)(R:eR7):wa0 ⟨te,[(230,.det wmt)],[],0,21,0⟩ (wa1 Tryz.f265 2) [1,2,10] [] [6] (wnd s) P R (wnd s k)=(letI z1:=([(1,.func 230 []),(2,.bool true),(10,.ptr 0 0)]:tL7);letI z0:=(↑(wbw s k).1:Int);wab (decide (k<s.length)) (True/\((0:Int)<=z0/\z0<=1114111)/\wab (decide ((!decide ((0:Int)<=wcq wfh z0))=true)) (R .ret (St.mk [(6,.q (k:Int))] [] 0 [])) (∃(i':Nat),some (St.mk z1 [(0,.siter s (k+(wbw s k).2))] 1 [])=some (St.mk z1 [(0,.siter s i')] 1 [])/\P i')) (True/\R (.exit 0) (St.mk [] [] 0 []))):=by kernel_rfl
theorem w1v(s:List UInt8)(R:oR7):wpFn te [(265,.det wm8)] [] 0 Tryz.f252 [.str s,.func 230 []] [] R=(True/\R (.q (wfm s)) []):=by kernel_rfl
theorem w1w(s:List UInt8)(R:oR7):wpFn te [(252,.det wnz)] [] 0 Tryz.f229 [.str s,.func 230 []] [] R=(True/\R (.bool (decide ((0:Int)<=wfm s))) []):=by kernel_rfl
theorem nf_name(s:List UInt8)(R:oR7):wpFn te [(228,.det we5),(229,.det wn0)] [] 0 Tryz.f199 [.str s] [] R=(wab (!decide (s=[])) (wab (decide ((s.length:Int)<=24)) (((0:Int)<=1/\(1:Int)<=(s.length:Int))/\((List.take (1:Int).toNat s).length<=9223372036854775807/\2<=36/\36<4294967281/\∀(b:UInt8),b∈[(97:UInt8),98,99,100,101,102,103,104,105,106,107,108,109,110,111,112,113,114,115,116,117,118,119,120,121,122,48,49,50,51,52,53,54,55,56,57]->UInt8.toNat b<128)/\wab (decide (we9 ([(97:UInt8),98,99,100,101,102,103,104,105,106,107,108,109,110,111,112,113,114,115,116,117,118,119,120,121,122,48,49,50,51,52,53,54,55,56,57]) (List.take (1:Int).toNat s)=[])) (True/\R (.bool !!List.all s isNB) []) (R (.bool false) [])) (R (.bool false) [])) (R (.bool false) [])):=by kernel_rfl
variable {C:Ctx} [C.Loose]
theorem w15(hP:C.P=Tryz.prog):wai C 230 wmt:=by
 rintro args objs U Os vc h hvc;unfold wmt at h;split at h<;>cases h;rename_i r;refine wai.wp0 (prg hP) [(231,.det wnp)] 0 (.cons (w4f hP) .nil) (hP ▸ Tryz.func230) rfl rfl rfl ?_;rw[w0q];exact⟨⟨rfl,by omega,hvc.1,hvc.2⟩,rfl,rfl⟩
theorem w3a(hP:C.P=Tryz.prog)(s:List UInt8):waj C 0 21 (wal Tryz.f265 2) (wo6 s):=by
 rintro st Q ⟨h0,hQ⟩;have hQ:=wbt hQ;refine waj.mk (prg hP) [(230,.det wmt)] 0 (.cons (w15 hP) .nil) [1,2,10] [] [6] (wnd s) (λk=>k<=s.length/\∀j,j<k->isNB (s.getD j 0)=true) (λk=>s.length - k) 0 ⟨zL7 _,λj h=>by omega⟩ h0 λk ⟨hk,hall⟩=>?_;rw[w06];refine wax (λh=>?_) (λh=>⟨trivial,?_⟩)
 ·have h:=of_decide_eq_true h;have hle:=wx9 h;refine⟨trivial,⟨by omega,by omega⟩,?_⟩
  -- what the predicate says of the rune is what isNB says of the byte
  have key:(decide (0<=wcq wfh ((wbw s k).1:Int)))=isNB (s.getD k 0)/\(isNB (s.getD k 0)=true->(wbw s k).2=1):=by
   by_cases hlo:(s.getD k 0).toNat<128
   ·rw[wpz h hlo];exact⟨w1y _ hlo,λ_=>rfl⟩
   ·have hh:=ws6 h (by omega);have hn:isNB (s.getD k 0)=false:=by
     generalize s.getD k 0=b at *;simp only[isNB,we2,Bool.or_eq_false_iff,Bool.and_eq_false_imp,decide_eq_true_eq,decide_eq_false_iff_not];omega
    rw[w1z _ hh.1,hn];exact⟨rfl,λh=>by cases h⟩
  rw[key.1];refine wax (λhb=>?_) (λhb=>?_)
  ·have hb:isNB (s.getD k 0)=false:=by simpa using hb
   have hf:s.all isNB=false:=by
    cases ha:s.all isNB with
    |false=>rfl
    |true=>
     have:=List.all_eq_true.1 ha (s.getD k 0) (by simp[List.getD,h]);rw[hb] at this;cases this
   obtain⟨b1,b2,b3⟩:=w47 hf;have:wdn s=k:=by
    rcases Nat.lt_trichotomy (wdn s) k with hl | hl | hl
    ·rw[hall _ hl] at b2;cases b2
    ·exact hl
    ·rw[b3 k hl] at hb;cases hb
   have hq:=hQ.2 hf;rw[this] at hq;exact hq
  ·have hb:isNB (s.getD k 0)=true:=by simpa using hb
   rw[key.2 hb];refine⟨k+1,rfl,⟨by omega,λj hj=>?_⟩,by omega⟩
   rcases Nat.lt_succ_iff_lt_or_eq.1 hj with hj | rfl
   ·exact hall j hj
   ·exact hb
 ·have h:=of_decide_eq_false h;refine hQ.1 (List.all_eq_true.2 λb hb=>?_);obtain⟨j,hj,rfl⟩:=List.getElem_of_mem hb;have:=hall j (by omega);simpa[List.getD,hj] using this
theorem w29(hP:C.P=Tryz.prog):wai C 265 wm8:=by
 rintro args objs U Os vc h hvc;unfold wm8 at h;split at h<;>cases h;rename_i s;refine wai.wpL (prg hP) [] [(2,wo6 s)] 0 .nil (hP ▸ Tryz.func265) rfl rfl rfl [(wal Tryz.f265 2,wo6 s)] (by kernel_rfl) ⟨w3a hP s,trivial⟩ ?_;rw[w07];refine⟨rfl,wax (λh=>⟨?_,rfl⟩) (λh=>⟨?_,rfl⟩)⟩
 ·simp only[wfm,h]
 ·simp only[wfm,h]
theorem w5h(hP:C.P=Tryz.prog):wai C 252 wnz:=by
 rintro args objs U Os vc h hvc;unfold wnz at h;split at h<;>cases h;rename_i s;refine wai.wp0 (prg hP) [(265,.det wm8)] 0 (.cons (w29 hP) .nil) (hP ▸ Tryz.func252) rfl rfl rfl ?_;rw[w1v];exact⟨trivial,rfl,rfl⟩
theorem w5i(hP:C.P=Tryz.prog):wai C 229 wn0:=by
 rintro args objs U Os vc h hvc;unfold wn0 at h;split at h<;>cases h;rename_i s;refine wai.wp0 (prg hP) [(252,.det wnz)] 0 (.cons (w5h hP) .nil) (hP ▸ Tryz.func229) rfl rfl rfl ?_;rw[w1w,w3q];exact⟨trivial,rfl,rfl⟩
theorem wt1(hP:C.P=Tryz.prog):wai C 199 who:=by
 rintro args objs U Os vc h hvc;unfold who at h;split at h<;>cases h;rename_i s;refine wai.wp0 (prg hP) [(228,.det we5),(229,.det wn0)] 0 (.cons (wh4 hP) (.cons (w5i hP) .nil)) (hP ▸ Tryz.func199) rfl rfl rfl ?_;rw[nf_name]
 cases s with
 |nil=>exact⟨rfl,rfl⟩
 |cons b r=>
  have e:(b::r).take (Int.toNat 1)=[b]:=rfl;have hasc:∀x∈wkf,UInt8.toNat x<128:=by decide+kernel
  rw[e,wxm];have hl:(List.length (b::r):Int)=r.length+1:=by simp
  have hl':List.length (b::r)=r.length+1:=rfl;have hd:(b::r).getD 0 0=b:=rfl;refine wax (λ_=>wax (λh=>⟨by omega,⟨by simp,by omega,by omega,hasc⟩,wax (λh'=>⟨trivial,?_,rfl⟩) (λh'=>⟨?_,rfl⟩)⟩) (λh=>⟨?_,rfl⟩)) (λh=>by simp at h)
  ·have h:=of_decide_eq_true h;simp only[wa3,hd,h',hl',Bool.not_not];rw[decide_eq_true (by omega),decide_eq_true (by omega)];rfl
  ·simp only[wa3,hd,h',Bool.and_false,Bool.false_and]
  ·have h:=of_decide_eq_false h;simp only[wa3,hl'];rw[decide_eq_false (p:=r.length+1<=24) (by omega)];simp
end Go.Eng
namespace Go.Eng
open Go.Proofs
set_option maxRecDepth 20000
theorem w1g(s:List UInt8)(a b:Int)(R:oR7):wpFn te [(228,.det we5)] [] 0 Tryz.f201 [.str s,.q a,.q b] [] R=(letI z0:=((s.length<=9223372036854775807/\2<=10/\10<4294967281/\∀(b:UInt8),b∈[(48:UInt8),49,50,51,52,53,54,55,56,57]->UInt8.toNat b<128)/\R (.bool (decide (we9 ([(48:UInt8),49,50,51,52,53,54,55,56,57]) s=[]))) []:Prop);wab (decide ((s.length:Int)=a)) z0 (wab (decide ((s.length:Int)=b)) z0 (R (.bool false) []))):=by kernel_rfl
theorem w1t(s:List UInt8)(R:oR7):wpFn te [(201,.det whr)] [(5,wpf s)] 0 Tryz.f202 [.str s] [] R=(((7:Int)<=100/\(12:Int)<=100)/\wab (!wbn s (7:Int) (12:Int)) (R (.tuple [.q 0,.bool false]) []) (some (St.mk [(0,.str s),(4,.q 0),(11,.q (s.length:Int)),(12,.q 0)] [] 0 [])=some (St.mk [(0,.str s),(4,.q (wa7 s 0)),(11,.q (s.length:Int)),(12,.q (↑0:Int))] [] 0 [])/\s.length<=12/\List.all s wbi=true/\(10:Int)≠(0:Int)/\inR .i64 ((10:Int) - Int.tmod (wa7 s s.length) (10:Int))/\(10:Int)≠(0:Int)/\R (.tuple [.q (Int.tmod ((10:Int) - Int.tmod (wa7 s s.length) (10:Int)) (10:Int)),.bool true]) [])):=by kernel_rfl
theorem w1s(s:List UInt8)(k:Nat)(P:Nat->Prop)(R:eR7):wa0 ⟨te,[],[],0,36,0⟩ (wa1 Tryz.f202 5) [0,4,11,12] [4] [] (S_cd s) P R (S_cd s k)=(letI z1:=(s.length:Int);letI z3:=(z1 - (k:Int));letI z0:=(↑(UInt8.toNat (List.getD s (k:Int).toNat (0:UInt8))):Int);letI z2:=(wa7 s k+((1:Int)+2 * Int.tmod z3 (2:Int)) * ((z0 - (48:Int)) % (256:Int)));wab (decide ((k:Int)<z1)) (inR .i64 z3/\(2:Int)≠(0:Int)/\inR .i64 ((2:Int) * Int.tmod z3 (2:Int))/\inR .i64 ((1:Int)+2 * Int.tmod z3 (2:Int))/\((0:Int)<=(k:Int)/\(k:Int)<z1)/\inR .i64 ((z0 - (48:Int)) % (256:Int))/\inR .i64 (((1:Int)+2 * Int.tmod z3 (2:Int)) * ((z0 - (48:Int)) % (256:Int)))/\inR .i64 z2/\inR .i64 ((k:Int)+1)/\∃(i':Nat),some (St.mk [(0,.str s),(4,.q z2),(11,.q z1),(12,.q ((k:Int)+1))] [] 0 [])=some (St.mk [(0,.str s),(4,.q (wa7 s i')),(11,.q z1),(12,.q (i':Int))] [] 0 [])/\P i') (R (.exit 0) (St.mk [(4,.q (wa7 s k))] [] 0 []))):=by kernel_rfl
theorem wzf(s:List UInt8)(R:oR7):wpFn te [(201,.det whr),(202,.det weo)] [] 0 Tryz.f160 [.str s] [] R=(letI z0:=(s.length:Int);letI z1:=(↑(UInt8.toNat (List.getD s (z0 - (1:Int)).toNat (0:UInt8))):Int);((8:Int)<=100/\(13:Int)<=100)/\wab (!wbn s (8:Int) (13:Int)) (R (.bool false) []) (inR .i64 (z0 - (1:Int))/\((0:Int)<=z0 - (1:Int)/\z0 - (1:Int)<=z0)/\True/\((0:Int)<=z0 - (1:Int)/\z0 - (1:Int)<z0)/\inR .i64 ((z1 - (48:Int)) % (256:Int))/\R (.bool (decide ((cdF (List.take (z0 - (1:Int)).toNat s)).1=(z1 - (48:Int)) % (256:Int)))) [])):=by kernel_rfl
variable {C:Ctx} [C.Loose]
theorem wv1(hP:C.P=Tryz.prog)(htrim:wai C 228 we5):wai C 201 whr:=by
 have _:C.Loose:=inferInstance;rintro args objs U Os vc h hvc;unfold whr at h;split at h<;>cases h;rename_i s a b;refine wai.wp0 (prg hP) [(228,.det we5)] 0 (.cons htrim .nil) (hP ▸ Tryz.func201) rfl rfl rfl ?_;rw[w1g];have hm:(9223372036854775807:Nat)=maxLen:=rfl;have hlt:∀b∈([48,49,50,51,52,53,54,55,56,57]:List UInt8),UInt8.toNat b<128:=by decide
 refine wax (λh=>?_) (λh=>wax (λh'=>?_) (λh'=>?_))
 ·have h2:=of_decide_eq_true h;refine⟨⟨by omega,by omega,by omega,hlt⟩,?_,rfl⟩;simp only[wbn,h,Bool.true_or,Bool.true_and,wso]
 ·have h2:=of_decide_eq_true h';refine⟨⟨by omega,by omega,by omega,hlt⟩,?_,rfl⟩;simp only[wbn,h',Bool.or_true,Bool.true_and,wso]
 ·simp[wbn,h,h']
theorem wll{s:List UInt8}(h:s.all wbi=true):∀k,k<=s.length->0<=wa7 s k/\wa7 s k<=27 * k
 |0,_=>by simp[wa7]
 |k+1,hk=>by
  have ih:=wll h k (by omega);have hd:=wkt h k (by omega);simp only[wa7]
  rcases Int.emod_two_eq (↑s.length - ↑k) with e | e<;>rw[e]<;>omega
theorem w4o(hP:C.P=Tryz.prog)(s:List UInt8):waj C 0 36 (wal Tryz.f202 5) (wpf s):=by
 have _:C.Loose:=inferInstance;rintro st Q ⟨h0,hlen,hall,hQ⟩;refine waj.mk (prg hP) [] 0 .nil [0,4,11,12] [4] [] (S_cd s) (λk=>k<=s.length) (λk=>s.length - k) 0 (zL7 _) h0 λk hk=>?_;rw[w1s];have hb:=wll hall k hk;refine wax (λh=>?_) (λh=>?_)
 ·have h:=of_decide_eq_true h;have hd:=wkt hall k (by omega);have e:Int.tmod (↑s.length - ↑k) 2=(↑s.length - ↑k) % 2:=Int.tmod_eq_emod_of_nonneg (by omega);have e3:((s.getD k 0).toNat - 48:Int) % 256=(s.getD k 0).toNat - 48:=by omega
  simp only[inR,e,tN7,e3];have hs:wa7 s (k+1)=wa7 s k+(1+2 * ((↑s.length - ↑k) % 2)) * (↑(s.getD k 0).toNat - 48):=rfl
  rcases Int.emod_two_eq (↑s.length - ↑k) with e | e<;>rw[e] at hs ⊢ <;>and_intros<;>first
   |omega
   |exact⟨k+1,by rw[hs];rfl,by omega,by omega⟩
 ·have h:=of_decide_eq_false h;have hk:k=s.length:=by omega
  rw[hk];exact hQ
theorem w4n(hP:C.P=Tryz.prog)(htrim:wai C 228 we5):wai C 202 weo:=by
 rintro args objs U Os vc h hvc;unfold weo at h;split at h<;>cases h;rename_i s;refine wai.wpL (prg hP) [(201,.det whr)] [(5,wpf s)] 0 (.cons (wv1 hP htrim) .nil) (hP ▸ Tryz.func202) rfl rfl rfl [(wal Tryz.f202 5,wpf s)] (by kernel_rfl) ⟨w4o hP s,trivial⟩ ?_;rw[w1t];refine⟨by omega,wax (λh=>?_) (λh=>?_)⟩
 ·have h:wbn s 7 12=false:=by simpa using h
  simp[cdF,h]
 ·have h:wbn s 7 12=true:=by simpa using h
  have h':=h;simp only[wbn,bA7,Bool.or_eq_true,decide_eq_true_eq] at h';have hb:=wll h'.2 s.length (lR7 _);have e:Int.tmod (wa7 s s.length) 10=wa7 s s.length % 10:=Int.tmod_eq_emod_of_nonneg (by omega);rw[e,Int.tmod_eq_emod_of_nonneg (by omega)];refine⟨rfl,by omega,h'.2,by omega,by simp only[inR];omega,by omega,?_,rfl⟩;simp[cdF,h]
theorem wjo(hP:C.P=Tryz.prog)(htrim:wai C 228 we5):wai C 160 wcs:=by
 rintro args objs U Os vc h hvc;unfold wcs at h;split at h<;>cases h;rename_i s;refine wai.wp0 (prg hP) [(201,.det whr),(202,.det weo)] 0 (.cons (wv1 hP htrim) (.cons (w4n hP htrim) .nil)) (hP ▸ Tryz.func160) rfl rfl rfl ?_;rw[wzf];refine⟨by omega,wax (λh=>?_) (λh=>?_)⟩
 ·have h:wbn s 8 13=false:=by simpa using h
  simp[wa9,h]
 ·have h:wbn s 8 13=true:=by simpa using h
  have h':=h;simp only[wbn,bA7,Bool.or_eq_true,decide_eq_true_eq] at h';have e:(↑s.length - 1:Int).toNat=s.length - 1:=by omega
  have hd:=wkt h'.2 (s.length - 1) (by omega);rw[e];have e2:((s.getD (s.length - 1) 0).toNat - 48:Int) % 256=(s.getD (s.length - 1) 0).toNat - 48:=by omega
  simp only[inR,e2];refine⟨by omega,by omega,trivial,by omega,by omega,?_,trivial⟩;simp[wa9,h]
end Go.Eng
namespace Go.Eng
open Go.Proofs Go.RowKit
variable {C:Ctx} [C.Loose]
set_option maxRecDepth 20000
theorem nf_valw(id code brand:List UInt8)(d c a:Int)(n:Nat)(nm vl:Nat->List UInt8)(R:oR7):wpFn te [(160,.det wcs),(198,.det wm0),(199,.det who),(200,.det wmk)] [(13,L_vw n nm vl)] 2 Tryz.f159 [.agg [.str id,.str code,.str brand,.q d,.q c,.q a,.view 2 n (wfp nm vl)]] [] R=(True/\wab (!wa9 id) (R (.q 90) []) (code.length<4294967281/\wab (decide (wga code<1)) (R (.q 91) []) (True/\wab (!wa3 brand) (R (.q 92) []) (True/\wab (!decide (qtyF d c a=0)) (R (.q 93) []) (wab (decide ((12:Int)<(n:Int))) (R (.q 94) []) (some (St.mk [(3,.map 0),(33,.view 2 n (wfp nm vl)),(34,.q (n:Int)),(35,.q 0)] [(0,.amap (List.map (λ(p:AV×AV)=>(AV.rn (ren 0 [(65,0)]) p.1,AV.rn (ren 0 [(65,0)]) p.2)) []))] 1 [])=some (St.mk [(3,.map 0),(33,.view 2 n (wfp nm vl)),(34,.q (n:Int)),(35,.q (↑0:Int))] [(0,.amap (wbv nm 0))] 1 [])/\n<=12/\(∀(i:Nat),i<n->(nm i).length<4294967281/\(vl i).length<4294967281)/\wab (wef nm vl n) (R (.q 0) []) (R (.q 94) []))))))):=by kernel_rfl
theorem wzb(n:Nat)(nm vl:Nat->List UInt8)(k:Nat)(P:Nat->Prop)(R:eR7):wa0 ⟨te,[(199,.det who)],[],0,59,0⟩ (wa1 Tryz.f159 13) [3,33,34,35] [] [2] (S_vw n nm vl) P R (S_vw n nm vl k)=(letI z3:=(k:Int).toNat;letI z2:=TI.desc (TI.mk TypeDesc.string 1 16 (Value.string (ByteArray.mk #[])) false);letI z1:=R .ret (St.mk [(2,.q 94)] [] 0 []);letI z0:=(mget (wbv nm k) (.str (nm z3)));letI z4:=whf (Option.getD z0 (zvA (.bool false)));wab (decide ((k:Int)<(n:Int))) (((0:Int)<=(k:Int)/\(k:Int)<(n:Int)/\2=2)/\True/\wab (!wa3 (nm z3)) z1 (True/\wab (!wa3 (vl z3)) z1 ((wbu z2 (wbv nm k)/\.bool z4=Option.getD z0 (zvA (.bool false)))/\wab z4 z1 (wbu z2 (wbv nm k)/\inR .i64 ((k:Int)+1)/\∃(i':Nat),some (St.mk [(3,.map 0),(33,.view 2 n (wfp nm vl)),(34,.q (n:Int)),(35,.q ((k:Int)+1))] [(0,.amap (List.map (λ(p:AV×AV)=>(AV.rn (ren 0 [(0,0)]) p.1,AV.rn (ren 0 [(0,0)]) p.2)) (mset (wbv nm k) (.str (nm z3)) (.bool true))))] 1 [])=some (St.mk [(3,.map 0),(33,.view 2 n (wfp nm vl)),(34,.q (n:Int)),(35,.q (i':Int))] [(0,.amap (wbv nm i'))] 1 [])/\P i')))) (R (.exit 1) (St.mk [] [] 0 []))):=by kernel_rfl
theorem wxe(hP:C.P=Tryz.prog)(n:Nat)(nm vl:Nat->List UInt8):waj C 0 59 (wal Tryz.f159 13) (L_vw n nm vl):=by
 rintro st Q ⟨h0,hn,hs,hQ⟩;have hR:=wbt hQ;refine waj.mk (prg hP) [(199,.det who)] 0 (.cons (wt1 hP) .nil) [3,33,34,35] [] [2] (S_vw n nm vl) (λk=>k<=n/\wef nm vl k=true) (λk=>n - k) 0 ⟨by omega,rfl⟩ h0 (λk hk=>?_);obtain⟨hkn,hok⟩:=hk;rw[wzb];have hbad:∀m,k<=m->k<m->atOK nm vl k=false->wef nm vl m=false:=by
  intro m
  induction m with
  |zero=>intro _ h;omega
  |succ m ih=>
   intro _ h2 h3;rw[wef]
   by_cases hkm:k=m
   ·subst hkm;rw[h3,Bool.and_false]
   ·rw[ih (by omega) (by omega) h3,Bool.false_and]
 rw[tN7];refine wak (λh1=>?_) (λh1=>?_)
 ·have hlt:k<n:=by omega
  have hfail:atOK nm vl k=false->Q .ret (St.mk [(2,.q 94)] [] 0 []):=λh=>hR.2 (hbad n hkn hlt h);have hk:=ws3 nm vl k hok;rw[wud];refine⟨⟨by omega,by omega,rfl⟩,trivial,wcb (λh2=>hfail (by unfold atOK;rw[h2];rfl)) (λh2=>⟨trivial,wcb (λh3=>hfail (by unfold atOK;rw[h3,Bool.and_false];rfl)) (λh3=>⟨⟨hk,?_⟩,?_⟩)⟩)⟩
  ·cases (List.range k).any (λi=>decide (nm i=nm k))<;>rfl
  ·cases ha:(List.range k).any (λi=>decide (nm i=nm k)) with
   |true=>exact hfail (by unfold atOK;rw[wk0,ha];simp)
   |false=>
    have hat:atOK nm vl k=true:=by unfold atOK;rw[h2,h3,wk0,ha];rfl
    refine⟨hk,by simp only[inR];omega,k+1,?_,⟨by omega,by rw[wef,hok,hat];rfl⟩,by omega⟩;rw[w2b nm _ _ k ha,show wbv nm k++[(.str (nm k),AV.bool true)]=wbv nm (k+1) from rfl,ws2];rfl
 ·have:k=n:=by omega
  subst this;exact hR.1 hok
theorem valV_ok(hP:C.P=Tryz.prog)(hL:∀w,C.laid w->LaidW w):wai C 159 S_valV:=by
 rintro args objs U Os vc h hvc;unfold S_valV at h;split at h<;>cases h;rename_i id code brand d c a n f;obtain⟨hn,h1,h2,hs,hf⟩:=hvc;rw[hf];rw[← hf];generalize nmOf f=nm at *;generalize vlOf f=vl at *;rw[hf];unfold valF;refine wai.wpL (prg hP) [(160,.det wcs),(198,.det wm0),(199,.det who),(200,.det wmk)] [(13,L_vw n nm vl)] 2 (.cons (wjo hP (wh4 hP)) (.cons (w2o hP hL) (.cons (wt1 hP) (.cons (qty_ok hP) .nil)))) (hP ▸ Tryz.func159) rfl rfl rfl [(wal Tryz.f159 13,L_vw n nm vl)] (by kernel_rfl) ⟨wxe hP n nm vl,trivial⟩ ?_;rw[nf_valw,w2p];refine⟨trivial,wcb (λq1=>?_) (λq1=>⟨h1,wcb (λq2=>?_) (λq2=>⟨trivial,wcb (λq3=>?_) (λq3=>⟨trivial,wbh (λq4=>?_) (λq4=>wak (λq5=>?_) (λq5=>⟨rfl,by omega,hs,wax (λq6=>?_) (λq6=>?_)⟩))⟩)⟩)⟩)⟩
 ·rw[q1];exact⟨rfl,rfl⟩
 ·rw[q1,q2];exact⟨rfl,rfl⟩
 ·rw[q1,q2,q3];exact⟨rfl,rfl⟩
 ·rw[q1,q2,q3,decide_eq_false q4];exact⟨rfl,rfl⟩
 ·rw[q1,q2,q3,decide_eq_true q4,decide_eq_true (show 12<n by omega)];exact⟨rfl,rfl⟩
 ·rw[q1,q2,q3,decide_eq_true q4,decide_eq_false (show ¬ 12<n by omega),q6];exact⟨rfl,rfl⟩
 ·rw[q1,q2,q3,decide_eq_true q4,decide_eq_false (show ¬ 12<n by omega),q6];exact⟨rfl,rfl⟩
theorem w1n(s:List UInt8)(R:oR7):wpFn te [(159,.det wl1)] [] 0 Tryz.f120 [.str s] [] R=((2<4294967281/\s.length<4294967281)/\R (.bool (decide ((valF [(48:UInt8),48,48,48,48,48,48,48] [(48:UInt8),49] s (4:Int) (1:Int) (1:Int) 0 (λ(_x:Nat)=>[]) λ(_x:Nat)=>[])=0))) []):=by kernel_rfl
theorem nf_cnum(n:Int)(R:oR7):wpFn te [] [] 0 Tryz.f121 [.q n] [] R=(wab (decide ((1:Int)<=n)) (R (.bool (decide (n<=1048576))) []) (R (.bool false) [])):=by kernel_rfl
theorem nf_calv(n:Int)(R:oR7):wpFn te [] [] 0 Tryz.f124 [.q n] [] R=(wab (decide ((0:Int)<=n)) (R (.bool (decide (n<=182620))) []) (R (.bool false) [])):=by kernel_rfl
theorem wy7(n:Int)(R:oR7):wpFn te [(124,.det wnu)] [] 0 Tryz.f73 [.q n] [] R=(True/\wab (!(decide ((0:Int)<=n) && decide (n<=182620))) (R (.q (-1:Int)) []) ((7:Int)≠(0:Int)/\R (.q (Int.tmod n (7:Int))) [])):=by kernel_rfl
theorem nf_slot(o p:List UInt8)(per:Int)(R:oR7):wpFn te [(120,.det wht),(160,.det wcs)] [] 0 Tryz.f123 [.str o,.str p,.q per] [] R=(o.length<4294967281/\wab (wa3 o) (True/\wab (wa9 p) (wab (decide ((0:Int)<=per)) (R (.bool (decide (per<=5999))) []) (R (.bool false) [])) (R (.bool false) [])) (R (.bool false) [])):=by kernel_rfl
theorem wzd(o p:List UInt8)(per day st pr:Int)(rep:List UInt8)(R:oR7):wpFn te [(123,.det wel),(160,.det wcs),(73,.det whl)] [] 0 Tryz.f122 [.agg [.str o,.str p,.q per,.q day,.q st,.q pr,.str rep]] [] R=(letI z3:=R (.bool false) [];letI z0:=(wab (decide (st=5)) (True/\wab (wa9 rep) (R (.bool !decide (rep=p)) []) z3) (R (.bool (decide (rep=[]))) []));letI z2:=(wab (decide (pr<1)) z3 (wab (decide ((1099511627776:Int)<pr)) z3 z0));letI z1:=(wab (decide (st=3)) (wab (decide (st=3)) (wab (!decide (pr=0)) z3 z0) z3) (wab (decide (st=4)) (wab (!decide (pr=0)) z3 z0) z3));o.length<4294967281/\wab (!wbg o p per) z3 (True/\wab (decide ((bif decide ((0:Int)<=day) && decide (day<=182620) then day % (7:Int) else (-1:Int))<0)) z3 (wab (decide (st=1)) (wab (decide (st=1)) z2 z1) (wab (decide (st=2)) (wab (decide (st=2)) z2 z1) (wab (decide (st=5)) z2 z1))))):=by kernel_rfl
theorem nf_msg(m:MG)(R:oR7):wpFn te [(120,.det wht),(123,.det wel),(122,.det wfr),(121,.det wmo)] [] 0 Tryz.f72 [.agg [.str m.dev,.q m.seq,.q m.kind,.str m.v.o,.str m.v.p,.q m.v.per,.q m.v.day,.q m.v.st,.q m.v.pr,.str m.v.rep,.str m.d.o,.str m.d.p,.q m.d.per,.str m.d.dev,.q m.d.num]] [] R=(letI z6:=(m.kind=1);letI z5:=(m.kind=2);letI z4:=R (.q 114) [];letI z2:=(wab (decide z5) (m.d.o.length<4294967281/\wab (wbg m.d.o m.d.p m.d.per) (m.d.dev.length<4294967281/\wab (wa3 m.d.dev) (True/\wab (!numF m.d.num) z4 (R (.q 0) [])) z4) z4) (R (.q 0) []));letI z0:=(wab (decide z6) (wab (!(decide (m.d.o=[]) && (decide (m.d.p=[]) && (decide (m.d.per=0) && (decide (m.d.dev=[]) && decide (m.d.num=0)))))) z4 z2) z2);letI z1:=(wab (decide z5) (wab (!(decide (m.v.o=[]) && (decide (m.v.p=[]) && (decide (m.v.per=0) && (decide (m.v.day=0) && (decide (m.v.st=0) && (decide (m.v.pr=0) && decide (m.v.rep=[])))))))) (R (.q 113) []) z0) z0);letI z3:=(wab (decide z6) (m.v.o.length<4294967281/\wab (!visF (VT.mk m.v.o m.v.p m.v.per m.v.day m.v.st m.v.pr m.v.rep)) (R (.q 113) []) z1) z1);m.dev.length<4294967281/\wab (!wa3 m.dev) (R (.q 110) []) (True/\wab (!numF m.seq) (R (.q 111) []) (wab (!decide z6) (wab (!decide z5) (R (.q 112) []) z3) z3))):=by kernel_rfl
theorem val0_ok(hP:C.P=Tryz.prog)(hL:∀w,C.laid w->LaidW w):wai C 159 wl1:=by
 rintro args objs U Os vc h hvc;unfold wl1 at h;split at h<;>cases h;rename_i id code brand d c a;exact wan.nilArg 2 (wfp (λ_=>[]) (λ_=>[])) (valV_ok hP hL _ _ _ _ _ rfl ⟨zL7 _,hvc.1,hvc.2,λi hi=>absurd hi (nZ7 i),rfl⟩)
theorem w4h(s:List UInt8):decide (valF [48,48,48,48,48,48,48,48] [48,49] s 4 1 1 0 (λ_=>[]) (λ_=>[])=0)=wa3 s:=by
 unfold valF;rw[show wa9 [48,48,48,48,48,48,48,48]=true by decide+kernel,show wd1 [48,49]=true by decide+kernel,show qtyF 4 1 1=0 by rfl]
 cases wa3 s<;>rfl
theorem wv7(hP:C.P=Tryz.prog)(hL:∀w,C.laid w->LaidW w):wai C 120 wht:=by
 rintro args objs U Os vc h hvc;unfold wht at h;split at h<;>cases h;rename_i s;refine wai.wp0 (prg hP) [(159,.det wl1)] 0 (.cons (val0_ok hP hL) .nil) (hP ▸ Tryz.func120) rfl rfl rfl ?_;rw[w1n,w4h];exact⟨⟨by omega,hvc⟩,rfl,rfl⟩
theorem cnum_ok(hP:C.P=Tryz.prog):wai C 121 wmo:=by
 have _:C.Loose:=inferInstance;rintro args objs U Os vc h hvc;unfold wmo at h;split at h<;>cases h;rename_i n;refine wai.wp0 (prg hP) [] 0 .nil (hP ▸ Tryz.func121) rfl rfl rfl ?_;rw[nf_cnum];unfold numF;exact wax (λh=>by rw[h];exact⟨rfl,rfl⟩) (λh=>by rw[h];exact⟨rfl,rfl⟩)
theorem calv_ok(hP:C.P=Tryz.prog):wai C 124 wnu:=by
 have _:C.Loose:=inferInstance;rintro args objs U Os vc h hvc;unfold wnu at h;split at h<;>cases h;rename_i n;refine wai.wp0 (prg hP) [] 0 .nil (hP ▸ Tryz.func124) rfl rfl rfl ?_;rw[nf_calv];exact wax (λh=>by rw[h];exact⟨rfl,rfl⟩) (λh=>by rw[h];exact⟨rfl,rfl⟩)
theorem wsd(hP:C.P=Tryz.prog):wai C 73 whl:=by
 rintro args objs U Os vc h hvc;unfold whl at h;split at h<;>cases h;rename_i n;refine wai.wp0 (prg hP) [(124,.det wnu)] 0 (.cons (calv_ok hP) .nil) (hP ▸ Tryz.func73) rfl rfl rfl ?_;rw[wy7];refine⟨trivial,wcb (λh=>by rw[h];exact⟨rfl,rfl⟩) (λh=>⟨by decide,?_⟩)⟩;rw[h];have h0:0<=n:=of_decide_eq_true (Bool.and_eq_true_iff.1 h).1;exact⟨by rw[Int.tmod_eq_emod_of_nonneg h0];rfl,rfl⟩
theorem wsz(hP:C.P=Tryz.prog)(hL:∀w,C.laid w->LaidW w):wai C 123 wel:=by
 rintro args objs U Os vc h hvc;unfold wel at h;split at h<;>cases h;rename_i o p per;refine wai.wp0 (prg hP) [(120,.det wht),(160,.det wcs)] 0 (.cons (wv7 hP hL) (.cons (wjo hP (wh4 hP)) .nil)) (hP ▸ Tryz.func123) rfl rfl rfl ?_;rw[nf_slot];unfold wbg;exact⟨hvc,wax (λh1=>⟨trivial,wax (λh2=>wax (λh3=>by rw[h1,h2,h3];exact⟨rfl,rfl⟩) (λh3=>by rw[h1,h2,h3];exact⟨rfl,rfl⟩)) (λh2=>by rw[h1,h2];exact⟨rfl,rfl⟩)⟩) (λh1=>by rw[h1];exact⟨rfl,rfl⟩)⟩
theorem wk_neg(day:Int):decide ((bif decide (0<=day) && decide (day<=182620) then day % 7 else -1)<0)= !(decide (0<=day) && decide (day<=182620)):=by
 cases h:decide (0<=day) && decide (day<=182620) with
 |true=>
  show decide (day % 7<0)=false;rw[decide_eq_false];have:=Int.emod_nonneg day (show (7:Int)≠0 by decide);omega
 |false=>rfl
theorem ww8(hP:C.P=Tryz.prog)(hL:∀w,C.laid w->LaidW w):wai C 122 wfr:=by
 rintro args objs U Os vc h hvc;unfold wfr at h;split at h<;>cases h;rename_i o p per day st pr rep;refine wai.wp0 (prg hP) [(123,.det wel),(160,.det wcs),(73,.det whl)] 0 (.cons (wsz hP hL) (.cons (wjo hP (wh4 hP)) (.cons (wsd hP) .nil))) (hP ▸ Tryz.func122) rfl rfl rfl ?_;rw[wzd,wk_neg];refine⟨hvc,wcb (λh1=>?_) (λh1=>⟨trivial,wcb (λh2=>?_) (λh2=>?_)⟩)⟩
 ·unfold visF;simp[h1]
 ·unfold visF;simp[h1,h2]
 have hv:visF ⟨o,p,per,day,st,pr,rep⟩=(bif decide (st=1) || decide (st=2) then decide (1<=pr) && decide (pr<=1099511627776) && decide (rep=[])
  else bif decide (st=3) || decide (st=4) then decide (pr=0) && decide (rep=[])
  else bif decide (st=5) then decide (1<=pr) && decide (pr<=1099511627776) && wa9 rep && !decide (rep=p) else false):=by
  unfold visF;simp only[h1,Bool.true_and,h2]
 rw[hv];have e1:decide (1<=pr)= !decide (pr<1):=by by_cases h:pr<1<;>simp[h]<;>omega
 have e2:decide (pr<=1099511627776)= !decide (1099511627776<pr):=by by_cases h:1099511627776<pr<;>simp[h]<;>omega
 rw[e1,e2];clear hv h1 h2 e1 e2
 by_cases s1:st=1
 ·subst s1;generalize decide (pr<1)=b1,decide (1099511627776<pr)=b2,decide (pr=0)=b3,decide (rep=p)=b4,decide (rep=[])=b5,wa9 rep=b6
  cases b1<;>cases b2<;>exact⟨rfl,rfl⟩
 by_cases s2:st=2
 ·subst s2;generalize decide (pr<1)=b1,decide (1099511627776<pr)=b2,decide (pr=0)=b3,decide (rep=p)=b4,decide (rep=[])=b5,wa9 rep=b6
  cases b1<;>cases b2<;>exact⟨rfl,rfl⟩
 by_cases s3:st=3
 ·subst s3;generalize decide (pr<1)=b1,decide (1099511627776<pr)=b2,decide (pr=0)=b3,decide (rep=p)=b4,decide (rep=[])=b5,wa9 rep=b6
  cases b3<;>exact⟨rfl,rfl⟩
 by_cases s4:st=4
 ·subst s4;generalize decide (pr<1)=b1,decide (1099511627776<pr)=b2,decide (pr=0)=b3,decide (rep=p)=b4,decide (rep=[])=b5,wa9 rep=b6
  cases b3<;>exact⟨rfl,rfl⟩
 by_cases s5:st=5
 ·subst s5;generalize decide (pr<1)=b1,decide (1099511627776<pr)=b2,decide (pr=0)=b3,decide (rep=p)=b4,decide (rep=[])=b5,wa9 rep=b6
  cases b1<;>cases b2<;>cases b6<;>first | exact⟨rfl,rfl⟩ | exact⟨trivial,rfl,rfl⟩
 rw[decide_eq_false s1,decide_eq_false s2,decide_eq_false s3,decide_eq_false s4,decide_eq_false s5];exact⟨rfl,rfl⟩
theorem wqd(hP:C.P=Tryz.prog)(hL:∀w,C.laid w->LaidW w):wai C 72 wdr:=by
 rintro args objs U Os vc h hvc;unfold wdr at h;split at h<;>cases h;rename_i dev seq kind o p per day st pr rep o2 p2 per2 dev2 num;refine wai.wp0 (prg hP) [(120,.det wht),(123,.det wel),(122,.det wfr),(121,.det wmo)] 0 (.cons (wv7 hP hL) (.cons (wsz hP hL) (.cons (ww8 hP hL) (.cons (cnum_ok hP) .nil)))) (hP ▸ Tryz.func72) rfl rfl rfl ?_;have nf:=λR=>nf_msg ⟨dev,seq,kind,⟨o,p,per,day,st,pr,rep⟩,⟨o2,p2,per2,dev2,num⟩⟩ R;refine(nf _).mpr ?_;clear nf;obtain⟨l1,l2,l3,l4⟩:=hvc;unfold msgF VT.nil DT.nil;dsimp only
 generalize (decide (o=[]) && (decide (p=[]) && (decide (per=0) && (decide (day=0) && (decide (st=0) && (decide (pr=0) && decide (rep=[])))))))=vn;generalize (decide (o2=[]) && (decide (p2=[]) && (decide (per2=0) && (decide (dev2=[]) && decide (num=0)))))=dn;generalize wa3 dev=b1,numF seq=b2,visF ⟨o,p,per,day,st,pr,rep⟩=b3,wbg o2 p2 per2=b4,wa3 dev2=b5,numF num=b6;refine⟨l1,?_⟩
 cases b1
 ·exact⟨rfl,rfl⟩
 refine⟨trivial,?_⟩
 cases b2
 ·exact⟨rfl,rfl⟩
 by_cases k1:kind=1
 ·subst k1;refine⟨l2,?_⟩
  cases b3<;>cases dn<;>exact⟨rfl,rfl⟩
 by_cases k2:kind=2
 ·subst k2
  cases vn
  ·exact⟨rfl,rfl⟩
  refine⟨l3,?_⟩
  cases b4
  ·exact⟨rfl,rfl⟩
  refine⟨l4,?_⟩
  cases b5
  ·exact⟨rfl,rfl⟩
  refine⟨trivial,?_⟩
  cases b6<;>exact⟨rfl,rfl⟩
 rw[decide_eq_false k1,decide_eq_false k2];exact⟨rfl,rfl⟩
end Go.Eng
namespace Go.Eng
theorem atM_get{L:List MG}{i:Nat}(h:i<L.length):atM L i=L[i]:=by simp[atM,h]
theorem wwo{L:List MG}{i:Nat}(h:i<L.length):atM L i∈L:=by rw[atM_get h];exact List.getElem_mem h
def t30(nm:Nat->List UInt8)(i:Nat):List UInt8:=(nm i).take 30
theorem wdh(s:List UInt8)(k:Int):s.take (Int.toNat (min (s.length:Int) k))=s.take k.toNat:=by
 rcases Int.le_total (s.length:Int) k with h | h
 ·rw[Int.min_eq_left h,tN7,List.take_length,List.take_of_length_le (by omega)]
 ·rw[Int.min_eq_right h]
def wd9(n k:Int):Int:=n % 18446744073709551616 % k
def wnh:Spec
 |[.int .i64 n,.int .i64 k],[]=>some (.q (wd9 n k),[],1<=k/\k<=1000000)
 |_,_=>none
def waa(n:Nat)(v:Nat->Int)(a k:Int):Int:=wd9 (bif decide (a<n) then v a.toNat else 0) k
def wbd:Spec
 |[.ptr 0 0,.int .i64 k],[.cells [.view sz n f,.int .i64 a] t]=>some (.q (waa n (vInt f) a k),[(0,.cells [.view 1 n f,.q (a+1)] 27)],t=27/\sz=1/\f=wad (vInt f)/\(1<=k/\k<=1000000)/\(0<=a/\a<=4611686018427387904))
 |_,_=>none
def pw(V j:Nat):Nat:=V / 10 ^ j
def dgI(V k:Nat):Int:=48+((V / 10 ^ (6 - k) % 10:Nat):Int)
def wba(V:Nat)(k:Nat):List AV:=[.int .u8 (dgI V k)]
def idV(n:Int):Nat:=1000000+(wd9 n 1000000).toNat
def id7(n:Int):List UInt8:=wao 7 (wba (idV n))
def idF(n:Int):List UInt8:=id7 n++[UInt8.ofNat (48+(cdF (id7 n)).1).toNat]
def S_id:Spec
 |[.int .i64 n],[]=>some (.str (idF n),[],True)
 |_,_=>none
def wne(V:Nat)(j:Nat):St:=⟨[(3,.q (pw V j:Nat)),(4,.own 0 7),(5,.q (6 - (j:Int)))],[(0,.row 5 1 7 (λk=>[.int .u8 (bif decide (7<=k+j) then dgI V k else 0)]) false)],1,[]⟩
def L_id(V:Nat):waq:=λst Q=>canonIs te 0 [3,4,5] st (wne V 0)/\V<2000000/\
 Q (.exit 0) ⟨[(4,.own 0 7)],[(0,.row 5 1 7 (wba V) false)],1,[]⟩
theorem wiz{k:Int}(h:1<=k)(n:Int):0<=wd9 n k/\wd9 n k<k:=by
 unfold wd9;exact⟨Int.emod_nonneg _ (by omega),Int.emod_lt_of_pos _ (by omega)⟩
theorem wav{k:Int}(h:1<=k)(n:Nat)(v:Nat->Int)(a:Int):0<=waa n v a k/\waa n v a k<k:=wiz h _
theorem wwd(s:List UInt8):0<=(cdF s).1/\(cdF s).1<=9:=by
 unfold cdF;split
 ·show 0<=(10 - wa7 s s.length % 10) % 10/\(10 - wa7 s s.length % 10) % 10<=9;omega
 ·exact⟨by decide,by decide⟩
theorem wis(n:Int):(id7 n).length=7:=by simp[id7,wao]
theorem wuy(n:Int):(idF n).length=8:=by rw[idF,lA7,wis];rfl
theorem w37(V k:Nat):48<=dgI V k/\dgI V k<=57:=by
 unfold dgI;have:=Nat.mod_lt (V / 10 ^ (6 - k)) (show 0<10 by omega);omega
theorem u8_to{n:Int}(h0:0<=n)(h1:n<256):((UInt8.ofNat n.toNat).toNat:Int)=n:=by
 rw[UInt8.toNat_ofNat'];have:n.toNat % 2 ^ 8=n.toNat:=Nat.mod_eq_of_lt (by omega);omega
theorem id7_dig(n:Int):(id7 n).all wbi=true:=by
 unfold id7 wao;rw[List.all_map,List.all_eq_true];intro k _;have h:=w37 (idV n) k;have e:=u8_to (n:=dgI (idV n) k) (by omega) (by omega);show wbi (UInt8.ofNat (dgI (idV n) k).toNat)=true;unfold wbi;rw[bA7,decide_eq_true_eq,decide_eq_true_eq];omega
theorem wd7(n:Int):wa9 (idF n)=true:=by
 have hc:=wwd (id7 n);have e:=u8_to (n:=48+(cdF (id7 n)).1) (by omega) (by omega);have hd:wbn (idF n) 8 13=true:=by
  unfold wbn;rw[wuy,bA7];refine⟨rfl,?_⟩;unfold idF;rw[List.all_append,id7_dig,List.all_cons];unfold wbi;rw[Bool.true_and,List.all_nil,Bool.and_true,bA7,decide_eq_true_eq,decide_eq_true_eq];omega
 have ht:(idF n).take 7=id7 n:=by unfold idF;rw[← wis n];exact List.take_left
 have hg:(idF n).getD 7 0=UInt8.ofNat (48+(cdF (id7 n)).1).toNat:=by
  unfold idF;rw[List.getD_eq_getElem?_getD,List.getElem?_append_right (by rw[wis];exact lR7 _),wis];rfl
 unfold wa9;rw[hd,wuy];show decide ((cdF ((idF n).take 7)).1=(((idF n).getD 7 0).toNat:Int) - 48)=true;rw[ht,hg,e,decide_eq_true_eq];omega
def wdo(g:Nat->RW):Nat->Bool
 |0=>true
 |k+1=>wdo g k && rowF (g k)
def svF(g:Nat->RW)(n:Nat):Int:=bif decide (24000<n) then 130 else bif wdo g n then 0 else 131
def wmb:Spec
 |[.str s],[]=>some (.bool (wa3 s),[],s.length<4294967281)
 |_,_=>none
def wei:Spec
 |[.agg [.str o,.str p,.int .i64 per,.int .i64 u,.int .i64 tv]],[]=>some (.bool (rowF ⟨o,p,per,u,tv⟩),[],o.length<4294967281)
 |_,_=>none
def wl7:Spec
 |[.view 5 n f],[]=>some (.q (svF (rwOf f) n),[],n<=1000000/\f=wah (rwOf f)/\∀i,i<n->(rwOf f i).o.length<4294967281)
 |_,_=>none
def S_sv(g:Nat->RW)(n k:Nat):St:=⟨[(8,.view 5 n (wah g)),(9,.q n),(10,.q k)],[],0,[]⟩
def L_sv(g:Nat->RW)(n:Nat):waq:=λst Q=>canonIs te 0 [8,9,10] st (S_sv g n 0)/\n<=24000/\(∀i,i<n->(g i).o.length<4294967281)/\
 wab (wdo g n) (Q (.exit 0) ⟨[],[],0,[]⟩) (Q .ret ⟨[(2,.q 131)],[],0,[]⟩)
def atR(L:List RW)(i:Nat):RW:=L.getD i default
def outF(i:Int):List UInt8:=List.getD [[111,49],[111,50],[112]] i.toNat []
def wdb:Spec
 |[.ptr 0 0],[.cells [.view sz n f,.int .i64 a] t]=>some (.str (outF (waa n (vInt f) a 3)),[(0,.cells [.view 1 n f,.q (a+1)] 27)],t=27/\sz=1/\f=wad (vInt f)/\(0<=a/\a<=4611686018427387000))
 |_,_=>none
def wda:Spec
 |[.ptr 0 0],[.cells [.view sz n f,.int .i64 a] t]=>some (.str (idF (waa n (vInt f) a 4)),[(0,.cells [.view 1 n f,.q (a+1)] 27)],t=27/\sz=1/\f=wad (vInt f)/\(0<=a/\a<=4611686018427387000))
 |_,_=>none
def rowV(n:Nat)(v:Nat->Int)(a:Int):RW:=⟨outF (waa n v (a+1) 3),idF (waa n v (a+1+1) 4),1440+waa n v (a+1+1+1) 4,1+waa n v a 20,(1+waa n v a 20) * (90+waa n v (a+1+1+1+1) 30)+waa n v (a+1+1+1+1+1) 3⟩
def wfs:Spec
 |[.ptr 0 0],[.cells [.view sz n f,.int .i64 a] t]=>some (.agg [.str (rowV n (vInt f) a).o,.str (rowV n (vInt f) a).p,.q (rowV n (vInt f) a).per,.q (rowV n (vInt f) a).u,.q (rowV n (vInt f) a).tv],[(0,.cells [.view 1 n f,.q (a+1+1+1+1+1+1)] 27)],
   t=27/\sz=1/\f=wad (vInt f)/\(0<=a/\a<=4611686018427380000))
 |_,_=>none
end Go.Eng
namespace Go.Eng
open Go.Lib
structure BK where
 up:Int
 pr:Int
structure RT where
 o:List UInt8
 p:List UInt8
 per:Int
 st:Int
 bs:List BK
structure FL where
 id:List UInt8
 ver:Int
 day:Int
 kind:Int
 ms:List MG
 rs:List RW
 ts:List RT
def numE(n:Int):List UInt8:=itoa n++[44]
def txtE(s:List UInt8):List UInt8:=itoa s.length++58::(s++[44])
def mgE(m:MG):List UInt8:=txtE m.dev++(numE m.seq++(numE m.kind++(txtE m.v.o++(txtE m.v.p++(numE m.v.per++(numE m.v.day++(numE m.v.st++(numE m.v.pr++(txtE m.v.rep++(txtE m.d.o++(txtE m.d.p++(numE m.d.per++(txtE m.d.dev++numE m.d.num)))))))))))))
def rwE(r:RW):List UInt8:=txtE r.o++(txtE r.p++(numE r.per++(numE r.u++numE r.tv)))
def bkE(b:BK):List UInt8:=numE b.up++numE b.pr
def rtE(t:RT):List UInt8:=txtE t.o++(txtE t.p++(numE t.per++(numE t.st++(numE t.bs.length++t.bs.flatMap bkE))))
def encF(f:FL):List UInt8:=txtE f.id++(numE f.ver++(numE f.kind++(numE f.ms.length++(f.ms.flatMap mgE++(numE f.rs.length++(f.rs.flatMap rwE++(numE f.ts.length++f.ts.flatMap rtE)))))))
theorem wri:∀(u:Nat) {b:UInt8},b∈decDigits u->48<=b.toNat/\b.toNat<=57:=by
 intro u
 induction u using Nat.strongRecOn with
 |_ u ih=>
  intro b h;rw[decDigits] at h
  by_cases q:u<10
  ·rw[dif_pos q] at h;have:=List.mem_singleton.1 h;subst this;rw[UInt8.toNat_ofNat'];omega
  ·rw[dif_neg q] at h
   rcases List.mem_append.1 h with h | h
   ·exact ih (u / 10) (by omega) h
   ·have:=List.mem_singleton.1 h;subst this;rw[UInt8.toNat_ofNat'];omega
theorem w20{n:Int}{b:UInt8}(h:b∈itoa n):b.toNat=45∨(48<=b.toNat/\b.toNat<=57):=by
 unfold itoa at h
 by_cases q:n<0
 ·rw[if_pos q] at h
  rcases List.mem_cons.1 h with rfl | h
  ·exact .inl rfl
  ·exact .inr (wri _ h)
 ·rw[if_neg q] at h;exact .inr (wri _ h)
theorem wkq{n:Int}:(44:UInt8) ∉ itoa n/\(58:UInt8) ∉ itoa n:=by
 constructor<;>intro h<;>have:=w20 h<;>revert this<;>decide
def decVal(l:List UInt8):Nat:=l.foldl (λa b=>a * 10+(b.toNat - 48)) 0
theorem wv4(u:Nat):decVal (decDigits u)=u:=by
 induction u using Nat.strongRecOn with
 |_ u ih=>
  rw[decDigits]
  by_cases q:u<10
  ·rw[dif_pos q];show 0 * 10+((UInt8.ofNat (48+u)).toNat - 48)=u;rw[UInt8.toNat_ofNat'];omega
  ·rw[dif_neg q];have h:=ih (u / 10) (by omega);unfold decVal at h ⊢;rw[List.foldl_append,h];show u / 10 * 10+((UInt8.ofNat (48+u % 10)).toNat - 48)=u;rw[UInt8.toNat_ofNat'];omega
theorem wv2{a b:Nat}(h:decDigits a=decDigits b):a=b:=by rw[← wv4 a,h,wv4]
theorem wut{a b:Int}(h:itoa a=itoa b):a=b:=by
 have no:∀ {u v:Nat},45::decDigits u=decDigits v->False:=λ{u v} e=>by
  have:=wri v (show (45:UInt8)∈decDigits v by rw[← e];exact List.mem_cons_self);revert this;decide
 unfold itoa at h
 by_cases q:a<0
 ·by_cases r:b<0
  ·rw[if_pos q,if_pos r] at h;have:=wv2 (List.cons.inj h).2;omega
  ·rw[if_pos q,if_neg r] at h;exact(no h).elim
 ·by_cases r:b<0
  ·rw[if_neg q,if_pos r] at h;exact(no h.symm).elim
  ·rw[if_neg q,if_neg r] at h;have:=wv2 h;omega
theorem cutAt{x:UInt8}:∀ {p q r s:List UInt8},x ∉ p->x ∉ q->p++x::r=q++x::s->p=q/\r=s
 |[],[],_,_,_,_,h=>⟨rfl,(List.cons.inj h).2⟩
 |[],y::q,_,_,_,hq,h=>by
  have:=(List.cons.inj h).1;subst this;exact absurd List.mem_cons_self hq
 |y::p,[],_,_,hp,_,h=>by
  have:=(List.cons.inj h).1;subst this;exact absurd List.mem_cons_self hp
 |y::p,z::q,r,s,hp,hq,h=>by
  obtain⟨e,h⟩:=List.cons.inj h;obtain⟨e1,e2⟩:=cutAt (λk=>hp (List.mem_cons_of_mem _ k)) (λk=>hq (List.mem_cons_of_mem _ k)) h;exact⟨by rw[e,e1],e2⟩
theorem wb4{a b:Int}{r s:List UInt8}(h:numE a++r=numE b++s):a=b/\r=s:=by
 unfold numE at h;rw[List.append_assoc,List.append_assoc] at h;obtain⟨e1,e2⟩:=cutAt wkq.1 wkq.1 h;exact⟨wut e1,e2⟩
theorem wdg{a b:List UInt8}{r s:List UInt8}(h:txtE a++r=txtE b++s):a=b/\r=s:=by
 unfold txtE at h;rw[List.append_assoc,List.append_assoc,List.cons_append,List.cons_append] at h;obtain⟨e1,e2⟩:=cutAt wkq.2 wkq.2 h;have hl:a.length=b.length:=by have:=wut e1;omega
 rw[List.append_assoc,List.append_assoc] at e2;obtain⟨e3,e4⟩:=List.append_inj e2 hl;exact⟨e3,(List.cons.inj e4).2⟩
def ordF(a b:FL):Int:=orL [cmpS a.id b.id,cmpI a.ver b.ver,cmpI a.day b.day,cmpS (encF a) (encF b)]
theorem wg0:PreC ordF:=(wlg.comap FL.id).or ((wlh.comap FL.ver).or ((wlh.comap FL.day).or ((wlg.comap encF).or .nil)))
theorem wto{a b:FL}(h:ordF a b=0):encF a=encF b/\a.day=b.day:=by
 simp only[ordF,wyu,wi8,whd,show orL []=0 from rfl,and_true] at h;exact⟨h.2.2.2,h.2.2.1⟩
end Go.Eng
