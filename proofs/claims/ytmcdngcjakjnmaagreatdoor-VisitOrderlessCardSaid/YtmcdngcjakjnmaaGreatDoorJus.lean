/- Messages: what Validate answers. -/
import Derived.Test.YtmcdngcjakjnmaaGreatDoorJur
namespace Go.Eng
open Go.Proofs Go.RowKit
set_option maxRecDepth 20000
theorem wyq(s:List UInt8)(R:oR7):wpFn te [(169,.det wk7),(171,.det wmb)] [(3,wng s)] 0 Tryz.f163 [.str s] [] R=(letI z2:=(∀(i:Nat),i<(words s).length->true=true:Prop);letI z1:=(vInt λ(i:Nat)=>[.q (wby s i)]);letI z0:=(words s).length;(s.length<4294967281/\[(46:UInt8)]=[(46:UInt8)])/\(TEq [(0,.str s),(4,.own 0 0),(12,.view 1 z0 λ(i:Nat)=>[.str (List.getD (words s) i [])]),(13,.q (z0:Int)),(14,.q 0)] [(0,.str s),(4,.own 0 0),(12,.view 1 z0 λ(i:Nat)=>[.str (List.getD (words s) i [])]),(13,.q (z0:Int)),(14,.q (↑0:Int))]/\wac [(0,.row 3 1 0 (λ(_x:Nat)=>[]) false)] [(0,.row 3 1 0 (λ(i:Nat)=>[.q (wby s i)]) false)])/\s.length<4294967281/\z2/\(3=3/\false=false/\(words s).length=(words s).length/\(words s).length<=4611686018427387904/\(λ(i:Nat)=>[.q (wby s i)])=wad z1)/\z2/\wab (!decide ((bif wbf z0 z1 then (0:Int) else (64:Int))=0)) (R (.tuple [.nil,.q 60]) []) (wab (!decide ((bif wbf z0 z1 then fmtZ z0 z1 else [])=s)) (R (.tuple [.nil,.q 60]) []) (z2/\∃(O':oL7),wac [(0,.row 3 1 z0 (λ(i:Nat)=>[.q (wby s i)]) false)] O'/\R (.tuple [.own 0 z0,.q 0]) O'))):=by kernel_rfl
theorem wyp(s:List UInt8)(k:Nat)(P:Nat->Prop)(R:eR7):wav ⟨te,[(170,.det wmr)],[],0,41,0⟩ (wax Tryz.f163 3) [0,4,12,13,14] [0,4] [] (wlk s) P R (wlk s k)=(letI z1:=(List.getD (words s) (k:Int).toNat []);letI z0:=(words s).length;wab (decide ((k:Int)<(z0:Int))) (((0:Int)<=(k:Int)/\(k:Int)<(z0:Int)/\1=1)/\z1.length<=281474976710656/\(1<=16777216/\1=1/\1<=9223372036854775807)/\((1<=1/\1=1)/\k<=k/\1=1/\3=3/\1=1/\k+1<=9223372036854775807/\(k+1) * 8<=140737488355328)/\inR .i64 ((k:Int)+1)/\∃(i':Nat),(TEq [(0,.str s),(4,.own 0 (k+1)),(12,.view 1 z0 λ(i:Nat)=>[.str (List.getD (words s) i [])]),(13,.q (z0:Int)),(14,.q ((k:Int)+1))] [(0,.str s),(4,.own 0 i'),(12,.view 1 z0 λ(i:Nat)=>[.str (List.getD (words s) i [])]),(13,.q (z0:Int)),(14,.q (i':Int))]/\wac [(0,.row 3 1 (k+1) (apF k (λ(i:Nat)=>[.q (wby s i)]) (wau 1 (.q (wia z1)::List.append [] (List.flatten (List.replicate (nat_lit 0) [.q 0]))))) false)] [(0,.row 3 1 i' (λ(i:Nat)=>[.q (wby s i)]) false)])/\P i') ((∀(i:Nat),i<k->true=true)/\∃(O':oL7),wac [(0,.row 3 1 k (λ(i:Nat)=>[.q (wby s i)]) false)] O'/\R (.exit 0) (St.mk [(0,.str s),(4,.own 0 k)] O' 1 []))):=by kernel_rfl
variable {C:Ctx} [C.Loose]
theorem wwb(hP:C.P=Tryz.prog)(hL:∀w,C.laid w->LaidW w):wae C 169 wk7:=by
 rintro args objs U Os vc h hvc;unfold wk7 at h;split at h<;>cases h;rename_i s sep;obtain⟨hs,rfl⟩:=hvc;refine wat.below ⟨Tryz.f169,hP ▸ Tryz.func169,rfl,by decide⟩ λw M cargs hlaid _ hM hl hv=>?_;obtain⟨m,hm⟩:=(hL w hlaid).maxLen;obtain⟨a,b,rfl⟩:=mem2 hl;have e1:=(hv 0 _ _ rfl rfl).str_iff;have e2:=(hv 1 _ _ rfl rfl).str_iff;subst e1;subst e2;rw[hP];refine(Tryz.strings_Split ⟨s.toArray⟩ ⟨#[46]⟩ m w (by simpa[ByteArray.size] using hs) hm (by decide)).mono ?_;rintro e w' ⟨rfl,rfl⟩;have hd:=Lib.splitB_data ⟨#[46]⟩ 0 (Lib.countB ⟨s.toArray⟩ ⟨#[46]⟩) ⟨s.toArray⟩;have hw:(Lib.splitB ⟨#[46]⟩ 0 (Lib.countB ⟨s.toArray⟩ ⟨#[46]⟩) ⟨s.toArray⟩).map (·.data.toList)=words s:=by
  rw[hd];simp[words,Lib.split]
 have hlen:(Lib.splitB ⟨#[46]⟩ 0 (Lib.countB ⟨s.toArray⟩ ⟨#[46]⟩) ⟨s.toArray⟩).length=(words s).length:=by rw[← hw];simp
 have hcnt:Lib.countB ⟨s.toArray⟩ ⟨#[46]⟩+1=(words s).length:=by
  rw[wg3]
 refine⟨_,rfl,(Below.refl _ _).alloc (lR7 _) _,?_⟩;rw[hcnt];have hle:=Lib.count_le s [46];refine V.newview hM (by simp[hlen]) (by rw[wg3];unfold maxLen;omega) (λi v hv=>?_) (λi v hv=>?_)
 ·rw[List.getElem?_toArray,List.getElem?_map] at hv;obtain⟨x,_,rfl⟩:=Option.map_eq_some_iff.1 hv;exact rfl
 ·simp at hv;obtain⟨x,hx,rfl⟩:=hv;refine⟨_,rfl,.str ?_⟩;have:(words s)[i]?=some x.data.toList:=by rw[← hw];simp[hx]
  simp[List.getD,this]
theorem atoi_ok(hP:C.P=Tryz.prog)(hL:∀w,C.laid w->LaidW w):wae C 170 wmr:=by
 rintro args objs U Os vc h hvc;unfold wmr at h;split at h<;>cases h;rename_i s;refine wat.below ⟨Tryz.f170,hP ▸ Tryz.func170,rfl,by decide⟩ λw M cargs hlaid _ hM hl hv=>?_;obtain⟨a,rfl⟩:=mem1 hl;have e1:=(hv 0 _ _ rfl rfl).str_iff;subst e1;rw[hP];have hsz:(⟨s.toArray⟩:ByteArray).size=s.length:=by simp[ByteArray.size]
 have hdt:(⟨s.toArray⟩:ByteArray).data.toList=s:=by simp
 have tup:∀(w':World) (n:Int) (e:Value),V w' M nob (.tuple #[.int .i64 n,e]) (.tuple [.int .i64 n,.any]):=λw' n e=>.tuple rfl λj v u hv hu=>by
  match j with
  |0=>simp at hv hu;subst hv;subst hu;exact .int
  |1=>simp at hv hu;subst hv;subst hu;exact .any
  |j+2=>simp at hv
 unfold wia
 cases hh:Lib.atoiAll s with
 |ok v=>
  refine(Tryz.strconv_Atoi_ok ⟨s.toArray⟩ (by omega) v (by rw[hdt];exact hh) w).mono ?_;rintro e w' ⟨rfl,hw⟩;refine⟨_,rfl,?_,tup _ _ _⟩
  rcases hw with rfl | ⟨t,rfl⟩
  ·exact Below.refl _ _
  ·exact Lib.bytesWorld_below _ _ _
 |range=>
  obtain⟨t,p,he⟩:=(hL w hlaid).errR;refine(Any.strconv_Atoi_range Tryz.laysC172 ⟨s.toArray⟩ (by omega) (by rw[hdt];exact hh) _ w he (.inr ⟨t,p,rfl⟩)).mono ?_;rintro e w' ⟨N,rfl,_,_,hb⟩;rw[hdt];exact⟨_,rfl,hb,tup _ _ _⟩
 |_=>
  obtain⟨t,p,he⟩:=(hL w hlaid).errS;refine(Any.strconv_Atoi_syntax Tryz.laysC172 ⟨s.toArray⟩ (by omega) (by rw[hdt];exact hh) _ w he (.inr ⟨t,p,rfl⟩)).mono ?_;rintro e w' ⟨N,rfl,_,_,hb⟩;exact⟨_,rfl,hb,tup _ _ _⟩
theorem wxl(hP:C.P=Tryz.prog)(hL:∀w,C.laid w->LaidW w)(s:List UInt8):wai C 0 41 (wak Tryz.f163 3) (wng s):=by
 rintro st Q ⟨h0,hs,hQ⟩;refine AWP.ownNil 4 3 1 ?_;have hwl:(words s).length<=s.length+2:=by
  have:=Lib.count_le s [46];rw[wg3];omega
 refine wai.mk (prg hP) [(170,.det wmr)] 0 (.cons (atoi_ok hP hL) .nil) [0,4,12,13,14] [0,4] [] (wlk s) (λk=>k<=(words s).length) (λk=>(words s).length - k) 0 (zL7 _) h0 (λk hk=>?_) (λi=>⟨λ_ _=>rfl,trivial⟩);rw[wyp];refine waj (λh=>?_) (λh=>⟨λ_ _=>rfl,_,wbr,?_⟩)
 ·have hlt:k<(words s).length:=by omega
  have hlw:((words s).getD k []).length<=s.length:=by
   have:=wvn s ((words s).getD k []) (by simp[List.getD,hlt]);exact this
  have hrow:∀i,i<k+1->apF k (λi=>[AV.q (wby s i)]) (wau 1 [.q (wia ((words s).getD k []))]) i=[.q (wby s i)]:=by
   intro i hi;unfold apF;split
   ·rfl
   ·have:i=k:=by omega
    subst this;rw[Nat.sub_self];rfl
  simp only[inR,tN7]
  and_intros
  any_goals omega
  any_goals (simp;done)
  exact⟨k+1,⟨rfl,⟨rfl,rfl,rfl,rfl,rfl,hrow⟩,trivial⟩,by omega,by omega⟩
 ·have:k=(words s).length:=by omega
  rw[this] at *;exact hQ
theorem wxk(hP:C.P=Tryz.prog)(hL:∀w,C.laid w->LaidW w):wa8 C 163 wmz:=by
 rintro args objs R h;unfold wmz at h;split at h
 ·rename_i s;obtain⟨hs,hR⟩:=h;have hR:=wb0 hR
  refine wa8.wpL (prg hP) [(169,.det wk7),(171,.det wmb)] [(3,wng s)] 0 (.cons (wwb hP hL) (.cons (w17 hP) .nil)) (hP ▸ Tryz.func163) rfl rfl rfl
   [(wak Tryz.f163 3,wng s)] (by kernel_rfl) ⟨wxl hP hL s,trivial⟩ ?_
  rw[wyq];have hvi:(vInt λi=>[AV.q (wby s i)])=wby s:=rfl;rw[hvi];have hwl:(words s).length<=s.length+2:=by
   have:=Lib.count_le s [46];rw[wg3];omega
  refine⟨⟨hs,rfl⟩,⟨rfl,⟨rfl,rfl,rfl,rfl,rfl,λi hi=>by omega⟩,trivial⟩,hs,λ_ _=>rfl,⟨rfl,rfl,rfl,by omega,rfl⟩,λ_ _=>rfl,?_⟩
  cases hok:wbf (words s).length (wby s) with
  |false=>exact hR.2 (by unfold wc6;rw[hok];rfl)
  |true=>
   have e0:(!decide ((bif true then (0:Int) else 64)=0))=false:=rfl
   rw[e0];show wab (!decide (fmtZ (words s).length (wby s)=s)) _ _;refine wa7 (λh1=>hR.2 ?_) (λh1=>⟨λ_ _=>rfl,_,wbr,hR.1 ?_⟩)
   ·unfold wc6;rw[hok,decide_eq_false h1];rfl
   ·unfold wc6;rw[hok];exact decide_eq_true h1
 ·exact h.elim
end Go.Eng
namespace Go.Eng
open Go.Proofs Go.RowKit
variable {C:Ctx} [C.Loose]
set_option maxRecDepth 20000
theorem wy8(s:List UInt8)(R:oR7):wpFn te [(163,.rel wmz)] [] 0 Tryz.f153 [.str s] [] R=(s.length<4294967281/\wab (wc6 s) ((∀(i:Nat),i<(words s).length->true=true)/\R (.q (↑(words s).length:Int)) []) (wab (!decide (s=[])) (R (.q (-1:Int)) []) (R (.q 0) []))):=by kernel_rfl
theorem w06(hP:C.P=Tryz.prog)(hL:∀w,C.laid w->LaidW w):wae C 153 wlw:=by
 rintro args objs U Os vc h hvc;unfold wlw at h;split at h<;>cases h;rename_i s;refine wae.wp0 (prg hP) [(163,.rel wmz)] 0 (.cons (wxk hP hL) .nil) (hP ▸ Tryz.func153) rfl rfl rfl ?_;rw[wy8];refine⟨hvc,war (λh=>⟨λ_ _=>rfl,?_,rfl⟩) (λh=>wa7 (λh'=>⟨?_,rfl⟩) (λh'=>⟨?_,rfl⟩))⟩
 ·unfold we9;rw[h]
 ·unfold we9;rw[h,decide_eq_false h']
 ·unfold we9;rw[h,decide_eq_true h']
end Go.Eng
namespace Go.Eng
open Go.Proofs Go.RowKit
set_option maxRecDepth 20000
theorem nf_qty(d c a:Int)(R:oR7):wpFn te [] [] 0 Tryz.f155 [.agg [.q d,.q c,.q a]] [] R=(wab (decide (d<1)) (R (.q 80) []) (wab (decide ((4:Int)<d)) (R (.q 80) []) (wab (decide (c<1)) (R (.q 81) []) (wab (decide ((100:Int)<c)) (R (.q 81) []) (wab (decide (a<1)) (R (.q 82) []) ((c≠(0:Int)/\inR .i64 (Int.tdiv (1099511627776:Int) c))/\wab (decide (Int.tdiv (1099511627776:Int) c<a)) (R (.q 82) []) (R (.q 0) []))))))):=by kernel_rfl
variable {C:Ctx} [C.Loose]
theorem qty_ok(hP:C.P=Tryz.prog):wae C 155 wlj:=by
 have _:C.Loose:=inferInstance;rintro args objs U Os vc h hvc;unfold wlj at h;split at h<;>cases h;rename_i d c a;refine wae.wp0 (prg hP) [] 0 .nil (hP ▸ Tryz.func155) rfl rfl rfl ?_;rw[nf_qty];refine war (λh1=>?_) (λh1=>war (λh2=>?_) (λh2=>war (λh3=>?_) (λh3=>war (λh4=>?_) (λh4=>war (λh5=>?_) (λh5=>⟨wxd (of_decide_eq_false h3) (of_decide_eq_false h4),war (λh6=>?_) (λh6=>?_)⟩)))))
 all_goals simp only[qtyF, *,cond_true,cond_false,and_self]
theorem wzf(s:List UInt8)(r:Int)(R:oR7):wpFn te [(191,.det wgt),(192,.det wk2)] [(38,wnp s),(5,wno s (Utf8.encode r).data.toList),(25,λ_ _=>False)] 0 Tryz.f180 [.str s,.int .i32 r] [] R=(letI z3:=St.mk [(0,.str s),(175,.ptr 0 0)] [(0,.siter s 0)] 1 [];letI z1:=Array.toList (ByteArray.data (Utf8.encode r));letI z4:=(z1.length:Int);letI z2:=(St.mk [(0,.str s),(7,.str z1),(8,.q (z4 - (1:Int))),(9,.q (z4 - (1:Int)))] [] 0 []);letI z0:=(wab (decide (r=65533)) (some z3=some z3/\ascii s=true/\R (.q (-1:Int)) []) (True/\wab (!Lib.validRune r) (R (.q (-1:Int)) []) (True/\inR .i64 (z4 - (1:Int))/\some z2=some z2/\ascii s=true/\s.length<=1000000/\2<=z1.length/\z1.length<=4/\128<=UInt8.toNat (List.getD z1 (z1.length - 1) (0:UInt8))/\R (.q (-1:Int)) []/\R (.q (-1:Int)) [])));wab (decide ((0:Int)<=r)) (wab (decide (r<128)) (inR .u8 r/\True/\R (.q (Lib.indexByte s (Nat.toUInt8 r.toNat))) []) z0) z0):=by kernel_rfl
theorem wze(s:List UInt8)(k:Nat)(P:Nat->Prop)(R:eR7):wav ⟨te,[],[],0,187,0⟩ (wax Tryz.f180 38) [0,175] [] [4] (wl6 s) P R (wl6 s k)=(wab (decide (k<s.length)) (True/\wab (decide ((↑(wbi s k).1:Int)=65533)) (R .ret (St.mk [(4,.q (k:Int))] [] 0 [])) (∃(i':Nat),some (St.mk [(0,.str s),(175,.ptr 0 0)] [(0,.siter s (k+(wbi s k).2))] 1 [])=some (St.mk [(0,.str s),(175,.ptr 0 0)] [(0,.siter s i')] 1 [])/\P i')) (True/\R (.exit 9) (St.mk [] [] 0 []))):=by kernel_rfl
theorem wzd(s e:List UInt8)(P:Unit->Prop)(R:eR7):wav ⟨te,[(191,.det wgt)],[(12,λ_ _=>False),(1015,λ_ _=>False),(1016,λ_ _=>False)],0,187,0⟩ (wax Tryz.f180 5) [0,7,8,9] [] [4] (λ_=>wl5 s e) P R (wl5 s e)=(letI z5:=(s.length:Int);letI z0:=(e.length:Int);letI z4:=((0:Int)<=z0 - (1:Int)/\z0 - (1:Int)<z0:Prop);letI z3:=(List.drop (z0 - (1:Int)+1).toNat s);letI z1:=(↑(UInt8.toNat (List.getD e (z0 - (1:Int)).toNat (0:UInt8))):Int);letI z2:=(Lib.indexByte z3 (Nat.toUInt8 z1.toNat)+1);wab (decide (z0 - (1:Int)<z5)) (((0:Int)<=z0 - (1:Int)/\z0 - (1:Int)<z5)/\z4/\wab (!decide ((↑(UInt8.toNat (List.getD s (z0 - (1:Int)).toNat (0:UInt8))):Int)=z1)) (inR .i64 (z0 - (1:Int)+1)/\((0:Int)<=z0 - (1:Int)+1/\z0 - (1:Int)+1<=z5)/\z4/\True/\wab (decide (Lib.indexByte z3 (Nat.toUInt8 z1.toNat)<0)) (R .ret (St.mk [(4,.q (-1:Int))] [] 0 [])) (inR .i64 z2/\inR .i64 (z0 - (1:Int)+z2)/\False)) False) (R (.exit 1) (St.mk [] [] 0 []))):=by kernel_rfl
theorem wzv(s:List UInt8)(r:Int)(R:oR7):wpFn te [(180,.det wl7)] [] 0 Tryz.f167 [.str s,.int .i32 r] [] R=((ascii s=true/\s.length<=1000000/\(0:Int)<=r/\r<=1114111)/\R (.bool (decide ((0:Int)<=wb6 s r))) []):=by kernel_rfl
variable {C:Ctx} [C.Loose]
theorem wtg(hP:C.P=Tryz.prog):wae C 191 wgt:=by
 rintro args objs U Os vc h hvc;unfold wgt at h;split at h<;>cases h;rename_i s c;refine wat.below ⟨Tryz.f191,hP ▸ Tryz.func191,rfl,by decide⟩ λw M cargs _ _ hM hl hv=>?_;obtain⟨a,b,rfl⟩:=mem2 hl;have e1:=(hv 0 _ _ rfl rfl).str_iff;have e2:=(hv 1 _ _ rfl rfl).int_iff;subst e1;subst e2;rw[hP];refine(Tryz.strings_IndexByte ⟨s.toArray⟩ c w).mono ?_;rintro e w' ⟨rfl,rfl⟩;exact⟨_,rfl,Below.refl _ _,.int⟩
theorem wvy(hP:C.P=Tryz.prog):wae C 192 wk2:=by
 rintro args objs U Os vc h hvc;unfold wk2 at h;split at h<;>cases h;rename_i r;refine wat.below ⟨Tryz.f192,hP ▸ Tryz.func192,rfl,by decide⟩ λw M cargs _ _ hM hl hv=>?_;obtain⟨a,rfl⟩:=mem1 hl;have e1:=(hv 0 _ _ rfl rfl).int_iff;subst e1;rw[hP];refine(Tryz.utf8_ValidRune r w).mono ?_;rintro e w' ⟨rfl,rfl⟩;exact⟨_,rfl,Below.refl _ _,.bool⟩
theorem w1m(hP:C.P=Tryz.prog)(s:List UInt8):wai C 0 187 (wak Tryz.f180 38) (wnp s):=by
 have _:C.Loose:=inferInstance;rintro st Q ⟨h0,ha,hQ⟩;refine wai.mk (prg hP) [] 0 .nil [0,175] [] [4] (wl6 s) (λk=>k<=s.length) (λk=>s.length - k) 0 (zL7 _) h0 λk hk=>?_;rw[wze];refine war (λh=>?_) (λh=>⟨trivial,hQ⟩);have h:=of_decide_eq_true h;have hlt:=wu6 ha h;rw[wod h hlt];refine⟨trivial,war (λh'=>?_) (λ_=>⟨k+1,rfl,by omega,by omega⟩)⟩;have h':=of_decide_eq_true h';simp only at h';omega
theorem w1l(hP:C.P=Tryz.prog)(s e:List UInt8):wai C 0 187 (wak Tryz.f180 5) (wno s e):=by
 rintro st Q ⟨h0,ha,hs,h2,h4,hl,hQ1,hQ2⟩
 refine wai.mkL (prg hP) [(191,.det wgt)] [(12,λ_ _=>False),(1015,λ_ _=>False),(1016,λ_ _=>False)] 0 (.cons (wtg hP) .nil)
  [(wak Tryz.f180 12,λ_ _=>False),(regC Tryz.f180 15,λ_ _=>False),(regC Tryz.f180 16,λ_ _=>False)] (by kernel_rfl)
  ⟨λ_ _ h=>h.elim,λ_ _ h=>h.elim,λ_ _ h=>h.elim,trivial⟩ [0,7,8,9] [] [4] (λ_:Unit=>wl5 s e) (λ_=>True) (λ_=>0) () trivial h0 λ_ _=>?_
 rw[wzd];refine war (λh=>?_) (λh=>hQ1);have h:=of_decide_eq_true h;have e1:((e.length:Int) - 1).toNat=e.length - 1:=by omega
 have e2:((e.length:Int) - 1+1).toNat=e.length:=by omega
 have hlo:=wu6 ha (k:=e.length - 1) (by omega);simp only[e1,e2,inR];have hne:decide (((s.getD (e.length - 1) 0).toNat:Int)=((e.getD (e.length - 1) 0).toNat:Int))=false:=decide_eq_false (by omega);rw[hne];have hb:(e.getD (e.length - 1) 0).toNat<256:=(e.getD (e.length - 1) 0).toNat_lt;have hneg:=w1s (w3t ha e.length) (c:=((e.getD (e.length - 1) 0).toNat:Int).toNat.toUInt8) (by rw[wqw];exact hl);refine⟨by omega,by omega,by omega,by omega,by omega,trivial,?_⟩;rw[hneg];exact hQ2
theorem w1p(hP:C.P=Tryz.prog):wae C 180 wl7:=by
 rintro args objs U Os vc h hvc;unfold wl7 at h;split at h<;>cases h;rename_i s r;obtain⟨ha,hs,h0,h1⟩:=hvc
 refine wae.wpL (prg hP) [(191,.det wgt),(192,.det wk2)] [(38,wnp s),(5,wno s (Utf8.encode r).data.toList),(25,λ_ _=>False)] 0
  (.cons (wtg hP) (.cons (wvy hP) .nil)) (hP ▸ Tryz.func180) rfl rfl rfl
  [(wak Tryz.f180 38,wnp s),(wak Tryz.f180 5,wno s (Utf8.encode r).data.toList),(wak Tryz.f180 25,λ_ _=>False)] (by kernel_rfl)
  ⟨w1m hP s,w1l hP s _,λ_ _ h=>h.elim,trivial⟩ ?_
 rw[wzf];refine war (λ_=>war (λh=>?_) (λh=>?_)) (λh=>absurd h0 (of_decide_eq_false h))
 ·have h':=of_decide_eq_true h;refine⟨by simp only[inR];omega,trivial,?_,rfl⟩;simp only[wb6,h]
 ·have h':=of_decide_eq_false h;refine war (λ_=>⟨rfl,ha,?_,rfl⟩) (λ_=>⟨trivial,war (λ_=>⟨?_,rfl⟩) (λhv=>?_)⟩)
  ·simp only[wb6,h]
  ·simp only[wb6,h]
  ·have hv:Lib.validRune r=true:=by simpa using hv
   obtain⟨l1,l2,l3⟩:=w2l (by omega) hv;refine⟨trivial,by simp only[inR];omega,rfl,ha,hs,l1,l2,l3,⟨?_,rfl⟩,⟨?_,rfl⟩⟩
   ·simp only[wb6,h]
   ·simp only[wb6,h]
theorem w2v(hP:C.P=Tryz.prog):wae C 167 wmh:=by
 rintro args objs U Os vc h hvc;unfold wmh at h;split at h<;>cases h;rename_i s r;refine wae.wp0 (prg hP) [(180,.det wl7)] 0 (.cons (w1p hP) .nil) (hP ▸ Tryz.func167) rfl rfl rfl ?_;rw[wzv];exact⟨hvc,rfl,rfl⟩
theorem wyz(r:Int)(R:oR7):wpFn te [(167,.det wmh)] [] 0 Tryz.f166 [.int .i32 r] [] R=((true=true/\38<=1000000/\(0:Int)<=r/\r<=1114111)/\R (.bool !decide ((0:Int)<=wb6 ([(97:UInt8),98,99,100,101,102,103,104,105,106,107,108,109,110,111,112,113,114,115,116,117,118,119,120,121,122,48,49,50,51,52,53,54,55,56,57,45,46]) r)) []):=by kernel_rfl
theorem wzh(s:List UInt8)(R:oR7):wpFn te [] [(2,wnq s)] 0 Tryz.f190 [.str s,.func 166 [],.bool true] [] R=(letI z0:=St.mk [(1,.func 166 []),(2,.bool true),(10,.ptr 0 0)] [(0,.siter s 0)] 1 [];some z0=some z0/\wab (List.all s isNB) (R (.q (-1:Int)) []) (R (.q (↑(wcz s):Int)) [])):=by kernel_rfl
theorem wzg(s:List UInt8)(k:Nat)(P:Nat->Prop)(R:eR7):wav ⟨te,[(166,.det wlp)],[],0,21,0⟩ (wax Tryz.f190 2) [1,2,10] [] [6] (wl9 s) P R (wl9 s k)=(letI z1:=([(1,.func 166 []),(2,.bool true),(10,.ptr 0 0)]:tL7);letI z0:=(↑(wbi s k).1:Int);wab (decide (k<s.length)) (True/\((0:Int)<=z0/\z0<=1114111)/\wab (decide ((!decide ((0:Int)<=wb6 weg z0))=true)) (R .ret (St.mk [(6,.q (k:Int))] [] 0 [])) (∃(i':Nat),some (St.mk z1 [(0,.siter s (k+(wbi s k).2))] 1 [])=some (St.mk z1 [(0,.siter s i')] 1 [])/\P i')) (True/\R (.exit 0) (St.mk [] [] 0 []))):=by kernel_rfl
theorem wz7(s:List UInt8)(R:oR7):wpFn te [(190,.det wl8)] [] 0 Tryz.f179 [.str s,.func 166 []] [] R=(True/\R (.q (wej s)) []):=by kernel_rfl
theorem wz8(s:List UInt8)(R:oR7):wpFn te [(179,.det wmt)] [] 0 Tryz.f165 [.str s,.func 166 []] [] R=(True/\R (.bool (decide ((0:Int)<=wej s))) []):=by kernel_rfl
theorem nf_name(s:List UInt8)(R:oR7):wpFn te [(164,.det wd3),(165,.det wmu)] [] 0 Tryz.f154 [.str s] [] R=(wab (!decide (s=[])) (wab (decide ((s.length:Int)<=24)) (((0:Int)<=1/\(1:Int)<=(s.length:Int))/\((List.take (1:Int).toNat s).length<=9223372036854775807/\2<=36/\36<4294967281/\∀(b:UInt8),b∈[(97:UInt8),98,99,100,101,102,103,104,105,106,107,108,109,110,111,112,113,114,115,116,117,118,119,120,121,122,48,49,50,51,52,53,54,55,56,57]->UInt8.toNat b<128)/\wab (decide (wd5 ([(97:UInt8),98,99,100,101,102,103,104,105,106,107,108,109,110,111,112,113,114,115,116,117,118,119,120,121,122,48,49,50,51,52,53,54,55,56,57]) (List.take (1:Int).toNat s)=[])) (True/\R (.bool !!List.all s isNB) []) (R (.bool false) [])) (R (.bool false) [])) (R (.bool false) [])):=by kernel_rfl
variable {C:Ctx} [C.Loose]
theorem w0f(hP:C.P=Tryz.prog):wae C 166 wlp:=by
 rintro args objs U Os vc h hvc;unfold wlp at h;split at h<;>cases h;rename_i r;refine wae.wp0 (prg hP) [(167,.det wmh)] 0 (.cons (w2v hP) .nil) (hP ▸ Tryz.func166) rfl rfl rfl ?_;rw[wyz];exact⟨⟨rfl,by omega,hvc.1,hvc.2⟩,rfl,rfl⟩
theorem w1r(hP:C.P=Tryz.prog)(s:List UInt8):wai C 0 21 (wak Tryz.f190 2) (wnq s):=by
 rintro st Q ⟨h0,hQ⟩;have hQ:=wb0 hQ;refine wai.mk (prg hP) [(166,.det wlp)] 0 (.cons (w0f hP) .nil) [1,2,10] [] [6] (wl9 s) (λk=>k<=s.length/\∀j,j<k->isNB (s.getD j 0)=true) (λk=>s.length - k) 0 ⟨zL7 _,λj h=>by omega⟩ h0 λk ⟨hk,hall⟩=>?_;rw[wzg];refine war (λh=>?_) (λh=>⟨trivial,?_⟩)
 ·have h:=of_decide_eq_true h;have hle:=wwr h;refine⟨trivial,⟨by omega,by omega⟩,?_⟩
  -- what the predicate says of the rune is what isNB says of the byte
  have key:(decide (0<=wb6 weg ((wbi s k).1:Int)))=isNB (s.getD k 0)/\(isNB (s.getD k 0)=true->(wbi s k).2=1):=by
   by_cases hlo:(s.getD k 0).toNat<128
   ·rw[wod h hlo];exact⟨w0b _ hlo,λ_=>rfl⟩
   ·have hh:=wrh h (by omega);have hn:isNB (s.getD k 0)=false:=by
     generalize s.getD k 0=b at *;simp only[isNB,wfd,Bool.or_eq_false_iff,Bool.and_eq_false_imp,decide_eq_true_eq,decide_eq_false_iff_not];omega
    rw[w0c _ hh.1,hn];exact⟨rfl,λh=>by cases h⟩
  rw[key.1];refine war (λhb=>?_) (λhb=>?_)
  ·have hb:isNB (s.getD k 0)=false:=by simpa using hb
   have hf:s.all isNB=false:=by
    cases ha:s.all isNB with
    |false=>rfl
    |true=>
     have:=List.all_eq_true.1 ha (s.getD k 0) (by simp[List.getD,h]);rw[hb] at this;cases this
   obtain⟨b1,b2,b3⟩:=w3o hf;have:wcz s=k:=by
    rcases Nat.lt_trichotomy (wcz s) k with hl | hl | hl
    ·rw[hall _ hl] at b2;cases b2
    ·exact hl
    ·rw[b3 k hl] at hb;cases hb
   have hq:=hQ.2 hf;rw[this] at hq;exact hq
  ·have hb:isNB (s.getD k 0)=true:=by simpa using hb
   rw[key.2 hb];refine⟨k+1,rfl,⟨by omega,λj hj=>?_⟩,by omega⟩
   rcases Nat.lt_succ_iff_lt_or_eq.1 hj with hj | rfl
   ·exact hall j hj
   ·exact hb
 ·have h:=of_decide_eq_false h;refine hQ.1 (List.all_eq_true.2 λb hb=>?_);obtain⟨j,hj,rfl⟩:=List.getElem_of_mem hb;have:=hall j (by omega);simpa[List.getD,hj] using this
theorem w1q(hP:C.P=Tryz.prog):wae C 190 wl8:=by
 rintro args objs U Os vc h hvc;unfold wl8 at h;split at h<;>cases h;rename_i s;refine wae.wpL (prg hP) [] [(2,wnq s)] 0 .nil (hP ▸ Tryz.func190) rfl rfl rfl [(wak Tryz.f190 2,wnq s)] (by kernel_rfl) ⟨w1r hP s,trivial⟩ ?_;rw[wzh];refine⟨rfl,war (λh=>⟨?_,rfl⟩) (λh=>⟨?_,rfl⟩)⟩
 ·simp only[wej,h]
 ·simp only[wej,h]
theorem w31(hP:C.P=Tryz.prog):wae C 179 wmt:=by
 rintro args objs U Os vc h hvc;unfold wmt at h;split at h<;>cases h;rename_i s;refine wae.wp0 (prg hP) [(190,.det wl8)] 0 (.cons (w1q hP) .nil) (hP ▸ Tryz.func179) rfl rfl rfl ?_;rw[wz7];exact⟨trivial,rfl,rfl⟩
theorem w32(hP:C.P=Tryz.prog):wae C 165 wmu:=by
 rintro args objs U Os vc h hvc;unfold wmu at h;split at h<;>cases h;rename_i s;refine wae.wp0 (prg hP) [(179,.det wmt)] 0 (.cons (w31 hP) .nil) (hP ▸ Tryz.func165) rfl rfl rfl ?_;rw[wz8,w2d];exact⟨trivial,rfl,rfl⟩
theorem wsj(hP:C.P=Tryz.prog):wae C 154 wgp:=by
 rintro args objs U Os vc h hvc;unfold wgp at h;split at h<;>cases h;rename_i s;refine wae.wp0 (prg hP) [(164,.det wd3),(165,.det wmu)] 0 (.cons (wil hP) (.cons (w32 hP) .nil)) (hP ▸ Tryz.func154) rfl rfl rfl ?_;rw[nf_name]
 cases s with
 |nil=>exact⟨rfl,rfl⟩
 |cons b r=>
  have e:(b::r).take (Int.toNat 1)=[b]:=rfl;have hasc:∀x∈wi6,UInt8.toNat x<128:=by decide+kernel
  rw[e,wv5];have hl:(List.length (b::r):Int)=r.length+1:=by simp
  have hl':List.length (b::r)=r.length+1:=rfl;have hd:(b::r).getD 0 0=b:=rfl;refine war (λ_=>war (λh=>⟨by omega,⟨by simp,by omega,by omega,hasc⟩,war (λh'=>⟨trivial,?_,rfl⟩) (λh'=>⟨?_,rfl⟩)⟩) (λh=>⟨?_,rfl⟩)) (λh=>by simp at h)
  ·have h:=of_decide_eq_true h;simp only[wa9,hd,h',hl',Bool.not_not];rw[decide_eq_true (by omega),decide_eq_true (by omega)];rfl
  ·simp only[wa9,hd,h',Bool.and_false,Bool.false_and]
  ·have h:=of_decide_eq_false h;simp only[wa9,hl'];rw[decide_eq_false (p:=r.length+1<=24) (by omega)];simp
end Go.Eng
namespace Go.Eng
open Go.Proofs
set_option maxRecDepth 20000
theorem wzp(s:List UInt8)(a b:Int)(R:oR7):wpFn te [(164,.det wd3)] [] 0 Tryz.f157 [.str s,.q a,.q b] [] R=(letI z0:=((s.length<=9223372036854775807/\2<=10/\10<4294967281/\∀(b:UInt8),b∈[(48:UInt8),49,50,51,52,53,54,55,56,57]->UInt8.toNat b<128)/\R (.bool (decide (wd5 ([(48:UInt8),49,50,51,52,53,54,55,56,57]) s=[]))) []:Prop);wab (decide ((s.length:Int)=a)) z0 (wab (decide ((s.length:Int)=b)) z0 (R (.bool false) []))):=by kernel_rfl
theorem wz1(s:List UInt8)(R:oR7):wpFn te [(157,.det wgu)] [(5,wnu s)] 0 Tryz.f158 [.str s] [] R=(((7:Int)<=100/\(12:Int)<=100)/\wab (!wbu s (7:Int) (12:Int)) (R (.tuple [.q 0,.bool false]) []) (some (St.mk [(0,.str s),(4,.q 0),(11,.q (s.length:Int)),(12,.q 0)] [] 0 [])=some (St.mk [(0,.str s),(4,.q (wa4 s 0)),(11,.q (s.length:Int)),(12,.q (↑0:Int))] [] 0 [])/\s.length<=12/\List.all s wbq=true/\(10:Int)≠(0:Int)/\inR .i64 ((10:Int) - Int.tmod (wa4 s s.length) (10:Int))/\(10:Int)≠(0:Int)/\R (.tuple [.q (Int.tmod ((10:Int) - Int.tmod (wa4 s s.length) (10:Int)) (10:Int)),.bool true]) [])):=by kernel_rfl
theorem wz0(s:List UInt8)(k:Nat)(P:Nat->Prop)(R:eR7):wav ⟨te,[],[],0,36,0⟩ (wax Tryz.f158 5) [0,4,11,12] [4] [] (S_cd s) P R (S_cd s k)=(letI z1:=(s.length:Int);letI z3:=(z1 - (k:Int));letI z0:=(↑(UInt8.toNat (List.getD s (k:Int).toNat (0:UInt8))):Int);letI z2:=(wa4 s k+((1:Int)+2 * Int.tmod z3 (2:Int)) * ((z0 - (48:Int)) % (256:Int)));wab (decide ((k:Int)<z1)) (inR .i64 z3/\(2:Int)≠(0:Int)/\inR .i64 ((2:Int) * Int.tmod z3 (2:Int))/\inR .i64 ((1:Int)+2 * Int.tmod z3 (2:Int))/\((0:Int)<=(k:Int)/\(k:Int)<z1)/\inR .i64 ((z0 - (48:Int)) % (256:Int))/\inR .i64 (((1:Int)+2 * Int.tmod z3 (2:Int)) * ((z0 - (48:Int)) % (256:Int)))/\inR .i64 z2/\inR .i64 ((k:Int)+1)/\∃(i':Nat),some (St.mk [(0,.str s),(4,.q z2),(11,.q z1),(12,.q ((k:Int)+1))] [] 0 [])=some (St.mk [(0,.str s),(4,.q (wa4 s i')),(11,.q z1),(12,.q (i':Int))] [] 0 [])/\P i') (R (.exit 0) (St.mk [(4,.q (wa4 s k))] [] 0 []))):=by kernel_rfl
theorem wx0(s:List UInt8)(R:oR7):wpFn te [(157,.det wgu),(158,.det wey)] [] 0 Tryz.f139 [.str s] [] R=(letI z0:=(s.length:Int);letI z1:=(↑(UInt8.toNat (List.getD s (z0 - (1:Int)).toNat (0:UInt8))):Int);((8:Int)<=100/\(13:Int)<=100)/\wab (!wbu s (8:Int) (13:Int)) (R (.bool false) []) (inR .i64 (z0 - (1:Int))/\((0:Int)<=z0 - (1:Int)/\z0 - (1:Int)<=z0)/\True/\((0:Int)<=z0 - (1:Int)/\z0 - (1:Int)<z0)/\inR .i64 ((z1 - (48:Int)) % (256:Int))/\R (.bool (decide ((cdF (List.take (z0 - (1:Int)).toNat s)).1=(z1 - (48:Int)) % (256:Int)))) [])):=by kernel_rfl
variable {C:Ctx} [C.Loose]
theorem wuo(hP:C.P=Tryz.prog)(htrim:wae C 164 wd3):wae C 157 wgu:=by
 have _:C.Loose:=inferInstance;rintro args objs U Os vc h hvc;unfold wgu at h;split at h<;>cases h;rename_i s a b;refine wae.wp0 (prg hP) [(164,.det wd3)] 0 (.cons htrim .nil) (hP ▸ Tryz.func157) rfl rfl rfl ?_;rw[wzp];have hm:(9223372036854775807:Nat)=maxLen:=rfl;have hlt:∀b∈([48,49,50,51,52,53,54,55,56,57]:List UInt8),UInt8.toNat b<128:=by decide
 refine war (λh=>?_) (λh=>war (λh'=>?_) (λh'=>?_))
 ·have h2:=of_decide_eq_true h;refine⟨⟨by omega,by omega,by omega,hlt⟩,?_,rfl⟩;simp only[wbu,h,Bool.true_or,Bool.true_and,wq0]
 ·have h2:=of_decide_eq_true h';refine⟨⟨by omega,by omega,by omega,hlt⟩,?_,rfl⟩;simp only[wbu,h',Bool.or_true,Bool.true_and,wq0]
 ·simp[wbu,h,h']
theorem wkn{s:List UInt8}(h:s.all wbq=true):∀k,k<=s.length->0<=wa4 s k/\wa4 s k<=27 * k
 |0,_=>by simp[wa4]
 |k+1,hk=>by
  have ih:=wkn h k (by omega);have hd:=wjq h k (by omega);simp only[wa4]
  rcases Int.emod_two_eq (↑s.length - ↑k) with e | e<;>rw[e]<;>omega
theorem w28(hP:C.P=Tryz.prog)(s:List UInt8):wai C 0 36 (wak Tryz.f158 5) (wnu s):=by
 have _:C.Loose:=inferInstance;rintro st Q ⟨h0,hlen,hall,hQ⟩;refine wai.mk (prg hP) [] 0 .nil [0,4,11,12] [4] [] (S_cd s) (λk=>k<=s.length) (λk=>s.length - k) 0 (zL7 _) h0 λk hk=>?_;rw[wz0];have hb:=wkn hall k hk;refine war (λh=>?_) (λh=>?_)
 ·have h:=of_decide_eq_true h;have hd:=wjq hall k (by omega);have e:Int.tmod (↑s.length - ↑k) 2=(↑s.length - ↑k) % 2:=Int.tmod_eq_emod_of_nonneg (by omega);have e3:((s.getD k 0).toNat - 48:Int) % 256=(s.getD k 0).toNat - 48:=by omega
  simp only[inR,e,tN7,e3];have hs:wa4 s (k+1)=wa4 s k+(1+2 * ((↑s.length - ↑k) % 2)) * (↑(s.getD k 0).toNat - 48):=rfl
  rcases Int.emod_two_eq (↑s.length - ↑k) with e | e<;>rw[e] at hs ⊢ <;>and_intros<;>first
   |omega
   |exact⟨k+1,by rw[hs];rfl,by omega,by omega⟩
 ·have h:=of_decide_eq_false h;have hk:k=s.length:=by omega
  rw[hk];exact hQ
theorem w27(hP:C.P=Tryz.prog)(htrim:wae C 164 wd3):wae C 158 wey:=by
 rintro args objs U Os vc h hvc;unfold wey at h;split at h<;>cases h;rename_i s;refine wae.wpL (prg hP) [(157,.det wgu)] [(5,wnu s)] 0 (.cons (wuo hP htrim) .nil) (hP ▸ Tryz.func158) rfl rfl rfl [(wak Tryz.f158 5,wnu s)] (by kernel_rfl) ⟨w28 hP s,trivial⟩ ?_;rw[wz1];refine⟨by omega,war (λh=>?_) (λh=>?_)⟩
 ·have h:wbu s 7 12=false:=by simpa using h
  simp[cdF,h]
 ·have h:wbu s 7 12=true:=by simpa using h
  have h':=h;simp only[wbu,bA7,Bool.or_eq_true,decide_eq_true_eq] at h';have hb:=wkn h'.2 s.length (lR7 _);have e:Int.tmod (wa4 s s.length) 10=wa4 s s.length % 10:=Int.tmod_eq_emod_of_nonneg (by omega);rw[e,Int.tmod_eq_emod_of_nonneg (by omega)];refine⟨rfl,by omega,h'.2,by omega,by simp only[inR];omega,by omega,?_,rfl⟩;simp[cdF,h]
theorem wn3(hP:C.P=Tryz.prog)(htrim:wae C 164 wd3):wae C 139 weo:=by
 rintro args objs U Os vc h hvc;unfold weo at h;split at h<;>cases h;rename_i s;refine wae.wp0 (prg hP) [(157,.det wgu),(158,.det wey)] 0 (.cons (wuo hP htrim) (.cons (w27 hP htrim) .nil)) (hP ▸ Tryz.func139) rfl rfl rfl ?_;rw[wx0];refine⟨by omega,war (λh=>?_) (λh=>?_)⟩
 ·have h:wbu s 8 13=false:=by simpa using h
  simp[wbj,h]
 ·have h:wbu s 8 13=true:=by simpa using h
  have h':=h;simp only[wbu,bA7,Bool.or_eq_true,decide_eq_true_eq] at h';have e:(↑s.length - 1:Int).toNat=s.length - 1:=by omega
  have hd:=wjq h'.2 (s.length - 1) (by omega);rw[e];have e2:((s.getD (s.length - 1) 0).toNat - 48:Int) % 256=(s.getD (s.length - 1) 0).toNat - 48:=by omega
  simp only[inR,e2];refine⟨by omega,by omega,trivial,by omega,by omega,?_,trivial⟩;simp[wbj,h]
end Go.Eng
namespace Go.Eng
open Go.Proofs Go.RowKit
variable {C:Ctx} [C.Loose]
set_option maxRecDepth 20000
theorem nf_valw(id code brand:List UInt8)(d c a:Int)(n:Nat)(nm vl:Nat->List UInt8)(R:oR7):wpFn te [(139,.det weo),(153,.det wlw),(154,.det wgp),(155,.det wlj)] [(13,L_vw n nm vl)] 2 Tryz.f137 [.agg [.str id,.str code,.str brand,.q d,.q c,.q a,.view 2 n (wen nm vl)]] [] R=(True/\wab (!wbj id) (R (.q 90) []) (code.length<4294967281/\wab (decide (we9 code<1)) (R (.q 91) []) (True/\wab (!wa9 brand) (R (.q 92) []) (True/\wab (!decide (qtyF d c a=0)) (R (.q 93) []) (wab (decide ((12:Int)<(n:Int))) (R (.q 94) []) (some (St.mk [(3,.map 0),(33,.view 2 n (wen nm vl)),(34,.q (n:Int)),(35,.q 0)] [(0,.amap (List.map (λ(p:AV×AV)=>(AV.rn (ren 0 [(65,0)]) p.1,AV.rn (ren 0 [(65,0)]) p.2)) []))] 1 [])=some (St.mk [(3,.map 0),(33,.view 2 n (wen nm vl)),(34,.q (n:Int)),(35,.q (↑0:Int))] [(0,.amap (wbh nm 0))] 1 [])/\n<=12/\(∀(i:Nat),i<n->(nm i).length<4294967281/\(vl i).length<4294967281)/\wab (wdm nm vl n) (R (.q 0) []) (R (.q 94) []))))))):=by kernel_rfl
theorem wxw(n:Nat)(nm vl:Nat->List UInt8)(k:Nat)(P:Nat->Prop)(R:eR7):wav ⟨te,[(154,.det wgp)],[],0,59,0⟩ (wax Tryz.f137 13) [3,33,34,35] [] [2] (S_vw n nm vl) P R (S_vw n nm vl k)=(letI z3:=(k:Int).toNat;letI z2:=TI.desc (TI.mk TypeDesc.string 1 16 (Value.string (ByteArray.mk #[])) false);letI z1:=R .ret (St.mk [(2,.q 94)] [] 0 []);letI z0:=(mget (wbh nm k) (.str (nm z3)));letI z4:=wcn (Option.getD z0 (zvA (.bool false)));wab (decide ((k:Int)<(n:Int))) (((0:Int)<=(k:Int)/\(k:Int)<(n:Int)/\2=2)/\True/\wab (!wa9 (nm z3)) z1 (True/\wab (!wa9 (vl z3)) z1 ((wid z2 (wbh nm k)/\.bool z4=Option.getD z0 (zvA (.bool false)))/\wab z4 z1 (wid z2 (wbh nm k)/\inR .i64 ((k:Int)+1)/\∃(i':Nat),some (St.mk [(3,.map 0),(33,.view 2 n (wen nm vl)),(34,.q (n:Int)),(35,.q ((k:Int)+1))] [(0,.amap (List.map (λ(p:AV×AV)=>(AV.rn (ren 0 [(0,0)]) p.1,AV.rn (ren 0 [(0,0)]) p.2)) (mset (wbh nm k) (.str (nm z3)) (.bool true))))] 1 [])=some (St.mk [(3,.map 0),(33,.view 2 n (wen nm vl)),(34,.q (n:Int)),(35,.q (i':Int))] [(0,.amap (wbh nm i'))] 1 [])/\P i')))) (R (.exit 1) (St.mk [] [] 0 []))):=by kernel_rfl
theorem wvx(hP:C.P=Tryz.prog)(n:Nat)(nm vl:Nat->List UInt8):wai C 0 59 (wak Tryz.f137 13) (L_vw n nm vl):=by
 rintro st Q ⟨h0,hn,hs,hQ⟩;have hR:=wb0 hQ;refine wai.mk (prg hP) [(154,.det wgp)] 0 (.cons (wsj hP) .nil) [3,33,34,35] [] [2] (S_vw n nm vl) (λk=>k<=n/\wdm nm vl k=true) (λk=>n - k) 0 ⟨by omega,rfl⟩ h0 (λk hk=>?_);obtain⟨hkn,hok⟩:=hk;rw[wxw];have hbad:∀m,k<=m->k<m->atOK nm vl k=false->wdm nm vl m=false:=by
  intro m
  induction m with
  |zero=>intro _ h;omega
  |succ m ih=>
   intro _ h2 h3;rw[wdm]
   by_cases hkm:k=m
   ·subst hkm;rw[h3,Bool.and_false]
   ·rw[ih (by omega) (by omega) h3,Bool.false_and]
 rw[tN7];refine waj (λh1=>?_) (λh1=>?_)
 ·have hlt:k<n:=by omega
  have hfail:atOK nm vl k=false->Q .ret (St.mk [(2,.q 94)] [] 0 []):=λh=>hR.2 (hbad n hkn hlt h);have hk:=wrd nm vl k hok;rw[wsn];refine⟨⟨by omega,by omega,rfl⟩,trivial,wct (λh2=>hfail (by unfold atOK;rw[h2];rfl)) (λh2=>⟨trivial,wct (λh3=>hfail (by unfold atOK;rw[h3,Bool.and_false];rfl)) (λh3=>⟨⟨hk,?_⟩,?_⟩)⟩)⟩
  ·cases (List.range k).any (λi=>decide (nm i=nm k))<;>rfl
  ·cases ha:(List.range k).any (λi=>decide (nm i=nm k)) with
   |true=>exact hfail (by unfold atOK;rw[wj2,ha];simp)
   |false=>
    have hat:atOK nm vl k=true:=by unfold atOK;rw[h2,h3,wj2,ha];rfl
    refine⟨hk,by simp only[inR];omega,k+1,?_,⟨by omega,by rw[wdm,hok,hat];rfl⟩,by omega⟩;rw[w0l nm _ _ k ha,show wbh nm k++[(.str (nm k),AV.bool true)]=wbh nm (k+1) from rfl,wrc];rfl
 ·have:k=n:=by omega
  subst this;exact hR.1 hok
theorem valV_ok(hP:C.P=Tryz.prog)(hL:∀w,C.laid w->LaidW w):wae C 137 S_valV:=by
 rintro args objs U Os vc h hvc;unfold S_valV at h;split at h<;>cases h;rename_i id code brand d c a n f;obtain⟨hn,h1,h2,hs,hf⟩:=hvc;rw[hf];rw[← hf];generalize nmOf f=nm at *;generalize vlOf f=vl at *;rw[hf];unfold valF;refine wae.wpL (prg hP) [(139,.det weo),(153,.det wlw),(154,.det wgp),(155,.det wlj)] [(13,L_vw n nm vl)] 2 (.cons (wn3 hP (wil hP)) (.cons (w06 hP hL) (.cons (wsj hP) (.cons (qty_ok hP) .nil)))) (hP ▸ Tryz.func137) rfl rfl rfl [(wak Tryz.f137 13,L_vw n nm vl)] (by kernel_rfl) ⟨wvx hP n nm vl,trivial⟩ ?_;rw[nf_valw,w07];refine⟨trivial,wct (λq1=>?_) (λq1=>⟨h1,wct (λq2=>?_) (λq2=>⟨trivial,wct (λq3=>?_) (λq3=>⟨trivial,wa7 (λq4=>?_) (λq4=>waj (λq5=>?_) (λq5=>⟨rfl,by omega,hs,war (λq6=>?_) (λq6=>?_)⟩))⟩)⟩)⟩)⟩
 ·rw[q1];exact⟨rfl,rfl⟩
 ·rw[q1,q2];exact⟨rfl,rfl⟩
 ·rw[q1,q2,q3];exact⟨rfl,rfl⟩
 ·rw[q1,q2,q3,decide_eq_false q4];exact⟨rfl,rfl⟩
 ·rw[q1,q2,q3,decide_eq_true q4,decide_eq_true (show 12<n by omega)];exact⟨rfl,rfl⟩
 ·rw[q1,q2,q3,decide_eq_true q4,decide_eq_false (show ¬ 12<n by omega),q6];exact⟨rfl,rfl⟩
 ·rw[q1,q2,q3,decide_eq_true q4,decide_eq_false (show ¬ 12<n by omega),q6];exact⟨rfl,rfl⟩
theorem wzw(s:List UInt8)(R:oR7):wpFn te [(137,.det wk3)] [] 0 Tryz.f117 [.str s] [] R=((2<4294967281/\s.length<9223372036854775808)/\R (.bool (decide ((valF [(48:UInt8),48,48,48,48,48,48,48] [(48:UInt8),49] s (4:Int) (1:Int) (1:Int) 0 (λ(_x:Nat)=>[]) λ(_x:Nat)=>[])=0))) []):=by kernel_rfl
theorem nf_cnum(n:Int)(R:oR7):wpFn te [] [] 0 Tryz.f118 [.q n] [] R=(wab (decide ((1:Int)<=n)) (R (.bool (decide (n<=1048576))) []) (R (.bool false) [])):=by kernel_rfl
theorem nf_calv(n:Int)(R:oR7):wpFn te [] [] 0 Tryz.f156 [.q n] [] R=(wab (decide ((0:Int)<=n)) (R (.bool (decide (n<=182620))) []) (R (.bool false) [])):=by kernel_rfl
theorem wxv(n:Int)(R:oR7):wpFn te [(156,.det wmo)] [] 0 Tryz.f138 [.q n] [] R=(True/\wab (!(decide ((0:Int)<=n) && decide (n<=182620))) (R (.q (-1:Int)) []) ((7:Int)≠(0:Int)/\R (.q (Int.tmod n (7:Int))) [])):=by kernel_rfl
theorem nf_slot(o p:List UInt8)(per:Int)(R:oR7):wpFn te [(117,.det wgw),(139,.det weo)] [] 0 Tryz.f120 [.str o,.str p,.q per] [] R=(o.length<9223372036854775808/\wab (wa9 o) (True/\wab (wbj p) (wab (decide ((0:Int)<=per)) (R (.bool (decide (per<=5999))) []) (R (.bool false) [])) (R (.bool false) [])) (R (.bool false) [])):=by kernel_rfl
theorem wxy(o p:List UInt8)(per day st pr:Int)(rep:List UInt8)(R:oR7):wpFn te [(120,.det wgg),(139,.det weo),(138,.det wky)] [] 0 Tryz.f119 [.agg [.str o,.str p,.q per,.q day,.q st,.q pr,.str rep]] [] R=(letI z3:=R (.bool false) [];letI z0:=(wab (decide (st=5)) (True/\wab (wbj rep) (R (.bool !decide (rep=p)) []) z3) (R (.bool (decide (rep=[]))) []));letI z2:=(wab (decide (pr<1)) z3 (wab (decide ((1099511627776:Int)<pr)) z3 z0));letI z1:=(wab (decide (st=3)) (wab (decide (st=3)) (wab (!decide (pr=0)) z3 z0) z3) (wab (decide (st=4)) (wab (!decide (pr=0)) z3 z0) z3));o.length<9223372036854775808/\wab (!wc2 o p per) z3 (True/\wab (decide ((bif decide ((0:Int)<=day) && decide (day<=182620) then day % (7:Int) else (-1:Int))<0)) z3 (wab (decide (st=1)) (wab (decide (st=1)) z2 z1) (wab (decide (st=2)) (wab (decide (st=2)) z2 z1) (wab (decide (st=5)) z2 z1))))):=by kernel_rfl
theorem nf_msg(m:MG)(R:oR7):wpFn te [(117,.det wgw),(120,.det wgg),(119,.det wk0),(118,.det wlo)] [] 0 Tryz.f96 [.agg [.str m.dev,.q m.seq,.q m.kind,.str m.v.o,.str m.v.p,.q m.v.per,.q m.v.day,.q m.v.st,.q m.v.pr,.str m.v.rep,.str m.d.o,.str m.d.p,.q m.d.per,.str m.d.dev,.q m.d.num]] [] R=(letI z6:=(m.kind=1);letI z5:=(m.kind=2);letI z4:=R (.q 114) [];letI z2:=(wab (decide z5) (m.d.o.length<9223372036854775808/\wab (wc2 m.d.o m.d.p m.d.per) (m.d.dev.length<9223372036854775808/\wab (wa9 m.d.dev) (True/\wab (!numF m.d.num) z4 (R (.q 0) [])) z4) z4) (R (.q 0) []));letI z0:=(wab (decide z6) (wab (!(decide (m.d.o=[]) && (decide (m.d.p=[]) && (decide (m.d.per=0) && (decide (m.d.dev=[]) && decide (m.d.num=0)))))) z4 z2) z2);letI z1:=(wab (decide z5) (wab (!(decide (m.v.o=[]) && (decide (m.v.p=[]) && (decide (m.v.per=0) && (decide (m.v.day=0) && (decide (m.v.st=0) && (decide (m.v.pr=0) && decide (m.v.rep=[])))))))) (R (.q 113) []) z0) z0);letI z3:=(wab (decide z6) (m.v.o.length<9223372036854775808/\wab (!visF (VT.mk m.v.o m.v.p m.v.per m.v.day m.v.st m.v.pr m.v.rep)) (R (.q 113) []) z1) z1);m.dev.length<9223372036854775808/\wab (!wa9 m.dev) (R (.q 110) []) (True/\wab (!numF m.seq) (R (.q 111) []) (wab (!decide z6) (wab (!decide z5) (R (.q 112) []) z3) z3))):=by kernel_rfl
theorem val0_ok(hP:C.P=Tryz.prog)(hL:∀w,C.laid w->LaidW w):wae C 137 wk3:=by
 rintro args objs U Os vc h hvc;unfold wk3 at h;split at h<;>cases h;rename_i id code brand d c a;exact wat.nilArg 2 (wen (λ_=>[]) (λ_=>[])) (valV_ok hP hL _ _ _ _ _ rfl ⟨zL7 _,hvc.1,hvc.2,λi hi=>absurd hi (nZ7 i),rfl⟩)
theorem w20(s:List UInt8):decide (valF [48,48,48,48,48,48,48,48] [48,49] s 4 1 1 0 (λ_=>[]) (λ_=>[])=0)=wa9 s:=by
 unfold valF;rw[show wbj [48,48,48,48,48,48,48,48]=true by decide+kernel,show wc6 [48,49]=true by decide+kernel,show qtyF 4 1 1=0 by rfl]
 cases wa9 s<;>rfl
theorem wus(hP:C.P=Tryz.prog)(hL:∀w,C.laid w->LaidW w):wae C 117 wgw:=by
 rintro args objs U Os vc h hvc;unfold wgw at h;split at h<;>cases h;rename_i s;refine wae.wp0 (prg hP) [(137,.det wk3)] 0 (.cons (val0_ok hP hL) .nil) (hP ▸ Tryz.func117) rfl rfl rfl ?_;rw[wzw,w20];exact⟨⟨by omega,hvc⟩,rfl,rfl⟩
theorem cnum_ok(hP:C.P=Tryz.prog):wae C 118 wlo:=by
 have _:C.Loose:=inferInstance;rintro args objs U Os vc h hvc;unfold wlo at h;split at h<;>cases h;rename_i n;refine wae.wp0 (prg hP) [] 0 .nil (hP ▸ Tryz.func118) rfl rfl rfl ?_;rw[nf_cnum];unfold numF;exact war (λh=>by rw[h];exact⟨rfl,rfl⟩) (λh=>by rw[h];exact⟨rfl,rfl⟩)
theorem calv_ok(hP:C.P=Tryz.prog):wae C 156 wmo:=by
 have _:C.Loose:=inferInstance;rintro args objs U Os vc h hvc;unfold wmo at h;split at h<;>cases h;rename_i n;refine wae.wp0 (prg hP) [] 0 .nil (hP ▸ Tryz.func156) rfl rfl rfl ?_;rw[nf_calv];exact war (λh=>by rw[h];exact⟨rfl,rfl⟩) (λh=>by rw[h];exact⟨rfl,rfl⟩)
theorem wvp(hP:C.P=Tryz.prog):wae C 138 wky:=by
 rintro args objs U Os vc h hvc;unfold wky at h;split at h<;>cases h;rename_i n;refine wae.wp0 (prg hP) [(156,.det wmo)] 0 (.cons (calv_ok hP) .nil) (hP ▸ Tryz.func138) rfl rfl rfl ?_;rw[wxv];refine⟨trivial,wct (λh=>by rw[h];exact⟨rfl,rfl⟩) (λh=>⟨by decide,?_⟩)⟩;rw[h];have h0:0<=n:=of_decide_eq_true (Bool.and_eq_true_iff.1 h).1;exact⟨by rw[Int.tmod_eq_emod_of_nonneg h0];rfl,rfl⟩
theorem wq8(hP:C.P=Tryz.prog)(hL:∀w,C.laid w->LaidW w):wae C 120 wgg:=by
 rintro args objs U Os vc h hvc;unfold wgg at h;split at h<;>cases h;rename_i o p per;refine wae.wp0 (prg hP) [(117,.det wgw),(139,.det weo)] 0 (.cons (wus hP hL) (.cons (wn3 hP (wil hP)) .nil)) (hP ▸ Tryz.func120) rfl rfl rfl ?_;rw[nf_slot];unfold wc2;exact⟨hvc,war (λh1=>⟨trivial,war (λh2=>war (λh3=>by rw[h1,h2,h3];exact⟨rfl,rfl⟩) (λh3=>by rw[h1,h2,h3];exact⟨rfl,rfl⟩)) (λh2=>by rw[h1,h2];exact⟨rfl,rfl⟩)⟩) (λh1=>by rw[h1];exact⟨rfl,rfl⟩)⟩
theorem wk_neg(day:Int):decide ((bif decide (0<=day) && decide (day<=182620) then day % 7 else -1)<0)= !(decide (0<=day) && decide (day<=182620)):=by
 cases h:decide (0<=day) && decide (day<=182620) with
 |true=>
  show decide (day % 7<0)=false;rw[decide_eq_false];have:=Int.emod_nonneg day (show (7:Int)≠0 by decide);omega
 |false=>rfl
theorem wvr(hP:C.P=Tryz.prog)(hL:∀w,C.laid w->LaidW w):wae C 119 wk0:=by
 rintro args objs U Os vc h hvc;unfold wk0 at h;split at h<;>cases h;rename_i o p per day st pr rep;refine wae.wp0 (prg hP) [(120,.det wgg),(139,.det weo),(138,.det wky)] 0 (.cons (wq8 hP hL) (.cons (wn3 hP (wil hP)) (.cons (wvp hP) .nil))) (hP ▸ Tryz.func119) rfl rfl rfl ?_;rw[wxy,wk_neg];refine⟨hvc,wct (λh1=>?_) (λh1=>⟨trivial,wct (λh2=>?_) (λh2=>?_)⟩)⟩
 ·unfold visF;simp[h1]
 ·unfold visF;simp[h1,h2]
 have hv:visF ⟨o,p,per,day,st,pr,rep⟩=(bif decide (st=1) || decide (st=2) then decide (1<=pr) && decide (pr<=1099511627776) && decide (rep=[])
  else bif decide (st=3) || decide (st=4) then decide (pr=0) && decide (rep=[])
  else bif decide (st=5) then decide (1<=pr) && decide (pr<=1099511627776) && wbj rep && !decide (rep=p) else false):=by
  unfold visF;simp only[h1,Bool.true_and,h2]
 rw[hv];have e1:decide (1<=pr)= !decide (pr<1):=by by_cases h:pr<1<;>simp[h]<;>omega
 have e2:decide (pr<=1099511627776)= !decide (1099511627776<pr):=by by_cases h:1099511627776<pr<;>simp[h]<;>omega
 rw[e1,e2];clear hv h1 h2 e1 e2
 by_cases s1:st=1
 ·subst s1;generalize decide (pr<1)=b1,decide (1099511627776<pr)=b2,decide (pr=0)=b3,decide (rep=p)=b4,decide (rep=[])=b5,wbj rep=b6
  cases b1<;>cases b2<;>exact⟨rfl,rfl⟩
 by_cases s2:st=2
 ·subst s2;generalize decide (pr<1)=b1,decide (1099511627776<pr)=b2,decide (pr=0)=b3,decide (rep=p)=b4,decide (rep=[])=b5,wbj rep=b6
  cases b1<;>cases b2<;>exact⟨rfl,rfl⟩
 by_cases s3:st=3
 ·subst s3;generalize decide (pr<1)=b1,decide (1099511627776<pr)=b2,decide (pr=0)=b3,decide (rep=p)=b4,decide (rep=[])=b5,wbj rep=b6
  cases b3<;>exact⟨rfl,rfl⟩
 by_cases s4:st=4
 ·subst s4;generalize decide (pr<1)=b1,decide (1099511627776<pr)=b2,decide (pr=0)=b3,decide (rep=p)=b4,decide (rep=[])=b5,wbj rep=b6
  cases b3<;>exact⟨rfl,rfl⟩
 by_cases s5:st=5
 ·subst s5;generalize decide (pr<1)=b1,decide (1099511627776<pr)=b2,decide (pr=0)=b3,decide (rep=p)=b4,decide (rep=[])=b5,wbj rep=b6
  cases b1<;>cases b2<;>cases b6<;>first | exact⟨rfl,rfl⟩ | exact⟨trivial,rfl,rfl⟩
 rw[decide_eq_false s1,decide_eq_false s2,decide_eq_false s3,decide_eq_false s4,decide_eq_false s5];exact⟨rfl,rfl⟩
theorem msg_ok(hP:C.P=Tryz.prog)(hL:∀w,C.laid w->LaidW w):wae C 96 wgq:=by
 rintro args objs U Os vc h hvc;unfold wgq at h;split at h<;>cases h;rename_i dev seq kind o p per day st pr rep o2 p2 per2 dev2 num;refine wae.wp0 (prg hP) [(117,.det wgw),(120,.det wgg),(119,.det wk0),(118,.det wlo)] 0 (.cons (wus hP hL) (.cons (wq8 hP hL) (.cons (wvr hP hL) (.cons (cnum_ok hP) .nil)))) (hP ▸ Tryz.func96) rfl rfl rfl ?_;have nf:=λR=>nf_msg ⟨dev,seq,kind,⟨o,p,per,day,st,pr,rep⟩,⟨o2,p2,per2,dev2,num⟩⟩ R;refine(nf _).mpr ?_;clear nf;obtain⟨l1,l2,l3,l4⟩:=hvc;unfold msgF VT.nil DT.nil;dsimp only
 generalize (decide (o=[]) && (decide (p=[]) && (decide (per=0) && (decide (day=0) && (decide (st=0) && (decide (pr=0) && decide (rep=[])))))))=vn;generalize (decide (o2=[]) && (decide (p2=[]) && (decide (per2=0) && (decide (dev2=[]) && decide (num=0)))))=dn;generalize wa9 dev=b1,numF seq=b2,visF ⟨o,p,per,day,st,pr,rep⟩=b3,wc2 o2 p2 per2=b4,wa9 dev2=b5,numF num=b6;refine⟨l1,?_⟩
 cases b1
 ·exact⟨rfl,rfl⟩
 refine⟨trivial,?_⟩
 cases b2
 ·exact⟨rfl,rfl⟩
 by_cases k1:kind=1
 ·subst k1;refine⟨l2,?_⟩
  cases b3<;>cases dn<;>exact⟨rfl,rfl⟩
 by_cases k2:kind=2
 ·subst k2
  cases vn
  ·exact⟨rfl,rfl⟩
  refine⟨l3,?_⟩
  cases b4
  ·exact⟨rfl,rfl⟩
  refine⟨l4,?_⟩
  cases b5
  ·exact⟨rfl,rfl⟩
  refine⟨trivial,?_⟩
  cases b6<;>exact⟨rfl,rfl⟩
 rw[decide_eq_false k1,decide_eq_false k2];exact⟨rfl,rfl⟩
end Go.Eng
