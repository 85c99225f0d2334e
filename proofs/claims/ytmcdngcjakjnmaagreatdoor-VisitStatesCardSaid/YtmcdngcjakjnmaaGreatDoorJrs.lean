/- Messages: what Validate answers. -/
import Derived.Test.YtmcdngcjakjnmaaGreatDoorJrr
namespace Go.Eng
open Go.Proofs Go.RowKit
set_option maxRecDepth 20000
theorem wyq(s:List UInt8)(R:oR7):wpFn te [(169,.det wk1),(171,.det wmb)] [(3,wm9 s)] 0 Tryz.f163 [.str s] [] R=(letI z2:=(∀(i:Nat),i<(words s).length->true=true:Prop);letI z1:=(vInt λ(i:Nat)=>[.q (wby s i)]);letI z0:=(words s).length;(s.length<4294967281/\[(46:UInt8)]=[(46:UInt8)])/\(TEq [(0,.str s),(4,.own 0 0),(12,.view 1 z0 λ(i:Nat)=>[.str (List.getD (words s) i [])]),(13,.q (z0:Int)),(14,.q 0)] [(0,.str s),(4,.own 0 0),(12,.view 1 z0 λ(i:Nat)=>[.str (List.getD (words s) i [])]),(13,.q (z0:Int)),(14,.q (↑0:Int))]/\wad [(0,.row 3 1 0 (λ(_x:Nat)=>[]) false)] [(0,.row 3 1 0 (λ(i:Nat)=>[.q (wby s i)]) false)])/\s.length<4294967281/\z2/\(3=3/\false=false/\(words s).length=(words s).length/\(words s).length<=4611686018427387904/\(λ(i:Nat)=>[.q (wby s i)])=waf z1)/\z2/\wab (!decide ((bif wbc z0 z1 then (0:Int) else (64:Int))=0)) (R (.tuple [.nil,.q 60]) []) (wab (!decide ((bif wbc z0 z1 then fmtZ z0 z1 else [])=s)) (R (.tuple [.nil,.q 60]) []) (z2/\∃(O':oL7),wad [(0,.row 3 1 z0 (λ(i:Nat)=>[.q (wby s i)]) false)] O'/\R (.tuple [.own 0 z0,.q 0]) O'))):=by kernel_rfl
theorem wyp(s:List UInt8)(k:Nat)(P:Nat->Prop)(R:eR7):wav ⟨te,[(170,.det wmq)],[],0,41,0⟩ (wax Tryz.f163 3) [0,4,12,13,14] [0,4] [] (wlf s) P R (wlf s k)=(letI z1:=(List.getD (words s) (k:Int).toNat []);letI z0:=(words s).length;wab (decide ((k:Int)<(z0:Int))) (((0:Int)<=(k:Int)/\(k:Int)<(z0:Int)/\1=1)/\z1.length<=281474976710656/\(1<=16777216/\1=1/\1<=9223372036854775807)/\((1<=1/\1=1)/\k<=k/\1=1/\3=3/\1=1/\k+1<=9223372036854775807/\(k+1) * 8<=140737488355328)/\inR .i64 ((k:Int)+1)/\∃(i':Nat),(TEq [(0,.str s),(4,.own 0 (k+1)),(12,.view 1 z0 λ(i:Nat)=>[.str (List.getD (words s) i [])]),(13,.q (z0:Int)),(14,.q ((k:Int)+1))] [(0,.str s),(4,.own 0 i'),(12,.view 1 z0 λ(i:Nat)=>[.str (List.getD (words s) i [])]),(13,.q (z0:Int)),(14,.q (i':Int))]/\wad [(0,.row 3 1 (k+1) (apF k (λ(i:Nat)=>[.q (wby s i)]) (waw 1 (.q (wh3 z1)::List.append [] (List.flatten (List.replicate (nat_lit 0) [.q 0]))))) false)] [(0,.row 3 1 i' (λ(i:Nat)=>[.q (wby s i)]) false)])/\P i') ((∀(i:Nat),i<k->true=true)/\∃(O':oL7),wad [(0,.row 3 1 k (λ(i:Nat)=>[.q (wby s i)]) false)] O'/\R (.exit 0) (St.mk [(0,.str s),(4,.own 0 k)] O' 1 []))):=by kernel_rfl
variable {C:Ctx} [C.Loose]
theorem wwd(hP:C.P=Tryz.prog)(hL:∀w,C.laid w->LaidW w):wac C 169 wk1:=by
 rintro args objs U Os vc h hvc;unfold wk1 at h;split at h<;>cases h;rename_i s sep;obtain⟨hs,rfl⟩:=hvc;refine war.below ⟨Tryz.f169,hP ▸ Tryz.func169,rfl,by decide⟩ λw M cargs hlaid _ hM hl hv=>?_;obtain⟨m,hm⟩:=(hL w hlaid).maxLen;obtain⟨a,b,rfl⟩:=mem2 hl;have e1:=(hv 0 _ _ rfl rfl).str_iff;have e2:=(hv 1 _ _ rfl rfl).str_iff;subst e1;subst e2;rw[hP];refine(Tryz.strings_Split ⟨s.toArray⟩ ⟨#[46]⟩ m w (by simpa[ByteArray.size] using hs) hm (by decide)).mono ?_;rintro e w' ⟨rfl,rfl⟩;have hd:=Lib.splitB_data ⟨#[46]⟩ 0 (Lib.countB ⟨s.toArray⟩ ⟨#[46]⟩) ⟨s.toArray⟩;have hw:(Lib.splitB ⟨#[46]⟩ 0 (Lib.countB ⟨s.toArray⟩ ⟨#[46]⟩) ⟨s.toArray⟩).map (·.data.toList)=words s:=by
  rw[hd];simp[words,Lib.split]
 have hlen:(Lib.splitB ⟨#[46]⟩ 0 (Lib.countB ⟨s.toArray⟩ ⟨#[46]⟩) ⟨s.toArray⟩).length=(words s).length:=by rw[← hw];simp
 have hcnt:Lib.countB ⟨s.toArray⟩ ⟨#[46]⟩+1=(words s).length:=by
  rw[wgz]
 refine⟨_,rfl,(Below.refl _ _).alloc (lR7 _) _,?_⟩;rw[hcnt];have hle:=Lib.count_le s [46];refine V.newview hM (by simp[hlen]) (by rw[wgz];unfold maxLen;omega) (λi v hv=>?_) (λi v hv=>?_)
 ·rw[List.getElem?_toArray,List.getElem?_map] at hv;obtain⟨x,_,rfl⟩:=Option.map_eq_some_iff.1 hv;exact rfl
 ·simp at hv;obtain⟨x,hx,rfl⟩:=hv;refine⟨_,rfl,.str ?_⟩;have:(words s)[i]?=some x.data.toList:=by rw[← hw];simp[hx]
  simp[List.getD,this]
theorem atoi_ok(hP:C.P=Tryz.prog)(hL:∀w,C.laid w->LaidW w):wac C 170 wmq:=by
 rintro args objs U Os vc h hvc;unfold wmq at h;split at h<;>cases h;rename_i s;refine war.below ⟨Tryz.f170,hP ▸ Tryz.func170,rfl,by decide⟩ λw M cargs hlaid _ hM hl hv=>?_;obtain⟨a,rfl⟩:=mem1 hl;have e1:=(hv 0 _ _ rfl rfl).str_iff;subst e1;rw[hP];have hsz:(⟨s.toArray⟩:ByteArray).size=s.length:=by simp[ByteArray.size]
 have hdt:(⟨s.toArray⟩:ByteArray).data.toList=s:=by simp
 have tup:∀(w':World) (n:Int) (e:Value),V w' M nob (.tuple #[.int .i64 n,e]) (.tuple [.int .i64 n,.any]):=λw' n e=>.tuple rfl λj v u hv hu=>by
  match j with
  |0=>simp at hv hu;subst hv;subst hu;exact .int
  |1=>simp at hv hu;subst hv;subst hu;exact .any
  |j+2=>simp at hv
 unfold wh3
 cases hh:Lib.atoiAll s with
 |ok v=>
  refine(Tryz.strconv_Atoi_ok ⟨s.toArray⟩ (by omega) v (by rw[hdt];exact hh) w).mono ?_;rintro e w' ⟨rfl,hw⟩;refine⟨_,rfl,?_,tup _ _ _⟩
  rcases hw with rfl | ⟨t,rfl⟩
  ·exact Below.refl _ _
  ·exact Lib.bytesWorld_below _ _ _
 |range=>
  obtain⟨t,p,he⟩:=(hL w hlaid).errR;refine(Any.strconv_Atoi_range Tryz.laysC172 ⟨s.toArray⟩ (by omega) (by rw[hdt];exact hh) _ w he (.inr ⟨t,p,rfl⟩)).mono ?_;rintro e w' ⟨N,rfl,_,_,hb⟩;rw[hdt];exact⟨_,rfl,hb,tup _ _ _⟩
 |_=>
  obtain⟨t,p,he⟩:=(hL w hlaid).errS;refine(Any.strconv_Atoi_syntax Tryz.laysC172 ⟨s.toArray⟩ (by omega) (by rw[hdt];exact hh) _ w he (.inr ⟨t,p,rfl⟩)).mono ?_;rintro e w' ⟨N,rfl,_,_,hb⟩;exact⟨_,rfl,hb,tup _ _ _⟩
theorem wxo(hP:C.P=Tryz.prog)(hL:∀w,C.laid w->LaidW w)(s:List UInt8):wah C 0 41 (waj Tryz.f163 3) (wm9 s):=by
 rintro st Q ⟨h0,hs,hQ⟩;refine AWP.ownNil 4 3 1 ?_;have hwl:(words s).length<=s.length+2:=by
  have:=Lib.count_le s [46];rw[wgz];omega
 refine wah.mk (prg hP) [(170,.det wmq)] 0 (.cons (atoi_ok hP hL) .nil) [0,4,12,13,14] [0,4] [] (wlf s) (λk=>k<=(words s).length) (λk=>(words s).length - k) 0 (zL7 _) h0 (λk hk=>?_) (λi=>⟨λ_ _=>rfl,trivial⟩);rw[wyp];refine wag (λh=>?_) (λh=>⟨λ_ _=>rfl,_,wbp,?_⟩)
 ·have hlt:k<(words s).length:=by omega
  have hlw:((words s).getD k []).length<=s.length:=by
   have:=wvm s ((words s).getD k []) (by simp[List.getD,hlt]);exact this
  have hrow:∀i,i<k+1->apF k (λi=>[AV.q (wby s i)]) (waw 1 [.q (wh3 ((words s).getD k []))]) i=[.q (wby s i)]:=by
   intro i hi;unfold apF;split
   ·rfl
   ·have:i=k:=by omega
    subst this;rw[Nat.sub_self];rfl
  simp only[inR,tN7]
  and_intros
  any_goals omega
  any_goals (simp;done)
  exact⟨k+1,⟨rfl,⟨rfl,rfl,rfl,rfl,rfl,hrow⟩,trivial⟩,by omega,by omega⟩
 ·have:k=(words s).length:=by omega
  rw[this] at *;exact hQ
theorem wxn(hP:C.P=Tryz.prog)(hL:∀w,C.laid w->LaidW w):wbi C 163 wmw:=by
 rintro args objs R h;unfold wmw at h;split at h
 ·rename_i s;obtain⟨hs,hR⟩:=h;have hR:=wbt hR
  refine wbi.wpL (prg hP) [(169,.det wk1),(171,.det wmb)] [(3,wm9 s)] 0 (.cons (wwd hP hL) (.cons (w15 hP) .nil)) (hP ▸ Tryz.func163) rfl rfl rfl
   [(waj Tryz.f163 3,wm9 s)] (by kernel_rfl) ⟨wxo hP hL s,trivial⟩ ?_
  rw[wyq];have hvi:(vInt λi=>[AV.q (wby s i)])=wby s:=rfl;rw[hvi];have hwl:(words s).length<=s.length+2:=by
   have:=Lib.count_le s [46];rw[wgz];omega
  refine⟨⟨hs,rfl⟩,⟨rfl,⟨rfl,rfl,rfl,rfl,rfl,λi hi=>by omega⟩,trivial⟩,hs,λ_ _=>rfl,⟨rfl,rfl,rfl,by omega,rfl⟩,λ_ _=>rfl,?_⟩
  cases hok:wbc (words s).length (wby s) with
  |false=>exact hR.2 (by unfold wc1;rw[hok];rfl)
  |true=>
   have e0:(!decide ((bif true then (0:Int) else 64)=0))=false:=rfl
   rw[e0];show wab (!decide (fmtZ (words s).length (wby s)=s)) _ _;refine wbf (λh1=>hR.2 ?_) (λh1=>⟨λ_ _=>rfl,_,wbp,hR.1 ?_⟩)
   ·unfold wc1;rw[hok,decide_eq_false h1];rfl
   ·unfold wc1;rw[hok];exact decide_eq_true h1
 ·exact h.elim
end Go.Eng
namespace Go.Eng
open Go.Proofs Go.RowKit
variable {C:Ctx} [C.Loose]
set_option maxRecDepth 20000
theorem wy8(s:List UInt8)(R:oR7):wpFn te [(163,.rel wmw)] [] 0 Tryz.f153 [.str s] [] R=(s.length<4294967281/\wab (wc1 s) ((∀(i:Nat),i<(words s).length->true=true)/\R (.q (↑(words s).length:Int)) []) (wab (!decide (s=[])) (R (.q (-1:Int)) []) (R (.q 0) []))):=by kernel_rfl
theorem w00(hP:C.P=Tryz.prog)(hL:∀w,C.laid w->LaidW w):wac C 153 wls:=by
 rintro args objs U Os vc h hvc;unfold wls at h;split at h<;>cases h;rename_i s;refine wac.wp0 (prg hP) [(163,.rel wmw)] 0 (.cons (wxn hP hL) .nil) (hP ▸ Tryz.func153) rfl rfl rfl ?_;rw[wy8];refine⟨hvc,wam (λh=>⟨λ_ _=>rfl,?_,rfl⟩) (λh=>wbf (λh'=>⟨?_,rfl⟩) (λh'=>⟨?_,rfl⟩))⟩
 ·unfold we6;rw[h]
 ·unfold we6;rw[h,decide_eq_false h']
 ·unfold we6;rw[h,decide_eq_true h']
end Go.Eng
namespace Go.Eng
open Go.Proofs Go.RowKit
set_option maxRecDepth 20000
theorem nf_qty(d c a:Int)(R:oR7):wpFn te [] [] 0 Tryz.f155 [.agg [.q d,.q c,.q a]] [] R=(wab (decide (d<1)) (R (.q 80) []) (wab (decide ((4:Int)<d)) (R (.q 80) []) (wab (decide (c<1)) (R (.q 81) []) (wab (decide ((100:Int)<c)) (R (.q 81) []) (wab (decide (a<1)) (R (.q 82) []) ((c≠(0:Int)/\inR .i64 (Int.tdiv (1099511627776:Int) c))/\wab (decide (Int.tdiv (1099511627776:Int) c<a)) (R (.q 82) []) (R (.q 0) []))))))):=by kernel_rfl
variable {C:Ctx} [C.Loose]
theorem qty_ok(hP:C.P=Tryz.prog):wac C 155 wld:=by
 have _:C.Loose:=inferInstance;rintro args objs U Os vc h hvc;unfold wld at h;split at h<;>cases h;rename_i d c a;refine wac.wp0 (prg hP) [] 0 .nil (hP ▸ Tryz.func155) rfl rfl rfl ?_;rw[nf_qty];refine wam (λh1=>?_) (λh1=>wam (λh2=>?_) (λh2=>wam (λh3=>?_) (λh3=>wam (λh4=>?_) (λh4=>wam (λh5=>?_) (λh5=>⟨wxg (of_decide_eq_false h3) (of_decide_eq_false h4),wam (λh6=>?_) (λh6=>?_)⟩)))))
 all_goals simp only[qtyF, *,cond_true,cond_false,and_self]
theorem wzg(s:List UInt8)(r:Int)(R:oR7):wpFn te [(191,.det wgq),(192,.det wkv)] [(38,wnj s),(5,wni s (Utf8.encode r).data.toList),(25,λ_ _=>False)] 0 Tryz.f180 [.str s,.int .i32 r] [] R=(letI z3:=St.mk [(0,.str s),(175,.ptr 0 0)] [(0,.siter s 0)] 1 [];letI z1:=Array.toList (ByteArray.data (Utf8.encode r));letI z4:=(z1.length:Int);letI z2:=(St.mk [(0,.str s),(7,.str z1),(8,.q (z4 - (1:Int))),(9,.q (z4 - (1:Int)))] [] 0 []);letI z0:=(wab (decide (r=65533)) (some z3=some z3/\ascii s=true/\R (.q (-1:Int)) []) (True/\wab (!Lib.validRune r) (R (.q (-1:Int)) []) (True/\inR .i64 (z4 - (1:Int))/\some z2=some z2/\ascii s=true/\s.length<=1000000/\2<=z1.length/\z1.length<=4/\128<=UInt8.toNat (List.getD z1 (z1.length - 1) (0:UInt8))/\R (.q (-1:Int)) []/\R (.q (-1:Int)) [])));wab (decide ((0:Int)<=r)) (wab (decide (r<128)) (inR .u8 r/\True/\R (.q (Lib.indexByte s (Nat.toUInt8 r.toNat))) []) z0) z0):=by kernel_rfl
theorem wzf(s:List UInt8)(k:Nat)(P:Nat->Prop)(R:eR7):wav ⟨te,[],[],0,187,0⟩ (wax Tryz.f180 38) [0,175] [] [4] (wl4 s) P R (wl4 s k)=(wab (decide (k<s.length)) (True/\wab (decide ((↑(wbh s k).1:Int)=65533)) (R .ret (St.mk [(4,.q (k:Int))] [] 0 [])) (∃(i':Nat),some (St.mk [(0,.str s),(175,.ptr 0 0)] [(0,.siter s (k+(wbh s k).2))] 1 [])=some (St.mk [(0,.str s),(175,.ptr 0 0)] [(0,.siter s i')] 1 [])/\P i')) (True/\R (.exit 9) (St.mk [] [] 0 []))):=by kernel_rfl
theorem wze(s e:List UInt8)(P:Unit->Prop)(R:eR7):wav ⟨te,[(191,.det wgq)],[(12,λ_ _=>False),(1015,λ_ _=>False),(1016,λ_ _=>False)],0,187,0⟩ (wax Tryz.f180 5) [0,7,8,9] [] [4] (λ_=>wl3 s e) P R (wl3 s e)=(letI z5:=(s.length:Int);letI z0:=(e.length:Int);letI z4:=((0:Int)<=z0 - (1:Int)/\z0 - (1:Int)<z0:Prop);letI z3:=(List.drop (z0 - (1:Int)+1).toNat s);letI z1:=(↑(UInt8.toNat (List.getD e (z0 - (1:Int)).toNat (0:UInt8))):Int);letI z2:=(Lib.indexByte z3 (Nat.toUInt8 z1.toNat)+1);wab (decide (z0 - (1:Int)<z5)) (((0:Int)<=z0 - (1:Int)/\z0 - (1:Int)<z5)/\z4/\wab (!decide ((↑(UInt8.toNat (List.getD s (z0 - (1:Int)).toNat (0:UInt8))):Int)=z1)) (inR .i64 (z0 - (1:Int)+1)/\((0:Int)<=z0 - (1:Int)+1/\z0 - (1:Int)+1<=z5)/\z4/\True/\wab (decide (Lib.indexByte z3 (Nat.toUInt8 z1.toNat)<0)) (R .ret (St.mk [(4,.q (-1:Int))] [] 0 [])) (inR .i64 z2/\inR .i64 (z0 - (1:Int)+z2)/\False)) False) (R (.exit 1) (St.mk [] [] 0 []))):=by kernel_rfl
theorem wzv(s:List UInt8)(r:Int)(R:oR7):wpFn te [(180,.det wl5)] [] 0 Tryz.f167 [.str s,.int .i32 r] [] R=((ascii s=true/\s.length<=1000000/\(0:Int)<=r/\r<=1114111)/\R (.bool (decide ((0:Int)<=wb4 s r))) []):=by kernel_rfl
variable {C:Ctx} [C.Loose]
theorem wtc(hP:C.P=Tryz.prog):wac C 191 wgq:=by
 rintro args objs U Os vc h hvc;unfold wgq at h;split at h<;>cases h;rename_i s c;refine war.below ⟨Tryz.f191,hP ▸ Tryz.func191,rfl,by decide⟩ λw M cargs _ _ hM hl hv=>?_;obtain⟨a,b,rfl⟩:=mem2 hl;have e1:=(hv 0 _ _ rfl rfl).str_iff;have e2:=(hv 1 _ _ rfl rfl).int_iff;subst e1;subst e2;rw[hP];refine(Tryz.strings_IndexByte ⟨s.toArray⟩ c w).mono ?_;rintro e w' ⟨rfl,rfl⟩;exact⟨_,rfl,Below.refl _ _,.int⟩
theorem wvu(hP:C.P=Tryz.prog):wac C 192 wkv:=by
 rintro args objs U Os vc h hvc;unfold wkv at h;split at h<;>cases h;rename_i r;refine war.below ⟨Tryz.f192,hP ▸ Tryz.func192,rfl,by decide⟩ λw M cargs _ _ hM hl hv=>?_;obtain⟨a,rfl⟩:=mem1 hl;have e1:=(hv 0 _ _ rfl rfl).int_iff;subst e1;rw[hP];refine(Tryz.utf8_ValidRune r w).mono ?_;rintro e w' ⟨rfl,rfl⟩;exact⟨_,rfl,Below.refl _ _,.bool⟩
theorem w1i(hP:C.P=Tryz.prog)(s:List UInt8):wah C 0 187 (waj Tryz.f180 38) (wnj s):=by
 have _:C.Loose:=inferInstance;rintro st Q ⟨h0,ha,hQ⟩;refine wah.mk (prg hP) [] 0 .nil [0,175] [] [4] (wl4 s) (λk=>k<=s.length) (λk=>s.length - k) 0 (zL7 _) h0 λk hk=>?_;rw[wzf];refine wam (λh=>?_) (λh=>⟨trivial,hQ⟩);have h:=of_decide_eq_true h;have hlt:=wu4 ha h;rw[wn8 h hlt];refine⟨trivial,wam (λh'=>?_) (λ_=>⟨k+1,rfl,by omega,by omega⟩)⟩;have h':=of_decide_eq_true h';simp only at h';omega
theorem w1h(hP:C.P=Tryz.prog)(s e:List UInt8):wah C 0 187 (waj Tryz.f180 5) (wni s e):=by
 rintro st Q ⟨h0,ha,hs,h2,h4,hl,hQ1,hQ2⟩
 refine wah.mkL (prg hP) [(191,.det wgq)] [(12,λ_ _=>False),(1015,λ_ _=>False),(1016,λ_ _=>False)] 0 (.cons (wtc hP) .nil)
  [(waj Tryz.f180 12,λ_ _=>False),(regC Tryz.f180 15,λ_ _=>False),(regC Tryz.f180 16,λ_ _=>False)] (by kernel_rfl)
  ⟨λ_ _ h=>h.elim,λ_ _ h=>h.elim,λ_ _ h=>h.elim,trivial⟩ [0,7,8,9] [] [4] (λ_:Unit=>wl3 s e) (λ_=>True) (λ_=>0) () trivial h0 λ_ _=>?_
 rw[wze];refine wam (λh=>?_) (λh=>hQ1);have h:=of_decide_eq_true h;have e1:((e.length:Int) - 1).toNat=e.length - 1:=by omega
 have e2:((e.length:Int) - 1+1).toNat=e.length:=by omega
 have hlo:=wu4 ha (k:=e.length - 1) (by omega);simp only[e1,e2,inR];have hne:decide (((s.getD (e.length - 1) 0).toNat:Int)=((e.getD (e.length - 1) 0).toNat:Int))=false:=decide_eq_false (by omega);rw[hne];have hb:(e.getD (e.length - 1) 0).toNat<256:=(e.getD (e.length - 1) 0).toNat_lt;have hneg:=w1o (w3p ha e.length) (c:=((e.getD (e.length - 1) 0).toNat:Int).toNat.toUInt8) (by rw[wqr];exact hl);refine⟨by omega,by omega,by omega,by omega,by omega,trivial,?_⟩;rw[hneg];exact hQ2
theorem w1l(hP:C.P=Tryz.prog):wac C 180 wl5:=by
 rintro args objs U Os vc h hvc;unfold wl5 at h;split at h<;>cases h;rename_i s r;obtain⟨ha,hs,h0,h1⟩:=hvc
 refine wac.wpL (prg hP) [(191,.det wgq),(192,.det wkv)] [(38,wnj s),(5,wni s (Utf8.encode r).data.toList),(25,λ_ _=>False)] 0
  (.cons (wtc hP) (.cons (wvu hP) .nil)) (hP ▸ Tryz.func180) rfl rfl rfl
  [(waj Tryz.f180 38,wnj s),(waj Tryz.f180 5,wni s (Utf8.encode r).data.toList),(waj Tryz.f180 25,λ_ _=>False)] (by kernel_rfl)
  ⟨w1i hP s,w1h hP s _,λ_ _ h=>h.elim,trivial⟩ ?_
 rw[wzg];refine wam (λ_=>wam (λh=>?_) (λh=>?_)) (λh=>absurd h0 (of_decide_eq_false h))
 ·have h':=of_decide_eq_true h;refine⟨by simp only[inR];omega,trivial,?_,rfl⟩;simp only[wb4,h]
 ·have h':=of_decide_eq_false h;refine wam (λ_=>⟨rfl,ha,?_,rfl⟩) (λ_=>⟨trivial,wam (λ_=>⟨?_,rfl⟩) (λhv=>?_)⟩)
  ·simp only[wb4,h]
  ·simp only[wb4,h]
  ·have hv:Lib.validRune r=true:=by simpa using hv
   obtain⟨l1,l2,l3⟩:=w2i (by omega) hv;refine⟨trivial,by simp only[inR];omega,rfl,ha,hs,l1,l2,l3,⟨?_,rfl⟩,⟨?_,rfl⟩⟩
   ·simp only[wb4,h]
   ·simp only[wb4,h]
theorem w2r(hP:C.P=Tryz.prog):wac C 167 wmg:=by
 rintro args objs U Os vc h hvc;unfold wmg at h;split at h<;>cases h;rename_i s r;refine wac.wp0 (prg hP) [(180,.det wl5)] 0 (.cons (w1l hP) .nil) (hP ▸ Tryz.func167) rfl rfl rfl ?_;rw[wzv];exact⟨hvc,rfl,rfl⟩
theorem wyz(r:Int)(R:oR7):wpFn te [(167,.det wmg)] [] 0 Tryz.f166 [.int .i32 r] [] R=((true=true/\38<=1000000/\(0:Int)<=r/\r<=1114111)/\R (.bool !decide ((0:Int)<=wb4 ([(97:UInt8),98,99,100,101,102,103,104,105,106,107,108,109,110,111,112,113,114,115,116,117,118,119,120,121,122,48,49,50,51,52,53,54,55,56,57,45,46]) r)) []):=by kernel_rfl
theorem wzi(s:List UInt8)(R:oR7):wpFn te [] [(2,wnk s)] 0 Tryz.f190 [.str s,.func 166 [],.bool true] [] R=(letI z0:=St.mk [(1,.func 166 []),(2,.bool true),(10,.ptr 0 0)] [(0,.siter s 0)] 1 [];some z0=some z0/\wab (List.all s isNB) (R (.q (-1:Int)) []) (R (.q (↑(wcu s):Int)) [])):=by kernel_rfl
theorem wzh(s:List UInt8)(k:Nat)(P:Nat->Prop)(R:eR7):wav ⟨te,[(166,.det wll)],[],0,21,0⟩ (wax Tryz.f190 2) [1,2,10] [] [6] (wl7 s) P R (wl7 s k)=(letI z1:=([(1,.func 166 []),(2,.bool true),(10,.ptr 0 0)]:tL7);letI z0:=(↑(wbh s k).1:Int);wab (decide (k<s.length)) (True/\((0:Int)<=z0/\z0<=1114111)/\wab (decide ((!decide ((0:Int)<=wb4 wee z0))=true)) (R .ret (St.mk [(6,.q (k:Int))] [] 0 [])) (∃(i':Nat),some (St.mk z1 [(0,.siter s (k+(wbh s k).2))] 1 [])=some (St.mk z1 [(0,.siter s i')] 1 [])/\P i')) (True/\R (.exit 0) (St.mk [] [] 0 []))):=by kernel_rfl
theorem wz8(s:List UInt8)(R:oR7):wpFn te [(190,.det wl6)] [] 0 Tryz.f179 [.str s,.func 166 []] [] R=(True/\R (.q (wej s)) []):=by kernel_rfl
theorem wz9(s:List UInt8)(R:oR7):wpFn te [(179,.det wmr)] [] 0 Tryz.f165 [.str s,.func 166 []] [] R=(True/\R (.bool (decide ((0:Int)<=wej s))) []):=by kernel_rfl
theorem nf_name(s:List UInt8)(R:oR7):wpFn te [(164,.det wd0),(165,.det wms)] [] 0 Tryz.f154 [.str s] [] R=(wab (!decide (s=[])) (wab (decide ((s.length:Int)<=24)) (((0:Int)<=1/\(1:Int)<=(s.length:Int))/\((List.take (1:Int).toNat s).length<=9223372036854775807/\2<=36/\36<4294967281/\∀(b:UInt8),b∈[(97:UInt8),98,99,100,101,102,103,104,105,106,107,108,109,110,111,112,113,114,115,116,117,118,119,120,121,122,48,49,50,51,52,53,54,55,56,57]->UInt8.toNat b<128)/\wab (decide (wd2 ([(97:UInt8),98,99,100,101,102,103,104,105,106,107,108,109,110,111,112,113,114,115,116,117,118,119,120,121,122,48,49,50,51,52,53,54,55,56,57]) (List.take (1:Int).toNat s)=[])) (True/\R (.bool !!List.all s isNB) []) (R (.bool false) [])) (R (.bool false) [])) (R (.bool false) [])):=by kernel_rfl
variable {C:Ctx} [C.Loose]
theorem w0g(hP:C.P=Tryz.prog):wac C 166 wll:=by
 rintro args objs U Os vc h hvc;unfold wll at h;split at h<;>cases h;rename_i r;refine wac.wp0 (prg hP) [(167,.det wmg)] 0 (.cons (w2r hP) .nil) (hP ▸ Tryz.func166) rfl rfl rfl ?_;rw[wyz];exact⟨⟨rfl,by omega,hvc.1,hvc.2⟩,rfl,rfl⟩
theorem w1n(hP:C.P=Tryz.prog)(s:List UInt8):wah C 0 21 (waj Tryz.f190 2) (wnk s):=by
 rintro st Q ⟨h0,hQ⟩;have hQ:=wbt hQ;refine wah.mk (prg hP) [(166,.det wll)] 0 (.cons (w0g hP) .nil) [1,2,10] [] [6] (wl7 s) (λk=>k<=s.length/\∀j,j<k->isNB (s.getD j 0)=true) (λk=>s.length - k) 0 ⟨zL7 _,λj h=>by omega⟩ h0 λk ⟨hk,hall⟩=>?_;rw[wzh];refine wam (λh=>?_) (λh=>⟨trivial,?_⟩)
 ·have h:=of_decide_eq_true h;have hle:=wws h;refine⟨trivial,⟨by omega,by omega⟩,?_⟩
  -- what the predicate says of the rune is what isNB says of the byte
  have key:(decide (0<=wb4 wee ((wbh s k).1:Int)))=isNB (s.getD k 0)/\(isNB (s.getD k 0)=true->(wbh s k).2=1):=by
   by_cases hlo:(s.getD k 0).toNat<128
   ·rw[wn8 h hlo];exact⟨w0c _ hlo,λ_=>rfl⟩
   ·have hh:=wre h (by omega);have hn:isNB (s.getD k 0)=false:=by
     generalize s.getD k 0=b at *;simp only[isNB,wfa,Bool.or_eq_false_iff,Bool.and_eq_false_imp,decide_eq_true_eq,decide_eq_false_iff_not];omega
    rw[w0d _ hh.1,hn];exact⟨rfl,λh=>by cases h⟩
  rw[key.1];refine wam (λhb=>?_) (λhb=>?_)
  ·have hb:isNB (s.getD k 0)=false:=by simpa using hb
   have hf:s.all isNB=false:=by
    cases ha:s.all isNB with
    |false=>rfl
    |true=>
     have:=List.all_eq_true.1 ha (s.getD k 0) (by simp[List.getD,h]);rw[hb] at this;cases this
   obtain⟨b1,b2,b3⟩:=w3k hf;have:wcu s=k:=by
    rcases Nat.lt_trichotomy (wcu s) k with hl | hl | hl
    ·rw[hall _ hl] at b2;cases b2
    ·exact hl
    ·rw[b3 k hl] at hb;cases hb
   have hq:=hQ.2 hf;rw[this] at hq;exact hq
  ·have hb:isNB (s.getD k 0)=true:=by simpa using hb
   rw[key.2 hb];refine⟨k+1,rfl,⟨by omega,λj hj=>?_⟩,by omega⟩
   rcases Nat.lt_succ_iff_lt_or_eq.1 hj with hj | rfl
   ·exact hall j hj
   ·exact hb
 ·have h:=of_decide_eq_false h;refine hQ.1 (List.all_eq_true.2 λb hb=>?_);obtain⟨j,hj,rfl⟩:=List.getElem_of_mem hb;have:=hall j (by omega);simpa[List.getD,hj] using this
theorem w1m(hP:C.P=Tryz.prog):wac C 190 wl6:=by
 rintro args objs U Os vc h hvc;unfold wl6 at h;split at h<;>cases h;rename_i s;refine wac.wpL (prg hP) [] [(2,wnk s)] 0 .nil (hP ▸ Tryz.func190) rfl rfl rfl [(waj Tryz.f190 2,wnk s)] (by kernel_rfl) ⟨w1n hP s,trivial⟩ ?_;rw[wzi];refine⟨rfl,wam (λh=>⟨?_,rfl⟩) (λh=>⟨?_,rfl⟩)⟩
 ·simp only[wej,h]
 ·simp only[wej,h]
theorem w3v(hP:C.P=Tryz.prog):wac C 179 wmr:=by
 rintro args objs U Os vc h hvc;unfold wmr at h;split at h<;>cases h;rename_i s;refine wac.wp0 (prg hP) [(190,.det wl6)] 0 (.cons (w1m hP) .nil) (hP ▸ Tryz.func179) rfl rfl rfl ?_;rw[wz8];exact⟨trivial,rfl,rfl⟩
theorem w3w(hP:C.P=Tryz.prog):wac C 165 wms:=by
 rintro args objs U Os vc h hvc;unfold wms at h;split at h<;>cases h;rename_i s;refine wac.wp0 (prg hP) [(179,.det wmr)] 0 (.cons (w3v hP) .nil) (hP ▸ Tryz.func165) rfl rfl rfl ?_;rw[wz9,w2b];exact⟨trivial,rfl,rfl⟩
theorem wsg(hP:C.P=Tryz.prog):wac C 154 wgm:=by
 rintro args objs U Os vc h hvc;unfold wgm at h;split at h<;>cases h;rename_i s;refine wac.wp0 (prg hP) [(164,.det wd0),(165,.det wms)] 0 (.cons (wif hP) (.cons (w3w hP) .nil)) (hP ▸ Tryz.func154) rfl rfl rfl ?_;rw[nf_name]
 cases s with
 |nil=>exact⟨rfl,rfl⟩
 |cons b r=>
  have e:(b::r).take (Int.toNat 1)=[b]:=rfl;have hasc:∀x∈wi3,UInt8.toNat x<128:=by decide+kernel
  rw[e,wv4];have hl:(List.length (b::r):Int)=r.length+1:=by simp
  have hl':List.length (b::r)=r.length+1:=rfl;have hd:(b::r).getD 0 0=b:=rfl;refine wam (λ_=>wam (λh=>⟨by omega,⟨by simp,by omega,by omega,hasc⟩,wam (λh'=>⟨trivial,?_,rfl⟩) (λh'=>⟨?_,rfl⟩)⟩) (λh=>⟨?_,rfl⟩)) (λh=>by simp at h)
  ·have h:=of_decide_eq_true h;simp only[wbe,hd,h',hl',Bool.not_not];rw[decide_eq_true (by omega),decide_eq_true (by omega)];rfl
  ·simp only[wbe,hd,h',Bool.and_false,Bool.false_and]
  ·have h:=of_decide_eq_false h;simp only[wbe,hl'];rw[decide_eq_false (p:=r.length+1<=24) (by omega)];simp
end Go.Eng
namespace Go.Eng
open Go.Proofs
set_option maxRecDepth 20000
theorem wzq(s:List UInt8)(a b:Int)(R:oR7):wpFn te [(164,.det wd0)] [] 0 Tryz.f157 [.str s,.q a,.q b] [] R=(letI z0:=((s.length<=9223372036854775807/\2<=10/\10<4294967281/\∀(b:UInt8),b∈[(48:UInt8),49,50,51,52,53,54,55,56,57]->UInt8.toNat b<128)/\R (.bool (decide (wd2 ([(48:UInt8),49,50,51,52,53,54,55,56,57]) s=[]))) []:Prop);wab (decide ((s.length:Int)=a)) z0 (wab (decide ((s.length:Int)=b)) z0 (R (.bool false) []))):=by kernel_rfl
theorem wz1(s:List UInt8)(R:oR7):wpFn te [(157,.det wgr)] [(5,wnp s)] 0 Tryz.f158 [.str s] [] R=(((7:Int)<=100/\(12:Int)<=100)/\wab (!wbs s (7:Int) (12:Int)) (R (.tuple [.q 0,.bool false]) []) (some (St.mk [(0,.str s),(4,.q 0),(11,.q (s.length:Int)),(12,.q 0)] [] 0 [])=some (St.mk [(0,.str s),(4,.q (wa3 s 0)),(11,.q (s.length:Int)),(12,.q (↑0:Int))] [] 0 [])/\s.length<=12/\List.all s wbo=true/\(10:Int)≠(0:Int)/\inR .i64 ((10:Int) - Int.tmod (wa3 s s.length) (10:Int))/\(10:Int)≠(0:Int)/\R (.tuple [.q (Int.tmod ((10:Int) - Int.tmod (wa3 s s.length) (10:Int)) (10:Int)),.bool true]) [])):=by kernel_rfl
theorem wz0(s:List UInt8)(k:Nat)(P:Nat->Prop)(R:eR7):wav ⟨te,[],[],0,36,0⟩ (wax Tryz.f158 5) [0,4,11,12] [4] [] (S_cd s) P R (S_cd s k)=(letI z1:=(s.length:Int);letI z3:=(z1 - (k:Int));letI z0:=(↑(UInt8.toNat (List.getD s (k:Int).toNat (0:UInt8))):Int);letI z2:=(wa3 s k+((1:Int)+2 * Int.tmod z3 (2:Int)) * ((z0 - (48:Int)) % (256:Int)));wab (decide ((k:Int)<z1)) (inR .i64 z3/\(2:Int)≠(0:Int)/\inR .i64 ((2:Int) * Int.tmod z3 (2:Int))/\inR .i64 ((1:Int)+2 * Int.tmod z3 (2:Int))/\((0:Int)<=(k:Int)/\(k:Int)<z1)/\inR .i64 ((z0 - (48:Int)) % (256:Int))/\inR .i64 (((1:Int)+2 * Int.tmod z3 (2:Int)) * ((z0 - (48:Int)) % (256:Int)))/\inR .i64 z2/\inR .i64 ((k:Int)+1)/\∃(i':Nat),some (St.mk [(0,.str s),(4,.q z2),(11,.q z1),(12,.q ((k:Int)+1))] [] 0 [])=some (St.mk [(0,.str s),(4,.q (wa3 s i')),(11,.q z1),(12,.q (i':Int))] [] 0 [])/\P i') (R (.exit 0) (St.mk [(4,.q (wa3 s k))] [] 0 []))):=by kernel_rfl
theorem wx0(s:List UInt8)(R:oR7):wpFn te [(157,.det wgr),(158,.det wew)] [] 0 Tryz.f139 [.str s] [] R=(letI z0:=(s.length:Int);letI z1:=(↑(UInt8.toNat (List.getD s (z0 - (1:Int)).toNat (0:UInt8))):Int);((8:Int)<=100/\(13:Int)<=100)/\wab (!wbs s (8:Int) (13:Int)) (R (.bool false) []) (inR .i64 (z0 - (1:Int))/\((0:Int)<=z0 - (1:Int)/\z0 - (1:Int)<=z0)/\True/\((0:Int)<=z0 - (1:Int)/\z0 - (1:Int)<z0)/\inR .i64 ((z1 - (48:Int)) % (256:Int))/\R (.bool (decide ((cdF (List.take (z0 - (1:Int)).toNat s)).1=(z1 - (48:Int)) % (256:Int)))) [])):=by kernel_rfl
variable {C:Ctx} [C.Loose]
theorem wum(hP:C.P=Tryz.prog)(htrim:wac C 164 wd0):wac C 157 wgr:=by
 have _:C.Loose:=inferInstance;rintro args objs U Os vc h hvc;unfold wgr at h;split at h<;>cases h;rename_i s a b;refine wac.wp0 (prg hP) [(164,.det wd0)] 0 (.cons htrim .nil) (hP ▸ Tryz.func157) rfl rfl rfl ?_;rw[wzq];have hm:(9223372036854775807:Nat)=maxLen:=rfl;have hlt:∀b∈([48,49,50,51,52,53,54,55,56,57]:List UInt8),UInt8.toNat b<128:=by decide
 refine wam (λh=>?_) (λh=>wam (λh'=>?_) (λh'=>?_))
 ·have h2:=of_decide_eq_true h;refine⟨⟨by omega,by omega,by omega,hlt⟩,?_,rfl⟩;simp only[wbs,h,Bool.true_or,Bool.true_and,wqv]
 ·have h2:=of_decide_eq_true h';refine⟨⟨by omega,by omega,by omega,hlt⟩,?_,rfl⟩;simp only[wbs,h',Bool.or_true,Bool.true_and,wqv]
 ·simp[wbs,h,h']
theorem wki{s:List UInt8}(h:s.all wbo=true):∀k,k<=s.length->0<=wa3 s k/\wa3 s k<=27 * k
 |0,_=>by simp[wa3]
 |k+1,hk=>by
  have ih:=wki h k (by omega);have hd:=wjn h k (by omega);simp only[wa3]
  rcases Int.emod_two_eq (↑s.length - ↑k) with e | e<;>rw[e]<;>omega
theorem w24(hP:C.P=Tryz.prog)(s:List UInt8):wah C 0 36 (waj Tryz.f158 5) (wnp s):=by
 have _:C.Loose:=inferInstance;rintro st Q ⟨h0,hlen,hall,hQ⟩;refine wah.mk (prg hP) [] 0 .nil [0,4,11,12] [4] [] (S_cd s) (λk=>k<=s.length) (λk=>s.length - k) 0 (zL7 _) h0 λk hk=>?_;rw[wz0];have hb:=wki hall k hk;refine wam (λh=>?_) (λh=>?_)
 ·have h:=of_decide_eq_true h;have hd:=wjn hall k (by omega);have e:Int.tmod (↑s.length - ↑k) 2=(↑s.length - ↑k) % 2:=Int.tmod_eq_emod_of_nonneg (by omega);have e3:((s.getD k 0).toNat - 48:Int) % 256=(s.getD k 0).toNat - 48:=by omega
  simp only[inR,e,tN7,e3];have hs:wa3 s (k+1)=wa3 s k+(1+2 * ((↑s.length - ↑k) % 2)) * (↑(s.getD k 0).toNat - 48):=rfl
  rcases Int.emod_two_eq (↑s.length - ↑k) with e | e<;>rw[e] at hs ⊢ <;>and_intros<;>first
   |omega
   |exact⟨k+1,by rw[hs];rfl,by omega,by omega⟩
 ·have h:=of_decide_eq_false h;have hk:k=s.length:=by omega
  rw[hk];exact hQ
theorem w23(hP:C.P=Tryz.prog)(htrim:wac C 164 wd0):wac C 158 wew:=by
 rintro args objs U Os vc h hvc;unfold wew at h;split at h<;>cases h;rename_i s;refine wac.wpL (prg hP) [(157,.det wgr)] [(5,wnp s)] 0 (.cons (wum hP htrim) .nil) (hP ▸ Tryz.func158) rfl rfl rfl [(waj Tryz.f158 5,wnp s)] (by kernel_rfl) ⟨w24 hP s,trivial⟩ ?_;rw[wz1];refine⟨by omega,wam (λh=>?_) (λh=>?_)⟩
 ·have h:wbs s 7 12=false:=by simpa using h
  simp[cdF,h]
 ·have h:wbs s 7 12=true:=by simpa using h
  have h':=h;simp only[wbs,bA7,Bool.or_eq_true,decide_eq_true_eq] at h';have hb:=wki h'.2 s.length (lR7 _);have e:Int.tmod (wa3 s s.length) 10=wa3 s s.length % 10:=Int.tmod_eq_emod_of_nonneg (by omega);rw[e,Int.tmod_eq_emod_of_nonneg (by omega)];refine⟨rfl,by omega,h'.2,by omega,by simp only[inR];omega,by omega,?_,rfl⟩;simp[cdF,h]
theorem wny(hP:C.P=Tryz.prog)(htrim:wac C 164 wd0):wac C 139 wen:=by
 rintro args objs U Os vc h hvc;unfold wen at h;split at h<;>cases h;rename_i s;refine wac.wp0 (prg hP) [(157,.det wgr),(158,.det wew)] 0 (.cons (wum hP htrim) (.cons (w23 hP htrim) .nil)) (hP ▸ Tryz.func139) rfl rfl rfl ?_;rw[wx0];refine⟨by omega,wam (λh=>?_) (λh=>?_)⟩
 ·have h:wbs s 8 13=false:=by simpa using h
  simp[wbm,h]
 ·have h:wbs s 8 13=true:=by simpa using h
  have h':=h;simp only[wbs,bA7,Bool.or_eq_true,decide_eq_true_eq] at h';have e:(↑s.length - 1:Int).toNat=s.length - 1:=by omega
  have hd:=wjn h'.2 (s.length - 1) (by omega);rw[e];have e2:((s.getD (s.length - 1) 0).toNat - 48:Int) % 256=(s.getD (s.length - 1) 0).toNat - 48:=by omega
  simp only[inR,e2];refine⟨by omega,by omega,trivial,by omega,by omega,?_,trivial⟩;simp[wbm,h]
end Go.Eng
namespace Go.Eng
open Go.Proofs Go.RowKit
variable {C:Ctx} [C.Loose]
set_option maxRecDepth 20000
theorem nf_valw(id code brand:List UInt8)(d c a:Int)(n:Nat)(nm vl:Nat->List UInt8)(R:oR7):wpFn te [(139,.det wen),(153,.det wls),(154,.det wgm),(155,.det wld)] [(13,L_vw n nm vl)] 2 Tryz.f137 [.agg [.str id,.str code,.str brand,.q d,.q c,.q a,.view 2 n (wem nm vl)]] [] R=(True/\wab (!wbm id) (R (.q 90) []) (code.length<4294967281/\wab (decide (we6 code<1)) (R (.q 91) []) (True/\wab (!wbe brand) (R (.q 92) []) (True/\wab (!decide (qtyF d c a=0)) (R (.q 93) []) (wab (decide ((12:Int)<(n:Int))) (R (.q 94) []) (some (St.mk [(3,.map 0),(33,.view 2 n (wem nm vl)),(34,.q (n:Int)),(35,.q 0)] [(0,.amap (List.map (λ(p:AV×AV)=>(AV.rn (ren 0 [(65,0)]) p.1,AV.rn (ren 0 [(65,0)]) p.2)) []))] 1 [])=some (St.mk [(3,.map 0),(33,.view 2 n (wem nm vl)),(34,.q (n:Int)),(35,.q (↑0:Int))] [(0,.amap (wbg nm 0))] 1 [])/\n<=12/\(∀(i:Nat),i<n->(nm i).length<4294967281/\(vl i).length<4294967281)/\wab (wdh nm vl n) (R (.q 0) []) (R (.q 94) []))))))):=by kernel_rfl
theorem wxy(n:Nat)(nm vl:Nat->List UInt8)(k:Nat)(P:Nat->Prop)(R:eR7):wav ⟨te,[(154,.det wgm)],[],0,59,0⟩ (wax Tryz.f137 13) [3,33,34,35] [] [2] (S_vw n nm vl) P R (S_vw n nm vl k)=(letI z3:=(k:Int).toNat;letI z2:=TI.desc (TI.mk TypeDesc.string 1 16 (Value.string (ByteArray.mk #[])) false);letI z1:=R .ret (St.mk [(2,.q 94)] [] 0 []);letI z0:=(mget (wbg nm k) (.str (nm z3)));letI z4:=wck (Option.getD z0 (zvA (.bool false)));wab (decide ((k:Int)<(n:Int))) (((0:Int)<=(k:Int)/\(k:Int)<(n:Int)/\2=2)/\True/\wab (!wbe (nm z3)) z1 (True/\wab (!wbe (vl z3)) z1 ((wh7 z2 (wbg nm k)/\.bool z4=Option.getD z0 (zvA (.bool false)))/\wab z4 z1 (wh7 z2 (wbg nm k)/\inR .i64 ((k:Int)+1)/\∃(i':Nat),some (St.mk [(3,.map 0),(33,.view 2 n (wem nm vl)),(34,.q (n:Int)),(35,.q ((k:Int)+1))] [(0,.amap (List.map (λ(p:AV×AV)=>(AV.rn (ren 0 [(0,0)]) p.1,AV.rn (ren 0 [(0,0)]) p.2)) (mset (wbg nm k) (.str (nm z3)) (.bool true))))] 1 [])=some (St.mk [(3,.map 0),(33,.view 2 n (wem nm vl)),(34,.q (n:Int)),(35,.q (i':Int))] [(0,.amap (wbg nm i'))] 1 [])/\P i')))) (R (.exit 1) (St.mk [] [] 0 []))):=by kernel_rfl
theorem wvt(hP:C.P=Tryz.prog)(n:Nat)(nm vl:Nat->List UInt8):wah C 0 59 (waj Tryz.f137 13) (L_vw n nm vl):=by
 rintro st Q ⟨h0,hn,hs,hQ⟩;have hR:=wbt hQ;refine wah.mk (prg hP) [(154,.det wgm)] 0 (.cons (wsg hP) .nil) [3,33,34,35] [] [2] (S_vw n nm vl) (λk=>k<=n/\wdh nm vl k=true) (λk=>n - k) 0 ⟨by omega,rfl⟩ h0 (λk hk=>?_);obtain⟨hkn,hok⟩:=hk;rw[wxy];have hbad:∀m,k<=m->k<m->atOK nm vl k=false->wdh nm vl m=false:=by
  intro m
  induction m with
  |zero=>intro _ h;omega
  |succ m ih=>
   intro _ h2 h3;rw[wdh]
   by_cases hkm:k=m
   ·subst hkm;rw[h3,Bool.and_false]
   ·rw[ih (by omega) (by omega) h3,Bool.false_and]
 rw[tN7];refine wag (λh1=>?_) (λh1=>?_)
 ·have hlt:k<n:=by omega
  have hfail:atOK nm vl k=false->Q .ret (St.mk [(2,.q 94)] [] 0 []):=λh=>hR.2 (hbad n hkn hlt h);have hk:=wrb nm vl k hok;rw[wsk];refine⟨⟨by omega,by omega,rfl⟩,trivial,wct (λh2=>hfail (by unfold atOK;rw[h2];rfl)) (λh2=>⟨trivial,wct (λh3=>hfail (by unfold atOK;rw[h3,Bool.and_false];rfl)) (λh3=>⟨⟨hk,?_⟩,?_⟩)⟩)⟩
  ·cases (List.range k).any (λi=>decide (nm i=nm k))<;>rfl
  ·cases ha:(List.range k).any (λi=>decide (nm i=nm k)) with
   |true=>exact hfail (by unfold atOK;rw[wjx,ha];simp)
   |false=>
    have hat:atOK nm vl k=true:=by unfold atOK;rw[h2,h3,wjx,ha];rfl
    refine⟨hk,by simp only[inR];omega,k+1,?_,⟨by omega,by rw[wdh,hok,hat];rfl⟩,by omega⟩;rw[w0i nm _ _ k ha,show wbg nm k++[(.str (nm k),AV.bool true)]=wbg nm (k+1) from rfl,wra];rfl
 ·have:k=n:=by omega
  subst this;exact hR.1 hok
theorem valV_ok(hP:C.P=Tryz.prog)(hL:∀w,C.laid w->LaidW w):wac C 137 S_valV:=by
 rintro args objs U Os vc h hvc;unfold S_valV at h;split at h<;>cases h;rename_i id code brand d c a n f;obtain⟨hn,h1,h2,hs,hf⟩:=hvc;rw[hf];rw[← hf];generalize nmOf f=nm at *;generalize vlOf f=vl at *;rw[hf];unfold valF;refine wac.wpL (prg hP) [(139,.det wen),(153,.det wls),(154,.det wgm),(155,.det wld)] [(13,L_vw n nm vl)] 2 (.cons (wny hP (wif hP)) (.cons (w00 hP hL) (.cons (wsg hP) (.cons (qty_ok hP) .nil)))) (hP ▸ Tryz.func137) rfl rfl rfl [(waj Tryz.f137 13,L_vw n nm vl)] (by kernel_rfl) ⟨wvt hP n nm vl,trivial⟩ ?_;rw[nf_valw,w01];refine⟨trivial,wct (λq1=>?_) (λq1=>⟨h1,wct (λq2=>?_) (λq2=>⟨trivial,wct (λq3=>?_) (λq3=>⟨trivial,wbf (λq4=>?_) (λq4=>wag (λq5=>?_) (λq5=>⟨rfl,by omega,hs,wam (λq6=>?_) (λq6=>?_)⟩))⟩)⟩)⟩)⟩
 ·rw[q1];exact⟨rfl,rfl⟩
 ·rw[q1,q2];exact⟨rfl,rfl⟩
 ·rw[q1,q2,q3];exact⟨rfl,rfl⟩
 ·rw[q1,q2,q3,decide_eq_false q4];exact⟨rfl,rfl⟩
 ·rw[q1,q2,q3,decide_eq_true q4,decide_eq_true (show 12<n by omega)];exact⟨rfl,rfl⟩
 ·rw[q1,q2,q3,decide_eq_true q4,decide_eq_false (show ¬ 12<n by omega),q6];exact⟨rfl,rfl⟩
 ·rw[q1,q2,q3,decide_eq_true q4,decide_eq_false (show ¬ 12<n by omega),q6];exact⟨rfl,rfl⟩
theorem wzw(s:List UInt8)(R:oR7):wpFn te [(137,.det wkw)] [] 0 Tryz.f117 [.str s] [] R=((2<4294967281/\s.length<9223372036854775808)/\R (.bool (decide ((valF [(48:UInt8),48,48,48,48,48,48,48] [(48:UInt8),49] s (4:Int) (1:Int) (1:Int) 0 (λ(_x:Nat)=>[]) λ(_x:Nat)=>[])=0))) []):=by kernel_rfl
theorem nf_cnum(n:Int)(R:oR7):wpFn te [] [] 0 Tryz.f118 [.q n] [] R=(wab (decide ((1:Int)<=n)) (R (.bool (decide (n<=1048576))) []) (R (.bool false) [])):=by kernel_rfl
theorem nf_calv(n:Int)(R:oR7):wpFn te [] [] 0 Tryz.f156 [.q n] [] R=(wab (decide ((0:Int)<=n)) (R (.bool (decide (n<=182620))) []) (R (.bool false) [])):=by kernel_rfl
theorem wxx(n:Int)(R:oR7):wpFn te [(156,.det wmn)] [] 0 Tryz.f138 [.q n] [] R=(True/\wab (!(decide ((0:Int)<=n) && decide (n<=182620))) (R (.q (-1:Int)) []) ((7:Int)≠(0:Int)/\R (.q (Int.tmod n (7:Int))) [])):=by kernel_rfl
theorem nf_slot(o p:List UInt8)(per:Int)(R:oR7):wpFn te [(117,.det wgt),(139,.det wen)] [] 0 Tryz.f120 [.str o,.str p,.q per] [] R=(o.length<9223372036854775808/\wab (wbe o) (True/\wab (wbm p) (wab (decide ((0:Int)<=per)) (R (.bool (decide (per<=5999))) []) (R (.bool false) [])) (R (.bool false) [])) (R (.bool false) [])):=by kernel_rfl
theorem wxz(o p:List UInt8)(per day st pr:Int)(rep:List UInt8)(R:oR7):wpFn te [(120,.det wgf),(139,.det wen),(138,.det wkt)] [] 0 Tryz.f119 [.agg [.str o,.str p,.q per,.q day,.q st,.q pr,.str rep]] [] R=(letI z3:=R (.bool false) [];letI z0:=(wab (decide (st=5)) (True/\wab (wbm rep) (R (.bool !decide (rep=p)) []) z3) (R (.bool (decide (rep=[]))) []));letI z2:=(wab (decide (pr<1)) z3 (wab (decide ((1099511627776:Int)<pr)) z3 z0));letI z1:=(wab (decide (st=3)) (wab (decide (st=3)) (wab (!decide (pr=0)) z3 z0) z3) (wab (decide (st=4)) (wab (!decide (pr=0)) z3 z0) z3));o.length<9223372036854775808/\wab (!wd3 o p per) z3 (True/\wab (decide ((bif decide ((0:Int)<=day) && decide (day<=182620) then day % (7:Int) else (-1:Int))<0)) z3 (wab (decide (st=1)) (wab (decide (st=1)) z2 z1) (wab (decide (st=2)) (wab (decide (st=2)) z2 z1) (wab (decide (st=5)) z2 z1))))):=by kernel_rfl
theorem nf_msg(m:MG)(R:oR7):wpFn te [(117,.det wgt),(120,.det wgf),(119,.det wku),(118,.det wlk)] [] 0 Tryz.f96 [.agg [.str m.dev,.q m.seq,.q m.kind,.str m.v.o,.str m.v.p,.q m.v.per,.q m.v.day,.q m.v.st,.q m.v.pr,.str m.v.rep,.str m.d.o,.str m.d.p,.q m.d.per,.str m.d.dev,.q m.d.num]] [] R=(letI z6:=(m.kind=1);letI z5:=(m.kind=2);letI z4:=R (.q 114) [];letI z2:=(wab (decide z5) (m.d.o.length<9223372036854775808/\wab (wd3 m.d.o m.d.p m.d.per) (m.d.dev.length<9223372036854775808/\wab (wbe m.d.dev) (True/\wab (!numF m.d.num) z4 (R (.q 0) [])) z4) z4) (R (.q 0) []));letI z0:=(wab (decide z6) (wab (!(decide (m.d.o=[]) && (decide (m.d.p=[]) && (decide (m.d.per=0) && (decide (m.d.dev=[]) && decide (m.d.num=0)))))) z4 z2) z2);letI z1:=(wab (decide z5) (wab (!(decide (m.v.o=[]) && (decide (m.v.p=[]) && (decide (m.v.per=0) && (decide (m.v.day=0) && (decide (m.v.st=0) && (decide (m.v.pr=0) && decide (m.v.rep=[])))))))) (R (.q 113) []) z0) z0);letI z3:=(wab (decide z6) (m.v.o.length<9223372036854775808/\wab (!visF (VT.mk m.v.o m.v.p m.v.per m.v.day m.v.st m.v.pr m.v.rep)) (R (.q 113) []) z1) z1);m.dev.length<9223372036854775808/\wab (!wbe m.dev) (R (.q 110) []) (True/\wab (!numF m.seq) (R (.q 111) []) (wab (!decide z6) (wab (!decide z5) (R (.q 112) []) z3) z3))):=by kernel_rfl
theorem val0_ok(hP:C.P=Tryz.prog)(hL:∀w,C.laid w->LaidW w):wac C 137 wkw:=by
 rintro args objs U Os vc h hvc;unfold wkw at h;split at h<;>cases h;rename_i id code brand d c a;exact war.nilArg 2 (wem (λ_=>[]) (λ_=>[])) (valV_ok hP hL _ _ _ _ _ rfl ⟨zL7 _,hvc.1,hvc.2,λi hi=>absurd hi (nZ7 i),rfl⟩)
theorem w2w(s:List UInt8):decide (valF [48,48,48,48,48,48,48,48] [48,49] s 4 1 1 0 (λ_=>[]) (λ_=>[])=0)=wbe s:=by
 unfold valF;rw[show wbm [48,48,48,48,48,48,48,48]=true by decide+kernel,show wc1 [48,49]=true by decide+kernel,show qtyF 4 1 1=0 by rfl]
 cases wbe s<;>rfl
theorem wup(hP:C.P=Tryz.prog)(hL:∀w,C.laid w->LaidW w):wac C 117 wgt:=by
 rintro args objs U Os vc h hvc;unfold wgt at h;split at h<;>cases h;rename_i s;refine wac.wp0 (prg hP) [(137,.det wkw)] 0 (.cons (val0_ok hP hL) .nil) (hP ▸ Tryz.func117) rfl rfl rfl ?_;rw[wzw,w2w];exact⟨⟨by omega,hvc⟩,rfl,rfl⟩
theorem cnum_ok(hP:C.P=Tryz.prog):wac C 118 wlk:=by
 have _:C.Loose:=inferInstance;rintro args objs U Os vc h hvc;unfold wlk at h;split at h<;>cases h;rename_i n;refine wac.wp0 (prg hP) [] 0 .nil (hP ▸ Tryz.func118) rfl rfl rfl ?_;rw[nf_cnum];unfold numF;exact wam (λh=>by rw[h];exact⟨rfl,rfl⟩) (λh=>by rw[h];exact⟨rfl,rfl⟩)
theorem calv_ok(hP:C.P=Tryz.prog):wac C 156 wmn:=by
 have _:C.Loose:=inferInstance;rintro args objs U Os vc h hvc;unfold wmn at h;split at h<;>cases h;rename_i n;refine wac.wp0 (prg hP) [] 0 .nil (hP ▸ Tryz.func156) rfl rfl rfl ?_;rw[nf_calv];exact wam (λh=>by rw[h];exact⟨rfl,rfl⟩) (λh=>by rw[h];exact⟨rfl,rfl⟩)
theorem wvo(hP:C.P=Tryz.prog):wac C 138 wkt:=by
 rintro args objs U Os vc h hvc;unfold wkt at h;split at h<;>cases h;rename_i n;refine wac.wp0 (prg hP) [(156,.det wmn)] 0 (.cons (calv_ok hP) .nil) (hP ▸ Tryz.func138) rfl rfl rfl ?_;rw[wxx];refine⟨trivial,wct (λh=>by rw[h];exact⟨rfl,rfl⟩) (λh=>⟨by decide,?_⟩)⟩;rw[h];have h0:0<=n:=of_decide_eq_true (Bool.and_eq_true_iff.1 h).1;exact⟨by rw[Int.tmod_eq_emod_of_nonneg h0];rfl,rfl⟩
theorem wq6(hP:C.P=Tryz.prog)(hL:∀w,C.laid w->LaidW w):wac C 120 wgf:=by
 rintro args objs U Os vc h hvc;unfold wgf at h;split at h<;>cases h;rename_i o p per;refine wac.wp0 (prg hP) [(117,.det wgt),(139,.det wen)] 0 (.cons (wup hP hL) (.cons (wny hP (wif hP)) .nil)) (hP ▸ Tryz.func120) rfl rfl rfl ?_;rw[nf_slot];unfold wd3;exact⟨hvc,wam (λh1=>⟨trivial,wam (λh2=>wam (λh3=>by rw[h1,h2,h3];exact⟨rfl,rfl⟩) (λh3=>by rw[h1,h2,h3];exact⟨rfl,rfl⟩)) (λh2=>by rw[h1,h2];exact⟨rfl,rfl⟩)⟩) (λh1=>by rw[h1];exact⟨rfl,rfl⟩)⟩
theorem wk_neg(day:Int):decide ((bif decide (0<=day) && decide (day<=182620) then day % 7 else -1)<0)= !(decide (0<=day) && decide (day<=182620)):=by
 cases h:decide (0<=day) && decide (day<=182620) with
 |true=>
  show decide (day % 7<0)=false;rw[decide_eq_false];have:=Int.emod_nonneg day (show (7:Int)≠0 by decide);omega
 |false=>rfl
theorem wvp(hP:C.P=Tryz.prog)(hL:∀w,C.laid w->LaidW w):wac C 119 wku:=by
 rintro args objs U Os vc h hvc;unfold wku at h;split at h<;>cases h;rename_i o p per day st pr rep;refine wac.wp0 (prg hP) [(120,.det wgf),(139,.det wen),(138,.det wkt)] 0 (.cons (wq6 hP hL) (.cons (wny hP (wif hP)) (.cons (wvo hP) .nil))) (hP ▸ Tryz.func119) rfl rfl rfl ?_;rw[wxz,wk_neg];refine⟨hvc,wct (λh1=>?_) (λh1=>⟨trivial,wct (λh2=>?_) (λh2=>?_)⟩)⟩
 ·unfold visF;simp[h1]
 ·unfold visF;simp[h1,h2]
 have hv:visF ⟨o,p,per,day,st,pr,rep⟩=(bif decide (st=1) || decide (st=2) then decide (1<=pr) && decide (pr<=1099511627776) && decide (rep=[])
  else bif decide (st=3) || decide (st=4) then decide (pr=0) && decide (rep=[])
  else bif decide (st=5) then decide (1<=pr) && decide (pr<=1099511627776) && wbm rep && !decide (rep=p) else false):=by
  unfold visF;simp only[h1,Bool.true_and,h2]
 rw[hv];have e1:decide (1<=pr)= !decide (pr<1):=by by_cases h:pr<1<;>simp[h]<;>omega
 have e2:decide (pr<=1099511627776)= !decide (1099511627776<pr):=by by_cases h:1099511627776<pr<;>simp[h]<;>omega
 rw[e1,e2];clear hv h1 h2 e1 e2
 by_cases s1:st=1
 ·subst s1;generalize decide (pr<1)=b1,decide (1099511627776<pr)=b2,decide (pr=0)=b3,decide (rep=p)=b4,decide (rep=[])=b5,wbm rep=b6
  cases b1<;>cases b2<;>exact⟨rfl,rfl⟩
 by_cases s2:st=2
 ·subst s2;generalize decide (pr<1)=b1,decide (1099511627776<pr)=b2,decide (pr=0)=b3,decide (rep=p)=b4,decide (rep=[])=b5,wbm rep=b6
  cases b1<;>cases b2<;>exact⟨rfl,rfl⟩
 by_cases s3:st=3
 ·subst s3;generalize decide (pr<1)=b1,decide (1099511627776<pr)=b2,decide (pr=0)=b3,decide (rep=p)=b4,decide (rep=[])=b5,wbm rep=b6
  cases b3<;>exact⟨rfl,rfl⟩
 by_cases s4:st=4
 ·subst s4;generalize decide (pr<1)=b1,decide (1099511627776<pr)=b2,decide (pr=0)=b3,decide (rep=p)=b4,decide (rep=[])=b5,wbm rep=b6
  cases b3<;>exact⟨rfl,rfl⟩
 by_cases s5:st=5
 ·subst s5;generalize decide (pr<1)=b1,decide (1099511627776<pr)=b2,decide (pr=0)=b3,decide (rep=p)=b4,decide (rep=[])=b5,wbm rep=b6
  cases b1<;>cases b2<;>cases b6<;>first | exact⟨rfl,rfl⟩ | exact⟨trivial,rfl,rfl⟩
 rw[decide_eq_false s1,decide_eq_false s2,decide_eq_false s3,decide_eq_false s4,decide_eq_false s5];exact⟨rfl,rfl⟩
theorem msg_ok(hP:C.P=Tryz.prog)(hL:∀w,C.laid w->LaidW w):wac C 96 wgn:=by
 rintro args objs U Os vc h hvc;unfold wgn at h;split at h<;>cases h;rename_i dev seq kind o p per day st pr rep o2 p2 per2 dev2 num;refine wac.wp0 (prg hP) [(117,.det wgt),(120,.det wgf),(119,.det wku),(118,.det wlk)] 0 (.cons (wup hP hL) (.cons (wq6 hP hL) (.cons (wvp hP hL) (.cons (cnum_ok hP) .nil)))) (hP ▸ Tryz.func96) rfl rfl rfl ?_;have nf:=λR=>nf_msg ⟨dev,seq,kind,⟨o,p,per,day,st,pr,rep⟩,⟨o2,p2,per2,dev2,num⟩⟩ R;refine(nf _).mpr ?_;clear nf;obtain⟨l1,l2,l3,l4⟩:=hvc;unfold msgF VT.nil DT.nil;dsimp only
 generalize (decide (o=[]) && (decide (p=[]) && (decide (per=0) && (decide (day=0) && (decide (st=0) && (decide (pr=0) && decide (rep=[])))))))=vn;generalize (decide (o2=[]) && (decide (p2=[]) && (decide (per2=0) && (decide (dev2=[]) && decide (num=0)))))=dn;generalize wbe dev=b1,numF seq=b2,visF ⟨o,p,per,day,st,pr,rep⟩=b3,wd3 o2 p2 per2=b4,wbe dev2=b5,numF num=b6;refine⟨l1,?_⟩
 cases b1
 ·exact⟨rfl,rfl⟩
 refine⟨trivial,?_⟩
 cases b2
 ·exact⟨rfl,rfl⟩
 by_cases k1:kind=1
 ·subst k1;refine⟨l2,?_⟩
  cases b3<;>cases dn<;>exact⟨rfl,rfl⟩
 by_cases k2:kind=2
 ·subst k2
  cases vn
  ·exact⟨rfl,rfl⟩
  refine⟨l3,?_⟩
  cases b4
  ·exact⟨rfl,rfl⟩
  refine⟨l4,?_⟩
  cases b5
  ·exact⟨rfl,rfl⟩
  refine⟨trivial,?_⟩
  cases b6<;>exact⟨rfl,rfl⟩
 rw[decide_eq_false k1,decide_eq_false k2];exact⟨rfl,rfl⟩
end Go.Eng
