/- Tariffs and rates: what is right of them. -/
import Derived.Test.YtgcboligphndhaaGreatDoorWqk
namespace Go.Eng
open Go.Proofs Go.RowKit
set_option maxRecDepth 20000
theorem w33(s:List UInt8)(R:oR7):wpFn te [] [(2,wpx s)] 0 Tryz.f75 [.str s] [] R=(letI z0:=(s.length:Int);some (St.mk [(0,.str s),(6,.q z0),(7,.q 0)] [] 0 [])=some (St.mk [(0,.str s),(6,.q z0),(7,.q (↑0:Int))] [] 0 [])/\((∀(k:Nat),k<s.length->OKat s k)->wab (decide ((1:Int)<=z0)) (R (.bool (decide (z0<=24))) []) (R (.bool false) []))/\∀(k:Nat),k<s.length->¬OKat s k->R (.bool false) []):=by kernel_rfl
theorem w32(s:List UInt8)(k:Nat)(P:Nat->Prop)(R:eR7):wa1 ⟨te,[],[],0,59,0⟩ (wa2 Tryz.f75 2) [0,6,7] [0] [2] (wnh s) P R (wnh s k)=(letI z6:=R .ret (St.mk [(2,.bool false)] [] 0 []);letI z5:=(s.length:Int);letI z3:=((0:Int)<=(k:Int)/\(k:Int)<z5:Prop);letI z2:=(↑(UInt8.toNat (List.getD s (k:Int).toNat (0:UInt8))):Int);letI z1:=(inR .i64 ((k:Int)+1)/\∃(i':Nat),some (St.mk [(0,.str s),(6,.q z5),(7,.q ((k:Int)+1))] [] 0 [])=some (St.mk [(0,.str s),(6,.q z5),(7,.q (i':Int))] [] 0 [])/\P i');letI z0:=(wab (decide ((k:Int)=0)) z6 (z3/\wab (!decide (z2=45)) (z3/\wab (!decide (z2=46)) z6 z1) z1));letI z4:=(z3/\wab (decide ((48:Int)<=z2)) (z3/\wab (!decide (z2<=57)) z0 z1) z0);wab (decide ((k:Int)<z5)) (z3/\wab (decide ((97:Int)<=z2)) (z3/\wab (decide (z2<=122)) z1 z4) z4) (R (.exit 0) (St.mk [(0,.str s)] [] 0 []))):=by kernel_rfl
theorem nf_cdR(s:List UInt8)(R:oR7):wpFn te [] [(5,wp9 s)] 0 Tryz.f98 [.str s] [] R=(letI z2:=R (.tuple [.q 0,.bool false]) [];letI z1:=(s.length:Int);letI z0:=(some (St.mk [(0,.str s),(4,.q 0),(16,.q z1),(17,.q 0)] [] 0 [])=some (St.mk [(0,.str s),(4,.q (wa9 s 0)),(16,.q z1),(17,.q (↑0:Int))] [] 0 [])/\s.length<=12/\wab (List.all s wbj) ((10:Int)≠(0:Int)/\inR .i64 ((10:Int) - Int.tmod (wa9 s s.length) (10:Int))/\(10:Int)≠(0:Int)/\R (.tuple [.q (Int.tmod ((10:Int) - Int.tmod (wa9 s s.length) (10:Int)) (10:Int)),.bool true]) []) z2);wab (!decide (z1=7)) (wab (!decide (z1=12)) z2 z0) z0):=by kernel_rfl
theorem w5b(s:List UInt8)(k:Nat)(P:Nat->Prop)(R:eR7):wa1 ⟨te,[],[],0,50,0⟩ (wa2 Tryz.f98 5) [0,4,16,17] [4] [2,3] (woh s) P R (woh s k)=(letI z5:=R .ret (St.mk [(2,.q 0),(3,.bool false)] [] 0 []);letI z1:=(s.length:Int);letI z2:=((0:Int)<=(k:Int)/\(k:Int)<z1:Prop);letI z0:=(↑(UInt8.toNat (List.getD s (k:Int).toNat (0:UInt8))):Int);letI z3:=(z0 - (48:Int));letI z4:=(z3 % (256:Int));wab (decide ((k:Int)<z1)) (z2/\wab (decide (z0<48)) z5 (z2/\wab (decide ((57:Int)<z0)) z5 (inR .i64 (z1 - (k:Int))/\(2:Int)≠(0:Int)/\wab (decide (Int.tmod (z1 - (k:Int)) (2:Int)=1)) (z2/\inR .i64 z4/\inR .i64 ((3:Int) * z4)/\inR .i64 (wa9 s k+3 * z4)/\inR .i64 ((k:Int)+1)/\∃(i':Nat),some (St.mk [(0,.str s),(4,.q (wa9 s k+3 * z4)),(16,.q z1),(17,.q ((k:Int)+1))] [] 0 [])=some (St.mk [(0,.str s),(4,.q (wa9 s i')),(16,.q z1),(17,.q (i':Int))] [] 0 [])/\P i') (z2/\inR .i64 z4/\inR .i64 ((1:Int) * z4)/\inR .i64 (wa9 s k+1 * z4)/\inR .i64 ((k:Int)+1)/\∃(i':Nat),some (St.mk [(0,.str s),(4,.q (wa9 s k+1 * z4)),(16,.q z1),(17,.q ((k:Int)+1))] [] 0 [])=some (St.mk [(0,.str s),(4,.q (wa9 s i')),(16,.q z1),(17,.q (i':Int))] [] 0 [])/\P i')))) (R (.exit 0) (St.mk [(4,.q (wa9 s k))] [] 0 []))):=by kernel_rfl
theorem w2d(s:List UInt8)(R:oR7):wpFn te [(98,.det wep)] [] 0 Tryz.f162 [.str s] [] R=(letI z1:=(s.length:Int);letI z3:=(z1 - (1:Int));letI z2:=(cdF (List.take z3.toNat s));letI z0:=(inR .i64 z3/\((0:Int)<=z1 - (1:Int)/\z1 - (1:Int)<=z1)/\True/\wab z2.2 (inR .i64 z3/\((0:Int)<=z1 - (1:Int)/\z1 - (1:Int)<z1)/\inR .i64 ((48:Int)+z2.1)/\inR .u8 ((48:Int)+z2.1)/\R (.bool (decide ((↑(UInt8.toNat (List.getD s z3.toNat (0:UInt8))):Int)=48+z2.1))) []) (R (.bool false) []));wab (!decide (z1=8)) (wab (!decide (z1=13)) (R (.bool false) []) z0) z0):=by kernel_rfl
variable {C:Ctx} [C.Loose]
theorem w5m(hP:C.P=Tryz.prog)(s:List UInt8)(hm:s.length<=9223372036854775806):waj C 0 59 (wam Tryz.f75 2) (wpx s):=by
 have _:C.Loose:=inferInstance;rintro st Q ⟨h0,hQ1,hQ2⟩;refine waj.mk (prg hP) [] 0 .nil [0,6,7] [0] [2] (wnh s) (λk=>k<=s.length/\∀j,j<k->OKat s j) (λk=>s.length - k) 0 ⟨zL7 _,λj h=>by omega⟩ h0 λk ⟨hk,hall⟩=>?_;rw[w32];refine wak (λh=>?_) (λh=>?_)
 .have hlt:k<s.length:=by omega
  have hret:¬ OKat s k->Q .ret ⟨[(2,.bool false)],[],0,[]⟩:=hQ2 k hlt;have hgo:OKat s k->∃i':Nat,some (St.mk [(0,.str s),(6,.q (s.length:Int)),(7,.q ((k:Int)+1))] [] 0 [])=some (St.mk [(0,.str s),(6,.q (s.length:Int)),(7,.q (i':Int))] [] 0 [])/\(i'<=s.length/\∀j,j<i'->OKat s j)/\s.length - i'<s.length - k:=λhok=>
   ⟨k+1,rfl,⟨by omega,λj hj=>by
    rcases Nat.lt_succ_iff_lt_or_eq.1 hj with hj | rfl
    .exact hall j hj
    .exact hok⟩,by omega⟩
  unfold OKat at hret hgo;simp only[tN7,inR]
  repeat' (first | (refine wak (λ_=>?_) (λ_=>?_)) | (refine wa7 (λ_=>?_) (λ_=>?_)) | (refine And.intro (by omega) ?_) | fail)
  all_goals (first | exact hret (by omega) | exact hgo (by omega))
 .exact hQ1 λj hj=>hall j (by omega)
theorem wrs(hP:C.P=Tryz.prog):wah C 75 wf2:=by
 rintro args objs U Os vc h hvc;unfold wf2 at h;split at h<;>cases h;rename_i s;refine wah.wpL (prg hP) [] [(2,wpx s)] 0 .nil (hP ▸ Tryz.func75) rfl rfl rfl [(wam Tryz.f75 2,wpx s)] (by kernel_rfl) ⟨w5m hP s hvc,trivial⟩ ?_;rw[w33];refine⟨rfl,λhall=>wak (λh1=>⟨congrArg AV.bool ?_,rfl⟩) (λh1=>⟨congrArg AV.bool ?_,rfl⟩),λk hk hno=>⟨congrArg AV.bool ?_,rfl⟩⟩
 .by_cases h2:s.length<=24
  .rw[(wk0 s).2 ⟨⟨by omega,h2⟩,hall⟩];exact decide_eq_true (by omega)
  .rw[decide_eq_false (by omega)]
   cases hn:wa5 s with
   |false=>rfl
   |true=>exact absurd ((wk0 s).1 hn).1.2 h2
 .cases hn:wa5 s with
  |false=>rfl
  |true=>exact absurd ((wk0 s).1 hn).1.1 (by omega)
 .cases hn:wa5 s with
  |false=>rfl
  |true=>exact absurd (((wk0 s).1 hn).2 k hk) hno
theorem w8g(hP:C.P=Tryz.prog)(s:List UInt8):waj C 0 50 (wam Tryz.f98 5) (wp9 s):=by
 have _:C.Loose:=inferInstance;rintro st Q ⟨h0,hlen,hQ⟩;have hQ:=wbv hQ;refine waj.mk (prg hP) [] 0 .nil [0,4,16,17] [4] [2,3] (woh s) (λk=>k<=s.length/\∀j,j<k->48<=(s.getD j 0).toNat/\(s.getD j 0).toNat<=57) (λk=>s.length - k) 0 ⟨zL7 _,λj h=>by omega⟩ h0 λk ⟨hk,hall⟩=>?_;rw[w5b];have hb:=wy5 k hk hall;refine wak (λh=>?_) (λh=>?_)
 .have hlt:k<s.length:=by omega
  have hret:¬ (48<=(s.getD k 0).toNat/\(s.getD k 0).toNat<=57)->Q .ret ⟨[(2,.q 0),(3,.bool false)],[],0,[]⟩:=λhno=>hQ.2 (by
   cases ha:s.all wbj with
   |false=>rfl
   |true=>exact absurd (wle ha k hlt) hno)
  have e:Int.tmod (↑s.length - ↑k) 2=(↑s.length - ↑k) % 2:=Int.tmod_eq_emod_of_nonneg (by omega);have hs:wa9 s (k+1)=wa9 s k+(1+2 * ((↑s.length - ↑k) % 2)) * (↑(s.getD k 0).toNat - 48):=rfl;have hgo:(48<=(s.getD k 0).toNat/\(s.getD k 0).toNat<=57)->(k+1<=s.length/\∀j,j<k+1->48<=(s.getD j 0).toNat/\(s.getD j 0).toNat<=57)/\s.length - (k+1)<s.length - k:=λhok=>
   ⟨⟨by omega,λj hj=>by
    rcases Nat.lt_succ_iff_lt_or_eq.1 hj with hj | rfl
    .exact hall j hj
    .exact hok⟩,by omega⟩
  simp only[tN7,inR,e];refine⟨by omega,wak (λh1=>hret (by omega)) (λh1=>⟨by omega,wak (λh2=>hret (by omega)) (λh2=>⟨by omega,by omega,?_⟩)⟩)⟩;have hgo:=hgo (by omega);have e3:((s.getD k 0).toNat - 48:Int) % 256=(s.getD k 0).toNat - 48:=by omega
  rw[e3];refine wak (λh3=>?_) (λh3=>?_)
  .rw[h3] at hs;exact⟨by omega,by omega,by omega,by omega,by omega,k+1,by rw[hs];rfl,hgo⟩
  .have h3:(↑s.length - ↑k:Int) % 2=0:=by omega
   rw[h3] at hs;exact⟨by omega,by omega,by omega,by omega,by omega,k+1,by rw[hs];rfl,hgo⟩
 .have hks:k=s.length:=by omega
  rw[hks];exact hQ.1 (w84 λj hj=>hall j (by omega))
theorem cdR_ok(hP:C.P=Tryz.prog):wah C 98 wep:=by
 rintro args objs U Os vc h hvc;unfold wep at h;split at h<;>cases h;rename_i s;refine wah.wpL (prg hP) [] [(5,wp9 s)] 0 .nil (hP ▸ Tryz.func98) rfl rfl rfl [(wam Tryz.f98 5,wp9 s)] (by kernel_rfl) ⟨w8g hP s,trivial⟩ ?_;rw[nf_cdR]
 have main:(s.length=7∨s.length=12)->wab (s.all wbj) ((10:Int)≠0/\inR .i64 (10 - Int.tmod (wa9 s s.length) 10)/\(10:Int)≠0/\AV.tuple [.q (Int.tmod (10 - Int.tmod (wa9 s s.length) 10) 10),.bool true]= .tuple [.q (cdF s).1,.bool (cdF s).2]/\([]:List (Nat×AObj))=[])
   (AV.tuple [.q 0,.bool false]= .tuple [.q (cdF s).1,.bool (cdF s).2]/\([]:List (Nat×AObj))=[]):=by
  intro hl;have hd:wbm s 7 12=s.all wbj:=by
   unfold wbm
   rcases hl with h | h<;>simp[h]
  refine waw (λha=>?_) (λha=>?_)
  .have hb:=wl6 ha s.length (lR7 _);have e:Int.tmod (wa9 s s.length) 10=wa9 s s.length % 10:=Int.tmod_eq_emod_of_nonneg (by omega);rw[e,Int.tmod_eq_emod_of_nonneg (by omega)];refine⟨by omega,by simp only[inR];omega,by omega,?_,rfl⟩;simp[cdF,hd,ha]
  .refine⟨?_,rfl⟩;simp[cdF,hd,ha]
 refine wa7 (λh1=>wa7 (λh2=>⟨?_,rfl⟩) (λh2=>⟨rfl,by omega,main (by omega)⟩)) (λh1=>⟨rfl,by omega,main (by omega)⟩);have hd:wbm s 7 12=false:=by unfold wbm;rw[decide_eq_false h1,decide_eq_false h2];rfl
 simp[cdF,hd]
theorem wt4(hP:C.P=Tryz.prog):wah C 162 wcn:=by
 rintro args objs U Os vc h hvc;unfold wcn at h;split at h<;>cases h;rename_i s;refine wah.wp0 (prg hP) [(98,.det wep)] 0 (.cons (cdR_ok hP) .nil) (hP ▸ Tryz.func162) rfl rfl rfl ?_;rw[w2d];have e1:∀h:s.length=8∨s.length=13,(↑s.length - 1:Int).toNat=s.length - 1:=by intro h;omega
 have hcd:=w8h (s.take (s.length - 1));have last:(s.length=8∨s.length=13)->(s.all wbj=((cdF (s.take (s.length - 1))).2 && wbj (s.getD (s.length - 1) 0))):=by
  intro hl;have h2:(cdF (s.take (s.length - 1))).2=(s.take (s.length - 1)).all wbj:=by
   have hd:wbm (s.take (s.length - 1)) 7 12=(s.take (s.length - 1)).all wbj:=by
    unfold wbm;have:(s.take (s.length - 1)).length=s.length - 1:=by simp
    rcases hl with h | h<;>simp[h]
   unfold cdF;rw[hd]
   cases (s.take (s.length - 1)).all wbj<;>rfl
  have hs:s=s.take (s.length - 1)++[s.getD (s.length - 1) 0]:=by
   have hlt:s.length - 1<s.length:=by omega
   have:=(List.take_append_drop (s.length - 1) s).symm;rw[List.drop_eq_getElem_cons hlt] at this;have e:s.getD (s.length - 1) 0=s[s.length - 1]:=by simp[List.getD,hlt]
   rw[e];have hd:List.drop (s.length - 1+1) s=[]:=List.drop_eq_nil_of_le (by omega);rw[hd] at this;exact this
  rw[h2]
  conv=>lhs;rw[hs]
  simp
 have hv:(s.length=8∨s.length=13)->wbc s=((cdF (s.take (s.length - 1))).2 && decide ((s.getD (s.length - 1) 0).toNat=48+(cdF (s.take (s.length - 1))).1)):=by
  intro hl;have hd:wbm s 8 13=s.all wbj:=by
   unfold wbm
   rcases hl with h | h<;>simp[h]
  unfold wbc;rw[hd,last hl]
  cases hc:(cdF (s.take (s.length - 1))).2 with
  |false=>rfl
  |true=>
   simp only[Bool.true_and]
   cases hi:wbj (s.getD (s.length - 1) 0) with
   |true=>
    refine decide_eq_decide.2 ?_;omega
   |false=>
    refine(decide_eq_false λhe=>?_).symm;simp only[wbj,Bool.and_eq_false_imp,decide_eq_true_eq,decide_eq_false_iff_not] at hi;omega
 have main:(s.length=8∨s.length=13)->wab (cdF (s.take (s.length - 1))).2 (inR .i64 (↑s.length - 1)/\(0<=(↑s.length - 1:Int)/\(↑s.length - 1:Int)<↑s.length)/\inR .i64 (48+(cdF (s.take (s.length - 1))).1)/\inR .u8 (48+(cdF (s.take (s.length - 1))).1)/\
   AV.bool (decide ((↑(s.getD (s.length - 1) 0).toNat:Int)=48+(cdF (s.take (s.length - 1))).1))= .bool (wbc s)/\([]:List (Nat×AObj))=[]) (AV.bool false= .bool (wbc s)/\([]:List (Nat×AObj))=[]):=by
  intro hl;rw[hv hl];refine waw (λhc=>?_) (λhc=>?_)
  .simp only[inR,hc,Bool.true_and];exact⟨by omega,by omega,by omega,by omega,by simp⟩
  .simp[hc]
 refine wa7 (λh1=>wa7 (λh2=>⟨?_,rfl⟩) (λh2=>?_)) (λh1=>?_)
 .have hd:wbm s 8 13=false:=by unfold wbm;rw[decide_eq_false h1,decide_eq_false h2];rfl
  simp[wbc,hd]
 .have hl:s.length=8∨s.length=13:=by omega
  rw[e1 hl];exact⟨by simp only[inR];omega,by omega,trivial,main hl⟩
 .have hl:s.length=8∨s.length=13:=by omega
  rw[e1 hl];exact⟨by simp only[inR];omega,by omega,trivial,main hl⟩
end Go.Eng
namespace Go.Eng
open Go.Proofs Go.RowKit
variable {C:Ctx} [C.Loose]
set_option maxRecDepth 20000
theorem nf_fold(n k:Int)(R:oR7):wpFn te [] [] 0 Tryz.f35 [.q n,.q k] [] R=(letI z0:=(Int.tmod (IntKind.wrap IntKind.u64 n) (IntKind.wrap IntKind.u64 (max k (1:Int))));True/\True/\IntKind.wrap IntKind.u64 (max k (1:Int))≠(0:Int)/\inR .i64 z0/\R (.q z0) []):=by kernel_rfl
theorem nf_next(n:Nat)(v:Nat->Int)(a k:Int)(R:oR7):wpFn te [] [] 0 Tryz.f42 [.ptr 0 0,.q k] [.cells [.view 1 n (wac v),.q a] 27] R=(letI z1:=([(0,.cells [.view 1 n (wac v),.q (a+1)] 27)]:oL7);letI z0:=(IntKind.wrap IntKind.u64 (max k (1:Int)));letI z3:=Int.tmod (IntKind.wrap IntKind.u64 0) z0;letI z2:=Int.tmod (IntKind.wrap IntKind.u64 (v a.toNat)) z0;wab (decide (a<(n:Int))) (((0:Int)<=a/\a<(n:Int)/\1=1)/\inR .i64 (a+1)/\True/\True/\IntKind.wrap IntKind.u64 (max k (1:Int))≠(0:Int)/\inR .i64 z2/\R (.q z2) z1) (inR .i64 (a+1)/\True/\True/\IntKind.wrap IntKind.u64 (max k (1:Int))≠(0:Int)/\inR .i64 z3/\R (.q z3) z1)):=by kernel_rfl
theorem wtr(n:Int):IntKind.wrap .u64 n=n % 18446744073709551616:=by
 show n % (2:Int) ^ 64=_;rfl
theorem wrq{k:Int}(h:1<=k/\k<=1000000)(x:Int):IntKind.wrap .u64 (max k 1)≠0/\Int.tmod (IntKind.wrap .u64 x) (IntKind.wrap .u64 (max k 1))=web x k:=by
 have e:IntKind.wrap .u64 (max k 1)=k:=by
  rw[wtr,Int.max_eq_left h.1];omega
 rw[e,wtr];have hx:0<=x % 18446744073709551616:=by omega
 rw[Int.tmod_eq_emod_of_nonneg hx];exact⟨by omega,rfl⟩
theorem fold_ok(hP:C.P=Tryz.prog):wah C 35 wn3:=by
 have _:C.Loose:=inferInstance;rintro args objs U Os vc h hvc;unfold wn3 at h;split at h<;>cases h;rename_i n k;refine wah.wp0 (prg hP) [] 0 .nil (hP ▸ Tryz.func35) rfl rfl rfl ?_;rw[nf_fold];obtain⟨h1,h2⟩:=wrq hvc n;have h3:=wjq hvc.1 n;rw[h2];exact⟨trivial,trivial,h1,by simp only[inR];omega,rfl,rfl⟩
theorem wcc(hP:C.P=Tryz.prog):wah C 42 wbf:=by
 have _:C.Loose:=inferInstance;rintro args objs U Os vc h hvc;unfold wbf at h;split at h<;>cases h;rename_i k sz n f a t;obtain⟨rfl,rfl,hf,hk,ha⟩:=hvc;rw[hf];have hv:vInt (wac (vInt f))=vInt f:=rfl;rw[hv];generalize vInt f=v at *;refine wah.wp0 (prg hP) [] 0 .nil (hP ▸ Tryz.func42) rfl rfl rfl ?_;rw[nf_next];unfold waa;refine wak (λh=>?_) (λh=>?_)
 .obtain⟨h1,h2⟩:=wrq hk (v a.toNat);have h3:=wjq hk.1 (v a.toNat);rw[h2,decide_eq_true h];exact⟨⟨by omega,by omega,rfl⟩,by simp only[inR];omega,trivial,trivial,h1,by simp only[inR];omega,rfl,rfl⟩
 .obtain⟨h1,h2⟩:=wrq hk 0;have h3:=wjq hk.1 0;rw[h2,decide_eq_false h];exact⟨by simp only[inR];omega,trivial,trivial,h1,by simp only[inR];omega,rfl,rfl⟩
theorem w4m(V j:Nat)(P:Nat->Prop)(R:eR7):wa1 ⟨te,[],[],0,39,0⟩ (wa2 Tryz.f43 4) [3,4,5] [4] [] (wn1 V) P R (wn1 V j)=(letI z0:=(↑(pw V j):Int);wab (decide ((0:Int)<=6 - (j:Int))) ((10:Int)≠(0:Int)/\inR .i64 ((48:Int)+Int.tmod z0 (10:Int))/\inR .u8 ((48:Int)+Int.tmod z0 (10:Int))/\((0:Int)<=6 - (j:Int)/\(6:Int) - (j:Int)<(↑7:Int))/\(List.length [AV.int .u8 ((48:Int)+Int.tmod z0 (10:Int))]=1/\((6:Int) - (j:Int)).toNat<7/\1=1)/\((10:Int)≠(0:Int)/\inR .i64 (Int.tdiv z0 (10:Int)))/\inR .i64 ((6:Int) - (j:Int) - (1:Int))/\∃(i':Nat),(TEq [(3,.q (Int.tdiv z0 (10:Int))),(4,.own 0 7),(5,.q ((6:Int) - (j:Int) - (1:Int)))] [(3,.q (↑(pw V i'):Int)),(4,.own 0 7),(5,.q ((6:Int) - (i':Int)))]/\wai [(0,.row 5 1 7 (λ(k:Nat)=>if k=Int.toNat ((6:Int) - (j:Int)) then [.int .u8 ((48:Int)+Int.tmod z0 (10:Int))] else [.int .u8 (bif decide (7<=k+j) then dgI V k else (0:Int))]) false)] [(0,.row 5 1 7 (λ(k:Nat)=>[.int .u8 (bif decide (7<=k+i') then dgI V k else (0:Int))]) false)])/\P i') ((∀(i:Nat),i<7->true=true)/\∃(O':oL7),wai [(0,.row 5 1 7 (λ(k:Nat)=>[.int .u8 (bif decide (7<=k+j) then dgI V k else (0:Int))]) false)] O'/\R (.exit 0) (St.mk [(4,.own 0 7)] O' 1 []))):=by kernel_rfl
theorem nf_id(n:Int)(V:Nat)(R:oR7):wpFn te [(35,.det wn3),(98,.det wep)] [(4,L_id V)] 2 Tryz.f43 [.q n] [] R=(letI z4:=(List.flatten (List.replicate (nat_lit 0) [.int .u8 0]):List AV);letI z3:=cdF (waq 7 (wbd V));letI z2:=((7<=7/\1=1)/\∀(i:Nat),i<7->isU8 (wbd V i)=true:Prop);letI z1:=1000000;letI z0:=(wap 1 (.int .u8 ((48:Int)+z3.1)::List.append [] z4));((1:Int)<=z1/\z1<=z1)/\inR .i64 (z1+web n z1)/\((0:Int)<=7/\(7:Int)<=7/\(↑1:Int) * (7:Int)<=281474976710656/\(7:Int)<=9223372036854775807)/\(TEq [(3,.q (z1+web n z1)),(4,.own 0 7),(5,.q 6)] [(3,.q (↑(pw V 0):Int)),(4,.own 0 7),(5,.q ((6:Int) - (↑0:Int)))]/\wai [(0,.row 5 1 7 (λ(_x:Nat)=>[.int .u8 0]) false)] [(0,.row 5 1 7 (λ(k:Nat)=>[.int .u8 (bif decide (7<=k+0) then dgI V k else (0:Int))]) false)])/\V<2000000/\z2/\True/\z2/\inR .i64 ((48:Int)+z3.1)/\inR .u8 ((48:Int)+z3.1)/\(1<=16777216/\1=1/\1<=9223372036854775807)/\((1<=1/\1=1)/\∀(i:Nat),i<1->isU8 (wap 1 (.int .u8 ((48:Int)+z3.1)::List.append [] z4) i)=true)/\(waq 7 (wbd V)).length+(waq 1 z0).length<=9223372036854775807/\R (.str (waq 7 (wbd V)++waq 1 z0)) []):=by kernel_rfl
theorem pw_step(V j:Nat):Int.tdiv (pw V j:Nat) 10=(pw V (j+1):Nat):=by
 rw[Int.tdiv_eq_ediv_of_nonneg (Int.natCast_nonneg _)];unfold pw;rw[Nat.pow_succ, ← Nat.div_div_eq_div_mul];rfl
theorem pw_le(V j:Nat):pw V j<=V:=Nat.div_le_self _ _
theorem id_loop(hP:C.P=Tryz.prog)(V:Nat):waj C 0 39 (wam Tryz.f43 4) (L_id V):=by
 have _:C.Loose:=inferInstance;rintro st Q ⟨h0,hv,hQ⟩;refine waj.mk (prg hP) [] 0 .nil [3,4,5] [4] [] (wn1 V) (λj=>j<=7) (λj=>7 - j) 0 (by omega) h0 (λj hj=>?_) (λi=>⟨λ_ _=>rfl,trivial⟩);rw[w4m];have hle:=pw_le V j;have ht:Int.tmod (pw V j:Nat) 10=((pw V j % 10:Nat):Int):=by
  rw[Int.tmod_eq_emod_of_nonneg (Int.natCast_nonneg _)];rfl
 rw[ht,pw_step];have hle':=pw_le V (j+1);have hm:=Nat.mod_lt (pw V j) (show 0<10 by omega);refine wak (λh=>?_) (λh=>⟨λ_ _=>rfl,_,?_,hQ⟩)
 .refine⟨by omega,by simp only[inR];omega,by simp only[inR];omega,⟨h,by omega⟩,⟨rfl,by omega,rfl⟩,⟨by omega,by simp only[inR];omega⟩,by simp only[inR];omega,j+1,⟨?_,⟨rfl,rfl,rfl,rfl,rfl,λk hk=>?_⟩,trivial⟩,by omega,by omega⟩
  .rw[show (6:Int) - (j:Int) - 1=6 - ((j+1:Nat):Int) by omega];rfl
  .dsimp only
   split
   .rename_i e;have e':6 - k=j:=by omega
    rw[decide_eq_true (show 7<=k+(j+1) by omega)];unfold dgI;rw[e'];rfl
   .rename_i e
    by_cases h7:7<=k+j
    .rw[decide_eq_true h7,decide_eq_true (show 7<=k+(j+1) by omega)]
    .rw[decide_eq_false h7,decide_eq_false (show ¬ 7<=k+(j+1) by omega)]
 .have:j=7:=by omega
  subst this;refine⟨⟨rfl,rfl,rfl,rfl,rfl,λk hk=>?_⟩,trivial⟩;dsimp only
  rw[decide_eq_true (show 7<=k+7 by omega)];rfl
theorem wlf(hP:C.P=Tryz.prog):wah C 43 S_id:=by
 rintro args objs U Os vc h hvc;unfold S_id at h;split at h<;>cases h;rename_i n;refine wah.wpL (prg hP) [(35,.det wn3),(98,.det wep)] [(4,L_id (idV n))] 2 (.cons (fold_ok hP) (.cons (cdR_ok hP) .nil)) (hP ▸ Tryz.func43) rfl rfl rfl [(wam Tryz.f43 4,L_id (idV n))] (by kernel_rfl) ⟨id_loop hP _,trivial⟩ ?_;rw[nf_id];have hf:=wjq (show (1:Int)<=1000000 by omega) n;have hV:((idV n:Nat):Int)=1000000+web n 1000000:=by unfold idV;omega
 have hl:=wjl n;have hc:=wy6 (id7 n);refine⟨⟨by omega,by omega⟩,by simp only[inR];omega,⟨by omega,by omega,by decide,by omega⟩,⟨?_,⟨rfl,rfl,rfl,rfl,rfl,λk hk=>?_⟩,trivial⟩,by omega,⟨⟨by omega,rfl⟩,λ_ _=>rfl⟩,trivial,⟨⟨by omega,rfl⟩,λ_ _=>rfl⟩,?_,?_,⟨by omega,rfl,by omega⟩,⟨⟨by omega,rfl⟩,λi hi=>?_⟩,?_,rfl,rfl⟩
 .rw[← hV];show TEq [(3,.q ((idV n:Nat):Int)),(4,.own 0 7),(5,.q 6)] [(3,.q ((idV n / 1:Nat):Int)),(4,.own 0 7),(5,.q 6)];rw[Nat.div_one];rfl
 .dsimp only
  rw[decide_eq_false (show ¬ 7<=k+0 by omega)];rfl
 .show inR .i64 (48+(cdF (id7 n)).1);simp only[inR];omega
 .show inR .u8 (48+(cdF (id7 n)).1);simp only[inR];omega
 .obtain rfl:i=0:=by omega
  rfl
 .show (id7 n).length+_<=_;rw[hl];simp[waq]
theorem w2w(s:List UInt8)(R:oR7):wpFn te [(72,.det wcf)] [] 0 Tryz.f178 [.str s] [] R=((s.length<4294967281/\0<4294967281/\0<4294967281/\0<4294967281)/\R (.bool !decide (msgF (MG.mk s (0:Int) (0:Int) (VT.mk [] [] (0:Int) (0:Int) (0:Int) (0:Int) []) (DT.mk [] [] (0:Int) [] (0:Int)))=110)) []):=by kernel_rfl
theorem w2f(o p:List UInt8)(per u tv:Int)(R:oR7):wpFn te [(178,.det wmt),(160,.det wcn)] [] 0 Tryz.f145 [.agg [.str o,.str p,.q per,.q u,.q tv]] [] R=(letI z0:=R (.bool false) [];o.length<4294967281/\wab (wa5 o) (True/\wab (wbc p) (wab (decide ((0:Int)<=per)) (wab (decide (per<=5999)) (wab (decide ((1:Int)<=min u tv)) (R (.bool (decide (max u tv<=1099511627776))) []) z0) z0) z0) z0) z0):=by kernel_rfl
theorem nf_sv(g:Nat->RW)(n:Nat)(R:oR7):wpFn te [(145,.det wc4)] [(4,L_sv g n)] 0 Tryz.f105 [.view 5 n (wae g)] [] R=(wab (decide ((24000:Int)<(n:Int))) (R (.q 130) []) (some (St.mk [(8,.view 5 n (wae g)),(9,.q (n:Int)),(10,.q 0)] [] 0 [])=some (St.mk [(8,.view 5 n (wae g)),(9,.q (n:Int)),(10,.q (↑0:Int))] [] 0 [])/\n<=24000/\(∀(i:Nat),i<n->(g i).o.length<4294967281)/\wab (wb5 g n) (R (.q 0) []) (R (.q 131) []))):=by kernel_rfl
theorem w2s(g:Nat->RW)(n k:Nat)(P:Nat->Prop)(R:eR7):wa1 ⟨te,[(145,.det wc4)],[],0,18,0⟩ (wa2 Tryz.f105 4) [8,9,10] [] [2] (S_sv g n) P R (S_sv g n k)=(letI z0:=(g (k:Int).toNat);wab (decide ((k:Int)<(n:Int))) (((0:Int)<=(k:Int)/\(k:Int)<(n:Int)/\5=5)/\z0.o.length<4294967281/\wab (!rowF (RW.mk z0.o z0.p z0.per z0.u z0.tv)) (R .ret (St.mk [(2,.q 131)] [] 0 [])) (inR .i64 ((k:Int)+1)/\∃(i':Nat),some (St.mk [(8,.view 5 n (wae g)),(9,.q (n:Int)),(10,.q ((k:Int)+1))] [] 0 [])=some (St.mk [(8,.view 5 n (wae g)),(9,.q (n:Int)),(10,.q (i':Int))] [] 0 [])/\P i')) (R (.exit 0) (St.mk [] [] 0 []))):=by kernel_rfl
theorem w3x(n:Nat)(v:Nat->Int)(a:Int)(R:oR7):wpFn te [(42,.det wbf)] [] 0 Tryz.f80 [.ptr 0 0] [.cells [.view 1 n (wac v),.q a] 27] R=(letI z0:=vInt (wac v);(3<=16777216/\1=1/\3<=9223372036854775807)/\(27=27/\1=1/\wac v=wac z0/\((1:Int)<=3/\(3:Int)<=1000000)/\(0:Int)<=a/\a<=4611686018427387904)/\((0:Int)<=waa n z0 a (3:Int)/\waa n z0 a (3:Int)<(↑3:Int))/\((waa n z0 a (3:Int)).toNat<3/\1=1)/\R (.str (List.getD [[(111:UInt8),49],[(111:UInt8),50],[(112:UInt8)]] (waa n z0 a (3:Int)).toNat [])) [(0,.cells [.view 1 n (wac v),.q (a+1)] 27)]):=by kernel_rfl
theorem w2p(n:Nat)(v:Nat->Int)(a:Int)(R:oR7):wpFn te [(42,.det wbf),(43,.det S_id)] [] 0 Tryz.f81 [.ptr 0 0] [.cells [.view 1 n (wac v),.q a] 27] R=((27=27/\1=1/\wac v=wac (vInt (wac v))/\((1:Int)<=4/\(4:Int)<=1000000)/\(0:Int)<=a/\a<=4611686018427387904)/\True/\R (.str (idF (waa n (vInt (wac v)) a (4:Int)))) [(0,.cells [.view 1 n (wac v),.q (a+1)] 27)]):=by kernel_rfl
theorem nf_trow(n:Nat)(v:Nat->Int)(a:Int)(R:oR7):wpFn te [(42,.det wbf),(80,.det wdc),(81,.det wdb)] [] 0 Tryz.f37 [.ptr 0 0] [.cells [.view 1 n (wac v),.q a] 27] R=(letI z3:=(a+1+1+1+1+1);letI z2:=4611686018427387904;letI z1:=(a+1+1+1+1);letI z0:=vInt (wac v);(27=27/\1=1/\wac v=wac z0/\((1:Int)<=20/\(20:Int)<=1000000)/\(0:Int)<=a/\a<=z2)/\inR .i64 ((1:Int)+waa n z0 a (20:Int))/\(27=27/\1=1/\wac v=wac z0/\(0:Int)<=a+1/\a+1<=4611686018427387000)/\(27=27/\1=1/\wac v=wac z0/\(0:Int)<=a+1+1/\a+1+1<=4611686018427387000)/\(27=27/\1=1/\wac v=wac z0/\((1:Int)<=4/\(4:Int)<=1000000)/\(0:Int)<=a+1+1+1/\a+1+1+1<=z2)/\inR .i64 ((1440:Int)+waa n z0 (a+1+1+1) (4:Int))/\(27=27/\1=1/\wac v=wac z0/\((1:Int)<=30/\(30:Int)<=1000000)/\(0:Int)<=a+1+1+1+1/\a+1+1+1+1<=z2)/\inR .i64 ((90:Int)+waa n z0 z1 (30:Int))/\inR .i64 (((1:Int)+waa n z0 a (20:Int)) * ((90:Int)+waa n z0 z1 (30:Int)))/\(27=27/\1=1/\wac v=wac z0/\((1:Int)<=3/\(3:Int)<=1000000)/\(0:Int)<=a+1+1+1+1+1/\a+1+1+1+1+1<=z2)/\inR .i64 (((1:Int)+waa n z0 a (20:Int)) * ((90:Int)+waa n z0 z1 (30:Int))+waa n z0 z3 (3:Int))/\(True/\True)/\R (.agg [.str (outF (waa n z0 (a+1) (3:Int))),.str (idF (waa n z0 (a+1+1) (4:Int))),.q ((1440:Int)+waa n z0 (a+1+1+1) (4:Int)),.q ((1:Int)+waa n z0 a (20:Int)),.q (((1:Int)+waa n z0 a (20:Int)) * ((90:Int)+waa n z0 z1 (30:Int))+waa n z0 z3 (3:Int))]) [(0,.cells [.view 1 n (wac v),.q (a+1+1+1+1+1+1)] 27)]):=by kernel_rfl
theorem w0r(hP:C.P=Tryz.prog)(hL:∀w,C.laid w->LaidW w):wah C 178 wmt:=by
 rintro args objs U Os vc h hvc;unfold wmt at h;split at h<;>cases h;rename_i s;refine wah.wp0 (prg hP) [(72,.det wcf)] 0 (.cons (wjb hP hL) .nil) (hP ▸ Tryz.func178) rfl rfl rfl ?_;rw[w2w];refine⟨⟨hvc,by omega,by omega,by omega⟩,?_,rfl⟩;unfold msgF
 cases wa5 s<;>rfl
theorem wt3(hP:C.P=Tryz.prog)(hL:∀w,C.laid w->LaidW w):wah C 145 wc4:=by
 rintro args objs U Os vc h hvc;unfold wc4 at h;split at h<;>cases h;rename_i o p per u tv;refine wah.wp0 (prg hP) [(178,.det wmt),(160,.det wcn)] 0 (.cons (w0r hP hL) (.cons (wj9 hP (wis hP)) .nil)) (hP ▸ Tryz.func145) rfl rfl rfl ?_;rw[w2f];unfold rowF wbi;dsimp only
 generalize wa5 o=b1,wbc p=b2,decide (0<=per)=b3,decide (per<=5999)=b4,decide (1<=min u tv)=b5,decide (max u tv<=1099511627776)=b6;refine⟨hvc,?_⟩
 cases b1
 .exact⟨rfl,rfl⟩
 refine⟨trivial,?_⟩
 cases b2
 .exact⟨rfl,rfl⟩
 cases b3
 .exact⟨rfl,rfl⟩
 cases b4
 .exact⟨rfl,rfl⟩
 cases b5<;>exact⟨rfl,rfl⟩
theorem wti{g:Nat->RW}{k:Nat}(h:rowF (g k)=false):∀n,k<n->wb5 g n=false
 |0,hn=>by omega
 |n+1,hn=>by
  rw[wb5]
  by_cases e:k=n
  .subst e;rw[h,Bool.and_false]
  .rw[wti h n (by omega),Bool.false_and]
theorem sv_loop(hP:C.P=Tryz.prog)(hL:∀w,C.laid w->LaidW w)(g:Nat->RW)(n:Nat):waj C 0 18 (wam Tryz.f105 4) (L_sv g n):=by
 rintro st Q ⟨h0,hn,hs,hQ⟩;have hR:=wbv hQ;refine waj.mk (prg hP) [(145,.det wc4)] 0 (.cons (wt3 hP hL) .nil) [8,9,10] [] [2] (S_sv g n) (λk=>k<=n/\wb5 g k=true) (λk=>n - k) 0 ⟨zL7 _,rfl⟩ h0 (λk hk=>?_);obtain⟨hkn,hok⟩:=hk;rw[w2s,tN7];refine wak (λh1=>?_) (λh1=>?_)
 .refine⟨⟨by omega,by omega,rfl⟩,hs k (by omega),wcw (λh2=>hR.2 (wti h2 n (by omega))) (λh2=>⟨by simp only[inR];omega,k+1,rfl,⟨by omega,?_⟩,by omega⟩)⟩;rw[wb5,hok];exact h2
 .have:k=n:=by omega
  subst this;exact hR.1 hok
theorem wqq(hP:C.P=Tryz.prog)(hL:∀w,C.laid w->LaidW w):wah C 105 wei:=by
 rintro args objs U Os vc h hvc;unfold wei at h;split at h<;>cases h;rename_i n f;obtain⟨hn,hf,hs⟩:=hvc;generalize rwOf f=g at *;subst hf;unfold svF;refine wah.wpL (prg hP) [(145,.det wc4)] [(4,L_sv g n)] 0 (.cons (wt3 hP hL) .nil) (hP ▸ Tryz.func105) rfl rfl rfl [(wam Tryz.f105 4,L_sv g n)] (by kernel_rfl) ⟨sv_loop hP hL g n,trivial⟩ ?_;rw[nf_sv];refine wak (λh1=>?_) (λh1=>⟨rfl,by omega,hs,waw (λh2=>?_) (λh2=>?_)⟩)
 .rw[decide_eq_true (show 24000<n by omega)];exact⟨rfl,rfl⟩
 .rw[decide_eq_false (show ¬ 24000<n by omega),h2];exact⟨rfl,rfl⟩
 .rw[decide_eq_false (show ¬ 24000<n by omega),h2];exact⟨rfl,rfl⟩
theorem whe(hP:C.P=Tryz.prog):wah C 80 wdc:=by
 rintro args objs U Os vc h hvc;unfold wdc at h;split at h<;>cases h;rename_i sz n f a t;obtain⟨rfl,rfl,hf,h1,h2⟩:=hvc;rw[hf];generalize vInt f=v;have hw:vInt (wac v)=v:=rfl;refine wah.wp0 (prg hP) [(42,.det wbf)] 0 (.cons (wcc hP) .nil) (hP ▸ Tryz.func80) rfl rfl rfl ?_;rw[w3x];have r:=wa0 (show (1:Int)<=3 by omega) n v a;exact⟨⟨by omega,rfl,by omega⟩,⟨rfl,rfl,rfl,⟨by omega,by omega⟩,by omega,by omega⟩,⟨r.1,r.2⟩,⟨by rw[hw];omega,rfl⟩,rfl,rfl⟩
theorem wg4(hP:C.P=Tryz.prog):wah C 81 wdb:=by
 rintro args objs U Os vc h hvc;unfold wdb at h;split at h<;>cases h;rename_i sz n f a t;obtain⟨rfl,rfl,hf,h1,h2⟩:=hvc;rw[hf];generalize vInt f=v;have hw:vInt (wac v)=v:=rfl;refine wah.wp0 (prg hP) [(42,.det wbf),(43,.det S_id)] 0 (.cons (wcc hP) (.cons (wlf hP) .nil)) (hP ▸ Tryz.func81) rfl rfl rfl ?_;rw[w2p];exact⟨⟨rfl,rfl,rfl,⟨by omega,by omega⟩,by omega,by omega⟩,trivial,rfl,rfl⟩
theorem wvc(n:Nat)(v:Nat->Int)(a:Int):1<=(rowV n v a).u/\(rowV n v a).u<=20/\90<=(rowV n v a).tv/\(rowV n v a).tv<=2382:=by
 have r1:=wa0 (show (1:Int)<=20 by omega) n v a;have r2:=wa0 (show (1:Int)<=30 by omega) n v (a+1+1+1+1);have r3:=wa0 (show (1:Int)<=3 by omega) n v (a+1+1+1+1+1);have b1:(1+waa n v a 20) * (90+waa n v (a+1+1+1+1) 30)<=20 * 119:=Int.mul_le_mul (by omega) (by omega) (by omega) (by omega);have b2:1 * 90<=(1+waa n v a 20) * (90+waa n v (a+1+1+1+1) 30):=Int.mul_le_mul (by omega) (by omega) (by omega) (by omega);unfold rowV;dsimp only
 refine⟨by omega,by omega,?_,?_⟩<;>omega
theorem wi6:∀i,i<3->wa5 (List.getD [[111,49],[111,50],[112]] i [])=true/\(List.getD [[111,49],[111,50],[112]] i ([]:List UInt8)).length<=2:=by decide+kernel
theorem wrb(n:Nat)(v:Nat->Int)(a:Int):rowF (rowV n v a)=true/\(rowV n v a).o.length<=2:=by
 obtain⟨b1,b2,b3,b4⟩:=wvc n v a;have r1:=wa0 (show (1:Int)<=3 by omega) n v (a+1);have r2:=wa0 (show (1:Int)<=4 by omega) n v (a+1+1+1);have ho:=wi6 (waa n v (a+1) 3).toNat (by omega);refine⟨?_,ho.2⟩;unfold rowF wbi;rw[show wa5 (rowV n v a).o=true from ho.1,show wbc (rowV n v a).p=true from wd9 _,decide_eq_true (show 0<=(rowV n v a).per by show 0<=1440+waa n v (a+1+1+1) 4;omega),decide_eq_true (show (rowV n v a).per<=5999 by show 1440+waa n v (a+1+1+1) 4<=5999;omega),
  decide_eq_true (show 1<=min (rowV n v a).u (rowV n v a).tv by omega),decide_eq_true (show max (rowV n v a).u (rowV n v a).tv<=1099511627776 by omega)]
 rfl
theorem wql(hP:C.P=Tryz.prog):wah C 37 wfw:=by
 rintro args objs U Os vc h hvc;unfold wfw at h;split at h<;>cases h;rename_i sz n f a t;obtain⟨rfl,rfl,hf,h1,h2⟩:=hvc;rw[hf];generalize vInt f=v;have hw:vInt (wac v)=v:=rfl;refine wah.wp0 (prg hP) [(42,.det wbf),(80,.det wdc),(81,.det wdb)] 0 (.cons (wcc hP) (.cons (whe hP) (.cons (wg4 hP) .nil))) (hP ▸ Tryz.func37) rfl rfl rfl ?_;rw[nf_trow,hw];have r1:=wa0 (show (1:Int)<=20 by omega) n v a;have r2:=wa0 (show (1:Int)<=30 by omega) n v (a+1+1+1+1);have r3:=wa0 (show (1:Int)<=3 by omega) n v (a+1+1+1+1+1);have r4:=wa0 (show (1:Int)<=4 by omega) n v (a+1+1+1);have b1:(1+waa n v a 20) * (90+waa n v (a+1+1+1+1) 30)<=20 * 119:=Int.mul_le_mul (by omega) (by omega) (by omega) (by omega);have b2:1 * 90<=(1+waa n v a 20) * (90+waa n v (a+1+1+1+1) 30):=Int.mul_le_mul (by omega) (by omega) (by omega) (by omega);exact⟨⟨rfl,rfl,rfl,⟨by omega,by omega⟩,by omega,by omega⟩,by simp only[inR];omega,⟨rfl,rfl,rfl,by omega,by omega⟩,⟨rfl,rfl,rfl,by omega,by omega⟩,⟨rfl,rfl,rfl,⟨by omega,by omega⟩,by omega,by omega⟩,by simp only[inR];omega,⟨rfl,rfl,rfl,⟨by omega,by omega⟩,by omega,by omega⟩,by simp only[inR];omega,by simp only[inR];omega,⟨rfl,rfl,rfl,⟨by omega,by omega⟩,by omega,by omega⟩,by simp only[inR];omega,⟨trivial,trivial⟩,rfl,rfl⟩
theorem nf_comb(g:Nat->RW)(n:Nat)(R:oR7):wpFn te [(105,.det wei),(146,.rel wos)] [(6,L_cb g n),(15,L_cr (wa3 g n))] 0 Tryz.f106 [.view 5 n (wae g)] [] R=(letI z4:=entC (wa3 g n);letI z2:=(wa3 g n).length;letI z1:=(∀(i:Nat),i<(wa3 g n).length->true=true:Prop);letI z0:=z4.length;letI z3:=(IT.mk 0 (λ(_x:Nat)=>default) z0 (List.range z0));(n<=1000000/\wae g=wae (rwOf (wae g))/\∀(i:Nat),i<n->(rwOf (wae g) i).o.length<4294967281)/\wab (!decide (svF (rwOf (wae g)) n=0)) (R (.tuple [.nil,.q (svF (rwOf (wae g)) n)]) []) (some (St.mk [(5,.map 0),(18,.view 5 n (wae g)),(19,.q (n:Int)),(20,.q 0)] [(0,.amap (List.map (λ(p:AV×AV)=>(AV.rn (ren 0 [(16,0)]) p.1,AV.rn (ren 0 [(16,0)]) p.2)) []))] 1 [])=some (St.mk [(5,.map 0),(18,.view 5 n (wae g)),(19,.q (n:Int)),(20,.q (↑0:Int))] [(0,.amap (entC (wa3 g 0)))] 1 [])/\n<=24000/\(∀(i:Nat),i<n->rowF (g i)=true)/\(TEq [(9,.own 0 0),(52,.ptr 1 0)] [(9,.own 0 0),(52,.ptr 1 0)]/\wai [(0,.row 61 5 0 (λ(_x:Nat)=>[]) false),(1,.miter 2 z0 (175::z4.length::List.range z0)),(2,.amap (List.map (λ(p:AV×AV)=>(AV.rn (ren 0 [(2,0),(1,1),(0,2)]) p.1,AV.rn (ren 0 [(2,0),(1,1),(0,2)]) p.2)) z4))] [(0,.row 61 5 0 (wae (IT.h z3)) false),(1,.miter 2 z0 (175::IT.c0 z3::IT.left z3)),(2,.amap z4)])/\(wa3 g n).length<=24000/\∀(h:Nat->RW),List.Perm (lst h z2) (wa3 g n)->z1/\61=61/\false=false/\(wa3 g n).length=(wa3 g n).length/\(wa3 g n).length<=1000000/\wae h=wae (rwOf (wae h))/\List.Pairwise (λ(a b:RW)=>wat a b=false) (lst (rwOf (wae h)) z2)/\∀(h_1:Nat->RW),lst h_1 z2=srtR (lst (rwOf (wae h)) z2)->z1/\z1/\∃(O':oL7),wai [(0,.row 61 5 z2 (wae h_1) false)] O'/\R (.tuple [.own 0 z2,.q 0]) O')):=by kernel_rfl
theorem w5c(g:Nat->RW)(n k:Nat)(P:Nat->Prop)(R:eR7):wa1 ⟨te,[],[],0,64,0⟩ (wa2 Tryz.f106 6) [5,18,19,20] [5] [] (S_cb g n) P R (S_cb g n k)=(letI z8:=ren 0 [(0,0)];letI z5:=zvA (.agg [.str ([]),.str ([]),.q 0,.q 0,.q 0]);letI z4:=entC (wa3 g k);letI z2:=(g (k:Int).toNat);letI z3:=([.str z2.o,.str z2.p,.q z2.per]:List AV);letI z0:=(Option.getD (mget z4 (.agg z3)) z5);letI z7:=was z0 (0+1+1+1);letI z6:=was z0 (0+1+1+1+1);letI z1:=(wbu te 177 z4/\.agg [.str (wbh (was z0 0)),.str (wbh (was z0 (0+1))),.q (wao (was z0 (0+1+1))),.q (wao z7),.q (wao z6)]=Option.getD (mget z4 (.agg z3)) z5);wab (decide ((k:Int)<(n:Int))) (((0:Int)<=(k:Int)/\(k:Int)<(n:Int)/\5=5)/\z1/\inR .i64 (z2.u+wao z7)/\z1/\inR .i64 (z2.tv+wao z6)/\wbu te 177 z4/\inR .i64 ((k:Int)+1)/\∃(i':Nat),some (St.mk [(5,.map 0),(18,.view 5 n (wae g)),(19,.q (n:Int)),(20,.q ((k:Int)+1))] [(0,.amap (List.map (λ(p:AV×AV)=>(AV.rn z8 p.1,AV.rn z8 p.2)) (mset z4 (.agg z3) (.agg [.str z2.o,.str z2.p,.q z2.per,.q (z2.u+wao z7),.q (z2.tv+wao z6)]))))] 1 [])=some (St.mk [(5,.map 0),(18,.view 5 n (wae g)),(19,.q (n:Int)),(20,.q (i':Int))] [(0,.amap (entC (wa3 g i')))] 1 [])/\P i') (R (.exit 0) (St.mk [(5,.map 0)] [(0,.amap (List.map (λ(p:AV×AV)=>(AV.rn z8 p.1,AV.rn z8 p.2)) z4))] 1 []))):=by kernel_rfl
theorem w4z(L:List RW)(i:IT)(P:IT->Prop)(R:eR7):wa1 ⟨te,[],[],0,64,0⟩ (wa2 Tryz.f106 15) [9,52] [9] [] (S_cr L) P R (S_cr L i)=((entC L).length=(entC L).length/\(IT.left i=[]->(∀(i_1:Nat),i_1<IT.c i->true=true)/\∃(O':oL7),wai [(0,.row 61 5 (IT.c i) (wae (IT.h i)) false)] O'/\R (.exit 2) (St.mk [(9,.own 0 (IT.c i))] O' 1 []))/\∀(i_1:Nat),letI z0:=List.getD (entC L) i_1 (.any,.any);letI z3:=wao (was z0.2 (0+1+1));letI z2:=wao (was z0.2 (0+1+1+1));letI z1:=wao (was z0.2 (0+1+1+1+1));i_1∈IT.left i->((entC L).length=(entC L).length/\i_1<(entC L).length/\.agg [.str (wbh (was z0.1 0)),.str (wbh (was z0.1 (0+1))),.q (wao (was z0.1 (0+1+1)))]=z0.1/\.agg [.str (wbh (was z0.2 0)),.str (wbh (was z0.2 (0+1))),.q z3,.q z2,.q z1]=z0.2)/\(5<=16777216/\5=5/\1<=9223372036854775807)/\((1<=1/\5=5)/\IT.c i<=IT.c i/\5=5/\61=61/\5=5/\IT.c i+1<=9223372036854775807/\(IT.c i+1) * 56<=140737488355328)/\∃(i':IT),(TEq [(9,.own 0 (IT.c i+1)),(52,.ptr 1 0)] [(9,.own 0 (IT.c i')),(52,.ptr 1 0)]/\wai [(0,.row 61 5 (IT.c i+1) (apF (IT.c i) (wae (IT.h i)) (wap 5 (.str (wbh (was z0.2 0)):: .str (wbh (was z0.2 (0+1))):: .q z3:: .q z2:: .q z1::List.append [] wc1))) false),(1,.miter 2 (entC L).length (175::i_1::List.erase (IT.left i) i_1)),(2,.amap (List.map (λ(p:AV×AV)=>(AV.rn (ren 0 [(22,0),(1,1),(2,2)]) p.1,AV.rn (ren 0 [(22,0),(1,1),(2,2)]) p.2)) (entC L)))] [(0,.row 61 5 (IT.c i') (wae (IT.h i')) false),(1,.miter 2 (entC L).length (175::IT.c0 i'::IT.left i')),(2,.amap (entC L))])/\P i'):=by kernel_rfl
def keyV(r:RW):AV:=.agg [.str r.o,.str r.p,.q r.per]
def valV(r:RW):AV:=.agg [.str r.o,.str r.p,.q r.per,.q r.u,.q r.tv]
theorem wk9(a b:RW):keq (keyV a) (keyV b)=wat a b:=by simp[keyV,keq,keqL,keq0,wat,Bool.and_assoc]
theorem wwk(x:RW):∀L:List RW,mget (entC L) (keyV x)=(getK L x).map valV
 |[]=>rfl
 |r::L=>by
  rw[getK];show (match keq (keyV r) (keyV x) with | true=>some (valV r) | false=>mget (entC L) (keyV x))=_
  rw[wk9,wwk x L]
  cases wat r x<;>rfl
theorem wwa(y:RW):∀L:List RW,mset (entC L) (keyV y) (valV y)=entC (setK L y)
 |[]=>rfl
 |r::L=>by
  rw[setK];show (match keq (keyV r) (keyV y) with | true=>(keyV y,valV y)::entC L | false=>(keyV r,valV r)::mset (entC L) (keyV y) (valV y))=_
  rw[wk9,wwa y L]
  cases wat r y<;>rfl
theorem wlw(σ:Nat->Option Nat)(L:List RW):(entC L).map (λp=>(AV.rn σ p.1,AV.rn σ p.2))=entC L:=by
 unfold entC;rw[List.map_map];rfl
theorem wlx(L:List RW):(entC L).length=L.length:=by simp[entC]
theorem entC_at{L:List RW}{i:Nat}(h:i<L.length):(entC L).getD i (.any,.any)=(keyV (atR L i),valV (atR L i)):=by
 simp[entC,atR,h,keyV,valV]
theorem w6l{a b:RW}(h:keyV a=keyV b):wat a b=true:=by
 have:=wk9 a b;rw[← this,h,wk9];exact wi0 b
theorem w6n(a b:List UInt8)(c:Int):keyA te 177 (.agg [.str a,.str b,.q c])=true:=by kernel_rfl
theorem w7q{L:List RW}(h:L.Pairwise λa b=>wat a b=false):wbu te 177 (entC L):=by
 refine⟨List.all_eq_true.2 λp hp=>?_,?_⟩
 .obtain⟨r,_,rfl⟩:=List.mem_map.1 hp;exact w6n _ _ _
 .unfold entC;rw[List.map_map];refine List.pairwise_map.2 (h.imp λ{a b} hab he=>?_);rw[w6l (a:=a) (b:=b) he] at hab;cases hab
def wdg:RW:=⟨[],[],0,0,0⟩
theorem mget_at(L:List RW)(x:RW):(mget (entC L) (keyV x)).getD (valV wdg)=valV ((getK L x).getD wdg):=by
 rw[wwk];cases getK L x<;>rfl
theorem addK_eq(L:List RW)(x:RW):addK L x=⟨x.o,x.p,x.per,x.u+((getK L x).getD wdg).u,x.tv+((getK L x).getD wdg).tv⟩:=by
 unfold addK;cases getK L x<;>rfl
theorem wha{r:RW}(h:rowF r=true):1<=r.u/\r.u<=1099511627776/\1<=r.tv/\r.tv<=1099511627776:=by
 unfold rowF at h;simp only[bA7,decide_eq_true_eq] at h;omega
theorem wzc{g:Nat->RW}:∀ {n:Nat},wb5 g n=true->∀i,i<n->rowF (g i)=true
 |0,_,i,hi=>absurd hi (nZ7 i)
 |n+1,h,i,hi=>by
  rw[wb5,bA7] at h
  by_cases e:i=n
  .rw[e];exact h.2
  .exact wzc h.1 i (by omega)
theorem wui{g:Nat->RW}{n:Nat}(h:svF g n=0):n<=24000/\∀i,i<n->rowF (g i)=true:=by
 unfold svF at h
 by_cases q:24000<n
 .rw[decide_eq_true q] at h;cases h
 .rw[decide_eq_false q] at h;refine⟨by omega,?_⟩
  cases q2:wb5 g n with
  |false=>rw[q2] at h;cases h
  |true=>exact wzc q2
theorem w68{g:Nat->RW}{k:Nat}(hk:k<=24000)(hr:∀i,i<k->rowF (g i)=true)(x:RW):
  0<=((getK (wa3 g k) x).getD wdg).u/\((getK (wa3 g k) x).getD wdg).u<=26388279066624000/\0<=((getK (wa3 g k) x).getD wdg).tv/\((getK (wa3 g k) x).getD wdg).tv<=26388279066624000:=by
 obtain⟨g1,g2⟩:=(wg5 g k).got x;have hall:∀r∈(List.range k).map g,rowF r=true:=λr h=>by
  obtain⟨i,hi,rfl⟩:=List.mem_map.1 h;exact hr i (List.mem_range.1 hi)
 have b1:=wqs (B:=1099511627776) (by omega) x (l:=(List.range k).map g) λr h=>by have:=wha (hall r h);omega
 have b2:=wqu (B:=1099511627776) (by omega) x (l:=(List.range k).map g) λr h=>by have:=wha (hall r h);omega
 rw[List.length_map,List.length_range] at b1 b2;have e1:((getK (wa3 g k) x).getD wdg).u=((getK (wa3 g k) x).map RW.u).getD 0:=by cases getK (wa3 g k) x<;>rfl
 have e2:((getK (wa3 g k) x).getD wdg).tv=((getK (wa3 g k) x).map RW.tv).getD 0:=by cases getK (wa3 g k) x<;>rfl
 rw[e1,e2,g1,g2];omega
theorem wqr(g:Nat->RW):∀k,(wa3 g k).length<=k
 |0=>lR7 _
 |k+1=>by
  have h:∀(l:List RW) (x:RW),(setK l x).length<=l.length+1:=λl x=>by
   induction l with
   |nil=>simp[setK]
   |cons r l ih=>rw[setK];cases wat r x<;>simp[ih]
  have:=wqr g k;have:=h (wa3 g k) (addK (wa3 g k) (g k));rw[wa3];omega
theorem cb_loop(hP:C.P=Tryz.prog)(g:Nat->RW)(n:Nat):waj C 0 64 (wam Tryz.f106 6) (L_cb g n):=by
 have _:C.Loose:=inferInstance;rintro st Q ⟨h0,hn,hr,hQ⟩;refine waj.mk (prg hP) [] 0 .nil [5,18,19,20] [5] [] (S_cb g n) (λk=>k<=n) (λk=>n - k) 0 (zL7 _) h0 (λk hk=>?_);have zz:zvA (.agg [.str [],.str [],.q 0,.q 0,.q 0])= .agg [.str [],.str [],.q 0,.q 0,.q 0]:=rfl;rw[w5c,tN7,zz];refine wak (λh1=>?_) (λh1=>?_)
 .have hm:Option.getD (mget (entC (wa3 g k)) (.agg [.str (g k).o,.str (g k).p,.q (g k).per])) (.agg [.str [],.str [],.q 0,.q 0,.q 0])=valV ((getK (wa3 g k) (g k)).getD wdg):=mget_at _ (g k);have hb:=w68 (g:=g) (k:=k) (by omega) (λi hi=>hr i (by omega)) (g k);have hb2:=wha (hr k (by omega));have ha:=addK_eq (wa3 g k) (g k);have hset:=wwa (addK (wa3 g k) (g k)) (wa3 g k);have hkeys:wbu (Env.te (Env.mk te [] [] 0 64 0)) 177 (entC (wa3 g k)):=w7q (wg5 g k).parts;rw[hm];rw[ha] at hset;generalize hS:entC (wa3 g k)=ES at *;generalize ((getK (wa3 g k) (g k)).getD wdg)=e at *;refine⟨⟨by omega,by omega,rfl⟩,⟨hkeys,rfl⟩,?_,⟨hkeys,rfl⟩,?_,hkeys,by simp only[inR];omega,k+1,?_,by omega,by omega⟩
  .show inR .i64 ((g k).u+e.u);simp only[inR];omega
  .show inR .i64 ((g k).tv+e.tv);simp only[inR];omega
  .have e2:entC (wa3 g (k+1))=mset ES (keyV ⟨(g k).o,(g k).p,(g k).per,(g k).u+e.u,(g k).tv+e.tv⟩) (valV ⟨(g k).o,(g k).p,(g k).per,(g k).u+e.u,(g k).tv+e.tv⟩):=by
    rw[wa3,ha,hset]
   have e3:=wlw (ren 0 [(0,0)]) (wa3 g (k+1));rw[e2] at e3 ⊢;exact congrArg (λx=>some (St.mk [(5,.map 0),(18,.view 5 n (wae g)),(19,.q (n:Int)),(20,.q ((k:Int)+1))] [(0,.amap x)] 1 [])) e3
 .have:k=n:=by omega
  subst this;have e3:=wlw (ren 0 [(0,0)]) (wa3 g k);rw[e3];exact hQ
theorem wwr{α:Type}(g:Nat->α)(n:Nat):lst g (n+1)=lst g n++[g n]:=by simp[lst,List.range_succ]
theorem cr_loop(hP:C.P=Tryz.prog)(L:List RW):waj C 0 64 (wam Tryz.f106 15) (L_cr L):=by
 have _:C.Loose:=inferInstance;rintro st Q ⟨h0,hn,hQ⟩;refine AWP.ownNil 9 61 5 ?_;refine waj.mk (prg hP) [] 0 .nil [9,52] [9] [] (S_cr L) (λi=>(lst i.h i.c++i.left.map (atR L)).Perm L/\∀x∈i.left,x<L.length) (λi=>i.left.length) ⟨0,λ_=>default,(entC L).length,List.range (entC L).length⟩ ⟨?_,?_⟩ h0 (λi hi=>?_) (λi=>⟨λ_ _=>rfl,trivial⟩)
 .rw[wlx];show ((List.range L.length).map (atR L)).Perm L;have:(List.range L.length).map (atR L)=L:=by
   apply List.ext_getElem
   .simp
   .intro i h1 h2;simp[atR,h2]
  rw[this]
 .intro x hx;have hx:x∈List.range (entC L).length:=hx;rw[wlx] at hx;exact List.mem_range.1 hx
 obtain⟨hp,hlt⟩:=hi;have hlen:i.c+i.left.length=L.length:=by
  have:=hp.length_eq;simpa[lst] using this
 rw[w4z];refine⟨rfl,λhnil=>⟨λ_ _=>rfl,_,wau _,?_⟩,λj hj=>?_⟩
 .rw[hnil] at hp hlen;have hc:i.c=L.length:=by simpa using hlen
  rw[hc] at hp ⊢;exact hQ i.h (by simpa using hp)
 .have hjl:=hlt j hj;rw[entC_at hjl,wlw,wlx];have herase:(i.left.erase j).length+1=i.left.length:=by
   rw[List.length_erase_of_mem hj];have:=List.length_pos_of_mem hj;omega
  refine⟨⟨rfl,hjl,rfl,rfl⟩,⟨by omega,rfl,by omega⟩,⟨⟨lR7 _,rfl⟩,lR7 _,rfl,rfl,rfl,by omega,?_⟩,⟨i.c+1,λk=>if k<i.c then i.h k else atR L j,j,i.left.erase j⟩,⟨rfl,⟨rfl,rfl,rfl,rfl,rfl,λk hk=>?_⟩,?_,rfl,trivial⟩,⟨?_,λx hx=>hlt x (List.mem_of_mem_erase hx)⟩,?_⟩
  .show (i.c+1) * 56<=_;omega
  .have hk:k<i.c+1:=hk;unfold apF wae
   by_cases h:k<i.c
   .simp only[h,if_true]
   .have:k=i.c:=by omega
    subst this;simp only[Nat.lt_irrefl,if_false,Nat.sub_self];rfl
  .rfl
  .show (lst (λk=>if k<i.c then i.h k else atR L j) (i.c+1)++(i.left.erase j).map (atR L)).Perm L
   rw[wwr];have e1:lst (λk=>if k<i.c then i.h k else atR L j) i.c=lst i.h i.c:=List.map_congr_left λk hk=>by
    rw[if_pos (List.mem_range.1 hk)]
   rw[e1,if_neg (Nat.lt_irrefl _),List.append_assoc,List.singleton_append, ← List.map_cons];exact((List.perm_cons_erase hj).map (atR L)).symm.append_left _ |>.trans hp
  .show (i.left.erase j).length<i.left.length;omega
theorem lst_at{α:Type}{g:Nat->α}{L:List α}{n:Nat}(h:lst g n=L)(d:α):n=L.length/\∀i,i<n->g i=L.getD i d:=by
 subst h;refine⟨by simp[lst],λi hi=>?_⟩;simp[lst,hi]
theorem w0h{l l':List RW}(h:l.Perm l')(hp:l'.Pairwise λa b=>wat a b=false):srtR l=srtR l':=by
 have hk':l'.Pairwise λa b=>keyC a b≠0:=hp.imp λ{a b} h q=>by rw[whh.1 q] at h;cases h
 have hk:l.Pairwise λa b=>keyC a b≠0:=(h.symm.pairwise_iff (λ{a b} h q=>h (wc2.eq_symm q))).1 hk';obtain⟨a1,a2⟩:=wke wc2 hk;obtain⟨b1,b2⟩:=wke wc2 hk';exact Asc.uniq wc2 a1 b1 λx=>(a2.mem_iff.trans h.mem_iff).trans b2.mem_iff.symm
theorem comb_ok(hP:C.P=Tryz.prog)(hL:∀w,C.laid w->LaidW w):wah C 106 wob:=by
 rintro args objs U Os vc h hvc;unfold wob at h;split at h<;>cases h;rename_i n f;obtain⟨hn,hf,hs⟩:=hvc;generalize rwOf f=g at *;subst hf;refine wal.nilv 5 (wae (atR [])) (wal.frzO 0 ?_)
 refine wa4.wpL (prg hP) [(105,.det wei),(146,.rel wos)] [(6,L_cb g n),(15,L_cr (wa3 g n))] 0 (.cons (wqq hP hL) (.cons (w0m hP) .nil)) (hP ▸ Tryz.func106) rfl rfl rfl
  [(wam Tryz.f106 6,L_cb g n),(wam Tryz.f106 15,L_cr (wa3 g n))] (by kernel_rfl) ⟨cb_loop hP g n,cr_loop hP _,trivial⟩ ?_
 rw[nf_comb];have hg:rwOf (wae g)=g:=rfl;rw[hg,wlw,wlx];refine⟨⟨hn,rfl,hs⟩,wa7 (λq=>?_) (λq=>?_)⟩
 .have hc:wcl g n=[]:=by unfold wcl;rw[decide_eq_false q];rfl
  rw[hc];exact⟨rfl,rfl⟩
 .obtain⟨q1,q2⟩:=wui q;have hc:wcl g n=srtR (wa3 g n):=by unfold wcl;rw[decide_eq_true q];rfl
  have hl:=wqr g n;rw[hc,q];have hparts:=(wg5 g n).parts;refine⟨rfl,q1,q2,⟨rfl,⟨rfl,rfl,rfl,rfl,rfl,λi hi=>absurd hi (nZ7 i)⟩,rfl,rfl,trivial⟩,by omega,λh hp=>⟨λ_ _=>rfl,rfl,rfl,rfl,by omega,rfl,?_,λh' hh=>⟨λ_ _=>rfl,λ_ _=>rfl,[(0,.row 61 5 (wa3 g n).length (wae (atR (srtR (wa3 g n)))) false)],⟨⟨rfl,rfl,rfl,rfl,rfl,λi hi=>?_⟩,trivial⟩,?_⟩⟩⟩
  .exact(hp.symm.pairwise_iff (λ{a b} h=>by
    cases q:wat b a with
    |false=>rfl
    |true=>rw[wd2 q] at h;cases h)).1 hparts
  .have e:=w0h hp hparts;have hh:lst h' (wa3 g n).length=srtR (lst h (wa3 g n).length):=hh;rw[e] at hh;have:=(lst_at hh default).2 i hi;unfold wae;rw[this];rfl
  .have e:(srtR (wa3 g n)).length=(wa3 g n).length:=(List.mergeSort_perm _ _).length_eq;rw[e];refine⟨λ_ _=>rfl,?_⟩;have hb:Nat.ble (wa3 g n).length (wa3 g n).length=true:=Nat.ble_eq_true_of_le (lR7 _)
   constructor
   .simp[nilvC,nilvA,frzC,frzA,frz,hb,nilv]
   .rfl
theorem w3u(p:Int)(R:oR7):wpFn te [] [] 0 Tryz.f163 [.q p] [] R=(wab (decide ((0:Int)<=p)) (R (.bool (decide (p<=5999))) []) (R (.bool false) [])):=by kernel_rfl
theorem w2z(o p:List UInt8)(per:Int)(R:oR7):wpFn te [(75,.det wf2),(162,.det wcn),(163,.det wnc)] [] 0 Tryz.f130 [.str o,.str p,.q per] [] R=(o.length<=9223372036854775806/\wab (wa5 o) (True/\wab (wbc p) (True/\R (.bool (decide ((0:Int)<=per) && decide (per<=5999))) []) (R (.bool false) [])) (R (.bool false) [])):=by kernel_rfl
theorem nf_rowR(o p:List UInt8)(per u tv:Int)(R:oR7):wpFn te [(130,.det wej)] [] 0 Tryz.f77 [.agg [.str o,.str p,.q per,.q u,.q tv]] [] R=(letI z0:=R (.bool false) [];o.length<4294967281/\wab (wbi o p per) (wab (decide ((1:Int)<=u)) (wab (decide (u<=1099511627776)) (wab (decide ((1:Int)<=tv)) (R (.bool (decide (tv<=1099511627776))) []) z0) z0) z0) z0):=by kernel_rfl
theorem nf_rv(g:Nat->RW)(n:Nat)(R:oR7):wpFn te [(77,.det wc4)] [(4,L_rv g n)] 0 Tryz.f148 [.view 5 n (wae g)] [] R=(wab (decide ((24000:Int)<(n:Int))) (R (.q 130) []) (some (St.mk [(8,.view 5 n (wae g)),(9,.q (n:Int)),(10,.q 0)] [] 0 [])=some (St.mk [(8,.view 5 n (wae g)),(9,.q (n:Int)),(10,.q (↑0:Int))] [] 0 [])/\n<=24000/\(∀(i:Nat),i<n->(g i).o.length<4294967281)/\wab (wb5 g n) (R (.q 0) []) (R (.q 131) []))):=by kernel_rfl
theorem w24(g:Nat->RW)(n k:Nat)(P:Nat->Prop)(R:eR7):wa1 ⟨te,[(77,.det wc4)],[],0,18,0⟩ (wa2 Tryz.f148 4) [8,9,10] [] [2] (S_rv g n) P R (S_rv g n k)=(letI z0:=(g (k:Int).toNat);wab (decide ((k:Int)<(n:Int))) (((0:Int)<=(k:Int)/\(k:Int)<(n:Int)/\5=5)/\z0.o.length<4294967281/\wab (!rowF (RW.mk z0.o z0.p z0.per z0.u z0.tv)) (R .ret (St.mk [(2,.q 131)] [] 0 [])) (inR .i64 ((k:Int)+1)/\∃(i':Nat),some (St.mk [(8,.view 5 n (wae g)),(9,.q (n:Int)),(10,.q ((k:Int)+1))] [] 0 [])=some (St.mk [(8,.view 5 n (wae g)),(9,.q (n:Int)),(10,.q (i':Int))] [] 0 [])/\P i')) (R (.exit 0) (St.mk [] [] 0 []))):=by kernel_rfl
theorem w5f(o p:List UInt8)(per u tv:Int)(o' p':List UInt8)(per' u' tv':Int)(R:oR7):wpFn te [] [] 0 Tryz.f149 [.agg [.str o,.str p,.q per,.q u,.q tv],.agg [.str o',.str p',.q per',.q u',.q tv']] [] R=(wab (!decide (o=o')) (R (.bool (Op.bytesLess o o')) []) (wab (!decide (p=p')) (R (.bool (Op.bytesLess p p')) []) (R (.bool (decide (per<per'))) []))):=by kernel_rfl
theorem nf_rc(g:Nat->RW)(n:Nat)(R:oR7):wpFn te [(148,.det wei)] [(6,L_rc g n)] 0 Tryz.f107 [.view 5 n (wae g)] [] R=(letI z0:=srtR (wa3 g n);(n<=1000000/\wae g=wae (rwOf (wae g))/\∀(i:Nat),i<n->(rwOf (wae g) i).o.length<4294967281)/\wab (!decide (svF (rwOf (wae g)) n=0)) (R (.tuple [.nil,.q (svF (rwOf (wae g)) n)]) []) ((TEq [(5,.own 0 0),(15,.view 5 n (wae g)),(16,.q (n:Int)),(17,.q 0)] [(5,.own 0 0),(15,.view 5 n (wae g)),(16,.q (n:Int)),(17,.q (↑(RX.k (RX.mk 0 [])):Int))]/\wai [(0,.row 61 5 0 (λ(_x:Nat)=>[]) false)] [(0,.row 61 5 0 (wae (atR (RX.L (RX.mk 0 [])))) false)])/\n<=24000/\(∀(i:Nat),i<n->rowF (g i)=true)/\(∀(i:Nat),i<z0.length->true=true)/\∃(O':oL7),wai [(0,.row 61 5 z0.length (wae (atR z0)) false)] O'/\R (.tuple [.own 0 z0.length,.q 0]) O')):=by kernel_rfl
theorem w27(g:Nat->RW)(n:Nat)(i:RX)(a:Nat)(P:Nat->Prop)(R:eR7):wa1 ⟨te,[(149,.det wih)],[],0,87,0⟩ (wa2 Tryz.f107 9) [5,7,8,15,16,17] [5,7,8,15,16,17] [] (S_ri g n i) P R (S_ri g n i a)=(letI z3:=(RX.L i).length;letI z2:=(atR (RX.L i) (a:Int).toNat);letI z0:=([(0,.row 61 5 z3 (wae (atR (RX.L i))) false),(1,.cells [.str (g (RX.k i)).o,.str (g (RX.k i)).p,.q (g (RX.k i)).per,.q (g (RX.k i)).u,.q (g (RX.k i)).tv] 61)]:oL7);letI z1:=((∀(i_1:Nat),i_1<(RX.L i).length->true=true)/\∃(O':oL7),wai z0 O'/\R (.exit 2) (St.mk [(5,.own 0 z3),(7,.ptr 1 0),(8,.q (a:Int)),(15,.view 5 n (wae g)),(16,.q (n:Int)),(17,.q (↑(RX.k i):Int))] O' 2 []):Prop);wab (decide ((a:Int)<(z3:Int))) (((0:Int)<=(a:Int)/\(a:Int)<(z3:Int))/\((a:Int).toNat<(RX.L i).length/\5=5)/\True/\wab (decide (keyC (RW.mk z2.o z2.p z2.per z2.u z2.tv) (RW.mk (g (RX.k i)).o (g (RX.k i)).p (g (RX.k i)).per (g (RX.k i)).u (g (RX.k i)).tv)<0)) (inR .i64 ((a:Int)+1)/\∃(i':Nat),(TEq [(5,.own 0 z3),(7,.ptr 1 0),(8,.q ((a:Int)+1)),(15,.view 5 n (wae g)),(16,.q (n:Int)),(17,.q (↑(RX.k i):Int))] [(5,.own 0 z3),(7,.ptr 1 0),(8,.q (i':Int)),(15,.view 5 n (wae g)),(16,.q (n:Int)),(17,.q (↑(RX.k i):Int))]/\wai z0 z0)/\P i') z1) z1):=by kernel_rfl
theorem nf_r12(g:Nat->RW)(n len:Nat)(h:Nat->RW)(x:RW)(k a:Nat)(Q:eR7):regP ⟨te,[],[],0,87,0⟩ (regC Tryz.f107 12) [5,7,8,15,16,17] Q (S_rj g n len h x k a)=(letI z2:=((0:Int)<=(a:Int)/\(a:Int)<(len:Int):Prop);letI z1:=(h (a:Int).toNat);letI z0:=(λ(k:Nat)=>if k=Int.toNat (a:Int) then [.str z1.o,.str z1.p,.q z1.per,.q (z1.u+x.u),.q z1.tv] else wae h k:Nat->List AV);z2/\((a:Int).toNat<len/\5=5)/\inR .i64 (z1.u+x.u)/\z2/\(List.length [AV.q (z1.u+x.u)]=1/\(a:Int).toNat<len/\5=5)/\(∀(i:Nat),i<len->nrefL (z0 i)=true)/\∃(O':oL7),wai [(0,.row 61 5 len z0 false),(1,.cells [.str x.o,.str x.p,.q x.per,.q x.u,.q x.tv] 61)] O'/\Q .normal (St.mk [(5,.own 0 len),(7,.ptr 1 0),(8,.q (a:Int)),(15,.view 5 n (wae g)),(16,.q (n:Int)),(17,.q (k:Int))] O' 2 [])):=by kernel_rfl
theorem nf_r13(g:Nat->RW)(n len:Nat)(h:Nat->RW)(x:RW)(k a:Nat)(Q:eR7):regP ⟨te,[],[],0,87,0⟩ (regC Tryz.f107 13) [5,7,8,15,16,17] Q (S_rj g n len h x k a)=(letI z2:=((0:Int)<=(a:Int)/\(a:Int)<(len:Int):Prop);letI z1:=(h (a:Int).toNat);letI z0:=(λ(k:Nat)=>if k=Int.toNat (a:Int) then [.str z1.o,.str z1.p,.q z1.per,.q z1.u,.q (z1.tv+x.tv)] else wae h k:Nat->List AV);z2/\((a:Int).toNat<len/\5=5)/\inR .i64 (z1.tv+x.tv)/\z2/\(List.length [AV.q (z1.tv+x.tv)]=1/\(a:Int).toNat<len/\5=5)/\(∀(i:Nat),i<len->nrefL (z0 i)=true)/\∃(O':oL7),wai [(0,.row 61 5 len z0 false),(1,.cells [.str x.o,.str x.p,.q x.per,.q x.u,.q x.tv] 61)] O'/\Q .normal (St.mk [(5,.own 0 len),(7,.ptr 1 0),(8,.q (a:Int)),(15,.view 5 n (wae g)),(16,.q (n:Int)),(17,.q (k:Int))] O' 2 [])):=by kernel_rfl
theorem w28(g:Nat->RW)(n:Nat)(i:RX)(P:RX->Prop)(R:eR7):wa1 ⟨te,[(149,.det wih)],[(9,L_ri g n i),(1012,wpq g n i.L.length (atR i.L) (g i.k) i.k (plc i.L (g i.k))),(1013,wpp g n i.L.length (setU (atR i.L) (plc i.L (g i.k)) (g i.k)) (g i.k) i.k (plc i.L (g i.k)))],0,87,0⟩ (wa2 Tryz.f107 6) [5,15,16,17] [5] [] (S_rc g n) P R (S_rc g n i)=(letI z13:=wae (atR (RX.L i));letI z6:=plc (RX.L i) (g (RX.k i));letI z5:=(↑(RX.k i):Int);letI z15:=(z5+1);letI z12:=g z5.toNat;letI z4:=(RX.L i).length;letI z2:=([.str (g (RX.k i)).o,.str (g (RX.k i)).p,.q (g (RX.k i)).per,.q (g (RX.k i)).u,.q (g (RX.k i)).tv]:List AV);letI z11:=([(0,.row 61 5 z4 (wae (setU (atR (RX.L i)) z6 (g (RX.k i)))) false),(1,.cells z2 61)]:oL7);letI z9:=([(0,.row 61 5 z4 z13 false),(1,.cells z2 61)]:oL7);letI z1:=(z6:Int);letI z14:=((0:Int)<=z1/\z1<=(z4:Int):Prop);letI z10:=atR (RX.L i) z1.toNat;letI z7:=(RX.L i).length - z1.toNat;letI z3:=([(5,.own 0 z4),(7,.ptr 1 0),(8,.q z1),(15,.view 5 n (wae g)),(16,.q (n:Int)),(17,.q z5)]:tL7);letI z0:=((0<=16777216/\5=5/\0<=9223372036854775807)/\z14/\((z1.toNat<=(RX.L i).length/\5=5)/\0<=0/\5=5/\61=61/\5=5/\0+z1.toNat<=9223372036854775807/\(0+z1.toNat) * 56<=140737488355328)/\(5<=16777216/\5=5/\1<=9223372036854775807)/\((1<=1/\5=5)/\0+z1.toNat<=0+z1.toNat/\5=5/\61=61/\5=5/\0+z1.toNat+1<=9223372036854775807/\(0+z1.toNat+1) * 56<=140737488355328)/\z14/\((z1.toNat+z7<=(RX.L i).length/\5=5/\5=5)/\0+z1.toNat+1<=0+z1.toNat+1/\5=5/\61=61/\5=5/\0+z1.toNat+1+z7<=9223372036854775807/\(0+z1.toNat+1+z7) * 56<=140737488355328)/\inR .i64 z15/\∃(i':RX),(TEq [(5,.own 0 (0+z1.toNat+1+z7)),(15,.view 5 n (wae g)),(16,.q (n:Int)),(17,.q z15)] [(5,.own 0 (RX.L i').length),(15,.view 5 n (wae g)),(16,.q (n:Int)),(17,.q (↑(RX.k i'):Int))]/\wai [(0,.row 61 5 (0+z1.toNat+1+z7) (apF (0+z1.toNat+1) (apF (0+z1.toNat) (apF 0 (wap 5 (List.flatten (List.replicate 0 [.str ([]),.str ([]),.q 0,.q 0,.q 0]))) z13) (wap 5 (.str (g (RX.k i)).o:: .str (g (RX.k i)).p:: .q (g (RX.k i)).per:: .q (g (RX.k i)).u:: .q (g (RX.k i)).tv::List.append [] wc1))) λ(i_1:Nat)=>letI z8:=atR (RX.L i) (z1.toNat+i_1);[.str z8.o,.str z8.p,.q z8.per,.q z8.u,.q z8.tv]) false)] [(0,.row 61 5 (RX.L i').length (wae (atR (RX.L i'))) false)])/\P i':Prop);wab (decide (z5<(n:Int))) (((0:Int)<=z5/\z5<(n:Int)/\5=5)/\(TEq [(5,.own 0 z4),(7,.ptr 1 0),(8,.q 0),(15,.view 5 n (wae g)),(16,.q (n:Int)),(17,.q z5)] [(5,.own 0 z4),(7,.ptr 1 0),(8,.q (↑0:Int)),(15,.view 5 n (wae g)),(16,.q (n:Int)),(17,.q z5)]/\wai [(0,.row 61 5 z4 z13 false),(1,.cells [.str z12.o,.str z12.p,.q z12.per,.q z12.u,.q z12.tv] 61)] z9)/\(RX.L i).length<=24000/\wab (decide (z1<(z4:Int))) (((0:Int)<=z1/\z1<(z4:Int))/\(z1.toNat<(RX.L i).length/\5=5)/\True/\wab (!decide (keyC (RW.mk (g (RX.k i)).o (g (RX.k i)).p (g (RX.k i)).per (g (RX.k i)).u (g (RX.k i)).tv) (RW.mk z10.o z10.p z10.per z10.u z10.tv)<0)) ((TEq z3 z3/\wai z9 z9)/\plc (RX.L i) (g (RX.k i))<(RX.L i).length/\inR .i64 ((atR (RX.L i) z6).u+(g (RX.k i)).u)/\(TEq z3 z3/\wai z11 z11)/\plc (RX.L i) (g (RX.k i))<(RX.L i).length/\inR .i64 ((setU (atR (RX.L i)) z6 (g (RX.k i)) z6).tv+(g (RX.k i)).tv)/\inR .i64 z15/\∃(i':RX),(TEq [(5,.own 0 z4),(15,.view 5 n (wae g)),(16,.q (n:Int)),(17,.q z15)] [(5,.own 0 (RX.L i').length),(15,.view 5 n (wae g)),(16,.q (n:Int)),(17,.q (↑(RX.k i'):Int))]/\wai [(0,.row 61 5 z4 (wae (setT (setU (atR (RX.L i)) z6 (g (RX.k i))) z6 (g (RX.k i)))) false)] [(0,.row 61 5 (RX.L i').length (wae (atR (RX.L i'))) false)])/\P i') z0) z0) ((∀(i_1:Nat),i_1<(RX.L i).length->true=true)/\∃(O':oL7),wai [(0,.row 61 5 z4 z13 false)] O'/\R (.exit 0) (St.mk [(5,.own 0 z4)] O' 1 []))):=by kernel_rfl
theorem nf_sr(g h:Nat->RW)(n m:Nat)(R:oR7):wpFn te [] [(4,L_sr g h n)] 0 Tryz.f53 [.view 5 n (wae g),.view 5 m (wae h)] [] R=(wab (!decide ((n:Int)=(m:Int))) (R (.bool false) []) (some (St.mk [(0,.view 5 n (wae g)),(1,.view 5 m (wae h)),(12,.q (n:Int)),(13,.q 0)] [] 0 [])=some (St.mk [(0,.view 5 n (wae g)),(1,.view 5 n (wae h)),(12,.q (n:Int)),(13,.q (↑0:Int))] [] 0 [])/\n<=1000000/\wab (wcv g h n) (R (.bool true) []) (R (.bool false) []))):=by kernel_rfl
theorem w2u(g h:Nat->RW)(n k:Nat)(P:Nat->Prop)(R:eR7):wa1 ⟨te,[],[],0,26,0⟩ (wa2 Tryz.f53 4) [0,1,12,13] [] [4] (S_sr g h n) P R (S_sr g h n k)=(letI z1:=((0:Int)<=(k:Int)/\(k:Int)<(n:Int)/\5=5:Prop);letI z0:=(k:Int).toNat;wab (decide ((k:Int)<(n:Int))) (z1/\z1/\wab (!(decide ((g z0).o=(h z0).o) && (decide ((g z0).p=(h z0).p) && (decide ((g z0).per=(h z0).per) && (decide ((g z0).u=(h z0).u) && decide ((g z0).tv=(h z0).tv)))))) (R .ret (St.mk [(4,.bool false)] [] 0 [])) (inR .i64 ((k:Int)+1)/\∃(i':Nat),some (St.mk [(0,.view 5 n (wae g)),(1,.view 5 n (wae h)),(12,.q (n:Int)),(13,.q ((k:Int)+1))] [] 0 [])=some (St.mk [(0,.view 5 n (wae g)),(1,.view 5 n (wae h)),(12,.q (n:Int)),(13,.q (i':Int))] [] 0 [])/\P i')) (R (.exit 0) (St.mk [] [] 0 []))):=by kernel_rfl
theorem w1y(hP:C.P=Tryz.prog):wah C 163 wnc:=by
 have _:C.Loose:=inferInstance;rintro args objs U Os vc h hvc;unfold wnc at h;split at h<;>cases h;refine wah.wp0 (prg hP) [] 0 .nil (hP ▸ Tryz.func163) rfl rfl rfl ?_;rw[w3u];exact waw (λh=>by rw[h];exact⟨rfl,rfl⟩) (λh=>by rw[h];exact⟨rfl,rfl⟩)
theorem wki(hP:C.P=Tryz.prog):wah C 130 wej:=by
 rintro args objs U Os vc h hvc;unfold wej at h;split at h<;>cases h;rename_i o p per;refine wah.wp0 (prg hP) [(75,.det wf2),(162,.det wcn),(163,.det wnc)] 0 (.cons (wrs hP) (.cons (wt4 hP) (.cons (w1y hP) .nil))) (hP ▸ Tryz.func130) rfl rfl rfl ?_;rw[w2z];unfold wbi;exact⟨by omega,waw (λh1=>⟨trivial,waw (λh2=>⟨trivial,by rw[h1,h2,Bool.true_and,Bool.true_and];exact⟨rfl,rfl⟩⟩) (λh2=>by rw[h1,h2];exact⟨rfl,rfl⟩)⟩) (λh1=>by rw[h1];exact⟨rfl,rfl⟩)⟩
theorem wrc(hP:C.P=Tryz.prog):wah C 77 wc4:=by
 rintro args objs U Os vc h hvc;unfold wc4 at h;split at h<;>cases h;rename_i o p per u tv;refine wah.wp0 (prg hP) [(130,.det wej)] 0 (.cons (wki hP) .nil) (hP ▸ Tryz.func77) rfl rfl rfl ?_;rw[nf_rowR];have e:rowF ⟨o,p,per,u,tv⟩=(wbi o p per && (decide (1<=u) && (decide (u<=1099511627776) && (decide (1<=tv) && decide (tv<=1099511627776))))):=by
  unfold rowF;dsimp only
  rw[Bool.and_assoc];congr 1;rw[Bool.eq_iff_iff];simp only[bA7,decide_eq_true_eq];omega
 rw[e];generalize wbi o p per=b1,decide (1<=u)=b2,decide (u<=1099511627776)=b3,decide (1<=tv)=b4,decide (tv<=1099511627776)=b5;refine⟨hvc,?_⟩
 cases b1<;>cases b2<;>cases b3<;>cases b4<;>exact⟨rfl,rfl⟩
theorem rv_loop(hP:C.P=Tryz.prog)(g:Nat->RW)(n:Nat):waj C 0 18 (wam Tryz.f148 4) (L_rv g n):=by
 rintro st Q ⟨h0,hn,hs,hQ⟩;have hR:=wbv hQ;refine waj.mk (prg hP) [(77,.det wc4)] 0 (.cons (wrc hP) .nil) [8,9,10] [] [2] (S_rv g n) (λk=>k<=n/\wb5 g k=true) (λk=>n - k) 0 ⟨zL7 _,rfl⟩ h0 (λk hk=>?_);obtain⟨hkn,hok⟩:=hk;rw[w24,tN7];refine wak (λh1=>?_) (λh1=>?_)
 .refine⟨⟨by omega,by omega,rfl⟩,hs k (by omega),wcw (λh2=>hR.2 (wti h2 n (by omega))) (λh2=>⟨by simp only[inR];omega,k+1,rfl,⟨by omega,?_⟩,by omega⟩)⟩;rw[wb5,hok];exact h2
 .have:k=n:=by omega
  subst this;exact hR.1 hok
theorem rval_ok(hP:C.P=Tryz.prog):wah C 148 wei:=by
 rintro args objs U Os vc h hvc;unfold wei at h;split at h<;>cases h;rename_i n f;obtain⟨hn,hf,hs⟩:=hvc;generalize rwOf f=g at *;subst hf;unfold svF;refine wah.wpL (prg hP) [(77,.det wc4)] [(4,L_rv g n)] 0 (.cons (wrc hP) .nil) (hP ▸ Tryz.func148) rfl rfl rfl [(wam Tryz.f148 4,L_rv g n)] (by kernel_rfl) ⟨rv_loop hP g n,trivial⟩ ?_;rw[nf_rv];refine wak (λh1=>?_) (λh1=>⟨rfl,by omega,hs,waw (λh2=>?_) (λh2=>?_)⟩)
 .rw[decide_eq_true (show 24000<n by omega)];exact⟨rfl,rfl⟩
 .rw[decide_eq_false (show ¬ 24000<n by omega),h2];exact⟨rfl,rfl⟩
 .rw[decide_eq_false (show ¬ 24000<n by omega),h2];exact⟨rfl,rfl⟩
theorem wy9(hP:C.P=Tryz.prog):wah C 149 wih:=by
 have _:C.Loose:=inferInstance;rintro args objs U Os vc h hvc;unfold wih at h;split at h<;>simp only[sI7,pI7,reduceCtorEq] at h;rename_i o p per u tv o' p' per' u' tv';obtain⟨rfl,rfl,rfl⟩:=h;refine wah.wp0 (prg hP) [] 0 .nil (hP ▸ Tryz.func149) rfl rfl rfl ?_;rw[w5f];have e:keyC ⟨o,p,per,u,tv⟩ ⟨o',p',per',u',tv'⟩=if cmpS o o'=0 then (if cmpS p p'=0 then cmpI per per' else cmpS p p') else cmpS o o':=by
  unfold keyC;simp only[orL]
  by_cases h1:cmpS o o'=0
  .by_cases h2:cmpS p p'=0
   .by_cases h3:cmpI per per'=0<;>simp[h1,h2,h3]
   .simp[h1,h2]
  .simp[h1]
 rw[e];refine wa7 (λh1=>?_) (λh1=>wa7 (λh2=>?_) (λh2=>?_))
 .rw[if_neg (λq=>h1 (wcx.1 q))];refine⟨?_,rfl⟩;have:= @wgt o o'
  cases q:Op.bytesLess o o' with
  |true=>rw[decide_eq_true (this.2 q)]
  |false=>rw[decide_eq_false (λk=>by rw[this.1 k] at q;cases q)]
 .rw[if_pos (wcx.2 h1),if_neg (λq=>h2 (wcx.1 q))];refine⟨?_,rfl⟩;have:= @wgt p p'
  cases q:Op.bytesLess p p' with
  |true=>rw[decide_eq_true (this.2 q)]
  |false=>rw[decide_eq_false (λk=>by rw[this.1 k] at q;cases q)]
 .rw[if_pos (wcx.2 h1),if_pos (wcx.2 h2)];refine⟨?_,rfl⟩;have:=we4 per per'
  by_cases q:per<per'
  .rw[decide_eq_true q,decide_eq_true (show cmpI per per'<0 by omega)]
  .rw[decide_eq_false q,decide_eq_false (show ¬ cmpI per per'<0 by omega)]
theorem wrl:∀(L:List RW) (r:RW),plc L r<=L.length
 |[],_=>lR7 _
 |x::l,r=>by
  rw[plc]
  cases decide (keyC x r<0) with
  |true=>have:=wrl l r;simpa using this
  |false=>exact zL7 _
theorem wrk:∀(L:List RW) (r:RW) (j:Nat),j<plc L r->keyC (atR L j) r<0
 |[],_,_,h=>absurd h (nZ7 _)
 |x::l,r,j,h=>by
  rw[plc] at h
  by_cases q:keyC x r<0
  .rw[decide_eq_true q] at h
   cases j with
   |zero=>exact q
   |succ j=>exact wrk l r j (Nat.lt_of_succ_lt_succ h)
  .rw[decide_eq_false q] at h;exact absurd h (nZ7 _)
theorem wrm:∀(L:List RW) (r:RW),plc L r<L.length->¬ keyC (atR L (plc L r)) r<0
 |[],_,h=>absurd h (nZ7 _)
 |x::l,r,h=>by
  rw[plc] at h ⊢
  by_cases q:keyC x r<0
  .rw[decide_eq_true q] at h ⊢;exact wrm l r (Nat.lt_of_succ_lt_succ h)
  .rw[decide_eq_false q];exact q
theorem ri_loop(hP:C.P=Tryz.prog)(g:Nat->RW)(n:Nat)(i:RX):waj C 0 87 (wam Tryz.f107 9) (L_ri g n i):=by
 rintro st Q ⟨h0,hn,hQ⟩;refine waj.mk (prg hP) [(149,.det wih)] 0 (.cons (wy9 hP) .nil) [5,7,8,15,16,17] [5,7,8,15,16,17] [] (S_ri g n i) (λa=>a<=plc i.L (g i.k)) (λa=>i.L.length - a) 0 (zL7 _) h0 (λa ha=>?_) (λi=>⟨λ_ _=>rfl,trivial⟩);have hle:=wrl i.L (g i.k);rw[w27,tN7];have stop:¬ a<plc i.L (g i.k)->Q (.exit 2) (S_rj g n i.L.length (atR i.L) (g i.k) i.k a):=λh=>by
  have:a=plc i.L (g i.k):=by omega
  rw[this];exact hQ
 refine wak (λh1=>⟨⟨by omega,by omega⟩,⟨by omega,rfl⟩,trivial,wak (λh2=>⟨by simp only[inR];omega,a+1,⟨rfl,wau _⟩,?_,by omega⟩) (λh2=>⟨λ_ _=>rfl,_,wau _,stop λq=>h2 (wrk _ _ a q)⟩)⟩) (λh1=>⟨λ_ _=>rfl,_,wau _,stop (by omega)⟩)
 .by_cases q:a=plc i.L (g i.k)
  .exact absurd h2 (by rw[q];exact wrm _ _ (by omega))
  .omega
theorem r12_ok(hP:C.P=Tryz.prog)(g:Nat->RW)(n len:Nat)(h:Nat->RW)(x:RW)(k a:Nat):waj C 0 87 (regC Tryz.f107 12) (wpq g n len h x k a):=by
 have _:C.Loose:=inferInstance;rintro st Q ⟨h0,ha,hu,hQ⟩;refine waj.reg (prg hP) [] 0 .nil [5,7,8,15,16,17] [5,7,8,15,16,17] h0 ?_ ⟨λ_ _=>rfl,trivial⟩;rw[nf_r12,tN7];refine⟨⟨by omega,by omega⟩,⟨ha,rfl⟩,hu,⟨by omega,by omega⟩,⟨rfl,ha,rfl⟩,λi hi=>?_,(S_rj g n len (setU h a x) x k a).O,⟨⟨rfl,rfl,rfl,rfl,rfl,λi hi=>?_⟩,rfl,trivial⟩,hQ⟩
 .by_cases e:i=a<;>simp[e,wae]<;>rfl
 .unfold wae setU
  by_cases e:i=a<;>simp[e]
theorem r13_ok(hP:C.P=Tryz.prog)(g:Nat->RW)(n len:Nat)(h:Nat->RW)(x:RW)(k a:Nat):waj C 0 87 (regC Tryz.f107 13) (wpp g n len h x k a):=by
 have _:C.Loose:=inferInstance;rintro st Q ⟨h0,ha,hu,hQ⟩;refine waj.reg (prg hP) [] 0 .nil [5,7,8,15,16,17] [5,7,8,15,16,17] h0 ?_ ⟨λ_ _=>rfl,trivial⟩;rw[nf_r13,tN7];refine⟨⟨by omega,by omega⟩,⟨ha,rfl⟩,hu,⟨by omega,by omega⟩,⟨rfl,ha,rfl⟩,λi hi=>?_,(S_rj g n len (setT h a x) x k a).O,⟨⟨rfl,rfl,rfl,rfl,rfl,λi hi=>?_⟩,rfl,trivial⟩,hQ⟩
 .by_cases e:i=a<;>simp[e,wae]<;>rfl
 .unfold wae setT
  by_cases e:i=a<;>simp[e]
theorem wxo:∀ {L:List RW} {y:RW} {p:Nat},p<L.length->(∀j,j<p->wat (atR L j) y=false)->wat (atR L p) y=true->getK L y=some (atR L p)
 |[],_,_,h,_,_=>absurd h (nZ7 _)
 |x::l,y,0,_,_,h=>by
  have h:wat x y=true:=h;rw[getK,h];rfl
 |x::l,y,p+1,hp,hj,h=>by
  have h0:wat x y=false:=hj 0 (Nat.succ_pos _);rw[getK,h0];exact wxo (L:=l) (Nat.lt_of_succ_lt_succ hp) (λj q=>hj (j+1) (Nat.succ_lt_succ q)) h
theorem wux:∀ {L:List RW} {y:RW} {p:Nat},p<L.length->(∀j,j<p->wat (atR L j) y=false)->wat (atR L p) y=true->setK L y=L.set p y
 |[],_,_,h,_,_=>absurd h (nZ7 _)
 |x::l,y,0,_,_,h=>by
  have h:wat x y=true:=h;rw[setK,h];rfl
 |x::l,y,p+1,hp,hj,h=>by
  have h0:wat x y=false:=hj 0 (Nat.succ_pos _);rw[setK,h0,List.set_cons_succ, ← wux (L:=l) (Nat.lt_of_succ_lt_succ hp) (λj q=>hj (j+1) (Nat.succ_lt_succ q)) h];rfl
theorem wxn:∀ {L:List RW} {y:RW},(∀x∈L,wat x y=false)->getK L y=none/\∀z:RW,wat y z=true->setK L z=L++[z]
 |[],_,_=>⟨rfl,λ_ _=>rfl⟩
 |x::l,y,h=>by
  have h0:=h x (List.mem_cons_self ..);obtain⟨i1,i2⟩:=wxn (L:=l) (y:=y) λx' hx=>h x' (List.mem_cons_of_mem _ hx);refine⟨by rw[getK,h0];exact i1,λz hz=>?_⟩;have h1:wat x z=false:=by
   cases q:wat x z with
   |false=>rfl
   |true=>rw[wgg q (wd2 hz)] at h0;cases h0
  rw[setK,h1,i2 z hz];rfl
theorem w6m{a a' b b':RW}(h:wat a a'=true)(k:wat b b'=true):keyC a b=keyC a' b':=by
 obtain⟨h1,h2,h3⟩:=wc6.1 h;obtain⟨k1,k2,k3⟩:=wc6.1 k;unfold keyC;rw[h1,h2,h3,k1,k2,k3]
theorem wjz{L:List RW}{j:Nat}(h:j<L.length):atR L j∈L:=by
 unfold atR;rw[List.getD_eq_getElem?_getD,List.getElem?_eq_getElem h];exact List.getElem_mem h
theorem mem_atR{L:List RW}{x:RW}(h:x∈L):∃j,j<L.length/\atR L j=x:=by
 obtain⟨j,hj,rfl⟩:=List.mem_iff_getElem.1 h;exact⟨j,hj,by simp[atR,hj]⟩
theorem asc_at{L:List RW}(h:Asc keyC L){i j:Nat}(hij:i<j)(hj:j<L.length):keyC (atR L i) (atR L j)<0:=by
 have:=List.pairwise_iff_getElem.1 h i j (by omega) hj hij;have hi:i<L.length:=by omega
 simpa[atR,hi,hj] using this
theorem asc_set{L:List RW}(h:Asc keyC L){p:Nat}{y:RW}(hp:p<L.length)(hs:wat (atR L p) y=true):Asc keyC (L.set p y):=by
 refine List.pairwise_iff_getElem.2 λi j hi hj hij=>?_;rw[List.length_set] at hi hj;have hs':wat y (L[p])=true:=by
  have:=wd2 hs;simpa[atR,hp] using this
 have e:∀(k:Nat) (hk:k<L.length),wat ((L.set p y)[k]'(by rw[List.length_set];exact hk)) (L[k])=true:=λk hk=>by
  rw[List.getElem_set]
  by_cases q:p=k
  .subst q;rw[if_pos rfl];exact hs'
  .rw[if_neg q];exact wi0 _
 rw[w6m (e i hi) (e j hj)];exact List.pairwise_iff_getElem.1 h i j hi hj hij
theorem rc_loop(hP:C.P=Tryz.prog)(g:Nat->RW)(n:Nat):waj C 0 87 (wam Tryz.f107 6) (L_rc g n):=by
 rintro st Q ⟨h0,hn,hr,hQ⟩;refine AWP.ownNil 5 61 5 ?_
 refine waj.mkI (prg hP) [(149,.det wih)] (λi:RX=>[(9,L_ri g n i),(1012,wpq g n i.L.length (atR i.L) (g i.k) i.k (plc i.L (g i.k))),(1013,wpp g n i.L.length (setU (atR i.L) (plc i.L (g i.k)) (g i.k)) (g i.k) i.k (plc i.L (g i.k)))]) 0 (.cons (wy9 hP) .nil)
  (λi=>[(wam Tryz.f107 9,L_ri g n i),(regC Tryz.f107 12,wpq g n i.L.length (atR i.L) (g i.k) i.k (plc i.L (g i.k))),(regC Tryz.f107 13,wpp g n i.L.length (setU (atR i.L) (plc i.L (g i.k)) (g i.k)) (g i.k) i.k (plc i.L (g i.k)))])
  (λi=>by kernel_rfl) (λi=>⟨ri_loop hP g n i,r12_ok hP _ _ _ _ _ _ _,r13_ok hP _ _ _ _ _ _ _,trivial⟩) [5,15,16,17] [5] [] (S_rc g n) (λi=>i.k<=n/\IsSums ((List.range i.k).map g) i.L/\Asc keyC i.L/\i.L.length<=i.k) (λi=>n - i.k) ⟨0,[]⟩ ⟨zL7 _,.nil,.nil,lR7 _⟩ h0 (λi hi=>?_) (λi=>⟨λ_ _=>rfl,trivial⟩)
 obtain⟨hkn,hs,ha,hlen⟩:=hi;rw[w28,tN7,tN7];refine wak (λh1=>?_) (λh1=>?_)
 .have hk:i.k<n:=by omega
  generalize hx:g i.k=x at *;generalize hL:i.L=L at *;have hpl:=wrl L x;have hplt:=wrk L x;have hpa:=wrm L x;generalize plc L x=p at *;have hb:=wha (hr i.k hk);rw[hx] at hb;have hne:∀j,j<p->wat (atR L j) x=false:=λj hj=>by
   cases q:wat (atR L j) x with
   |false=>rfl
   |true=>have:=hplt j hj;rw[whh.2 q] at this;omega
  have hgot:=hs.got x;have hall:∀r∈(List.range i.k).map g,rowF r=true:=λr h=>by
   obtain⟨j,hj,rfl⟩:=List.mem_map.1 h;exact hr j (by have:=List.mem_range.1 hj;omega)
  have b1:=wqs (B:=1099511627776) (by omega) x (l:=(List.range i.k).map g) λr h=>by have:=wha (hall r h);omega
  have b2:=wqu (B:=1099511627776) (by omega) x (l:=(List.range i.k).map g) λr h=>by have:=wha (hall r h);omega
  rw[List.length_map,List.length_range] at b1 b2;have hstep:=hs.step x;have hrange:(List.range (i.k+1)).map g=(List.range i.k).map g++[x]:=by rw[List.range_succ,List.map_append, ← hx];rfl
  have ins:(p<L.length->keyC x (atR L p)<0)->IsSums ((List.range (i.k+1)).map g) (L.take p++x::L.drop p)/\Asc keyC (L.take p++x::L.drop p):=λhlt=>by
   have hafter:∀j,p<=j->j<L.length->keyC x (atR L j)<0:=λj hpj hj=>by
    by_cases q:p=j
    .rw[← q];exact hlt (by omega)
    .exact wc2.lt_trans (hlt (by omega)) (asc_at ha (by omega) hj)
   have hnone:∀y∈L,wat y x=false:=λy hy=>by
    obtain⟨j,hj,rfl⟩:=mem_atR hy
    by_cases q:j<p
    .exact hne j q
    .cases q2:wat (atR L j) x with
     |false=>rfl
     |true=>have:=hafter j (by omega) hj;rw[whh.2 (wd2 q2)] at this;omega
   obtain⟨n1,n2⟩:=wxn hnone;have e:addK L x=x:=by unfold addK;rw[n1];simp
   rw[e,n2 x (wi0 x)] at hstep;have hperm:(L++[x]).Perm (L.take p++x::L.drop p):=by
    have h1:(L++[x]).Perm (x::L):=List.perm_append_singleton x L;have e2:(L.take p++x::L.drop p).Perm (x::(L.take p++L.drop p)):=List.perm_middle;rw[List.take_append_drop] at e2;exact h1.trans e2.symm
   refine⟨by rw[hrange];exact hstep.perm (List.Perm.refl _) hperm,?_⟩
   .refine Asc.insert (by rw[List.take_append_drop];exact ha) (λy hy=>?_) (λy hy=>?_)
    .obtain⟨j,hj,rfl⟩:=List.mem_iff_getElem.1 hy;rw[List.length_take] at hj;have hjL:j<L.length:=by omega
     have:=hplt j (by omega);simpa[atR,hjL] using this
    .obtain⟨j,hj,rfl⟩:=List.mem_iff_getElem.1 hy;rw[List.length_drop] at hj;have hjL:p+j<L.length:=by omega
     have:=hafter (p+j) (by omega) hjL;simpa[atR,hjL] using this
  have hlen2:(L.take p++x::L.drop p).length=0+p+1+(L.length - p):=by simp;omega
  refine⟨⟨by omega,by omega,rfl⟩,⟨rfl,wau _⟩,by omega,wak (λh2=>⟨⟨by omega,by omega⟩,⟨by omega,rfl⟩,trivial,wa7 (λh3=>?_) (λh3=>?_)⟩) (λh2=>?_)⟩
  .have hpL:p<L.length:=by omega
   have h3:¬ keyC x (atR L p)<0:=h3;have hsame:wat (atR L p) x=true:=by
    have:=hpa hpL;have:=wc2.neg x (atR L p);have:=wc2.neg (atR L p) x;exact whh.1 (by omega)
   have hgK:=wxo hpL hne hsame;rw[hgK] at hgot;have e1:(atR L p).u=sumU x ((List.range i.k).map g):=hgot.1;have e2:(atR L p).tv=sumT x ((List.range i.k).map g):=hgot.2;obtain⟨q1,q2,q3⟩:=wc6.1 hsame;have hy:addK L x=⟨(atR L p).o,(atR L p).p,(atR L p).per,(atR L p).u+x.u,(atR L p).tv+x.tv⟩:=by
    unfold addK;rw[hgK,q1,q2,q3,Int.add_comm (atR L p).u,Int.add_comm (atR L p).tv];rfl
   have hsy:wat (atR L p) (addK L x)=true:=wgg hsame (wd2 (wtn L x));have hset:setK L (addK L x)=L.set p (addK L x):=wux hpL (λj hj=>by
    cases q:wat (atR L j) (addK L x) with
    |false=>rfl
    |true=>have:=hne j hj;rw[wgg q (wtn L x)] at this;cases this) hsy
   rw[hset] at hstep;refine⟨⟨rfl,wau _⟩,hpL,?_,⟨rfl,wau _⟩,hpL,?_,by simp only[inR];omega,⟨i.k+1,L.set p (addK L x)⟩,⟨?_,⟨rfl,rfl,rfl,(List.length_set ..).symm,rfl,λj hj=>?_⟩,trivial⟩,⟨by show i.k+1<=n;omega,by rw[hrange];exact hstep,asc_set ha hpL hsy,?_⟩,by show n - (i.k+1)<n - i.k;omega⟩
   .simp only[inR];omega
   .show inR .i64 ((setU (atR L) p x p).tv+x.tv);have:(setU (atR L) p x p).tv=(atR L p).tv:=by unfold setU;rw[if_pos rfl]
    rw[this];simp only[inR];omega
   .show TEq _ [(5,.own 0 (L.set p (addK L x)).length),_,_,_];rw[List.length_set];rfl
   .show wae (setT (setU (atR L) p x) p x) j=wae (atR (L.set p (addK L x))) j;have:setT (setU (atR L) p x) p x j=atR (L.set p (addK L x)) j:=by
     unfold setT setU
     by_cases q:j=p
     .subst q;rw[if_pos rfl,if_pos rfl,hy];simp[atR,hj]
     .rw[if_neg q,if_neg q];simp[atR,List.getElem?_set_ne (Ne.symm q)]
    unfold wae;rw[this]
   .show (L.set p (addK L x)).length<=i.k+1;rw[List.length_set];omega
  all_goals
   have hlt:p<L.length->keyC x (atR L p)<0:=by
    intro q
    first
     |exact h3
     |exact absurd q (by omega)
   obtain⟨s1,s2⟩:=ins hlt;refine⟨⟨by omega,rfl,by omega⟩,⟨by omega,by omega⟩,⟨⟨by omega,rfl⟩,lR7 _,rfl,rfl,rfl,by omega,?_⟩,⟨by omega,rfl,by omega⟩,⟨⟨lR7 _,rfl⟩,lR7 _,rfl,rfl,rfl,by omega,?_⟩,⟨by omega,by omega⟩,⟨⟨by omega,rfl,rfl⟩,lR7 _,rfl,rfl,rfl,by omega,?_⟩,by simp only[inR];omega,⟨i.k+1,L.take p++x::L.drop p⟩,⟨?_,⟨rfl,rfl,rfl,hlen2.symm,rfl,λj hj=>?_⟩,trivial⟩,⟨by show i.k+1<=n;omega,s1,s2,?_⟩,by show n - (i.k+1)<n - i.k;omega⟩
   .show (0+p) * 56<=_;omega
   .show (0+p+1) * 56<=_;omega
   .show (0+p+1+(L.length - p)) * 56<=_;omega
   .show TEq _ [(5,.own 0 (L.take p++x::L.drop p).length),_,_,_];rw[hlen2];rfl
   .exact insRow (λr:RW=>[.str r.o,.str r.p,.q r.per,.q r.u,.q r.tv]) L x p hpl _ _ rfl j hj
   .show (L.take p++x::L.drop p).length<=i.k+1;rw[hlen2];omega
 .have hk:i.k=n:=by omega
  rw[hk] at hs;have e:i.L=srtR (wa3 g n):=by
   obtain⟨a1,a2⟩:=wke wc2 (l:=wa3 g n) ((wg5 g n).parts.imp λ{a b} h q=>by rw[whh.1 q] at h;cases h);exact hs.uniq ((wg5 g n).perm (List.Perm.refl _) a2.symm) ha a1
  rw[e];exact⟨λ_ _=>rfl,_,wau _,hQ⟩
theorem w1c(hP:C.P=Tryz.prog):wah C 107 wob:=by
 rintro args objs U Os vc h hvc;unfold wob at h;split at h<;>cases h;rename_i n f;obtain⟨hn,hf,hs⟩:=hvc;generalize rwOf f=g at *;subst hf;refine wal.nilv 5 (wae (atR [])) (wal.frzO 0 ?_)
 refine wa4.wpL (prg hP) [(148,.det wei)] [(6,L_rc g n)] 0 (.cons (rval_ok hP) .nil) (hP ▸ Tryz.func107) rfl rfl rfl
  [(wam Tryz.f107 6,L_rc g n)] (by kernel_rfl) ⟨rc_loop hP g n,trivial⟩ ?_
 rw[nf_rc];have hg:rwOf (wae g)=g:=rfl;rw[hg];refine⟨⟨hn,rfl,hs⟩,wa7 (λq=>?_) (λq=>?_)⟩
 .have hc:wcl g n=[]:=by unfold wcl;rw[decide_eq_false q];rfl
  rw[hc];exact⟨rfl,rfl⟩
 .obtain⟨q1,q2⟩:=wui q;have hc:wcl g n=srtR (wa3 g n):=by unfold wcl;rw[decide_eq_true q];rfl
  rw[hc,q];refine⟨⟨rfl,⟨rfl,rfl,rfl,rfl,rfl,λi hi=>absurd hi (nZ7 i)⟩,trivial⟩,q1,q2,λ_ _=>rfl,_,wau _,λ_ _=>rfl,?_⟩;have hb:Nat.ble (srtR (wa3 g n)).length (srtR (wa3 g n)).length=true:=Nat.ble_eq_true_of_le (lR7 _)
  constructor
  .simp[nilvC,nilvA,frzC,frzA,frz,hb,nilv]
  .rfl
theorem wx9{g h:Nat->RW}{k:Nat}(e:wcv g h (k+1)=false):∀n,k<n->wcv g h n=false
 |0,hn=>by omega
 |n+1,hn=>by
  by_cases q:k=n
  .subst q;exact e
  .rw[wcv,wx9 e n (by omega),Bool.false_and]
theorem sr_loop(hP:C.P=Tryz.prog)(g h:Nat->RW)(n:Nat):waj C 0 26 (wam Tryz.f53 4) (L_sr g h n):=by
 have _:C.Loose:=inferInstance;rintro st Q ⟨h0,hn,hQ⟩;have hR:=wbv hQ;refine waj.mk (prg hP) [] 0 .nil [0,1,12,13] [] [4] (S_sr g h n) (λk=>k<=n/\wcv g h k=true) (λk=>n - k) 0 ⟨zL7 _,rfl⟩ h0 (λk hk=>?_);obtain⟨hkn,hok⟩:=hk;rw[w2u,tN7];refine wak (λh1=>?_) (λh1=>?_)
 .refine⟨⟨by omega,by omega,rfl⟩,⟨by omega,by omega,rfl⟩,wcw (λh2=>hR.2 (wx9 (k:=k) (by rw[wcv,h2,Bool.and_false]) n (by omega))) (λh2=>⟨by simp only[inR];omega,k+1,rfl,⟨by omega,?_⟩,by omega⟩)⟩;rw[wcv,hok];exact h2
 .have:k=n:=by omega
  subst this;exact hR.1 hok
theorem w0z(hP:C.P=Tryz.prog):wah C 53 wmw:=by
 rintro args objs U Os vc h hvc;unfold wmw at h;split at h<;>simp only[sI7,pI7,reduceCtorEq] at h;rename_i n f m h';obtain⟨rfl,rfl,rfl⟩:=h;obtain⟨hn,hf,hh⟩:=hvc;generalize rwOf f=g at *;generalize rwOf h'=g' at *;subst hf;subst hh;refine wah.wpL (prg hP) [] [(4,L_sr g g' n)] 0 .nil (hP ▸ Tryz.func53) rfl rfl rfl [(wam Tryz.f53 4,L_sr g g' n)] (by kernel_rfl) ⟨sr_loop hP g g' n,trivial⟩ ?_;rw[nf_sr];refine wa7 (λh1=>?_) (λh1=>?_)
 .rw[decide_eq_false (show ¬ n=m by omega)];exact⟨rfl,rfl⟩
 .have:n=m:=by omega
  subst this;rw[decide_eq_true rfl];exact⟨rfl,hn,waw (λh2=>by rw[h2];exact⟨rfl,rfl⟩) (λh2=>by rw[h2];exact⟨rfl,rfl⟩)⟩
theorem wya(g:Nat->RW):∀n,wcv g g n=true
 |0=>rfl
 |n+1=>by rw[wcv,wya g n];simp
theorem w2b(o p:List UInt8)(per day st pr:Int)(rep:List UInt8)(R:oR7):wpFn te [(130,.det wej),(162,.det wcn)] [] 0 Tryz.f128 [.agg [.str o,.str p,.q per,.q day,.q st,.q pr,.str rep]] [] R=(letI z1:=R (.bool false) [];letI z4:=(wab (decide (pr=0)) (R (.bool (decide (rep=[]))) []) z1);letI z3:=(wab (decide ((1:Int)<=pr)) (wab (decide (pr<=1099511627776)) (R (.bool (decide (rep=[]))) []) z1) z1);letI z2:=(wab (decide (st=5)) (wab (decide ((1:Int)<=pr)) (wab (decide (pr<=1099511627776)) (True/\wab (wbc rep) (R (.bool !decide (rep=p)) []) z1) z1) z1) z1);letI z0:=(wab (decide (st=3)) (wab (decide (st=3)) z4 z2) (wab (decide (st=4)) z4 z2));o.length<4294967281/\wab (!wbi o p per) z1 (wab (decide (day<0)) z1 (wab (decide ((182621:Int)<=day)) z1 (wab (decide (st=1)) (wab (decide (st=1)) z3 z0) (wab (decide (st=2)) z3 z0))))):=by kernel_rfl
theorem nf_decR(o p:List UInt8)(per:Int)(dev:List UInt8)(num:Int)(R:oR7):wpFn te [(130,.det wej),(75,.det wf2)] [] 0 Tryz.f129 [.agg [.str o,.str p,.q per,.str dev,.q num]] [] R=(o.length<4294967281/\wab (wbi o p per) (dev.length<=9223372036854775806/\wab (wa5 dev) (wab (decide ((1:Int)<=num)) (R (.bool (decide (num<=1048576))) []) (R (.bool false) [])) (R (.bool false) [])) (R (.bool false) [])):=by kernel_rfl
theorem nf_msgR(m:MG)(R:oR7):wpFn te [(75,.det wf2),(128,.det wfv),(129,.det wn7)] [] 0 Tryz.f76 [.agg [.str m.dev,.q m.seq,.q m.kind,.str m.v.o,.str m.v.p,.q m.v.per,.q m.v.day,.q m.v.st,.q m.v.pr,.str m.v.rep,.str m.d.o,.str m.d.p,.q m.d.per,.str m.d.dev,.q m.d.num]] [] R=(letI z5:=(m.kind=2);letI z4:=(m.kind=1);letI z1:=(wab (decide z4) (wab (!(decide (m.d.o=[]) && (decide (m.d.p=[]) && (decide (m.d.per=0) && (decide (m.d.dev=[]) && decide (m.d.num=0)))))) (R (.q 114) []) (R (.q 0) [])) (R (.q 0) []));letI z2:=(wab (decide z5) ((m.d.o.length<4294967281/\m.d.dev.length<4294967281)/\wab (!(wbi m.d.o m.d.p m.d.per && (wa5 m.d.dev && numF m.d.num))) (R (.q 114) []) z1) z1);letI z0:=(wab (decide z5) (wab (!(decide (m.v.o=[]) && (decide (m.v.p=[]) && (decide (m.v.per=0) && (decide (m.v.day=0) && (decide (m.v.st=0) && (decide (m.v.pr=0) && decide (m.v.rep=[])))))))) (R (.q 113) []) z2) z2);letI z3:=(wab (decide z4) (m.v.o.length<4294967281/\wab (!visF (VT.mk m.v.o m.v.p m.v.per m.v.day m.v.st m.v.pr m.v.rep)) (R (.q 113) []) z0) z0);m.dev.length<=9223372036854775806/\wab (!wa5 m.dev) (R (.q 110) []) (wab (decide (m.seq<1)) (R (.q 111) []) (wab (decide ((1048576:Int)<m.seq)) (R (.q 111) []) (wab (!decide z4) (wab (!decide z5) (R (.q 112) []) z3) z3)))):=by kernel_rfl
theorem w2q(a b:List UInt8)(R:oR7):wpFn te [] [] 0 Tryz.f157 [.str a,.str b] [] R=(wab (Op.bytesLess a b) (R (.q (-1:Int)) []) (wab (!(Op.bytesLess a b || decide (a=b))) (R (.q 1) []) (R (.q 0) []))):=by kernel_rfl
theorem nf_numR(a b:Int)(R:oR7):wpFn te [] [] 0 Tryz.f158 [.q a,.q b] [] R=(wab (decide (a<b)) (R (.q (-1:Int)) []) (wab (decide (b<a)) (R (.q 1) []) (R (.q 0) []))):=by kernel_rfl
theorem nf_sm(g h:Nat->MG)(n m:Nat)(R:oR7):wpFn te [] [(4,L_sm g h n)] 0 Tryz.f25 [.view 15 n (wad g),.view 15 m (wad h)] [] R=(wab (!decide ((n:Int)=(m:Int))) (R (.bool false) []) (some (St.mk [(0,.view 15 n (wad g)),(1,.view 15 m (wad h)),(12,.q (n:Int)),(13,.q 0)] [] 0 [])=some (St.mk [(0,.view 15 n (wad g)),(1,.view 15 n (wad h)),(12,.q (n:Int)),(13,.q (↑0:Int))] [] 0 [])/\n<=1000000/\wab (eqMs g h n) (R (.bool true) []) (R (.bool false) []))):=by kernel_rfl
theorem w2x(g h:Nat->MG)(n k:Nat)(P:Nat->Prop)(R:eR7):wa1 ⟨te,[],[],0,26,0⟩ (wa2 Tryz.f25 4) [0,1,12,13] [] [4] (S_sm g h n) P R (S_sm g h n k)=(letI z1:=((0:Int)<=(k:Int)/\(k:Int)<(n:Int)/\15=15:Prop);letI z0:=(k:Int).toNat;wab (decide ((k:Int)<(n:Int))) (z1/\z1/\wab (!(decide ((g z0).dev=(h z0).dev) && (decide ((g z0).seq=(h z0).seq) && (decide ((g z0).kind=(h z0).kind) && (decide ((g z0).v.o=(h z0).v.o) && (decide ((g z0).v.p=(h z0).v.p) && (decide ((g z0).v.per=(h z0).v.per) && (decide ((g z0).v.day=(h z0).v.day) && (decide ((g z0).v.st=(h z0).v.st) && (decide ((g z0).v.pr=(h z0).v.pr) && decide ((g z0).v.rep=(h z0).v.rep)))))) && (decide ((g z0).d.o=(h z0).d.o) && (decide ((g z0).d.p=(h z0).d.p) && (decide ((g z0).d.per=(h z0).d.per) && (decide ((g z0).d.dev=(h z0).d.dev) && decide ((g z0).d.num=(h z0).d.num)))))))))) (R .ret (St.mk [(4,.bool false)] [] 0 [])) (inR .i64 ((k:Int)+1)/\∃(i':Nat),some (St.mk [(0,.view 15 n (wad g)),(1,.view 15 n (wad h)),(12,.q (n:Int)),(13,.q ((k:Int)+1))] [] 0 [])=some (St.mk [(0,.view 15 n (wad g)),(1,.view 15 n (wad h)),(12,.q (n:Int)),(13,.q (i':Int))] [] 0 [])/\P i')) (R (.exit 0) (St.mk [] [] 0 []))):=by kernel_rfl
theorem wzv(hP:C.P=Tryz.prog):wah C 128 wfv:=by
 rintro args objs U Os vc h hvc;unfold wfv at h;split at h<;>cases h;rename_i o p per day st pr rep;refine wah.wp0 (prg hP) [(130,.det wej),(162,.det wcn)] 0 (.cons (wki hP) (.cons (wt4 hP) .nil)) (hP ▸ Tryz.func128) rfl rfl rfl ?_;rw[w2b];refine⟨hvc,wcw (λh1=>?_) (λh1=>wak (λh2=>?_) (λh2=>wak (λh3=>?_) (λh3=>?_)))⟩
 .unfold visF;simp[h1]
 .unfold visF;simp[show ¬ 0<=day by omega]
 .unfold visF;simp[show ¬ day<=182620 by omega]
 have hv:visF ⟨o,p,per,day,st,pr,rep⟩=(bif decide (st=1) || decide (st=2) then decide (1<=pr) && decide (pr<=1099511627776) && decide (rep=[])
  else bif decide (st=3) || decide (st=4) then decide (pr=0) && decide (rep=[])
  else bif decide (st=5) then decide (1<=pr) && decide (pr<=1099511627776) && wbc rep && !decide (rep=p) else false):=by
  unfold visF;simp only[h1,Bool.true_and,decide_eq_true (show 0<=day by omega),decide_eq_true (show day<=182620 by omega)]
 rw[hv];clear hv h1 h2 h3
 by_cases s1:st=1
 .subst s1;generalize decide (1<=pr)=b1,decide (pr<=1099511627776)=b2,decide (pr=0)=b3,decide (rep=p)=b4,decide (rep=[])=b5,wbc rep=b6
  cases b1<;>cases b2<;>exact⟨rfl,rfl⟩
 by_cases s2:st=2
 .subst s2;generalize decide (1<=pr)=b1,decide (pr<=1099511627776)=b2,decide (pr=0)=b3,decide (rep=p)=b4,decide (rep=[])=b5,wbc rep=b6
  cases b1<;>cases b2<;>exact⟨rfl,rfl⟩
 by_cases s3:st=3
 .subst s3;generalize decide (1<=pr)=b1,decide (pr<=1099511627776)=b2,decide (pr=0)=b3,decide (rep=p)=b4,decide (rep=[])=b5,wbc rep=b6
  cases b3<;>exact⟨rfl,rfl⟩
 by_cases s4:st=4
 .subst s4;generalize decide (1<=pr)=b1,decide (pr<=1099511627776)=b2,decide (pr=0)=b3,decide (rep=p)=b4,decide (rep=[])=b5,wbc rep=b6
  cases b3<;>exact⟨rfl,rfl⟩
 by_cases s5:st=5
 .subst s5;generalize decide (1<=pr)=b1,decide (pr<=1099511627776)=b2,decide (pr=0)=b3,decide (rep=p)=b4,decide (rep=[])=b5,wbc rep=b6
  cases b1<;>cases b2<;>cases b6<;>first | exact⟨rfl,rfl⟩ | exact⟨trivial,rfl,rfl⟩
 rw[decide_eq_false s1,decide_eq_false s2,decide_eq_false s3,decide_eq_false s4,decide_eq_false s5];exact⟨rfl,rfl⟩
theorem decR_ok(hP:C.P=Tryz.prog):wah C 129 wn7:=by
 rintro args objs U Os vc h hvc;unfold wn7 at h;split at h<;>cases h;rename_i o p per dev num;refine wah.wp0 (prg hP) [(130,.det wej),(75,.det wf2)] 0 (.cons (wki hP) (.cons (wrs hP) .nil)) (hP ▸ Tryz.func129) rfl rfl rfl ?_;rw[nf_decR];unfold numF;generalize wbi o p per=b1,wa5 dev=b2,decide (1<=num)=b3,decide (num<=1048576)=b4;refine⟨hvc.1,?_⟩
 cases b1
 .exact⟨rfl,rfl⟩
 refine⟨by omega,?_⟩
 cases b2<;>cases b3<;>exact⟨rfl,rfl⟩
theorem wv6(hP:C.P=Tryz.prog):wah C 76 wcf:=by
 rintro args objs U Os vc h hvc;unfold wcf at h;split at h<;>cases h;rename_i dev seq kind o p per day st pr rep o2 p2 per2 dev2 num;refine wah.wp0 (prg hP) [(75,.det wf2),(128,.det wfv),(129,.det wn7)] 0 (.cons (wrs hP) (.cons (wzv hP) (.cons (decR_ok hP) .nil))) (hP ▸ Tryz.func76) rfl rfl rfl ?_;have nf:=λR=>nf_msgR ⟨dev,seq,kind,⟨o,p,per,day,st,pr,rep⟩,⟨o2,p2,per2,dev2,num⟩⟩ R;refine(nf _).mpr ?_;clear nf;obtain⟨l1,l2,l3,l4⟩:=hvc;unfold msgF VT.nil DT.nil;dsimp only
 generalize (decide (o=[]) && (decide (p=[]) && (decide (per=0) && (decide (day=0) && (decide (st=0) && (decide (pr=0) && decide (rep=[])))))))=vn;generalize (decide (o2=[]) && (decide (p2=[]) && (decide (per2=0) && (decide (dev2=[]) && decide (num=0)))))=dn;generalize wa5 dev=b1,visF ⟨o,p,per,day,st,pr,rep⟩=b3,wbi o2 p2 per2=b4,wa5 dev2=b5,numF num=b6;refine⟨by omega,?_⟩
 cases b1
 .exact⟨rfl,rfl⟩
 by_cases s1:seq<1
 .rw[show numF seq=false by unfold numF;rw[decide_eq_false (show ¬ 1<=seq by omega)];rfl,decide_eq_true s1];exact⟨rfl,rfl⟩
 by_cases s2:1048576<seq
 .rw[show numF seq=false by unfold numF;rw[decide_eq_false (show ¬ seq<=1048576 by omega),Bool.and_false],decide_eq_false s1,decide_eq_true s2];exact⟨rfl,rfl⟩
 rw[show numF seq=true by unfold numF;rw[decide_eq_true (show 1<=seq by omega),decide_eq_true (show seq<=1048576 by omega)];rfl,decide_eq_false s1,decide_eq_false s2]
 by_cases k1:kind=1
 .subst k1;refine⟨l2,?_⟩
  cases b3<;>cases dn<;>exact⟨rfl,rfl⟩
 by_cases k2:kind=2
 .subst k2
  cases vn
  .exact⟨rfl,rfl⟩
  refine⟨⟨l3,l4⟩,?_⟩
  cases b4<;>cases b5<;>cases b6<;>exact⟨rfl,rfl⟩
 rw[decide_eq_false k1,decide_eq_false k2];exact⟨rfl,rfl⟩
theorem wz9(hP:C.P=Tryz.prog):wah C 157 wmp:=by
 have _:C.Loose:=inferInstance;rintro args objs U Os vc h hvc;unfold wmp at h;split at h<;>cases h;rename_i a b;refine wah.wp0 (prg hP) [] 0 .nil (hP ▸ Tryz.func157) rfl rfl rfl ?_;rw[w2q]
 rcases whr a b with⟨q,e⟩ | ⟨q,e⟩ | ⟨q,e⟩
 .rw[e,q];exact⟨rfl,rfl⟩
 .subst q;rw[e,wgv,decide_eq_true rfl];exact⟨rfl,rfl⟩
 .have n1:Op.bytesLess a b=false:=by
   cases z:Op.bytesLess a b with
   |false=>rfl
   |true=>have:=wgt.2 z;omega
  have n2:decide (a=b)=false:=decide_eq_false λz=>by have:=wcx.2 z;omega
  rw[e,n1,n2];exact⟨rfl,rfl⟩
theorem numR_ok(hP:C.P=Tryz.prog):wah C 158 wnf:=by
 have _:C.Loose:=inferInstance;rintro args objs U Os vc h hvc;unfold wnf at h;split at h<;>cases h;rename_i a b;refine wah.wp0 (prg hP) [] 0 .nil (hP ▸ Tryz.func158) rfl rfl rfl ?_;rw[nf_numR];have e:=we4 a b;refine wak (λq=>?_) (λq=>wak (λq2=>?_) (λq2=>?_))
 .rw[show cmpI a b= -1 by omega];exact⟨rfl,rfl⟩
 .rw[show cmpI a b=1 by omega];exact⟨rfl,rfl⟩
 .rw[show cmpI a b=0 by omega];exact⟨rfl,rfl⟩
theorem wyb{g h:Nat->MG}{k:Nat}(e:eqMs g h (k+1)=false):∀n,k<n->eqMs g h n=false
 |0,hn=>by omega
 |n+1,hn=>by
  by_cases q:k=n
  .subst q;exact e
  .rw[eqMs,wyb e n (by omega),Bool.false_and]
theorem sm_loop(hP:C.P=Tryz.prog)(g h:Nat->MG)(n:Nat):waj C 0 26 (wam Tryz.f25 4) (L_sm g h n):=by
 have _:C.Loose:=inferInstance;rintro st Q ⟨h0,hn,hQ⟩;have hR:=wbv hQ;refine waj.mk (prg hP) [] 0 .nil [0,1,12,13] [] [4] (S_sm g h n) (λk=>k<=n/\eqMs g h k=true) (λk=>n - k) 0 ⟨zL7 _,rfl⟩ h0 (λk hk=>?_);obtain⟨hkn,hok⟩:=hk;rw[w2x,tN7];refine wak (λh1=>?_) (λh1=>?_)
 .refine⟨⟨by omega,by omega,rfl⟩,⟨by omega,by omega,rfl⟩,wcw (λh2=>hR.2 (wyb (k:=k) (by rw[eqMs,show eqM (g k) (h k)=false from h2,Bool.and_false]) n (by omega))) (λh2=>⟨by simp only[inR];omega,k+1,rfl,⟨by omega,?_⟩,by omega⟩)⟩;rw[eqMs,hok];exact h2
 .have:k=n:=by omega
  subst this;exact hR.1 hok
theorem w0x(hP:C.P=Tryz.prog):wah C 25 wmv:=by
 rintro args objs U Os vc h hvc;unfold wmv at h;split at h<;>simp only[sI7,pI7,reduceCtorEq] at h;rename_i n f m h';obtain⟨rfl,rfl,rfl⟩:=h;obtain⟨hn,hf,hh⟩:=hvc;generalize mgOf f=g at *;generalize mgOf h'=g' at *;subst hf;subst hh;refine wah.wpL (prg hP) [] [(4,L_sm g g' n)] 0 .nil (hP ▸ Tryz.func25) rfl rfl rfl [(wam Tryz.f25 4,L_sm g g' n)] (by kernel_rfl) ⟨sm_loop hP g g' n,trivial⟩ ?_;rw[nf_sm];refine wa7 (λh1=>?_) (λh1=>?_)
 .rw[decide_eq_false (show ¬ n=m by omega)];exact⟨rfl,rfl⟩
 .have:n=m:=by omega
  subst this;rw[decide_eq_true rfl];exact⟨rfl,hn,waw (λh2=>by rw[h2];exact⟨rfl,rfl⟩) (λh2=>by rw[h2];exact⟨rfl,rfl⟩)⟩
theorem w3q(x:Int)(R:oR7):wpFn te [] [] 0 Tryz.f180 [.q x] [] R=(wab (decide ((0:Int)<=x)) (R (.bool (decide (x<=1099511627776))) []) (R (.bool false) [])):=by kernel_rfl
theorem nf_tarV(st:Int)(bs:List BK)(R:oR7):letI z3:=R (.q 141) [];letI z2:=wan (atB bs);letI z0:=bs.length;letI z1:=([(0,.cells [.q st,.view 2 z0 z2] 95)]:oL7);wpFn te [(180,.det wh2)] [(7,L_tv st bs)] 0 Tryz.f151 [.agg [.q st,.view 2 bs.length z2]] [] R=(True/\wab (!(decide ((0:Int)<=st) && decide (st<=1099511627776))) (R (.q 140) []) (wab (decide ((z0:Int)<1)) z3 (wab (decide ((8:Int)<(z0:Int))) z3 (some (St.mk [(1,.ptr 0 0),(3,.q 0),(22,.view 2 z0 z2),(23,.q (z0:Int)),(24,.q 0)] z1 1 [])=some (St.mk [(1,.ptr 0 0),(3,.q (lowB bs 0)),(22,.view 2 z0 z2),(23,.q (z0:Int)),(24,.q (↑0:Int))] z1 1 [])/\bs.length<=8/\wab (bksB bs z0) (R (.q 0) []) z3)))):=by kernel_rfl
theorem w2h(st:Int)(bs:List BK)(k:Nat)(P:Nat->Prop)(R:eR7):wa1 ⟨te,[(180,.det wh2)],[],0,65,0⟩ (wa2 Tryz.f151 7) [1,3,22,23,24] [] [2] (S_tv st bs) P R (S_tv st bs k)=(letI z6:=bs.length;letI z5:=([(0,.cells [.q st,.view 2 z6 (wan (atB bs))] 95)]:oL7);letI z4:=R .ret (St.mk [(2,.q 141)] [] 0 []);letI z3:=(z6:Int);letI z2:=(atB bs (k:Int).toNat);letI z0:=(inR .i64 ((k:Int)+1)/\∃(i':Nat),some (St.mk [(1,.ptr 0 0),(3,.q z2.up),(22,.view 2 z6 (wan (atB bs))),(23,.q z3),(24,.q ((k:Int)+1))] z5 1 [])=some (St.mk [(1,.ptr 0 0),(3,.q (lowB bs i')),(22,.view 2 z6 (wan (atB bs))),(23,.q z3),(24,.q (i':Int))] z5 1 [])/\P i');letI z1:=(wab (!decide ((k:Int)=z3 - (1:Int))) (wab (decide (z2.up<=lowB bs k)) z4 (wab (decide ((1099511627776:Int)<z2.up)) z4 z0)) z0);wab (decide ((k:Int)<z3)) (((0:Int)<=(k:Int)/\(k:Int)<z3/\2=2)/\inR .i64 (z3 - (1:Int))/\True/\wab (!(decide ((0:Int)<=z2.pr) && decide (z2.pr<=1099511627776))) z4 (wab (decide ((k:Int)=z3 - (1:Int))) (wab (!decide (z2.up=0)) z4 z1) z1)) (R (.exit 0) (St.mk [] [] 0 []))):=by kernel_rfl
theorem nf_tarR(st:Int)(bs:List BK)(R:oR7):letI z3:=R (.q 141) [];letI z2:=wan (atB bs);letI z0:=bs.length;letI z1:=([(0,.cells [.q st,.view 2 z0 z2] 95)]:oL7);wpFn te [] [(7,L_tw st bs)] 0 Tryz.f131 [.agg [.q st,.view 2 bs.length z2]] [] R=(wab (decide (st<0)) (R (.q 140) []) (wab (decide ((1099511627776:Int)<st)) (R (.q 140) []) (wab (decide ((z0:Int)<1)) z3 (wab (decide ((8:Int)<(z0:Int))) z3 (some (St.mk [(1,.ptr 0 0),(3,.q 0),(25,.view 2 z0 z2),(26,.q (z0:Int)),(27,.q 0)] z1 1 [])=some (St.mk [(1,.ptr 0 0),(3,.q (lowB bs 0)),(25,.view 2 z0 z2),(26,.q (z0:Int)),(27,.q (↑0:Int))] z1 1 [])/\bs.length<=8/\wab (bksB bs z0) (R (.q 0) []) z3))))):=by kernel_rfl
theorem w2g(st:Int)(bs:List BK)(k:Nat)(P:Nat->Prop)(R:eR7):wa1 ⟨te,[],[],0,61,0⟩ (wa2 Tryz.f131 7) [1,3,25,26,27] [] [2] (S_tw st bs) P R (S_tw st bs k)=(letI z3:=bs.length;letI z4:=([(0,.cells [.q st,.view 2 z3 (wan (atB bs))] 95)]:oL7);letI z2:=(atB bs (k:Int).toNat);letI z1:=R .ret (St.mk [(2,.q 141)] [] 0 []);letI z0:=(inR .i64 ((k:Int)+1)/\∃(i':Nat),some (St.mk [(1,.ptr 0 0),(3,.q z2.up),(25,.view 2 z3 (wan (atB bs))),(26,.q (z3:Int)),(27,.q ((k:Int)+1))] z4 1 [])=some (St.mk [(1,.ptr 0 0),(3,.q (lowB bs i')),(25,.view 2 z3 (wan (atB bs))),(26,.q (z3:Int)),(27,.q (i':Int))] z4 1 [])/\P i');wab (decide ((k:Int)<(z3:Int))) (((0:Int)<=(k:Int)/\(k:Int)<(z3:Int)/\2=2)/\wab (decide (z2.pr<0)) z1 (wab (decide ((1099511627776:Int)<z2.pr)) z1 (inR .i64 ((k:Int)+1)/\wab (decide ((k:Int)+1=(z3:Int))) (wab (!decide (z2.up=0)) z1 z0) (wab (decide (z2.up<=lowB bs k)) z1 (wab (decide ((1099511627776:Int)<z2.up)) z1 z0))))) (R (.exit 0) (St.mk [] [] 0 []))):=by kernel_rfl
theorem w2y(o p:List UInt8)(per:Int)(R:oR7):wpFn te [(105,.det whx)] [] 0 Tryz.f150 [.str o,.str p,.q per] [] R=(letI z0:=wap 5 (.str o:: .str p:: .q per:: .q 1:: .q 1::List.append [] wc1);(5<=16777216/\5=5/\1<=9223372036854775807)/\(∀(i:Nat),i<1->nrefL (wap 5 (.str o:: .str p:: .q per:: .q 1:: .q 1::List.append [] wc1) i)=true)/\(1=1/\1<=1000000/\(∀(i:Nat),i<1->wap 5 (.str o:: .str p:: .q per:: .q 1:: .q 1::List.append [] wc1) i=[.str (rwOf z0 i).o,.str (rwOf z0 i).p,.q (rwOf z0 i).per,.q (rwOf z0 i).u,.q (rwOf z0 i).tv])/\∀(i:Nat),i<1->(rwOf z0 i).o.length<4294967281)/\R (.bool (decide (svF (rwOf z0) 1=0))) []):=by kernel_rfl
theorem w3d(t:RT)(R:oR7):wpFn te [(150,.det wek),(151,.det wfx)] [] 0 Tryz.f108 [.agg [.str t.o,.str t.p,.q t.per,.q t.st,.view 2 t.bs.length (wan (atB t.bs))]] [] R=(letI z0:=lst (bkOf (wan (atB t.bs))) t.bs.length;t.o.length<4294967281/\wab (wbi t.o t.p t.per) (wan (atB t.bs)=wan (atB z0)/\R (.bool (decide (tfF t.st z0=0))) []) (R (.bool false) [])):=by kernel_rfl
theorem w3e(t:RT)(R:oR7):wpFn te [(130,.det wej),(131,.det wfx)] [] 0 Tryz.f78 [.agg [.str t.o,.str t.p,.q t.per,.q t.st,.view 2 t.bs.length (wan (atB t.bs))]] [] R=(letI z0:=lst (bkOf (wan (atB t.bs))) t.bs.length;t.o.length<4294967281/\wab (wbi t.o t.p t.per) (wan (atB t.bs)=wan (atB z0)/\R (.bool (decide (tfF t.st z0=0))) []) (R (.bool false) [])):=by kernel_rfl
theorem wda{bs:List BK}{i:Nat}:bkOK bs i=true↔0<=(atB bs i).pr/\(atB bs i).pr<=1099511627776/\(i+1=bs.length->(atB bs i).up=0)/\(¬ i+1=bs.length->lowB bs i<(atB bs i).up/\(atB bs i).up<=1099511627776):=by
 unfold bkOK
 by_cases h:i+1=bs.length
 .rw[decide_eq_true h];simp[h]
 .rw[decide_eq_false h];simp[h]
theorem wtb{bs:List BK}{k:Nat}(e:bksB bs (k+1)=false):∀n,k<n->bksB bs n=false
 |0,hn=>by omega
 |n+1,hn=>by
  by_cases q:k=n
  .subst q;exact e
  .rw[bksB,wtb e n (by omega),Bool.false_and]
theorem wvo(hP:C.P=Tryz.prog):wah C 180 wh2:=by
 have _:C.Loose:=inferInstance;rintro args objs U Os vc h hvc;unfold wh2 at h;split at h<;>cases h;rename_i n;refine wah.wp0 (prg hP) [] 0 .nil (hP ▸ Tryz.func180) rfl rfl rfl ?_;rw[w3q];exact wak (λh=>by rw[decide_eq_true h];exact⟨rfl,rfl⟩) (λh=>by rw[decide_eq_false h];exact⟨rfl,rfl⟩)
theorem tv_loop(hP:C.P=Tryz.prog)(st:Int)(bs:List BK):waj C 0 65 (wam Tryz.f151 7) (L_tv st bs):=by
 rintro s Q ⟨h0,hn,hQ⟩;have hR:=wbv hQ;refine waj.mk (prg hP) [(180,.det wh2)] 0 (.cons (wvo hP) .nil) [1,3,22,23,24] [] [2] (S_tv st bs) (λk=>k<=bs.length/\bksB bs k=true) (λk=>bs.length - k) 0 ⟨zL7 _,rfl⟩ h0 (λk hk=>?_);obtain⟨hkn,hok⟩:=hk;rw[w2h,tN7];refine wak (λh1=>?_) (λh1=>?_)
 .have hlt:k<bs.length:=by omega
  have bad:bkOK bs k=false->Q .ret ⟨[(2,.q 141)],[],0,[]⟩:=λh=>hR.2 (wtb (k:=k) (by rw[bksB,h,Bool.and_false]) _ hlt);have bad':¬ bkOK bs k=true->Q .ret ⟨[(2,.q 141)],[],0,[]⟩:=λh=>bad (by cases q:bkOK bs k with
   |true=>exact absurd q h
   |false=>rfl)
  have next:bkOK bs k=true->inR .i64 ((k:Int)+1)/\∃i':Nat,some (St.mk [(1,.ptr 0 0),(3,.q (atB bs k).up),(22,.view 2 bs.length (wan (atB bs))),(23,.q (bs.length:Int)),(24,.q ((k:Int)+1))] [(0,.cells [.q st,.view 2 bs.length (wan (atB bs))] 95)] 1 [])=
    some (St.mk [(1,.ptr 0 0),(3,.q (lowB bs i')),(22,.view 2 bs.length (wan (atB bs))),(23,.q (bs.length:Int)),(24,.q (i':Int))] [(0,.cells [.q st,.view 2 bs.length (wan (atB bs))] 95)] 1 [])/\(i'<=bs.length/\bksB bs i'=true)/\bs.length - i'<bs.length - k:=
   λh=>⟨by simp only[inR];omega,k+1,rfl,⟨by omega,by rw[bksB,hok,h];rfl⟩,by omega⟩
  refine⟨⟨by omega,by omega,rfl⟩,by simp only[inR];omega,trivial,wcw (λh2=>bad' (λh=>?_)) (λh2=>?_)⟩
  .rw[Bool.and_eq_false_iff,decide_eq_false_iff_not,decide_eq_false_iff_not] at h2;have:=wda.1 h;omega
  .rw[bA7,decide_eq_true_eq,decide_eq_true_eq] at h2
   refine wak (λh3=>wa7 (λh4=>bad' (λh=>h4 ((wda.1 h).2.2.1 (by omega)))) (λh4=>wa7 (λh5=>absurd h3 h5) (λ_=>next (wda.2 ⟨h2.1,h2.2,λ_=>h4,λh=>absurd (by omega) h⟩))))
    (λh3=>wa7 (λ_=>wak (λh4=>bad' (λh=>by have:=(wda.1 h).2.2.2 (by omega);omega)) (λh4=>wak (λh5=>bad' (λh=>by have:=(wda.1 h).2.2.2 (by omega);omega)) (λh5=>next (wda.2 ⟨h2.1,h2.2,λh=>absurd h (by omega),λ_=>⟨by omega,by omega⟩⟩)))) (λh5=>absurd h5 h3))
 .have:k=bs.length:=by omega
  subst this;exact hR.1 hok
theorem tw_loop(hP:C.P=Tryz.prog)(st:Int)(bs:List BK):waj C 0 61 (wam Tryz.f131 7) (L_tw st bs):=by
 have _:C.Loose:=inferInstance;rintro s Q ⟨h0,hn,hQ⟩;have hR:=wbv hQ;refine waj.mk (prg hP) [] 0 .nil [1,3,25,26,27] [] [2] (S_tw st bs) (λk=>k<=bs.length/\bksB bs k=true) (λk=>bs.length - k) 0 ⟨zL7 _,rfl⟩ h0 (λk hk=>?_);obtain⟨hkn,hok⟩:=hk;rw[w2g,tN7];refine wak (λh1=>?_) (λh1=>?_)
 .have hlt:k<bs.length:=by omega
  have bad:bkOK bs k=false->Q .ret ⟨[(2,.q 141)],[],0,[]⟩:=λh=>hR.2 (wtb (k:=k) (by rw[bksB,h,Bool.and_false]) _ hlt);have bad':¬ bkOK bs k=true->Q .ret ⟨[(2,.q 141)],[],0,[]⟩:=λh=>bad (by cases q:bkOK bs k with
   |true=>exact absurd q h
   |false=>rfl)
  have next:bkOK bs k=true->inR .i64 ((k:Int)+1)/\∃i':Nat,some (St.mk [(1,.ptr 0 0),(3,.q (atB bs k).up),(25,.view 2 bs.length (wan (atB bs))),(26,.q (bs.length:Int)),(27,.q ((k:Int)+1))] [(0,.cells [.q st,.view 2 bs.length (wan (atB bs))] 95)] 1 [])=
    some (St.mk [(1,.ptr 0 0),(3,.q (lowB bs i')),(25,.view 2 bs.length (wan (atB bs))),(26,.q (bs.length:Int)),(27,.q (i':Int))] [(0,.cells [.q st,.view 2 bs.length (wan (atB bs))] 95)] 1 [])/\(i'<=bs.length/\bksB bs i'=true)/\bs.length - i'<bs.length - k:=
   λh=>⟨by simp only[inR];omega,k+1,rfl,⟨by omega,by rw[bksB,hok,h];rfl⟩,by omega⟩
  refine⟨⟨by omega,by omega,rfl⟩,wak (λh2=>bad' (λh=>by have:=wda.1 h;omega)) (λh2=>wak (λh3=>bad' (λh=>by have:=wda.1 h;omega)) (λh3=>⟨by simp only[inR];omega,wak (λh4=>wa7 (λh5=>bad' (λh=>h5 ((wda.1 h).2.2.1 (by omega)))) (λh5=>next (wda.2 ⟨by omega,by omega,λ_=>h5,λh=>absurd (by omega) h⟩)))
   (λh4=>wak (λh5=>bad' (λh=>by have:=(wda.1 h).2.2.2 (by omega);omega)) (λh5=>wak (λh6=>bad' (λh=>by have:=(wda.1 h).2.2.2 (by omega);omega)) (λh6=>next (wda.2 ⟨by omega,by omega,λh=>absurd h (by omega),λ_=>⟨by omega,by omega⟩⟩))))⟩))⟩
 .have:k=bs.length:=by omega
  subst this;exact hR.1 hok
theorem tarV_ok(hP:C.P=Tryz.prog):wah C 151 wfx:=by
 rintro args objs U Os vc h hvc;unfold wfx at h;split at h<;>cases h;rename_i st n f;have hl:(lst (bkOf f) n).length=n:=by simp[lst]
 generalize lst (bkOf f) n=bs at *;subst hl;subst hvc;refine wah.wpL (prg hP) [(180,.det wh2)] [(7,L_tv st bs)] 0 (.cons (wvo hP) .nil) (hP ▸ Tryz.func151) rfl rfl rfl [(wam Tryz.f151 7,L_tv st bs)] (by kernel_rfl) ⟨tv_loop hP st bs,trivial⟩ ?_;rw[nf_tarV];unfold tfF;refine⟨trivial,wcw (λh=>by rw[h];exact⟨rfl,rfl⟩) (λh=>?_)⟩;rw[h];refine wak (λh1=>?_) (λh1=>wak (λh2=>?_) (λh2=>⟨rfl,by omega,?_⟩))
 .rw[decide_eq_true (show bs.length<1 by omega)];exact⟨rfl,rfl⟩
 .rw[decide_eq_true (show 8<bs.length by omega),Bool.or_true];exact⟨rfl,rfl⟩
 .rw[decide_eq_false (show ¬ bs.length<1 by omega),decide_eq_false (show ¬ 8<bs.length by omega)];exact waw (λq=>by rw[q];exact⟨rfl,rfl⟩) (λq=>by rw[q];exact⟨rfl,rfl⟩)
theorem tarR_ok(hP:C.P=Tryz.prog):wah C 131 wfx:=by
 rintro args objs U Os vc h hvc;unfold wfx at h;split at h<;>cases h;rename_i st n f;have hl:(lst (bkOf f) n).length=n:=by simp[lst]
 generalize lst (bkOf f) n=bs at *;subst hl;subst hvc;refine wah.wpL (prg hP) [] [(7,L_tw st bs)] 0 .nil (hP ▸ Tryz.func131) rfl rfl rfl [(wam Tryz.f131 7,L_tw st bs)] (by kernel_rfl) ⟨tw_loop hP st bs,trivial⟩ ?_;rw[nf_tarR];unfold tfF;refine wak (λh=>?_) (λh=>wak (λh'=>?_) (λh'=>wak (λh1=>?_) (λh1=>wak (λh2=>?_) (λh2=>⟨rfl,by omega,?_⟩))))
 .rw[decide_eq_false (show ¬ 0<=st by omega)];exact⟨rfl,rfl⟩
 .rw[decide_eq_false (show ¬ st<=1099511627776 by omega),Bool.and_false];exact⟨rfl,rfl⟩
 all_goals rw[decide_eq_true (show 0<=st by omega),decide_eq_true (show st<=1099511627776 by omega)]
 .rw[decide_eq_true (show bs.length<1 by omega)];exact⟨rfl,rfl⟩
 .rw[decide_eq_true (show 8<bs.length by omega),Bool.or_true];exact⟨rfl,rfl⟩
 .rw[decide_eq_false (show ¬ bs.length<1 by omega),decide_eq_false (show ¬ 8<bs.length by omega)];exact waw (λq=>by rw[q];exact⟨rfl,rfl⟩) (λq=>by rw[q];exact⟨rfl,rfl⟩)
theorem wuh(hP:C.P=Tryz.prog)(hL:∀w,C.laid w->LaidW w):wah C 105 whx:=by
 rintro args objs U Os vc h hvc;unfold whx at h;split at h<;>cases h;rename_i n t m f fr;obtain⟨rfl,hn,hf,hs⟩:=hvc;refine wal.rowEq 0 (f':=wae (rwOf f)) rfl (λi hi=>(hf i hi).symm) ?_;have hb:Nat.ble n n=true:=Nat.ble_eq_true_of_le (lR7 _);exact ADet.give (wqq hP hL [.view 5 n (wae (rwOf f))] [] _ _ _ rfl ⟨hn,rfl,hs⟩) (by simp[frzC,frzA,frz,hb]) rfl rfl (λ_ _=>rfl)
theorem svF_one(o p:List UInt8)(per:Int)(g:Nat->RW)(h:g 0=⟨o,p,per,1,1⟩):decide (svF g 1=0)=wbi o p per:=by
 unfold svF;rw[decide_eq_false (show ¬ 24000<1 by omega)];simp only[cond_false,wb5,Bool.true_and,h,rowF]
 cases wbi o p per<;>rfl
theorem w0s(hP:C.P=Tryz.prog)(hL:∀w,C.laid w->LaidW w):wah C 150 wek:=by
 rintro args objs U Os vc h hvc;unfold wek at h;split at h<;>cases h;rename_i o p per;refine wah.wp0 (prg hP) [(105,.det whx)] 0 (.cons (wuh hP hL) .nil) (hP ▸ Tryz.func150) rfl rfl rfl ?_;rw[w2y];have one:∀ {p:Nat->Prop},p 0->∀i,i<1->p i:=λh0 i hi=>by
  match i,hi with
  |0,_=>exact h0
 refine⟨⟨by omega,rfl,by omega⟩,one rfl,⟨rfl,by omega,one rfl,one hvc⟩,?_⟩;rw[svF_one o p per _ rfl];exact⟨rfl,rfl⟩
theorem wvm(hP:C.P=Tryz.prog)(hL:∀w,C.laid w->LaidW w):wah C 108 wem:=by
 rintro args objs U Os vc h hvc;unfold wem at h;split at h<;>cases h;rename_i o p per st n f;obtain⟨ho,hf⟩:=hvc;have hl:(lst (bkOf f) n).length=n:=by simp[lst]
 generalize hb:lst (bkOf f) n=bs at *;subst hl;subst hf;have hn:=w3d ⟨o,p,per,st,bs⟩;dsimp only at hn;refine wah.wp0 (prg hP) [(150,.det wek),(151,.det wfx)] 0 (.cons (w0s hP hL) (.cons (tarV_ok hP) .nil)) (hP ▸ Tryz.func108) rfl rfl rfl ?_;rw[hn,wgw];unfold rtOK;exact⟨ho,waw (λq=>⟨rfl,by rw[q];exact⟨rfl,rfl⟩⟩) (λq=>by rw[q];exact⟨rfl,rfl⟩)⟩
theorem w1i(hP:C.P=Tryz.prog):wah C 78 wem:=by
 rintro args objs U Os vc h hvc;unfold wem at h;split at h<;>cases h;rename_i o p per st n f;obtain⟨ho,hf⟩:=hvc;have hl:(lst (bkOf f) n).length=n:=by simp[lst]
 generalize hb:lst (bkOf f) n=bs at *;subst hl;subst hf;have hn:=w3e ⟨o,p,per,st,bs⟩;dsimp only at hn;refine wah.wp0 (prg hP) [(130,.det wej),(131,.det wfx)] 0 (.cons (wki hP) (.cons (tarR_ok hP) .nil)) (hP ▸ Tryz.func78) rfl rfl rfl ?_;rw[hn,wgw];unfold rtOK;exact⟨ho,waw (λq=>⟨rfl,by rw[q];exact⟨rfl,rfl⟩⟩) (λq=>by rw[q];exact⟨rfl,rfl⟩)⟩
end Go.Eng
