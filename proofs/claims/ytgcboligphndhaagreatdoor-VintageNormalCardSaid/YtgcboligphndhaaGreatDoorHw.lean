/- The reference of messages: its small functions. -/
import Derived.Test.YtgcboligphndhaaGreatDoorHv
namespace Go.Eng
open Go.Proofs Go.RowKit Go.Sort
variable {C:Ctx} [C.Loose]
set_option maxRecDepth 20000
theorem wwj(w:World)(k:Nat)(os:Array Obj):Below w.heap.size w (grow (w.drewN k) os):=
 ⟨rfl,rfl,rfl,by simp[grow,World.drewN],λi hi=>by
  show (w.heap++os)[i]?=_;rw[Array.getElem?_append_left hi]⟩
theorem wp6{w:World}{M:Nat->Prop}{bs:Nat->Option Hd}{v:Value}{r off:Nat}(h:V w M bs v (.ptr r off)):∃b c,v= .pointer (some ⟨b,off,none⟩)/\bs r=some (.blk b c):=by
 cases h with | ptr hb=>exact⟨_,_,rfl,hb⟩
theorem ccUsed(hP:C.P=Tryz.prog){args:List AV}{objs:List AObj}{cs:List AV}{t:TypeId}(ha:args=[.ptr 0 0])(ho:objs[0]?=some (.cells (.ptr 0 0::cs) t)):wan C 164 args objs λu O=>u= .tuple []/\O=enum 0 objs:=by
 have _:C.Loose:=inferInstance;subst ha;refine wan.quiet ⟨_,hP ▸ Tryz.func164,rfl,by decide⟩ λE bs w cargs hW hl hv=>?_;obtain⟨a,rfl⟩:=mem1 hl;have V0:=hv 0 _ _ rfl rfl;obtain⟨b,x,rfl,hx,hxV⟩:=WRep.cell hW (r:=0) (by simpa[lkL] using ho) V0 (j:=0) (u:=.ptr 0 0) rfl;obtain⟨b1,c1,rfl,hb1⟩:=wp6 hxV;obtain⟨b2,c2,e2,hb2⟩:=wp6 V0;rw[hb1] at hb2;injection hb2 with hb2;injection hb2 with e3 e4;subst e3;injection e2 with e2;injection e2 with e2;injection e2 with e2;subst e2;rw[hP];refine(Tryz.copyCheck_used b w hx).mono ?_;rintro e w' ⟨rfl,rfl⟩;exact⟨_,rfl,rfl,.tuple rfl (λj v u hv hu=>by simp at hu)⟩
theorem ccFresh(hP:C.P=Tryz.prog):wan C 164 [.ptr 0 0] [.cells [.nilptr,.nil] 111] λu O=>u= .tuple []/\O=[(0,.cells [.ptr 0 0,.nil] 111)]:=by
 have _:C.Loose:=inferInstance;refine⟨⟨_,hP ▸ Tryz.func164,rfl,by decide⟩,λE bs w cargs h1 h2 h3 hW h5 h6 h7=>?_⟩;obtain⟨a,rfl⟩:=mem1 h6;have V0:=h7 0 _ _ rfl rfl;obtain⟨b,c,vs,k1,k2,k3,k4,k5⟩:=hW.obj 0 _ rfl;obtain⟨x,y,rfl⟩:∃x y,vs=#[x,y]:=by
  have k3:vs.size=2:=k3;exact⟨vs[0],vs[1],by
   apply Array.ext
   ·simpa using k3
   ·intro i hi1 hi2
    match i,hi2 with
    |0,_=>rfl
    |1,_=>rfl⟩
 have hx:=k5 0 x .nilptr rfl rfl;have hy:=k5 1 y .nil rfl rfl
 cases hx
 cases hy;obtain⟨b',c',rfl,hb⟩:=wp6 V0;rw[k1] at hb;injection hb with hb;injection hb with e1 e2;subst e1;subst e2
 ·rw[hP];refine(Tryz.copyCheck_fresh b w (by rw[cell_of_row w b 0 _ _ (0,0) k2];rfl) (by simp[World.shape?,k2]) (by simp[World.frozen?,k2])).mono ?_;rintro e w' ⟨rfl,rfl⟩;have hm:(AObj.cells [.nilptr,.nil] 111).mut=true:=rfl;have hheap:(w.setCell ⟨b,0,none⟩ (.pointer (some ⟨b,0,none⟩))).heap[b]?=some (.cells #[.pointer (some ⟨b,0,none⟩),.slice none 0 0] 111 (0,0)):=by
   simp[World.setCell,Array.getElem?_modify,k2]
  obtain⟨g1,g2⟩:=hW.modify (x:=0) rfl hm k1 (w':=w.setCell ⟨b,0,none⟩ (.pointer (some ⟨b,0,none⟩))) (λk hk=>by simp[World.setCell,Array.getElem?_modify,Ne.symm hk]) (by simp[World.setCell]) rfl ⟨rfl,λ_=>lR7 _⟩ rfl (o:=.cells [.ptr 0 0,.nil] 111) rfl
   (λhS=>⟨b,c,_,k1,hheap,rfl,λj v hv=>by
    match j with
    |0=>obtain rfl:=oJ7 hv;rfl
    |1=>obtain rfl:=oJ7 hv;rfl
    |j+2=>simp at hv,λj v u hv hu=>by
    match j with
    |0=>obtain rfl:=oJ7 hv;obtain rfl:=oJ7 hu;exact .ptr k1
    |1=>obtain rfl:=oJ7 hv;obtain rfl:=oJ7 hu;exact .nil
    |j+2=>simp at hv⟩)
  have e2:up (lkL [AObj.cells [.nilptr,.nil] 111]) 0 (.cells [.ptr 0 0,.nil] 111)=lk [(0,.cells [.ptr 0 0,.nil] 111)]:=by
   funext i;rw[wa4]
   by_cases h:(0:Nat)=i
   ·subst h;rw[waw,if_pos rfl]
   ·rw[wat _ _ _ h,if_neg h]
    cases i with
    |zero=>exact absurd rfl h
    |succ i=>simp[lkL,lk]
  rw[e2] at g2;refine⟨_,.tuple [],[(0,.cells [.ptr 0 0,.nil] 111)],bs,rfl,⟨rfl,rfl⟩,g2,.tuple rfl (λj v u hv hu=>by simp at hu),λr hr=>⟨?_,h5 r (by show 1<=r;have:1+16<=r:=hr;omega)⟩⟩;have:1+16<=r:=hr;rw[wa4,if_neg (by show ¬ 0=r;omega)];rfl
theorem cc_ok(hP:C.P=Tryz.prog):wai C 164 S_cc:=by
 rintro args objs U Os vc h hvc;unfold S_cc at h;split at h<;>simp only[sI7,pI7,reduceCtorEq] at h
 ·rename_i t;obtain⟨rfl,rfl,rfl⟩:=h;have hvc:t=_:=hvc;subst hvc;exact ccFresh hP
 ·rename_i n t t8 m f;obtain⟨rfl,rfl,rfl⟩:=h;have hvc:t=_:=hvc;subst hvc;exact ccUsed hP rfl rfl
theorem wk1(hP:C.P=Tryz.prog)(hL:∀w,C.laid w->LaidW w):wai C 134 wen:=by
 rintro args objs U Os vc h hvc;unfold wen at h;split at h<;>cases h;rename_i n;have hr:inR .i64 n:=hvc;simp only[inR] at hr;refine wan.below ⟨_,hP ▸ Tryz.func134,rfl,by decide⟩ λw M cargs hlaid _ hM hl hv=>?_;obtain⟨a,b,rfl⟩:∃a b,cargs=[a,b]:=by
  match cargs,hl with
  |[a,b],_=>exact⟨a,b,rfl⟩
 have e1:=(hv 0 _ _ rfl rfl).int_iff;have e2:=(hv 1 _ _ rfl rfl).int_iff;subst e1;subst e2;rw[hP];refine(Tryz.strconv_FormatInt_10 n (by omega) (by omega) w (hL w hlaid).pow).mono ?_;rintro e w' ⟨rfl,k,os,rfl⟩;exact⟨_,rfl,wwj _ _ _,.str (by simp)⟩
theorem wkr(hP:C.P=Tryz.prog)(hL:∀w,C.laid w->LaidW w):wai C 133 wct:=by
 rintro args objs U Os vc h hvc;unfold wct at h;split at h<;>cases h;rename_i n;have hr:inR .i64 n:=hvc;simp only[inR] at hr;refine wan.below ⟨_,hP ▸ Tryz.func133,rfl,by decide⟩ λw M cargs hlaid _ hM hl hv=>?_;obtain⟨a,rfl⟩:=mem1 hl;have e1:=(hv 0 _ _ rfl rfl).int_iff;subst e1;rw[hP];refine(Tryz.strconv_Itoa n (by omega) (by omega) w (hL w hlaid).pow).mono ?_;rintro e w' ⟨rfl,k,os,rfl⟩;exact⟨_,rfl,wwj _ _ _,.str (by simp)⟩
end Go.Eng
namespace Go.Eng
open Go.Proofs Go.RowKit
set_option maxRecDepth 20000
theorem w0p(s:List UInt8)(R:oR7):wpFn te [] [(2,wos s)] 0 Tryz.f75 [.str s] [] R=(letI z0:=(s.length:Int);some (St.mk [(0,.str s),(6,.q z0),(7,.q 0)] [] 0 [])=some (St.mk [(0,.str s),(6,.q z0),(7,.q (↑0:Int))] [] 0 [])/\((∀(k:Nat),k<s.length->OKat s k)->wab (decide ((1:Int)<=z0)) (R (.bool (decide (z0<=24))) []) (R (.bool false) []))/\∀(k:Nat),k<s.length->¬OKat s k->R (.bool false) []):=by kernel_rfl
theorem w0o(s:List UInt8)(k:Nat)(P:Nat->Prop)(R:eR7):wa0 ⟨te,[],[],0,59,0⟩ (wa1 Tryz.f75 2) [0,6,7] [0] [2] (wmq s) P R (wmq s k)=(letI z6:=R .ret (St.mk [(2,.bool false)] [] 0 []);letI z5:=(s.length:Int);letI z3:=((0:Int)<=(k:Int)/\(k:Int)<z5:Prop);letI z2:=(↑(UInt8.toNat (List.getD s (k:Int).toNat (0:UInt8))):Int);letI z1:=(inR .i64 ((k:Int)+1)/\∃(i':Nat),some (St.mk [(0,.str s),(6,.q z5),(7,.q ((k:Int)+1))] [] 0 [])=some (St.mk [(0,.str s),(6,.q z5),(7,.q (i':Int))] [] 0 [])/\P i');letI z0:=(wab (decide ((k:Int)=0)) z6 (z3/\wab (!decide (z2=45)) (z3/\wab (!decide (z2=46)) z6 z1) z1));letI z4:=(z3/\wab (decide ((48:Int)<=z2)) (z3/\wab (!decide (z2<=57)) z0 z1) z0);wab (decide ((k:Int)<z5)) (z3/\wab (decide ((97:Int)<=z2)) (z3/\wab (decide (z2<=122)) z1 z4) z4) (R (.exit 0) (St.mk [(0,.str s)] [] 0 []))):=by kernel_rfl
theorem nf_cdR(s:List UInt8)(R:oR7):wpFn te [] [(5,wpe s)] 0 Tryz.f98 [.str s] [] R=(letI z2:=R (.tuple [.q 0,.bool false]) [];letI z1:=(s.length:Int);letI z0:=(some (St.mk [(0,.str s),(4,.q 0),(16,.q z1),(17,.q 0)] [] 0 [])=some (St.mk [(0,.str s),(4,.q (wa7 s 0)),(16,.q z1),(17,.q (↑0:Int))] [] 0 [])/\s.length<=12/\wab (List.all s wbi) ((10:Int)≠(0:Int)/\inR .i64 ((10:Int) - Int.tmod (wa7 s s.length) (10:Int))/\(10:Int)≠(0:Int)/\R (.tuple [.q (Int.tmod ((10:Int) - Int.tmod (wa7 s s.length) (10:Int)) (10:Int)),.bool true]) []) z2);wab (!decide (z1=7)) (wab (!decide (z1=12)) z2 z0) z0):=by kernel_rfl
theorem w1u(s:List UInt8)(k:Nat)(P:Nat->Prop)(R:eR7):wa0 ⟨te,[],[],0,50,0⟩ (wa1 Tryz.f98 5) [0,4,16,17] [4] [2,3] (wnt s) P R (wnt s k)=(letI z5:=R .ret (St.mk [(2,.q 0),(3,.bool false)] [] 0 []);letI z1:=(s.length:Int);letI z2:=((0:Int)<=(k:Int)/\(k:Int)<z1:Prop);letI z0:=(↑(UInt8.toNat (List.getD s (k:Int).toNat (0:UInt8))):Int);letI z3:=(z0 - (48:Int));letI z4:=(z3 % (256:Int));wab (decide ((k:Int)<z1)) (z2/\wab (decide (z0<48)) z5 (z2/\wab (decide ((57:Int)<z0)) z5 (inR .i64 (z1 - (k:Int))/\(2:Int)≠(0:Int)/\wab (decide (Int.tmod (z1 - (k:Int)) (2:Int)=1)) (z2/\inR .i64 z4/\inR .i64 ((3:Int) * z4)/\inR .i64 (wa7 s k+3 * z4)/\inR .i64 ((k:Int)+1)/\∃(i':Nat),some (St.mk [(0,.str s),(4,.q (wa7 s k+3 * z4)),(16,.q z1),(17,.q ((k:Int)+1))] [] 0 [])=some (St.mk [(0,.str s),(4,.q (wa7 s i')),(16,.q z1),(17,.q (i':Int))] [] 0 [])/\P i') (z2/\inR .i64 z4/\inR .i64 ((1:Int) * z4)/\inR .i64 (wa7 s k+1 * z4)/\inR .i64 ((k:Int)+1)/\∃(i':Nat),some (St.mk [(0,.str s),(4,.q (wa7 s k+1 * z4)),(16,.q z1),(17,.q ((k:Int)+1))] [] 0 [])=some (St.mk [(0,.str s),(4,.q (wa7 s i')),(16,.q z1),(17,.q (i':Int))] [] 0 [])/\P i')))) (R (.exit 0) (St.mk [(4,.q (wa7 s k))] [] 0 []))):=by kernel_rfl
theorem wze(s:List UInt8)(R:oR7):wpFn te [(98,.det weo)] [] 0 Tryz.f162 [.str s] [] R=(letI z1:=(s.length:Int);letI z3:=(z1 - (1:Int));letI z2:=(cdF (List.take z3.toNat s));letI z0:=(inR .i64 z3/\((0:Int)<=z1 - (1:Int)/\z1 - (1:Int)<=z1)/\True/\wab z2.2 (inR .i64 z3/\((0:Int)<=z1 - (1:Int)/\z1 - (1:Int)<z1)/\inR .i64 ((48:Int)+z2.1)/\inR .u8 ((48:Int)+z2.1)/\R (.bool (decide ((↑(UInt8.toNat (List.getD s z3.toNat (0:UInt8))):Int)=48+z2.1))) []) (R (.bool false) []));wab (!decide (z1=8)) (wab (!decide (z1=13)) (R (.bool false) []) z0) z0):=by kernel_rfl
variable {C:Ctx} [C.Loose]
theorem w10(hP:C.P=Tryz.prog)(s:List UInt8)(hm:s.length<=9223372036854775806):waj C 0 59 (wal Tryz.f75 2) (wos s):=by
 have _:C.Loose:=inferInstance;rintro st Q ⟨h0,hQ1,hQ2⟩;refine waj.mk (prg hP) [] 0 .nil [0,6,7] [0] [2] (wmq s) (λk=>k<=s.length/\∀j,j<k->OKat s j) (λk=>s.length - k) 0 ⟨zL7 _,λj h=>by omega⟩ h0 λk ⟨hk,hall⟩=>?_;rw[w0o];refine wak (λh=>?_) (λh=>?_)
 ·have hlt:k<s.length:=by omega
  have hret:¬ OKat s k->Q .ret ⟨[(2,.bool false)],[],0,[]⟩:=hQ2 k hlt;have hgo:OKat s k->∃i':Nat,some (St.mk [(0,.str s),(6,.q (s.length:Int)),(7,.q ((k:Int)+1))] [] 0 [])=some (St.mk [(0,.str s),(6,.q (s.length:Int)),(7,.q (i':Int))] [] 0 [])/\(i'<=s.length/\∀j,j<i'->OKat s j)/\s.length - i'<s.length - k:=λhok=>
   ⟨k+1,rfl,⟨by omega,λj hj=>by
    rcases Nat.lt_succ_iff_lt_or_eq.1 hj with hj | rfl
    ·exact hall j hj
    ·exact hok⟩,by omega⟩
  unfold OKat at hret hgo;simp only[tN7,inR]
  repeat' (first | (refine wak (λ_=>?_) (λ_=>?_)) | (refine wbh (λ_=>?_) (λ_=>?_)) | (refine And.intro (by omega) ?_) | fail)
  all_goals (first | exact hret (by omega) | exact hgo (by omega))
 ·exact hQ1 λj hj=>hall j (by omega)
theorem wke(hP:C.P=Tryz.prog):wai C 75 wem:=by
 rintro args objs U Os vc h hvc;unfold wem at h;split at h<;>cases h;rename_i s;refine wai.wpL (prg hP) [] [(2,wos s)] 0 .nil (hP ▸ Tryz.func75) rfl rfl rfl [(wal Tryz.f75 2,wos s)] (by kernel_rfl) ⟨w10 hP s hvc,trivial⟩ ?_;rw[w0p];refine⟨rfl,λhall=>wak (λh1=>⟨congrArg AV.bool ?_,rfl⟩) (λh1=>⟨congrArg AV.bool ?_,rfl⟩),λk hk hno=>⟨congrArg AV.bool ?_,rfl⟩⟩
 ·by_cases h2:s.length<=24
  ·rw[(wkg s).2 ⟨⟨by omega,h2⟩,hall⟩];exact decide_eq_true (by omega)
  ·rw[decide_eq_false (by omega)]
   cases hn:wa3 s with
   |false=>rfl
   |true=>exact absurd ((wkg s).1 hn).1.2 h2
 ·cases hn:wa3 s with
  |false=>rfl
  |true=>exact absurd ((wkg s).1 hn).1.1 (by omega)
 ·cases hn:wa3 s with
  |false=>rfl
  |true=>exact absurd (((wkg s).1 hn).2 k hk) hno
theorem w4p(hP:C.P=Tryz.prog)(s:List UInt8):waj C 0 50 (wal Tryz.f98 5) (wpe s):=by
 have _:C.Loose:=inferInstance;rintro st Q ⟨h0,hlen,hQ⟩;have hQ:=wbt hQ;refine waj.mk (prg hP) [] 0 .nil [0,4,16,17] [4] [2,3] (wnt s) (λk=>k<=s.length/\∀j,j<k->48<=(s.getD j 0).toNat/\(s.getD j 0).toNat<=57) (λk=>s.length - k) 0 ⟨zL7 _,λj h=>by omega⟩ h0 λk ⟨hk,hall⟩=>?_;rw[w1u];have hb:=wwc k hk hall;refine wak (λh=>?_) (λh=>?_)
 ·have hlt:k<s.length:=by omega
  have hret:¬ (48<=(s.getD k 0).toNat/\(s.getD k 0).toNat<=57)->Q .ret ⟨[(2,.q 0),(3,.bool false)],[],0,[]⟩:=λhno=>hQ.2 (by
   cases ha:s.all wbi with
   |false=>rfl
   |true=>exact absurd (wkt ha k hlt) hno)
  have e:Int.tmod (↑s.length - ↑k) 2=(↑s.length - ↑k) % 2:=Int.tmod_eq_emod_of_nonneg (by omega);have hs:wa7 s (k+1)=wa7 s k+(1+2 * ((↑s.length - ↑k) % 2)) * (↑(s.getD k 0).toNat - 48):=rfl;have hgo:(48<=(s.getD k 0).toNat/\(s.getD k 0).toNat<=57)->(k+1<=s.length/\∀j,j<k+1->48<=(s.getD j 0).toNat/\(s.getD j 0).toNat<=57)/\s.length - (k+1)<s.length - k:=λhok=>
   ⟨⟨by omega,λj hj=>by
    rcases Nat.lt_succ_iff_lt_or_eq.1 hj with hj | rfl
    ·exact hall j hj
    ·exact hok⟩,by omega⟩
  simp only[tN7,inR,e];refine⟨by omega,wak (λh1=>hret (by omega)) (λh1=>⟨by omega,wak (λh2=>hret (by omega)) (λh2=>⟨by omega,by omega,?_⟩)⟩)⟩;have hgo:=hgo (by omega);have e3:((s.getD k 0).toNat - 48:Int) % 256=(s.getD k 0).toNat - 48:=by omega
  rw[e3];refine wak (λh3=>?_) (λh3=>?_)
  ·rw[h3] at hs;exact⟨by omega,by omega,by omega,by omega,by omega,k+1,by rw[hs];rfl,hgo⟩
  ·have h3:(↑s.length - ↑k:Int) % 2=0:=by omega
   rw[h3] at hs;exact⟨by omega,by omega,by omega,by omega,by omega,k+1,by rw[hs];rfl,hgo⟩
 ·have hks:k=s.length:=by omega
  rw[hks];exact hQ.1 (w5f λj hj=>hall j (by omega))
theorem cdR_ok(hP:C.P=Tryz.prog):wai C 98 weo:=by
 rintro args objs U Os vc h hvc;unfold weo at h;split at h<;>cases h;rename_i s;refine wai.wpL (prg hP) [] [(5,wpe s)] 0 .nil (hP ▸ Tryz.func98) rfl rfl rfl [(wal Tryz.f98 5,wpe s)] (by kernel_rfl) ⟨w4p hP s,trivial⟩ ?_;rw[nf_cdR]
 have main:(s.length=7∨s.length=12)->wab (s.all wbi) ((10:Int)≠0/\inR .i64 (10 - Int.tmod (wa7 s s.length) 10)/\(10:Int)≠0/\AV.tuple [.q (Int.tmod (10 - Int.tmod (wa7 s s.length) 10) 10),.bool true]= .tuple [.q (cdF s).1,.bool (cdF s).2]/\([]:List (Nat×AObj))=[])
   (AV.tuple [.q 0,.bool false]= .tuple [.q (cdF s).1,.bool (cdF s).2]/\([]:List (Nat×AObj))=[]):=by
  intro hl;have hd:wbn s 7 12=s.all wbi:=by
   unfold wbn
   rcases hl with h | h<;>simp[h]
  refine wax (λha=>?_) (λha=>?_)
  ·have hb:=wll ha s.length (lR7 _);have e:Int.tmod (wa7 s s.length) 10=wa7 s s.length % 10:=Int.tmod_eq_emod_of_nonneg (by omega);rw[e,Int.tmod_eq_emod_of_nonneg (by omega)];refine⟨by omega,by simp only[inR];omega,by omega,?_,rfl⟩;simp[cdF,hd,ha]
  ·refine⟨?_,rfl⟩;simp[cdF,hd,ha]
 refine wbh (λh1=>wbh (λh2=>⟨?_,rfl⟩) (λh2=>⟨rfl,by omega,main (by omega)⟩)) (λh1=>⟨rfl,by omega,main (by omega)⟩);have hd:wbn s 7 12=false:=by unfold wbn;rw[decide_eq_false h1,decide_eq_false h2];rfl
 simp[cdF,hd]
theorem wsj(hP:C.P=Tryz.prog):wai C 162 wcs:=by
 rintro args objs U Os vc h hvc;unfold wcs at h;split at h<;>cases h;rename_i s;refine wai.wp0 (prg hP) [(98,.det weo)] 0 (.cons (cdR_ok hP) .nil) (hP ▸ Tryz.func162) rfl rfl rfl ?_;rw[wze];have e1:∀h:s.length=8∨s.length=13,(↑s.length - 1:Int).toNat=s.length - 1:=by intro h;omega
 have hcd:=w4q (s.take (s.length - 1));have last:(s.length=8∨s.length=13)->(s.all wbi=((cdF (s.take (s.length - 1))).2 && wbi (s.getD (s.length - 1) 0))):=by
  intro hl;have h2:(cdF (s.take (s.length - 1))).2=(s.take (s.length - 1)).all wbi:=by
   have hd:wbn (s.take (s.length - 1)) 7 12=(s.take (s.length - 1)).all wbi:=by
    unfold wbn;have:(s.take (s.length - 1)).length=s.length - 1:=by simp
    rcases hl with h | h<;>simp[h]
   unfold cdF;rw[hd]
   cases (s.take (s.length - 1)).all wbi<;>rfl
  have hs:s=s.take (s.length - 1)++[s.getD (s.length - 1) 0]:=by
   have hlt:s.length - 1<s.length:=by omega
   have:=(List.take_append_drop (s.length - 1) s).symm;rw[List.drop_eq_getElem_cons hlt] at this;have e:s.getD (s.length - 1) 0=s[s.length - 1]:=by simp[List.getD,hlt]
   rw[e];have hd:List.drop (s.length - 1+1) s=[]:=List.drop_eq_nil_of_le (by omega);rw[hd] at this;exact this
  rw[h2]
  conv=>lhs;rw[hs]
  simp
 have hv:(s.length=8∨s.length=13)->wa9 s=((cdF (s.take (s.length - 1))).2 && decide ((s.getD (s.length - 1) 0).toNat=48+(cdF (s.take (s.length - 1))).1)):=by
  intro hl;have hd:wbn s 8 13=s.all wbi:=by
   unfold wbn
   rcases hl with h | h<;>simp[h]
  unfold wa9;rw[hd,last hl]
  cases hc:(cdF (s.take (s.length - 1))).2 with
  |false=>rfl
  |true=>
   simp only[Bool.true_and]
   cases hi:wbi (s.getD (s.length - 1) 0) with
   |true=>
    refine decide_eq_decide.2 ?_;omega
   |false=>
    refine(decide_eq_false λhe=>?_).symm;simp only[wbi,Bool.and_eq_false_imp,decide_eq_true_eq,decide_eq_false_iff_not] at hi;omega
 have main:(s.length=8∨s.length=13)->wab (cdF (s.take (s.length - 1))).2 (inR .i64 (↑s.length - 1)/\(0<=(↑s.length - 1:Int)/\(↑s.length - 1:Int)<↑s.length)/\inR .i64 (48+(cdF (s.take (s.length - 1))).1)/\inR .u8 (48+(cdF (s.take (s.length - 1))).1)/\
   AV.bool (decide ((↑(s.getD (s.length - 1) 0).toNat:Int)=48+(cdF (s.take (s.length - 1))).1))= .bool (wa9 s)/\([]:List (Nat×AObj))=[]) (AV.bool false= .bool (wa9 s)/\([]:List (Nat×AObj))=[]):=by
  intro hl;rw[hv hl];refine wax (λhc=>?_) (λhc=>?_)
  ·simp only[inR,hc,Bool.true_and];exact⟨by omega,by omega,by omega,by omega,by simp⟩
  ·simp[hc]
 refine wbh (λh1=>wbh (λh2=>⟨?_,rfl⟩) (λh2=>?_)) (λh1=>?_)
 ·have hd:wbn s 8 13=false:=by unfold wbn;rw[decide_eq_false h1,decide_eq_false h2];rfl
  simp[wa9,hd]
 ·have hl:s.length=8∨s.length=13:=by omega
  rw[e1 hl];exact⟨by simp only[inR];omega,by omega,trivial,main hl⟩
 ·have hl:s.length=8∨s.length=13:=by omega
  rw[e1 hl];exact⟨by simp only[inR];omega,by omega,trivial,main hl⟩
end Go.Eng
namespace Go.Eng
open Go.Proofs Go.RowKit
variable {C:Ctx} [C.Loose]
set_option maxRecDepth 20000
theorem nf_fold(n k:Int)(R:oR7):wpFn te [] [] 0 Tryz.f35 [.q n,.q k] [] R=(letI z0:=(Int.tmod (IntKind.wrap IntKind.u64 n) (IntKind.wrap IntKind.u64 (max k (1:Int))));True/\True/\IntKind.wrap IntKind.u64 (max k (1:Int))≠(0:Int)/\inR .i64 z0/\R (.q z0) []):=by kernel_rfl
theorem nf_next(n:Nat)(v:Nat->Int)(a k:Int)(R:oR7):wpFn te [] [] 0 Tryz.f42 [.ptr 0 0,.q k] [.cells [.view 1 n (wad v),.q a] 27] R=(letI z1:=([(0,.cells [.view 1 n (wad v),.q (a+1)] 27)]:oL7);letI z0:=(IntKind.wrap IntKind.u64 (max k (1:Int)));letI z3:=Int.tmod (IntKind.wrap IntKind.u64 0) z0;letI z2:=Int.tmod (IntKind.wrap IntKind.u64 (v a.toNat)) z0;wab (decide (a<(n:Int))) (((0:Int)<=a/\a<(n:Int)/\1=1)/\inR .i64 (a+1)/\True/\True/\IntKind.wrap IntKind.u64 (max k (1:Int))≠(0:Int)/\inR .i64 z2/\R (.q z2) z1) (inR .i64 (a+1)/\True/\True/\IntKind.wrap IntKind.u64 (max k (1:Int))≠(0:Int)/\inR .i64 z3/\R (.q z3) z1)):=by kernel_rfl
theorem wr5(n:Int):IntKind.wrap .u64 n=n % 18446744073709551616:=by
 show n % (2:Int) ^ 64=_;rfl
theorem wqa{k:Int}(h:1<=k/\k<=1000000)(x:Int):IntKind.wrap .u64 (max k 1)≠0/\Int.tmod (IntKind.wrap .u64 x) (IntKind.wrap .u64 (max k 1))=wd9 x k:=by
 have e:IntKind.wrap .u64 (max k 1)=k:=by
  rw[wr5,Int.max_eq_left h.1];omega
 rw[e,wr5];have hx:0<=x % 18446744073709551616:=by omega
 rw[Int.tmod_eq_emod_of_nonneg hx];exact⟨by omega,rfl⟩
theorem fold_ok(hP:C.P=Tryz.prog):wai C 35 wnh:=by
 have _:C.Loose:=inferInstance;rintro args objs U Os vc h hvc;unfold wnh at h;split at h<;>cases h;rename_i n k;refine wai.wp0 (prg hP) [] 0 .nil (hP ▸ Tryz.func35) rfl rfl rfl ?_;rw[nf_fold];obtain⟨h1,h2⟩:=wqa hvc n;have h3:=wiz hvc.1 n;rw[h2];exact⟨trivial,trivial,h1,by simp only[inR];omega,rfl,rfl⟩
theorem wce(hP:C.P=Tryz.prog):wai C 42 wbd:=by
 have _:C.Loose:=inferInstance;rintro args objs U Os vc h hvc;unfold wbd at h;split at h<;>cases h;rename_i k sz n f a t;obtain⟨rfl,rfl,hf,hk,ha⟩:=hvc;rw[hf];have hv:vInt (wad (vInt f))=vInt f:=rfl;rw[hv];generalize vInt f=v at *;refine wai.wp0 (prg hP) [] 0 .nil (hP ▸ Tryz.func42) rfl rfl rfl ?_;rw[nf_next];unfold waa;refine wak (λh=>?_) (λh=>?_)
 ·obtain⟨h1,h2⟩:=wqa hk (v a.toNat);have h3:=wiz hk.1 (v a.toNat);rw[h2,decide_eq_true h];exact⟨⟨by omega,by omega,rfl⟩,by simp only[inR];omega,trivial,trivial,h1,by simp only[inR];omega,rfl,rfl⟩
 ·obtain⟨h1,h2⟩:=wqa hk 0;have h3:=wiz hk.1 0;rw[h2,decide_eq_false h];exact⟨by simp only[inR];omega,trivial,trivial,h1,by simp only[inR];omega,rfl,rfl⟩
theorem w1a(V j:Nat)(P:Nat->Prop)(R:eR7):wa0 ⟨te,[],[],0,39,0⟩ (wa1 Tryz.f43 4) [3,4,5] [4] [] (wne V) P R (wne V j)=(letI z0:=(↑(pw V j):Int);wab (decide ((0:Int)<=6 - (j:Int))) ((10:Int)≠(0:Int)/\inR .i64 ((48:Int)+Int.tmod z0 (10:Int))/\inR .u8 ((48:Int)+Int.tmod z0 (10:Int))/\((0:Int)<=6 - (j:Int)/\(6:Int) - (j:Int)<(↑7:Int))/\(List.length [AV.int .u8 ((48:Int)+Int.tmod z0 (10:Int))]=1/\((6:Int) - (j:Int)).toNat<7/\1=1)/\((10:Int)≠(0:Int)/\inR .i64 (Int.tdiv z0 (10:Int)))/\inR .i64 ((6:Int) - (j:Int) - (1:Int))/\∃(i':Nat),(TEq [(3,.q (Int.tdiv z0 (10:Int))),(4,.own 0 7),(5,.q ((6:Int) - (j:Int) - (1:Int)))] [(3,.q (↑(pw V i'):Int)),(4,.own 0 7),(5,.q ((6:Int) - (i':Int)))]/\waf [(0,.row 5 1 7 (λ(k:Nat)=>if k=Int.toNat ((6:Int) - (j:Int)) then [.int .u8 ((48:Int)+Int.tmod z0 (10:Int))] else [.int .u8 (bif decide (7<=k+j) then dgI V k else (0:Int))]) false)] [(0,.row 5 1 7 (λ(k:Nat)=>[.int .u8 (bif decide (7<=k+i') then dgI V k else (0:Int))]) false)])/\P i') ((∀(i:Nat),i<7->true=true)/\∃(O':oL7),waf [(0,.row 5 1 7 (λ(k:Nat)=>[.int .u8 (bif decide (7<=k+j) then dgI V k else (0:Int))]) false)] O'/\R (.exit 0) (St.mk [(4,.own 0 7)] O' 1 []))):=by kernel_rfl
theorem nf_id(n:Int)(V:Nat)(R:oR7):wpFn te [(35,.det wnh),(98,.det weo)] [(4,L_id V)] 2 Tryz.f43 [.q n] [] R=(letI z5:=(List.flatten (List.replicate (nat_lit 0) [.int .u8 0]):List AV);letI z4:=cdF (wao 7 (wba V));letI z3:=((7<=7/\1=1)/\∀(i:Nat),i<7->isU8 (wba V i)=true:Prop);letI z2:=1000000;letI z1:=TI.mk (TypeDesc.int IntKind.u8) 1 1 (Value.int IntKind.u8 0) false;letI z0:=(wap (TI.sz z1) (.int .u8 ((48:Int)+z4.1)::List.append [] z5));((1:Int)<=z2/\z2<=z2)/\inR .i64 (z2+wd9 n z2)/\((0:Int)<=7/\(7:Int)<=7/\(↑(TI.bytes z1):Int) * (7:Int)<=281474976710656/\(7:Int)<=9223372036854775807)/\(TEq [(3,.q (z2+wd9 n z2)),(4,.own 0 7),(5,.q 6)] [(3,.q (↑(pw V 0):Int)),(4,.own 0 7),(5,.q ((6:Int) - (↑0:Int)))]/\waf [(0,.row 5 1 7 (λ(_x:Nat)=>[.int .u8 0]) false)] [(0,.row 5 1 7 (λ(k:Nat)=>[.int .u8 (bif decide (7<=k+0) then dgI V k else (0:Int))]) false)])/\V<2000000/\z3/\True/\z3/\inR .i64 ((48:Int)+z4.1)/\inR .u8 ((48:Int)+z4.1)/\(1<=16777216/\1=1/\1<=9223372036854775807)/\((1<=1/\1=1)/\∀(i:Nat),i<1->isU8 (wap (TI.sz z1) (.int .u8 ((48:Int)+z4.1)::List.append [] z5) i)=true)/\(wao 7 (wba V)).length+(wao 1 z0).length<=9223372036854775807/\R (.str (wao 7 (wba V)++wao 1 z0)) []):=by kernel_rfl
theorem pw_step(V j:Nat):Int.tdiv (pw V j:Nat) 10=(pw V (j+1):Nat):=by
 rw[Int.tdiv_eq_ediv_of_nonneg (Int.natCast_nonneg _)];unfold pw;rw[Nat.pow_succ, ← Nat.div_div_eq_div_mul];rfl
theorem pw_le(V j:Nat):pw V j<=V:=Nat.div_le_self _ _
theorem id_loop(hP:C.P=Tryz.prog)(V:Nat):waj C 0 39 (wal Tryz.f43 4) (L_id V):=by
 have _:C.Loose:=inferInstance;rintro st Q ⟨h0,hv,hQ⟩;refine waj.mk (prg hP) [] 0 .nil [3,4,5] [4] [] (wne V) (λj=>j<=7) (λj=>7 - j) 0 (by omega) h0 (λj hj=>?_) (λi=>⟨λ_ _=>rfl,trivial⟩);rw[w1a];have hle:=pw_le V j;have ht:Int.tmod (pw V j:Nat) 10=((pw V j % 10:Nat):Int):=by
  rw[Int.tmod_eq_emod_of_nonneg (Int.natCast_nonneg _)];rfl
 rw[ht,pw_step];have hle':=pw_le V (j+1);have hm:=Nat.mod_lt (pw V j) (show 0<10 by omega);refine wak (λh=>?_) (λh=>⟨λ_ _=>rfl,_,?_,hQ⟩)
 ·refine⟨by omega,by simp only[inR];omega,by simp only[inR];omega,⟨h,by omega⟩,⟨rfl,by omega,rfl⟩,⟨by omega,by simp only[inR];omega⟩,by simp only[inR];omega,j+1,⟨?_,⟨rfl,rfl,rfl,rfl,rfl,λk hk=>?_⟩,trivial⟩,by omega,by omega⟩
  ·rw[show (6:Int) - (j:Int) - 1=6 - ((j+1:Nat):Int) by omega];rfl
  ·dsimp only
   split
   ·rename_i e;have e':6 - k=j:=by omega
    rw[decide_eq_true (show 7<=k+(j+1) by omega)];unfold dgI;rw[e'];rfl
   ·rename_i e
    by_cases h7:7<=k+j
    ·rw[decide_eq_true h7,decide_eq_true (show 7<=k+(j+1) by omega)]
    ·rw[decide_eq_false h7,decide_eq_false (show ¬ 7<=k+(j+1) by omega)]
 ·have:j=7:=by omega
  subst this;refine⟨⟨rfl,rfl,rfl,rfl,rfl,λk hk=>?_⟩,trivial⟩;dsimp only
  rw[decide_eq_true (show 7<=k+7 by omega)];rfl
theorem wku(hP:C.P=Tryz.prog):wai C 43 S_id:=by
 rintro args objs U Os vc h hvc;unfold S_id at h;split at h<;>cases h;rename_i n;refine wai.wpL (prg hP) [(35,.det wnh),(98,.det weo)] [(4,L_id (idV n))] 2 (.cons (fold_ok hP) (.cons (cdR_ok hP) .nil)) (hP ▸ Tryz.func43) rfl rfl rfl [(wal Tryz.f43 4,L_id (idV n))] (by kernel_rfl) ⟨id_loop hP _,trivial⟩ ?_;rw[nf_id];have hf:=wiz (show (1:Int)<=1000000 by omega) n;have hV:((idV n:Nat):Int)=1000000+wd9 n 1000000:=by unfold idV;omega
 have hl:=wis n;have hc:=wwd (id7 n);refine⟨⟨by omega,by omega⟩,by simp only[inR];omega,⟨by omega,by omega,by decide,by omega⟩,⟨?_,⟨rfl,rfl,rfl,rfl,rfl,λk hk=>?_⟩,trivial⟩,by omega,⟨⟨by omega,rfl⟩,λ_ _=>rfl⟩,trivial,⟨⟨by omega,rfl⟩,λ_ _=>rfl⟩,?_,?_,⟨by omega,rfl,by omega⟩,⟨⟨by omega,rfl⟩,λi hi=>?_⟩,?_,rfl,rfl⟩
 ·rw[← hV];show TEq [(3,.q ((idV n:Nat):Int)),(4,.own 0 7),(5,.q 6)] [(3,.q ((idV n / 1:Nat):Int)),(4,.own 0 7),(5,.q 6)];rw[Nat.div_one];rfl
 ·dsimp only
  rw[decide_eq_false (show ¬ 7<=k+0 by omega)];rfl
 ·show inR .i64 (48+(cdF (id7 n)).1);simp only[inR];omega
 ·show inR .u8 (48+(cdF (id7 n)).1);simp only[inR];omega
 ·obtain rfl:i=0:=by omega
  rfl
 ·show (id7 n).length+_<=_;rw[hl];simp[wao]
theorem wzv(s:List UInt8)(R:oR7):wpFn te [(72,.det wdr)] [] 0 Tryz.f178 [.str s] [] R=((s.length<4294967281/\0<4294967281/\0<4294967281/\0<4294967281)/\R (.bool !decide (msgF (MG.mk s (0:Int) (0:Int) (VT.mk [] [] (0:Int) (0:Int) (0:Int) (0:Int) []) (DT.mk [] [] (0:Int) [] (0:Int)))=110)) []):=by kernel_rfl
theorem wzg(o p:List UInt8)(per u tv:Int)(R:oR7):wpFn te [(178,.det wmb),(160,.det wcs)] [] 0 Tryz.f145 [.agg [.str o,.str p,.q per,.q u,.q tv]] [] R=(letI z0:=R (.bool false) [];o.length<4294967281/\wab (wa3 o) (True/\wab (wa9 p) (wab (decide ((0:Int)<=per)) (wab (decide (per<=5999)) (wab (decide ((1:Int)<=min u tv)) (R (.bool (decide (max u tv<=1099511627776))) []) z0) z0) z0) z0) z0):=by kernel_rfl
theorem nf_sv(g:Nat->RW)(n:Nat)(R:oR7):wpFn te [(145,.det wei)] [(4,L_sv g n)] 0 Tryz.f105 [.view 5 n (wah g)] [] R=(wab (decide ((24000:Int)<(n:Int))) (R (.q 130) []) (some (St.mk [(8,.view 5 n (wah g)),(9,.q (n:Int)),(10,.q 0)] [] 0 [])=some (St.mk [(8,.view 5 n (wah g)),(9,.q (n:Int)),(10,.q (↑0:Int))] [] 0 [])/\n<=24000/\(∀(i:Nat),i<n->(g i).o.length<4294967281)/\wab (wdo g n) (R (.q 0) []) (R (.q 131) []))):=by kernel_rfl
theorem wzt(g:Nat->RW)(n k:Nat)(P:Nat->Prop)(R:eR7):wa0 ⟨te,[(145,.det wei)],[],0,18,0⟩ (wa1 Tryz.f105 4) [8,9,10] [] [2] (S_sv g n) P R (S_sv g n k)=(letI z0:=(g (k:Int).toNat);wab (decide ((k:Int)<(n:Int))) (((0:Int)<=(k:Int)/\(k:Int)<(n:Int)/\5=5)/\z0.o.length<4294967281/\wab (!rowF (RW.mk z0.o z0.p z0.per z0.u z0.tv)) (R .ret (St.mk [(2,.q 131)] [] 0 [])) (inR .i64 ((k:Int)+1)/\∃(i':Nat),some (St.mk [(8,.view 5 n (wah g)),(9,.q (n:Int)),(10,.q ((k:Int)+1))] [] 0 [])=some (St.mk [(8,.view 5 n (wah g)),(9,.q (n:Int)),(10,.q (i':Int))] [] 0 [])/\P i')) (R (.exit 0) (St.mk [] [] 0 []))):=by kernel_rfl
theorem w0l(n:Nat)(v:Nat->Int)(a:Int)(R:oR7):wpFn te [(42,.det wbd)] [] 0 Tryz.f80 [.ptr 0 0] [.cells [.view 1 n (wad v),.q a] 27] R=(letI z0:=vInt (wad v);(3<=16777216/\1=1/\3<=9223372036854775807)/\(27=27/\1=1/\wad v=wad z0/\((1:Int)<=3/\(3:Int)<=1000000)/\(0:Int)<=a/\a<=4611686018427387904)/\((0:Int)<=waa n z0 a (3:Int)/\waa n z0 a (3:Int)<(↑3:Int))/\((waa n z0 a (3:Int)).toNat<3/\1=1)/\R (.str (List.getD [[(111:UInt8),49],[(111:UInt8),50],[(112:UInt8)]] (waa n z0 a (3:Int)).toNat [])) [(0,.cells [.view 1 n (wad v),.q (a+1)] 27)]):=by kernel_rfl
theorem wzr(n:Nat)(v:Nat->Int)(a:Int)(R:oR7):wpFn te [(42,.det wbd),(43,.det S_id)] [] 0 Tryz.f81 [.ptr 0 0] [.cells [.view 1 n (wad v),.q a] 27] R=((27=27/\1=1/\wad v=wad (vInt (wad v))/\((1:Int)<=4/\(4:Int)<=1000000)/\(0:Int)<=a/\a<=4611686018427387904)/\True/\R (.str (idF (waa n (vInt (wad v)) a (4:Int)))) [(0,.cells [.view 1 n (wad v),.q (a+1)] 27)]):=by kernel_rfl
theorem nf_trow(n:Nat)(v:Nat->Int)(a:Int)(R:oR7):wpFn te [(42,.det wbd),(80,.det wdb),(81,.det wda)] [] 0 Tryz.f37 [.ptr 0 0] [.cells [.view 1 n (wad v),.q a] 27] R=(letI z3:=(a+1+1+1+1+1);letI z2:=4611686018427387904;letI z1:=(a+1+1+1+1);letI z0:=vInt (wad v);(27=27/\1=1/\wad v=wad z0/\((1:Int)<=20/\(20:Int)<=1000000)/\(0:Int)<=a/\a<=z2)/\inR .i64 ((1:Int)+waa n z0 a (20:Int))/\(27=27/\1=1/\wad v=wad z0/\(0:Int)<=a+1/\a+1<=4611686018427387000)/\(27=27/\1=1/\wad v=wad z0/\(0:Int)<=a+1+1/\a+1+1<=4611686018427387000)/\(27=27/\1=1/\wad v=wad z0/\((1:Int)<=4/\(4:Int)<=1000000)/\(0:Int)<=a+1+1+1/\a+1+1+1<=z2)/\inR .i64 ((1440:Int)+waa n z0 (a+1+1+1) (4:Int))/\(27=27/\1=1/\wad v=wad z0/\((1:Int)<=30/\(30:Int)<=1000000)/\(0:Int)<=a+1+1+1+1/\a+1+1+1+1<=z2)/\inR .i64 ((90:Int)+waa n z0 z1 (30:Int))/\inR .i64 (((1:Int)+waa n z0 a (20:Int)) * ((90:Int)+waa n z0 z1 (30:Int)))/\(27=27/\1=1/\wad v=wad z0/\((1:Int)<=3/\(3:Int)<=1000000)/\(0:Int)<=a+1+1+1+1+1/\a+1+1+1+1+1<=z2)/\inR .i64 (((1:Int)+waa n z0 a (20:Int)) * ((90:Int)+waa n z0 z1 (30:Int))+waa n z0 z3 (3:Int))/\(True/\True)/\R (.agg [.str (outF (waa n z0 (a+1) (3:Int))),.str (idF (waa n z0 (a+1+1) (4:Int))),.q ((1440:Int)+waa n z0 (a+1+1+1) (4:Int)),.q ((1:Int)+waa n z0 a (20:Int)),.q (((1:Int)+waa n z0 a (20:Int)) * ((90:Int)+waa n z0 z1 (30:Int))+waa n z0 z3 (3:Int))]) [(0,.cells [.view 1 n (wad v),.q (a+1+1+1+1+1+1)] 27)]):=by kernel_rfl
theorem wx0(hP:C.P=Tryz.prog)(hL:∀w,C.laid w->LaidW w):wai C 178 wmb:=by
 rintro args objs U Os vc h hvc;unfold wmb at h;split at h<;>cases h;rename_i s;refine wai.wp0 (prg hP) [(72,.det wdr)] 0 (.cons (wqd hP hL) .nil) (hP ▸ Tryz.func178) rfl rfl rfl ?_;rw[wzv];refine⟨⟨hvc,by omega,by omega,by omega⟩,?_,rfl⟩;unfold msgF
 cases wa3 s<;>rfl
theorem wsi(hP:C.P=Tryz.prog)(hL:∀w,C.laid w->LaidW w):wai C 145 wei:=by
 rintro args objs U Os vc h hvc;unfold wei at h;split at h<;>cases h;rename_i o p per u tv;refine wai.wp0 (prg hP) [(178,.det wmb),(160,.det wcs)] 0 (.cons (wx0 hP hL) (.cons (wjo hP (wh4 hP)) .nil)) (hP ▸ Tryz.func145) rfl rfl rfl ?_;rw[wzg];unfold rowF wbg;dsimp only
 generalize wa3 o=b1,wa9 p=b2,decide (0<=per)=b3,decide (per<=5999)=b4,decide (1<=min u tv)=b5,decide (max u tv<=1099511627776)=b6;refine⟨hvc,?_⟩
 cases b1
 ·exact⟨rfl,rfl⟩
 refine⟨trivial,?_⟩
 cases b2
 ·exact⟨rfl,rfl⟩
 cases b3
 ·exact⟨rfl,rfl⟩
 cases b4
 ·exact⟨rfl,rfl⟩
 cases b5<;>exact⟨rfl,rfl⟩
theorem wwr{g:Nat->RW}{k:Nat}(h:rowF (g k)=false):∀n,k<n->wdo g n=false
 |0,hn=>by omega
 |n+1,hn=>by
  rw[wdo]
  by_cases e:k=n
  ·subst e;rw[h,Bool.and_false]
  ·rw[wwr h n (by omega),Bool.false_and]
theorem sv_loop(hP:C.P=Tryz.prog)(hL:∀w,C.laid w->LaidW w)(g:Nat->RW)(n:Nat):waj C 0 18 (wal Tryz.f105 4) (L_sv g n):=by
 rintro st Q ⟨h0,hn,hs,hQ⟩;have hR:=wbt hQ;refine waj.mk (prg hP) [(145,.det wei)] 0 (.cons (wsi hP hL) .nil) [8,9,10] [] [2] (S_sv g n) (λk=>k<=n/\wdo g k=true) (λk=>n - k) 0 ⟨zL7 _,rfl⟩ h0 (λk hk=>?_);obtain⟨hkn,hok⟩:=hk;rw[wzt,tN7];refine wak (λh1=>?_) (λh1=>?_)
 ·refine⟨⟨by omega,by omega,rfl⟩,hs k (by omega),wcb (λh2=>hR.2 (wwr h2 n (by omega))) (λh2=>⟨by simp only[inR];omega,k+1,rfl,⟨by omega,?_⟩,by omega⟩)⟩;rw[wdo,hok];exact h2
 ·have:k=n:=by omega
  subst this;exact hR.1 hok
theorem wst(hP:C.P=Tryz.prog)(hL:∀w,C.laid w->LaidW w):wai C 105 wl7:=by
 rintro args objs U Os vc h hvc;unfold wl7 at h;split at h<;>cases h;rename_i n f;obtain⟨hn,hf,hs⟩:=hvc;generalize rwOf f=g at *;subst hf;unfold svF;refine wai.wpL (prg hP) [(145,.det wei)] [(4,L_sv g n)] 0 (.cons (wsi hP hL) .nil) (hP ▸ Tryz.func105) rfl rfl rfl [(wal Tryz.f105 4,L_sv g n)] (by kernel_rfl) ⟨sv_loop hP hL g n,trivial⟩ ?_;rw[nf_sv];refine wak (λh1=>?_) (λh1=>⟨rfl,by omega,hs,wax (λh2=>?_) (λh2=>?_)⟩)
 ·rw[decide_eq_true (show 24000<n by omega)];exact⟨rfl,rfl⟩
 ·rw[decide_eq_false (show ¬ 24000<n by omega),h2];exact⟨rfl,rfl⟩
 ·rw[decide_eq_false (show ¬ 24000<n by omega),h2];exact⟨rfl,rfl⟩
theorem wgz(hP:C.P=Tryz.prog):wai C 80 wdb:=by
 rintro args objs U Os vc h hvc;unfold wdb at h;split at h<;>cases h;rename_i sz n f a t;obtain⟨rfl,rfl,hf,h1,h2⟩:=hvc;rw[hf];generalize vInt f=v;have hw:vInt (wad v)=v:=rfl;refine wai.wp0 (prg hP) [(42,.det wbd)] 0 (.cons (wce hP) .nil) (hP ▸ Tryz.func80) rfl rfl rfl ?_;rw[w0l];have r:=wav (show (1:Int)<=3 by omega) n v a;exact⟨⟨by omega,rfl,by omega⟩,⟨rfl,rfl,rfl,⟨by omega,by omega⟩,by omega,by omega⟩,⟨r.1,r.2⟩,⟨by rw[hw];omega,rfl⟩,rfl,rfl⟩
theorem wgr(hP:C.P=Tryz.prog):wai C 81 wda:=by
 rintro args objs U Os vc h hvc;unfold wda at h;split at h<;>cases h;rename_i sz n f a t;obtain⟨rfl,rfl,hf,h1,h2⟩:=hvc;rw[hf];generalize vInt f=v;have hw:vInt (wad v)=v:=rfl;refine wai.wp0 (prg hP) [(42,.det wbd),(43,.det S_id)] 0 (.cons (wce hP) (.cons (wku hP) .nil)) (hP ▸ Tryz.func81) rfl rfl rfl ?_;rw[wzr];exact⟨⟨rfl,rfl,rfl,⟨by omega,by omega⟩,by omega,by omega⟩,trivial,rfl,rfl⟩
theorem wte(n:Nat)(v:Nat->Int)(a:Int):1<=(rowV n v a).u/\(rowV n v a).u<=20/\90<=(rowV n v a).tv/\(rowV n v a).tv<=2382:=by
 have r1:=wav (show (1:Int)<=20 by omega) n v a;have r2:=wav (show (1:Int)<=30 by omega) n v (a+1+1+1+1);have r3:=wav (show (1:Int)<=3 by omega) n v (a+1+1+1+1+1);have b1:(1+waa n v a 20) * (90+waa n v (a+1+1+1+1) 30)<=20 * 119:=Int.mul_le_mul (by omega) (by omega) (by omega) (by omega);have b2:1 * 90<=(1+waa n v a 20) * (90+waa n v (a+1+1+1+1) 30):=Int.mul_le_mul (by omega) (by omega) (by omega) (by omega);unfold rowV;dsimp only
 refine⟨by omega,by omega,?_,?_⟩<;>omega
theorem wie:∀i,i<3->wa3 (List.getD [[111,49],[111,50],[112]] i [])=true/\(List.getD [[111,49],[111,50],[112]] i ([]:List UInt8)).length<=2:=by decide+kernel
theorem wp2(n:Nat)(v:Nat->Int)(a:Int):rowF (rowV n v a)=true/\(rowV n v a).o.length<=2:=by
 obtain⟨b1,b2,b3,b4⟩:=wte n v a;have r1:=wav (show (1:Int)<=3 by omega) n v (a+1);have r2:=wav (show (1:Int)<=4 by omega) n v (a+1+1+1);have ho:=wie (waa n v (a+1) 3).toNat (by omega);refine⟨?_,ho.2⟩;unfold rowF wbg;rw[show wa3 (rowV n v a).o=true from ho.1,show wa9 (rowV n v a).p=true from wd7 _,decide_eq_true (show 0<=(rowV n v a).per by show 0<=1440+waa n v (a+1+1+1) 4;omega),decide_eq_true (show (rowV n v a).per<=5999 by show 1440+waa n v (a+1+1+1) 4<=5999;omega),
  decide_eq_true (show 1<=min (rowV n v a).u (rowV n v a).tv by omega),decide_eq_true (show max (rowV n v a).u (rowV n v a).tv<=1099511627776 by omega)]
 rfl
theorem wpp(hP:C.P=Tryz.prog):wai C 37 wfs:=by
 rintro args objs U Os vc h hvc;unfold wfs at h;split at h<;>cases h;rename_i sz n f a t;obtain⟨rfl,rfl,hf,h1,h2⟩:=hvc;rw[hf];generalize vInt f=v;have hw:vInt (wad v)=v:=rfl;refine wai.wp0 (prg hP) [(42,.det wbd),(80,.det wdb),(81,.det wda)] 0 (.cons (wce hP) (.cons (wgz hP) (.cons (wgr hP) .nil))) (hP ▸ Tryz.func37) rfl rfl rfl ?_;rw[nf_trow,hw];have r1:=wav (show (1:Int)<=20 by omega) n v a;have r2:=wav (show (1:Int)<=30 by omega) n v (a+1+1+1+1);have r3:=wav (show (1:Int)<=3 by omega) n v (a+1+1+1+1+1);have r4:=wav (show (1:Int)<=4 by omega) n v (a+1+1+1);have b1:(1+waa n v a 20) * (90+waa n v (a+1+1+1+1) 30)<=20 * 119:=Int.mul_le_mul (by omega) (by omega) (by omega) (by omega);have b2:1 * 90<=(1+waa n v a 20) * (90+waa n v (a+1+1+1+1) 30):=Int.mul_le_mul (by omega) (by omega) (by omega) (by omega);exact⟨⟨rfl,rfl,rfl,⟨by omega,by omega⟩,by omega,by omega⟩,by simp only[inR];omega,⟨rfl,rfl,rfl,by omega,by omega⟩,⟨rfl,rfl,rfl,by omega,by omega⟩,⟨rfl,rfl,rfl,⟨by omega,by omega⟩,by omega,by omega⟩,by simp only[inR];omega,⟨rfl,rfl,rfl,⟨by omega,by omega⟩,by omega,by omega⟩,by simp only[inR];omega,by simp only[inR];omega,⟨rfl,rfl,rfl,⟨by omega,by omega⟩,by omega,by omega⟩,by simp only[inR];omega,⟨trivial,trivial⟩,rfl,rfl⟩
theorem wii{α:Type}(g:Nat->α)(n:Nat):lst g (n+1)=lst g n++[g n]:=by simp[lst,List.range_succ]
theorem lst_at{α:Type}{g:Nat->α}{L:List α}{n:Nat}(h:lst g n=L)(d:α):n=L.length/\∀i,i<n->g i=L.getD i d:=by
 subst h;refine⟨by simp[lst],λi hi=>?_⟩;simp[lst,hi]
theorem w0e(p:Int)(R:oR7):wpFn te [] [] 0 Tryz.f163 [.q p] [] R=(wab (decide ((0:Int)<=p)) (R (.bool (decide (p<=5999))) []) (R (.bool false) [])):=by kernel_rfl
theorem wzx(o p:List UInt8)(per:Int)(R:oR7):wpFn te [(75,.det wem),(162,.det wcs),(163,.det wml)] [] 0 Tryz.f130 [.str o,.str p,.q per] [] R=(o.length<=9223372036854775806/\wab (wa3 o) (True/\wab (wa9 p) (True/\R (.bool (decide ((0:Int)<=per) && decide (per<=5999))) []) (R (.bool false) [])) (R (.bool false) [])):=by kernel_rfl
theorem nf_rowR(o p:List UInt8)(per u tv:Int)(R:oR7):wpFn te [(130,.det wek)] [] 0 Tryz.f77 [.agg [.str o,.str p,.q per,.q u,.q tv]] [] R=(letI z0:=R (.bool false) [];o.length<4294967281/\wab (wbg o p per) (wab (decide ((1:Int)<=u)) (wab (decide (u<=1099511627776)) (wab (decide ((1:Int)<=tv)) (R (.bool (decide (tv<=1099511627776))) []) z0) z0) z0) z0):=by kernel_rfl
theorem wyp(hP:C.P=Tryz.prog):wai C 163 wml:=by
 have _:C.Loose:=inferInstance;rintro args objs U Os vc h hvc;unfold wml at h;split at h<;>cases h;refine wai.wp0 (prg hP) [] 0 .nil (hP ▸ Tryz.func163) rfl rfl rfl ?_;rw[w0e];exact wax (λh=>by rw[h];exact⟨rfl,rfl⟩) (λh=>by rw[h];exact⟨rfl,rfl⟩)
theorem wjv(hP:C.P=Tryz.prog):wai C 130 wek:=by
 rintro args objs U Os vc h hvc;unfold wek at h;split at h<;>cases h;rename_i o p per;refine wai.wp0 (prg hP) [(75,.det wem),(162,.det wcs),(163,.det wml)] 0 (.cons (wke hP) (.cons (wsj hP) (.cons (wyp hP) .nil))) (hP ▸ Tryz.func130) rfl rfl rfl ?_;rw[wzx];unfold wbg;exact⟨by omega,wax (λh1=>⟨trivial,wax (λh2=>⟨trivial,by rw[h1,h2,Bool.true_and,Bool.true_and];exact⟨rfl,rfl⟩⟩) (λh2=>by rw[h1,h2];exact⟨rfl,rfl⟩)⟩) (λh1=>by rw[h1];exact⟨rfl,rfl⟩)⟩
theorem rowR_ok(hP:C.P=Tryz.prog):wai C 77 wei:=by
 rintro args objs U Os vc h hvc;unfold wei at h;split at h<;>cases h;rename_i o p per u tv;refine wai.wp0 (prg hP) [(130,.det wek)] 0 (.cons (wjv hP) .nil) (hP ▸ Tryz.func77) rfl rfl rfl ?_;rw[nf_rowR];have e:rowF ⟨o,p,per,u,tv⟩=(wbg o p per && (decide (1<=u) && (decide (u<=1099511627776) && (decide (1<=tv) && decide (tv<=1099511627776))))):=by
  unfold rowF;dsimp only
  rw[Bool.and_assoc];congr 1;rw[Bool.eq_iff_iff];simp only[bA7,decide_eq_true_eq];omega
 rw[e];generalize wbg o p per=b1,decide (1<=u)=b2,decide (u<=1099511627776)=b3,decide (1<=tv)=b4,decide (tv<=1099511627776)=b5;refine⟨hvc,?_⟩
 cases b1<;>cases b2<;>cases b3<;>cases b4<;>exact⟨rfl,rfl⟩
theorem wzc(o p:List UInt8)(per day st pr:Int)(rep:List UInt8)(R:oR7):wpFn te [(130,.det wek),(162,.det wcs)] [] 0 Tryz.f128 [.agg [.str o,.str p,.q per,.q day,.q st,.q pr,.str rep]] [] R=(letI z1:=R (.bool false) [];letI z4:=(wab (decide (pr=0)) (R (.bool (decide (rep=[]))) []) z1);letI z3:=(wab (decide ((1:Int)<=pr)) (wab (decide (pr<=1099511627776)) (R (.bool (decide (rep=[]))) []) z1) z1);letI z2:=(wab (decide (st=5)) (wab (decide ((1:Int)<=pr)) (wab (decide (pr<=1099511627776)) (True/\wab (wa9 rep) (R (.bool !decide (rep=p)) []) z1) z1) z1) z1);letI z0:=(wab (decide (st=3)) (wab (decide (st=3)) z4 z2) (wab (decide (st=4)) z4 z2));o.length<4294967281/\wab (!wbg o p per) z1 (wab (decide (day<0)) z1 (wab (decide ((182621:Int)<=day)) z1 (wab (decide (st=1)) (wab (decide (st=1)) z3 z0) (wab (decide (st=2)) z3 z0))))):=by kernel_rfl
theorem nf_decR(o p:List UInt8)(per:Int)(dev:List UInt8)(num:Int)(R:oR7):wpFn te [(130,.det wek),(75,.det wem)] [] 0 Tryz.f129 [.agg [.str o,.str p,.q per,.str dev,.q num]] [] R=(o.length<4294967281/\wab (wbg o p per) (dev.length<=9223372036854775806/\wab (wa3 dev) (wab (decide ((1:Int)<=num)) (R (.bool (decide (num<=1048576))) []) (R (.bool false) [])) (R (.bool false) [])) (R (.bool false) [])):=by kernel_rfl
theorem nf_msgR(m:MG)(R:oR7):wpFn te [(75,.det wem),(128,.det wfr),(129,.det wnm)] [] 0 Tryz.f76 [.agg [.str m.dev,.q m.seq,.q m.kind,.str m.v.o,.str m.v.p,.q m.v.per,.q m.v.day,.q m.v.st,.q m.v.pr,.str m.v.rep,.str m.d.o,.str m.d.p,.q m.d.per,.str m.d.dev,.q m.d.num]] [] R=(letI z5:=(m.kind=2);letI z4:=(m.kind=1);letI z1:=(wab (decide z4) (wab (!(decide (m.d.o=[]) && (decide (m.d.p=[]) && (decide (m.d.per=0) && (decide (m.d.dev=[]) && decide (m.d.num=0)))))) (R (.q 114) []) (R (.q 0) [])) (R (.q 0) []));letI z2:=(wab (decide z5) ((m.d.o.length<4294967281/\m.d.dev.length<4294967281)/\wab (!(wbg m.d.o m.d.p m.d.per && (wa3 m.d.dev && numF m.d.num))) (R (.q 114) []) z1) z1);letI z0:=(wab (decide z5) (wab (!(decide (m.v.o=[]) && (decide (m.v.p=[]) && (decide (m.v.per=0) && (decide (m.v.day=0) && (decide (m.v.st=0) && (decide (m.v.pr=0) && decide (m.v.rep=[])))))))) (R (.q 113) []) z2) z2);letI z3:=(wab (decide z4) (m.v.o.length<4294967281/\wab (!visF (VT.mk m.v.o m.v.p m.v.per m.v.day m.v.st m.v.pr m.v.rep)) (R (.q 113) []) z0) z0);m.dev.length<=9223372036854775806/\wab (!wa3 m.dev) (R (.q 110) []) (wab (decide (m.seq<1)) (R (.q 111) []) (wab (decide ((1048576:Int)<m.seq)) (R (.q 111) []) (wab (!decide z4) (wab (!decide z5) (R (.q 112) []) z3) z3)))):=by kernel_rfl
theorem ww9(hP:C.P=Tryz.prog):wai C 128 wfr:=by
 rintro args objs U Os vc h hvc;unfold wfr at h;split at h<;>cases h;rename_i o p per day st pr rep;refine wai.wp0 (prg hP) [(130,.det wek),(162,.det wcs)] 0 (.cons (wjv hP) (.cons (wsj hP) .nil)) (hP ▸ Tryz.func128) rfl rfl rfl ?_;rw[wzc];refine⟨hvc,wcb (λh1=>?_) (λh1=>wak (λh2=>?_) (λh2=>wak (λh3=>?_) (λh3=>?_)))⟩
 ·unfold visF;simp[h1]
 ·unfold visF;simp[show ¬ 0<=day by omega]
 ·unfold visF;simp[show ¬ day<=182620 by omega]
 have hv:visF ⟨o,p,per,day,st,pr,rep⟩=(bif decide (st=1) || decide (st=2) then decide (1<=pr) && decide (pr<=1099511627776) && decide (rep=[])
  else bif decide (st=3) || decide (st=4) then decide (pr=0) && decide (rep=[])
  else bif decide (st=5) then decide (1<=pr) && decide (pr<=1099511627776) && wa9 rep && !decide (rep=p) else false):=by
  unfold visF;simp only[h1,Bool.true_and,decide_eq_true (show 0<=day by omega),decide_eq_true (show day<=182620 by omega)]
 rw[hv];clear hv h1 h2 h3
 by_cases s1:st=1
 ·subst s1;generalize decide (1<=pr)=b1,decide (pr<=1099511627776)=b2,decide (pr=0)=b3,decide (rep=p)=b4,decide (rep=[])=b5,wa9 rep=b6
  cases b1<;>cases b2<;>exact⟨rfl,rfl⟩
 by_cases s2:st=2
 ·subst s2;generalize decide (1<=pr)=b1,decide (pr<=1099511627776)=b2,decide (pr=0)=b3,decide (rep=p)=b4,decide (rep=[])=b5,wa9 rep=b6
  cases b1<;>cases b2<;>exact⟨rfl,rfl⟩
 by_cases s3:st=3
 ·subst s3;generalize decide (1<=pr)=b1,decide (pr<=1099511627776)=b2,decide (pr=0)=b3,decide (rep=p)=b4,decide (rep=[])=b5,wa9 rep=b6
  cases b3<;>exact⟨rfl,rfl⟩
 by_cases s4:st=4
 ·subst s4;generalize decide (1<=pr)=b1,decide (pr<=1099511627776)=b2,decide (pr=0)=b3,decide (rep=p)=b4,decide (rep=[])=b5,wa9 rep=b6
  cases b3<;>exact⟨rfl,rfl⟩
 by_cases s5:st=5
 ·subst s5;generalize decide (1<=pr)=b1,decide (pr<=1099511627776)=b2,decide (pr=0)=b3,decide (rep=p)=b4,decide (rep=[])=b5,wa9 rep=b6
  cases b1<;>cases b2<;>cases b6<;>first | exact⟨rfl,rfl⟩ | exact⟨trivial,rfl,rfl⟩
 rw[decide_eq_false s1,decide_eq_false s2,decide_eq_false s3,decide_eq_false s4,decide_eq_false s5];exact⟨rfl,rfl⟩
theorem decR_ok(hP:C.P=Tryz.prog):wai C 129 wnm:=by
 rintro args objs U Os vc h hvc;unfold wnm at h;split at h<;>cases h;rename_i o p per dev num;refine wai.wp0 (prg hP) [(130,.det wek),(75,.det wem)] 0 (.cons (wjv hP) (.cons (wke hP) .nil)) (hP ▸ Tryz.func129) rfl rfl rfl ?_;rw[nf_decR];unfold numF;generalize wbg o p per=b1,wa3 dev=b2,decide (1<=num)=b3,decide (num<=1048576)=b4;refine⟨hvc.1,?_⟩
 cases b1
 ·exact⟨rfl,rfl⟩
 refine⟨by omega,?_⟩
 cases b2<;>cases b3<;>exact⟨rfl,rfl⟩
theorem msgR_ok(hP:C.P=Tryz.prog):wai C 76 wdr:=by
 rintro args objs U Os vc h hvc;unfold wdr at h;split at h<;>cases h;rename_i dev seq kind o p per day st pr rep o2 p2 per2 dev2 num;refine wai.wp0 (prg hP) [(75,.det wem),(128,.det wfr),(129,.det wnm)] 0 (.cons (wke hP) (.cons (ww9 hP) (.cons (decR_ok hP) .nil))) (hP ▸ Tryz.func76) rfl rfl rfl ?_;have nf:=λR=>nf_msgR ⟨dev,seq,kind,⟨o,p,per,day,st,pr,rep⟩,⟨o2,p2,per2,dev2,num⟩⟩ R;refine(nf _).mpr ?_;clear nf;obtain⟨l1,l2,l3,l4⟩:=hvc;unfold msgF VT.nil DT.nil;dsimp only
 generalize (decide (o=[]) && (decide (p=[]) && (decide (per=0) && (decide (day=0) && (decide (st=0) && (decide (pr=0) && decide (rep=[])))))))=vn;generalize (decide (o2=[]) && (decide (p2=[]) && (decide (per2=0) && (decide (dev2=[]) && decide (num=0)))))=dn;generalize wa3 dev=b1,visF ⟨o,p,per,day,st,pr,rep⟩=b3,wbg o2 p2 per2=b4,wa3 dev2=b5,numF num=b6;refine⟨by omega,?_⟩
 cases b1
 ·exact⟨rfl,rfl⟩
 by_cases s1:seq<1
 ·rw[show numF seq=false by unfold numF;rw[decide_eq_false (show ¬ 1<=seq by omega)];rfl,decide_eq_true s1];exact⟨rfl,rfl⟩
 by_cases s2:1048576<seq
 ·rw[show numF seq=false by unfold numF;rw[decide_eq_false (show ¬ seq<=1048576 by omega),Bool.and_false],decide_eq_false s1,decide_eq_true s2];exact⟨rfl,rfl⟩
 rw[show numF seq=true by unfold numF;rw[decide_eq_true (show 1<=seq by omega),decide_eq_true (show seq<=1048576 by omega)];rfl,decide_eq_false s1,decide_eq_false s2]
 by_cases k1:kind=1
 ·subst k1;refine⟨l2,?_⟩
  cases b3<;>cases dn<;>exact⟨rfl,rfl⟩
 by_cases k2:kind=2
 ·subst k2
  cases vn
  ·exact⟨rfl,rfl⟩
  refine⟨⟨l3,l4⟩,?_⟩
  cases b4<;>cases b5<;>cases b6<;>exact⟨rfl,rfl⟩
 rw[decide_eq_false k1,decide_eq_false k2];exact⟨rfl,rfl⟩
end Go.Eng
