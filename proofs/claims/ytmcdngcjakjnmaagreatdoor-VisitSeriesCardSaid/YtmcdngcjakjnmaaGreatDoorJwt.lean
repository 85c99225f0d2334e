/- The laws of messages: rows told by cells. -/
import Derived.Test.YtmcdngcjakjnmaaGreatDoorJws
import Derived.Test.YtmcdngcjakjnmaaGreatDoorJwq
namespace Go.Eng
open Go.Proofs Go.RowKit
variable {C:Ctx} [C.Loose]
set_option maxRecDepth 20000
theorem w08(s:List UInt8)(R:oR7):wpFn te [(137,.det wlk)] [] 0 Tryz.f117 [.str s] [] R=((2<4294967281/\s.length<9223372036854775808)/\R (.bool (decide ((valF [(48:UInt8),48,48,48,48,48,48,48] [(48:UInt8),49] s (4:Int) (1:Int) (1:Int) 0 (λ(_x:Nat)=>[]) λ(_x:Nat)=>[])=0))) []):=by kernel_rfl
theorem nf_cnum(n:Int)(R:oR7):wpFn te [] [] 0 Tryz.f118 [.q n] [] R=(wab (decide ((1:Int)<=n)) (R (.bool (decide (n<=1048576))) []) (R (.bool false) [])):=by kernel_rfl
theorem nf_calv(n:Int)(R:oR7):wpFn te [] [] 0 Tryz.f156 [.q n] [] R=(wab (decide ((0:Int)<=n)) (R (.bool (decide (n<=182620))) []) (R (.bool false) [])):=by kernel_rfl
theorem wyt(n:Int)(R:oR7):wpFn te [(156,.det wna)] [] 0 Tryz.f138 [.q n] [] R=(True/\wab (!(decide ((0:Int)<=n) && decide (n<=182620))) (R (.q (-1:Int)) []) ((7:Int)≠(0:Int)/\R (.q (Int.tmod n (7:Int))) [])):=by kernel_rfl
theorem nf_slot(o p:List UInt8)(per:Int)(R:oR7):wpFn te [(117,.det whe),(139,.det wcn)] [] 0 Tryz.f120 [.str o,.str p,.q per] [] R=(o.length<9223372036854775808/\wab (wa6 o) (True/\wab (wba p) (wab (decide ((0:Int)<=per)) (R (.bool (decide (per<=5999))) []) (R (.bool false) [])) (R (.bool false) [])) (R (.bool false) [])):=by kernel_rfl
theorem wyx(o p:List UInt8)(per day st pr:Int)(rep:List UInt8)(R:oR7):wpFn te [(120,.det wgx),(139,.det wcn),(138,.det wlh)] [] 0 Tryz.f119 [.agg [.str o,.str p,.q per,.q day,.q st,.q pr,.str rep]] [] R=(letI z3:=R (.bool false) [];letI z0:=(wab (decide (st=5)) (True/\wab (wba rep) (R (.bool !decide (rep=p)) []) z3) (R (.bool (decide (rep=[]))) []));letI z2:=(wab (decide (pr<1)) z3 (wab (decide ((1099511627776:Int)<pr)) z3 z0));letI z1:=(wab (decide (st=3)) (wab (decide (st=3)) (wab (!decide (pr=0)) z3 z0) z3) (wab (decide (st=4)) (wab (!decide (pr=0)) z3 z0) z3));o.length<9223372036854775808/\wab (!wcb o p per) z3 (True/\wab (decide ((bif decide ((0:Int)<=day) && decide (day<=182620) then day % (7:Int) else (-1:Int))<0)) z3 (wab (decide (st=1)) (wab (decide (st=1)) z2 z1) (wab (decide (st=2)) (wab (decide (st=2)) z2 z1) (wab (decide (st=5)) z2 z1))))):=by kernel_rfl
theorem nf_msg(m:MG)(R:oR7):wpFn te [(117,.det whe),(120,.det wgx),(119,.det we0),(118,.det wl9)] [] 0 Tryz.f96 [.agg [.str m.dev,.q m.seq,.q m.kind,.str m.v.o,.str m.v.p,.q m.v.per,.q m.v.day,.q m.v.st,.q m.v.pr,.str m.v.rep,.str m.d.o,.str m.d.p,.q m.d.per,.str m.d.dev,.q m.d.num]] [] R=(letI z6:=(m.kind=1);letI z5:=(m.kind=2);letI z4:=R (.q 114) [];letI z2:=(wab (decide z5) (m.d.o.length<9223372036854775808/\wab (wcb m.d.o m.d.p m.d.per) (m.d.dev.length<9223372036854775808/\wab (wa6 m.d.dev) (True/\wab (!numF m.d.num) z4 (R (.q 0) [])) z4) z4) (R (.q 0) []));letI z0:=(wab (decide z6) (wab (!(decide (m.d.o=[]) && (decide (m.d.p=[]) && (decide (m.d.per=0) && (decide (m.d.dev=[]) && decide (m.d.num=0)))))) z4 z2) z2);letI z1:=(wab (decide z5) (wab (!(decide (m.v.o=[]) && (decide (m.v.p=[]) && (decide (m.v.per=0) && (decide (m.v.day=0) && (decide (m.v.st=0) && (decide (m.v.pr=0) && decide (m.v.rep=[])))))))) (R (.q 113) []) z0) z0);letI z3:=(wab (decide z6) (m.v.o.length<9223372036854775808/\wab (!visF (VT.mk m.v.o m.v.p m.v.per m.v.day m.v.st m.v.pr m.v.rep)) (R (.q 113) []) z1) z1);m.dev.length<9223372036854775808/\wab (!wa6 m.dev) (R (.q 110) []) (True/\wab (!numF m.seq) (R (.q 111) []) (wab (!decide z6) (wab (!decide z5) (R (.q 112) []) z3) z3))):=by kernel_rfl
theorem val0_ok(hP:C.P=Tryz.prog)(hL:∀w,C.laid w->LaidW w):wae C 137 wlk:=by
 rintro args objs U Os vc h hvc;unfold wlk at h;split at h<;>cases h;rename_i id code brand d c a;exact war.nilArg 2 (wez (λ_=>[]) (λ_=>[])) (valV_ok hP hL _ _ _ _ _ rfl ⟨zL7 _,hvc.1,hvc.2,λi hi=>absurd hi (nZ7 i),rfl⟩)
theorem w4a(s:List UInt8):decide (valF [48,48,48,48,48,48,48,48] [48,49] s 4 1 1 0 (λ_=>[]) (λ_=>[])=0)=wa6 s:=by
 unfold valF;rw[show wba [48,48,48,48,48,48,48,48]=true by decide+kernel,show wde [48,49]=true by decide+kernel,show qtyF 4 1 1=0 by rfl]
 cases wa6 s<;>rfl
theorem wve(hP:C.P=Tryz.prog)(hL:∀w,C.laid w->LaidW w):wae C 117 whe:=by
 rintro args objs U Os vc h hvc;unfold whe at h;split at h<;>cases h;rename_i s;refine wae.wp0 (prg hP) [(137,.det wlk)] 0 (.cons (val0_ok hP hL) .nil) (hP ▸ Tryz.func117) rfl rfl rfl ?_;rw[w08,w4a];exact⟨⟨by omega,hvc⟩,rfl,rfl⟩
theorem cnum_ok(hP:C.P=Tryz.prog):wae C 118 wl9:=by
 have _:C.Loose:=inferInstance;rintro args objs U Os vc h hvc;unfold wl9 at h;split at h<;>cases h;rename_i n;refine wae.wp0 (prg hP) [] 0 .nil (hP ▸ Tryz.func118) rfl rfl rfl ?_;rw[nf_cnum];unfold numF;exact wal (λh=>by rw[h];exact⟨rfl,rfl⟩) (λh=>by rw[h];exact⟨rfl,rfl⟩)
theorem calv_ok(hP:C.P=Tryz.prog):wae C 156 wna:=by
 have _:C.Loose:=inferInstance;rintro args objs U Os vc h hvc;unfold wna at h;split at h<;>cases h;rename_i n;refine wae.wp0 (prg hP) [] 0 .nil (hP ▸ Tryz.func156) rfl rfl rfl ?_;rw[nf_calv];exact wal (λh=>by rw[h];exact⟨rfl,rfl⟩) (λh=>by rw[h];exact⟨rfl,rfl⟩)
theorem wwf(hP:C.P=Tryz.prog):wae C 138 wlh:=by
 rintro args objs U Os vc h hvc;unfold wlh at h;split at h<;>cases h;rename_i n;refine wae.wp0 (prg hP) [(156,.det wna)] 0 (.cons (calv_ok hP) .nil) (hP ▸ Tryz.func138) rfl rfl rfl ?_;rw[wyt];refine⟨trivial,wck (λh=>by rw[h];exact⟨rfl,rfl⟩) (λh=>⟨by decide,?_⟩)⟩;rw[h];have h0:0<=n:=of_decide_eq_true (Bool.and_eq_true_iff.1 h).1;exact⟨by rw[Int.tmod_eq_emod_of_nonneg h0];rfl,rfl⟩
theorem wrt(hP:C.P=Tryz.prog)(hL:∀w,C.laid w->LaidW w):wae C 120 wgx:=by
 rintro args objs U Os vc h hvc;unfold wgx at h;split at h<;>cases h;rename_i o p per;refine wae.wp0 (prg hP) [(117,.det whe),(139,.det wcn)] 0 (.cons (wve hP hL) (.cons (wos hP (wi2 hP)) .nil)) (hP ▸ Tryz.func120) rfl rfl rfl ?_;rw[nf_slot];unfold wcb;exact⟨hvc,wal (λh1=>⟨trivial,wal (λh2=>wal (λh3=>by rw[h1,h2,h3];exact⟨rfl,rfl⟩) (λh3=>by rw[h1,h2,h3];exact⟨rfl,rfl⟩)) (λh2=>by rw[h1,h2];exact⟨rfl,rfl⟩)⟩) (λh1=>by rw[h1];exact⟨rfl,rfl⟩)⟩
theorem wk_neg(day:Int):decide ((bif decide (0<=day) && decide (day<=182620) then day % 7 else -1)<0)= !(decide (0<=day) && decide (day<=182620)):=by
 cases h:decide (0<=day) && decide (day<=182620) with
 |true=>
  show decide (day % 7<0)=false;rw[decide_eq_false];have:=Int.emod_nonneg day (show (7:Int)≠0 by decide);omega
 |false=>rfl
theorem wwh(hP:C.P=Tryz.prog)(hL:∀w,C.laid w->LaidW w):wae C 119 we0:=by
 rintro args objs U Os vc h hvc;unfold we0 at h;split at h<;>cases h;rename_i o p per day st pr rep;refine wae.wp0 (prg hP) [(120,.det wgx),(139,.det wcn),(138,.det wlh)] 0 (.cons (wrt hP hL) (.cons (wos hP (wi2 hP)) (.cons (wwf hP) .nil))) (hP ▸ Tryz.func119) rfl rfl rfl ?_;rw[wyx,wk_neg];refine⟨hvc,wck (λh1=>?_) (λh1=>⟨trivial,wck (λh2=>?_) (λh2=>?_)⟩)⟩
 ·unfold visF;simp[h1]
 ·unfold visF;simp[h1,h2]
 have hv:visF ⟨o,p,per,day,st,pr,rep⟩=(bif decide (st=1) || decide (st=2) then decide (1<=pr) && decide (pr<=1099511627776) && decide (rep=[])
  else bif decide (st=3) || decide (st=4) then decide (pr=0) && decide (rep=[])
  else bif decide (st=5) then decide (1<=pr) && decide (pr<=1099511627776) && wba rep && !decide (rep=p) else false):=by
  unfold visF;simp only[h1,Bool.true_and,h2]
 rw[hv];have e1:decide (1<=pr)= !decide (pr<1):=by by_cases h:pr<1<;>simp[h]<;>omega
 have e2:decide (pr<=1099511627776)= !decide (1099511627776<pr):=by by_cases h:1099511627776<pr<;>simp[h]<;>omega
 rw[e1,e2];clear hv h1 h2 e1 e2
 by_cases s1:st=1
 ·subst s1;generalize decide (pr<1)=b1,decide (1099511627776<pr)=b2,decide (pr=0)=b3,decide (rep=p)=b4,decide (rep=[])=b5,wba rep=b6
  cases b1<;>cases b2<;>exact⟨rfl,rfl⟩
 by_cases s2:st=2
 ·subst s2;generalize decide (pr<1)=b1,decide (1099511627776<pr)=b2,decide (pr=0)=b3,decide (rep=p)=b4,decide (rep=[])=b5,wba rep=b6
  cases b1<;>cases b2<;>exact⟨rfl,rfl⟩
 by_cases s3:st=3
 ·subst s3;generalize decide (pr<1)=b1,decide (1099511627776<pr)=b2,decide (pr=0)=b3,decide (rep=p)=b4,decide (rep=[])=b5,wba rep=b6
  cases b3<;>exact⟨rfl,rfl⟩
 by_cases s4:st=4
 ·subst s4;generalize decide (pr<1)=b1,decide (1099511627776<pr)=b2,decide (pr=0)=b3,decide (rep=p)=b4,decide (rep=[])=b5,wba rep=b6
  cases b3<;>exact⟨rfl,rfl⟩
 by_cases s5:st=5
 ·subst s5;generalize decide (pr<1)=b1,decide (1099511627776<pr)=b2,decide (pr=0)=b3,decide (rep=p)=b4,decide (rep=[])=b5,wba rep=b6
  cases b1<;>cases b2<;>cases b6<;>first | exact⟨rfl,rfl⟩ | exact⟨trivial,rfl,rfl⟩
 rw[decide_eq_false s1,decide_eq_false s2,decide_eq_false s3,decide_eq_false s4,decide_eq_false s5];exact⟨rfl,rfl⟩
theorem msg_ok(hP:C.P=Tryz.prog)(hL:∀w,C.laid w->LaidW w):wae C 96 wc4:=by
 rintro args objs U Os vc h hvc;unfold wc4 at h;split at h<;>cases h;rename_i dev seq kind o p per day st pr rep o2 p2 per2 dev2 num;refine wae.wp0 (prg hP) [(117,.det whe),(120,.det wgx),(119,.det we0),(118,.det wl9)] 0 (.cons (wve hP hL) (.cons (wrt hP hL) (.cons (wwh hP hL) (.cons (cnum_ok hP) .nil)))) (hP ▸ Tryz.func96) rfl rfl rfl ?_;have nf:=λR=>nf_msg ⟨dev,seq,kind,⟨o,p,per,day,st,pr,rep⟩,⟨o2,p2,per2,dev2,num⟩⟩ R;refine(nf _).mpr ?_;clear nf;obtain⟨l1,l2,l3,l4⟩:=hvc;unfold msgF VT.nil DT.nil;dsimp only
 generalize (decide (o=[]) && (decide (p=[]) && (decide (per=0) && (decide (day=0) && (decide (st=0) && (decide (pr=0) && decide (rep=[])))))))=vn;generalize (decide (o2=[]) && (decide (p2=[]) && (decide (per2=0) && (decide (dev2=[]) && decide (num=0)))))=dn;generalize wa6 dev=b1,numF seq=b2,visF ⟨o,p,per,day,st,pr,rep⟩=b3,wcb o2 p2 per2=b4,wa6 dev2=b5,numF num=b6;refine⟨l1,?_⟩
 cases b1
 ·exact⟨rfl,rfl⟩
 refine⟨trivial,?_⟩
 cases b2
 ·exact⟨rfl,rfl⟩
 by_cases k1:kind=1
 ·subst k1;refine⟨l2,?_⟩
  cases b3<;>cases dn<;>exact⟨rfl,rfl⟩
 by_cases k2:kind=2
 ·subst k2
  cases vn
  ·exact⟨rfl,rfl⟩
  refine⟨l3,?_⟩
  cases b4
  ·exact⟨rfl,rfl⟩
  refine⟨l4,?_⟩
  cases b5
  ·exact⟨rfl,rfl⟩
  refine⟨trivial,?_⟩
  cases b6<;>exact⟨rfl,rfl⟩
 rw[decide_eq_false k1,decide_eq_false k2];exact⟨rfl,rfl⟩
theorem nf_mrg(g:Nat->MG)(n:Nat)(h:Nat->MG)(m:Nat)(R:oR7):letI z4:=sumN (nn2 n m) 2;letI z3:=(List.flatten (List.replicate (nat_lit 0) [.nil]):List AV);letI z2:=catG (nn2 n m) (gg2 g h) 2;letI z0:=flL z2 z4;letI z1:=(∀(i:Nat),i<z0.length->true=true:Prop);wpFn te [(95,.rel wnn),(96,.det wc4),(97,.rel wnj),(99,.rel wno)] [(3,L_mg z2 z4)] 0 Tryz.f76 [.view 15 n (waa g),.view 15 m (waa h)] [] R=((2<=16777216/\1=1/\2<=9223372036854775807)/\(∀(i:Nat),i<2->nrefL (waq 1 (.view 15 n (waa g):: .view 15 m (waa h)::List.append [] z3) i)=true)/\∃(nn:Nat->Nat),∃(gg:Nat->Nat->MG),22=22/\false=false/\2=2/\2<=1000/\(∀(i:Nat),i<2->[AV.view 15 (nn i) (waa (gg i))]=waq 1 (.view 15 n (waa g):: .view 15 m (waa h)::List.append [] z3) i)/\sumN nn 2<=1000000/\(∀(i:Nat),i<2->true=true)/\(TEq [(5,.own 0 0),(11,.view 15 (sumN nn 2) (waa (catG nn gg 2))),(12,.q (↑(sumN nn 2):Int)),(13,.q 0)] [(5,.own 0 0),(11,.view 15 z4 (waa z2)),(12,.q (z4:Int)),(13,.q (↑0:Int))]/\wac [(0,.row 47 15 0 (λ(_x:Nat)=>[]) false)] [(0,.row 47 15 0 (waa (atM (flL z2 0))) false)])/\sumN (nn2 n m) 2<=200000/\(∀(i:Nat),i<sumN (nn2 n m) 2->MG.Sm (catG (nn2 n m) (gg2 g h) 2 i))/\z1/\47=47/\false=false/\z0.length=z0.length/\z0.length<=1000000/\waa (atM z0)=waa (mgOf (waa (atM z0)))/\∀(h_1:Nat->MG),List.Perm (lst h_1 z0.length) (lst (mgOf (waa (atM z0))) z0.length)->(∀(i j:Nat),i<j->j<z0.length->¬ordM (h_1 j) (h_1 i)<0)->z1/\z1/\47=47/\false=false/\z0.length=z0.length/\z0.length<=1000000/\waa h_1=waa (mgOf (waa h_1))/\∀(k:Nat) (h_2:Nat->MG),lst h_2 k=ddL (mgOf (waa h_1)) z0.length->(∀(i:Nat),i<k->true=true)/\(∀(i:Nat),i<k->true=true)/\∃(O':oL7),wac [(0,.row 47 15 k (waa h_2) false)] O'/\R (.own 0 k) O'):=by kernel_rfl
theorem w0f(g:Nat->MG)(n k:Nat)(P:Nat->Prop)(R:eR7):was ⟨te,[(96,.det wc4)],[],0,29,0⟩ (wat Tryz.f76 3) [5,11,12,13] [5] [] (S_mg g n) P R (S_mg g n k)=(letI z2:=(flL g k).length+1;letI z1:=(flL g k).length;letI z3:=([(0,.row 47 15 z1 (waa (atM (flL g k))) false)]:oL7);letI z0:=(g (k:Int).toNat);wab (decide ((k:Int)<(n:Int))) (((0:Int)<=(k:Int)/\(k:Int)<(n:Int)/\15=15)/\(z0.dev.length<9223372036854775808/\z0.v.o.length<9223372036854775808/\z0.d.o.length<9223372036854775808/\z0.d.dev.length<9223372036854775808)/\wab (decide (msgF (MG.mk z0.dev z0.seq z0.kind (VT.mk z0.v.o z0.v.p z0.v.per z0.v.day z0.v.st z0.v.pr z0.v.rep) (DT.mk z0.d.o z0.d.p z0.d.per z0.d.dev z0.d.num))=0)) ((15<=16777216/\15=15/\1<=9223372036854775807)/\((1<=1/\15=15)/\(flL g k).length<=(flL g k).length/\15=15/\47=47/\15=15/\(flL g k).length+1<=9223372036854775807/\z2 * 176<=140737488355328)/\inR .i64 ((k:Int)+1)/\∃(i':Nat),(TEq [(5,.own 0 z2),(11,.view 15 n (waa g)),(12,.q (n:Int)),(13,.q ((k:Int)+1))] [(5,.own 0 (flL g i').length),(11,.view 15 n (waa g)),(12,.q (n:Int)),(13,.q (i':Int))]/\wac [(0,.row 47 15 z2 (apF z1 (waa (atM (flL g k))) (waq 15 (.str z0.dev:: .q z0.seq:: .q z0.kind:: .str z0.v.o:: .str z0.v.p:: .q z0.v.per:: .q z0.v.day:: .q z0.v.st:: .q z0.v.pr:: .str z0.v.rep:: .str z0.d.o:: .str z0.d.p:: .q z0.d.per:: .str z0.d.dev:: .q z0.d.num::List.append [] wbm))) false)] [(0,.row 47 15 (flL g i').length (waa (atM (flL g i'))) false)])/\P i') (inR .i64 ((k:Int)+1)/\∃(i':Nat),(TEq [(5,.own 0 z1),(11,.view 15 n (waa g)),(12,.q (n:Int)),(13,.q ((k:Int)+1))] [(5,.own 0 (flL g i').length),(11,.view 15 n (waa g)),(12,.q (n:Int)),(13,.q (i':Int))]/\wac z3 [(0,.row 47 15 (flL g i').length (waa (atM (flL g i'))) false)])/\P i')) ((∀(i:Nat),i<(flL g k).length->true=true)/\∃(O':oL7),wac z3 O'/\R (.exit 0) (St.mk [(5,.own 0 z1)] O' 1 []))):=by kernel_rfl
theorem w32{h:Nat->MG}{n:Nat}(hs:∀i j,i<j->j<n->¬ ordM (h j) (h i)<0):Asc ordM (ddL h n)/\∀x,x∈ddL h n↔x∈lst h n:=by
 have le:∀i j,i<j->j<n->ordM (h i) (h j)<=0:=λi j hij hj=>by
  have:=hs i j hij hj;rw[wcx.neg] at this;omega
 have nk:∀j,0<j->wcd h j=true->h j≠h (j - 1):=λj hj hk e=>by
  rw[wj9 hj,wkr.2 e] at hk;cases hk
 refine⟨?_,λx=>⟨λhx=>?_,λhx=>?_⟩⟩
 ·unfold Asc ddL;refine List.pairwise_map.2 ((List.pairwise_lt_range.filter _).imp_of_mem λ{i j} hi hj hij=>?_);obtain⟨hjn,hjk⟩:=List.mem_filter.1 hj;have hjn:=List.mem_range.1 hjn;have l1:=le i j hij hjn
  rcases Int.lt_or_eq_of_le l1 with h0 | h0
  ·exact h0
  ·exfalso;have e:=wjj.1 h0;refine nk j (by omega) hjk ?_
   by_cases q:i=j - 1
   ·rw[← q,e]
   ·have l2:=le i (j - 1) (by omega) (by omega);have l3:=le (j - 1) j (by omega) hjn;rw[e] at l2;have:=wcx.neg (h (j - 1)) (h j);exact wjj.1 (by omega)
 ·unfold ddL at hx;obtain⟨i,hi,rfl⟩:=List.mem_map.1 hx;exact List.mem_map.2 ⟨i,(List.mem_filter.1 hi).1,rfl⟩
 ·obtain⟨i,hi,rfl⟩:=List.mem_map.1 hx;have key:∀i,i<n->h i∈ddL h n:=λi=>by
   induction i with
   |zero=>intro hi;exact List.mem_map.2 ⟨0,List.mem_filter.2 ⟨List.mem_range.2 hi,rfl⟩,rfl⟩
   |succ i ih=>
    intro hi
    cases q:wcd h (i+1) with
    |true=>exact List.mem_map.2 ⟨i+1,List.mem_filter.2 ⟨List.mem_range.2 hi,q⟩,rfl⟩
    |false=>
     rw[wj9 (Nat.succ_pos i)] at q;have e:eqM (h (i+1)) (h i)=true:=by
      have:i+1 - 1=i:=rfl;rw[this] at q
      cases r:eqM (h (i+1)) (h i) with
      |true=>rfl
      |false=>rw[r] at q;cases q
     rw[wkr.1 e];exact ih (by omega)
  exact key i (List.mem_range.1 hi)
theorem wdi(L:List MG):lst (atM L) L.length=L:=by
 apply List.ext_getElem
 ·simp[lst]
 ·intro i h1 h2;simp[lst,atM,h2]
theorem wtp{g:Nat->MG}{L:List MG}{n:Nat}(h:lst g n=L):n=L.length/\∀i,i<n->g i=atM L i:=by
 subst h;refine⟨by simp[lst],λi hi=>?_⟩;simp[lst,atM,hi]
theorem w3n(g:Nat->MG)(k:Nat):flL g (k+1)=flL g k++bif okM (g k) then [g k] else []:=by
 unfold flL;rw[wdh,List.filter_append]
 cases h:okM (g k)<;>simp[h]
theorem wur(g:Nat->MG)(k:Nat):(flL g k).length<=k:=by
 have:=List.length_filter_le okM (lst g k);have e:(lst g k).length=k:=by simp[lst]
 unfold flL;omega
theorem cat2(g:Nat->MG)(n:Nat)(h:Nat->MG)(m:Nat):sumN (nn2 n m) 2=n+m/\lst (catG (nn2 n m) (gg2 g h) 2) (n+m)=lst g n++lst h m/\∀i,i<n+m->(i<n/\catG (nn2 n m) (gg2 g h) 2 i=g i)∨(i - n<m/\n<=i/\catG (nn2 n m) (gg2 g h) 2 i=h (i - n)):=by
 have s1:sumN (nn2 n m) 1=n:=by simp[sumN,nn2]
 have at1:∀i,i<n+m->(i<n/\catG (nn2 n m) (gg2 g h) 2 i=g i)∨(i - n<m/\n<=i/\catG (nn2 n m) (gg2 g h) 2 i=h (i - n)):=λi hi=>by
  by_cases q:i<n
  ·refine .inl ⟨q,?_⟩;rw[catG,s1,if_pos q,catG];have:sumN (nn2 n m) 0=0:=rfl;rw[this,if_neg (by omega)];rfl
  ·refine .inr ⟨by omega,by omega,?_⟩;rw[catG,s1,if_neg q];rfl
 refine⟨by rw[sumN,s1];rfl,?_,at1⟩;apply List.ext_getElem
 ·simp[lst]
 ·intro i h1 h2;have hi:i<n+m:=by simpa[lst] using h1
  rcases at1 i hi with⟨q,e⟩ | ⟨q1,q2,e⟩
  ·rw[List.getElem_append_left (by simp[lst,q])];simp[lst,e]
  ·rw[List.getElem_append_right (by simp[lst,q2])];simp[lst,e]
theorem mg_loop(hP:C.P=Tryz.prog)(hL:∀w,C.laid w->LaidW w)(g:Nat->MG)(n:Nat):waf C 0 29 (wah Tryz.f76 3) (L_mg g n):=by
 rintro st Q ⟨h0,hn,hs,hQ⟩;refine AWP.ownNil 5 47 15 ?_;refine waf.mk (prg hP) [(96,.det wc4)] 0 (.cons (msg_ok hP hL) .nil) [5,11,12,13] [5] [] (S_mg g n) (λk=>k<=n) (λk=>n - k) 0 (zL7 _) h0 (λk hk=>?_) (λi=>⟨λ_ _=>rfl,trivial⟩);rw[w0f,tN7];have hlen:=wur g k;have hsu:=w3n g k;refine wag (λh1=>?_) (λh1=>?_)
 ·have hk:=hs k (by omega);refine⟨⟨by omega,by omega,rfl⟩,⟨hk.a,hk.b,hk.c,hk.d⟩,wag (λq=>?_) (λq=>?_)⟩
  ·have q:msgF (g k)=0:=q;have e:flL g (k+1)=flL g k++[g k]:=by rw[hsu,show okM (g k)=true from decide_eq_true q];rfl
   refine⟨⟨by omega,rfl,by omega⟩,⟨⟨lR7 _,rfl⟩,lR7 _,rfl,rfl,rfl,by omega,?_⟩,by simp only[inR];omega,k+1,?_,by omega,by omega⟩
   ·show ((flL g k).length+1) * 176<=_;omega
   ·rw[e,lA7];refine⟨rfl,⟨rfl,rfl,rfl,rfl,rfl,λj hj=>?_⟩,trivial⟩;generalize flL g k=L at *;unfold apF
    by_cases h:j<L.length
    ·rw[if_pos h];have:atM (L++[g k]) j=atM L j:=by simp[atM,List.getD_eq_getElem?_getD,List.getElem?_append_left h]
     unfold waa;rw[this]
    ·have hj:j=L.length:=by omega
     subst hj;rw[if_neg h,Nat.sub_self];have:atM (L++[g k]) L.length=g k:=by simp[atM]
     unfold waa;rw[this];rfl
  ·have q:¬ msgF (g k)=0:=q;have e:flL g (k+1)=flL g k:=by rw[hsu,show okM (g k)=false from decide_eq_false q];simp
   refine⟨by simp only[inR];omega,k+1,?_,by omega,by omega⟩;rw[e];exact⟨rfl,rQ7,trivial⟩
 ·have:k=n:=by omega
  subst this;exact⟨λ_ _=>rfl,_,wav _,hQ⟩
theorem mrg_ok(hP:C.P=Tryz.prog)(hL:∀w,C.laid w->LaidW w):wae C 76 S_mrg:=by
 rintro args objs U Os vc hh hvc;unfold S_mrg at hh;split at hh<;>simp only[sI7,pI7,reduceCtorEq] at hh;rename_i n f m h;obtain⟨rfl,rfl,rfl⟩:=hh;obtain⟨hn,hm,hf,hh,s1,s2⟩:=hvc;generalize mgOf f=g at *;generalize mgOf h=j at *;subst hf;subst hh;refine wae.wpL (prg hP) [(95,.rel wnn),(96,.det wc4),(97,.rel wnj),(99,.rel wno)] [(3,L_mg (catG (nn2 n m) (gg2 g j) 2) (sumN (nn2 n m) 2))] 0 (.cons (w36 hP) (.cons (msg_ok hP hL) (.cons (ww5 hP) (.cons (w4b hP) .nil)))) (hP ▸ Tryz.func76) rfl rfl rfl [(wah Tryz.f76 3,L_mg (catG (nn2 n m) (gg2 g j) 2) (sumN (nn2 n m) 2))] (by kernel_rfl) ⟨mg_loop hP hL _ _,trivial⟩ ?_;rw[nf_mrg];obtain⟨c1,c2,c3⟩:=cat2 g n j m;have two:∀ {p:Nat->Prop},p 0->p 1->∀i,i<2->p i:=λh0 h1 i hi=>by
  match i,hi with
  |0,_=>exact h0
  |1,_=>exact h1
 have sm:∀i,i<n+m->(catG (nn2 n m) (gg2 g j) 2 i).Sm:=λi hi=>by
  rcases c3 i hi with⟨q,e⟩ | ⟨q1,q2,e⟩
  ·rw[e];exact s1 i q
  ·rw[e];exact s2 _ q1
 refine⟨⟨by omega,rfl,by omega⟩,two rfl rfl,nn2 n m,gg2 g j,rfl,rfl,rfl,by omega,two rfl rfl,by rw[c1];omega,two rfl rfl,⟨rfl,⟨rfl,rfl,rfl,rfl,rfl,λi hi=>absurd hi (nZ7 i)⟩,trivial⟩,?_⟩;have hfl:flL (catG (nn2 n m) (gg2 g j) 2) (n+m)=(lst g n++lst j m).filter okM:=by unfold flL;rw[c2]
 have hlen:=wur (catG (nn2 n m) (gg2 g j) 2) (n+m);have hLd:mrgL g n j m=mrgF (lst g n++lst j m):=rfl;rw[c1];generalize catG (nn2 n m) (gg2 g j) 2=cc at *;generalize hF:flL cc (n+m)=Fl at *;refine⟨by omega,sm,λ_ _=>rfl,rfl,rfl,rfl,by omega,rfl,λh1 hp hs=>⟨λ_ _=>rfl,λ_ _=>rfl,rfl,rfl,rfl,by omega,rfl,λk h2 hd=>?_⟩⟩;have hp:(lst h1 Fl.length).Perm (lst (atM Fl) Fl.length):=hp;have hd:lst h2 k=ddL h1 Fl.length:=hd;rw[wdi] at hp;obtain⟨a1,a2⟩:=w32 hs;have hM:ddL h1 Fl.length=mrgL g n j m:=by
  refine wtb a1 λx=>?_;rw[a2,hp.mem_iff,hfl,List.mem_filter];unfold okM;rw[decide_eq_true_eq]
 rw[hM] at hd;show _/\_/\∃O',wac _ O'/\AV.own 0 k= .own 0 (mrgL g n j m).length/\O'=[(0,.row 47 15 (mrgL g n j m).length (waa (atM (mrgL g n j m))) false)];generalize mrgL g n j m=M at *;obtain⟨rfl,hat⟩:=wtp hd;refine⟨λ_ _=>rfl,λ_ _=>rfl,[(0,.row 47 15 M.length (waa (atM M)) false)],⟨⟨rfl,rfl,rfl,rfl,rfl,λi hi=>?_⟩,trivial⟩,rfl,rfl⟩;unfold waa;rw[hat i hi]
end Go.Eng
namespace Go.Eng
def wcy(a b:MG):Int:=orL [cmpS a.dev b.dev,cmpI a.seq b.seq]
theorem wpn:PreC wcy:=(wdq.comap MG.dev).or ((wds.comap MG.seq).or .nil)
theorem wjy{a b:MG}:wcy a b=0↔mk2 a=mk2 b:=by
 simp only[wcy,wpb,wdc,wqu,show orL []=0 from rfl,and_true,mk2,pI7]
theorem orL_two{x y:Int}{l:List Int}(h:orL (x::y::l)<0):orL [x,y]<=0:=by
 by_cases q:x=0
 ·by_cases q':y=0
  ·simp[orL,q,q']
  ·simp only[orL,q,q',decide_true,decide_false,cond_true,cond_false] at h ⊢;omega
 ·simp only[orL,q,decide_false,cond_false] at h ⊢;omega
theorem w19{a b:MG}(h:ordM a b<0):wcy a b<=0:=orL_two h
theorem wgt{L:List MG}{i:Nat}(h:i<L.length):atM L i=L[i]:=by simp[atM,h]
theorem wfy{L:List MG}{i:Nat}(h:i<L.length):atM L i∈L:=by rw[wgt h];exact List.getElem_mem h
theorem mem_atM{L:List MG}{x:MG}(h:x∈L):∃i,i<L.length/\atM L i=x:=by
 obtain⟨i,hi,e⟩:=List.mem_iff_getElem.1 h;exact⟨i,hi,by rw[wgt hi,e]⟩
theorem wlb{c:MG->MG->Int}{L:List MG}(h:Asc c L){i j:Nat}(hij:i<j)(hj:j<L.length):c (atM L i) (atM L j)<0:=by
 rw[wgt (show i<L.length by omega),wgt hj];exact List.pairwise_iff_getElem.1 h i j (by omega) hj hij
theorem wpm{L:List MG}(h:Asc ordM L){i j:Nat}(hij:i<=j)(hj:j<L.length):wcy (atM L i) (atM L j)<=0:=by
 rcases Nat.lt_or_eq_of_le hij with q | q
 ·exact w19 (wlb h q hj)
 ·subst q;rw[wpn.self];exact Int.le_refl 0
theorem wtm{L:List MG}(h:Asc ordM L){i j k:Nat}(hij:i<=j)(hjk:j<=k)(hk:k<L.length)(e:mk2 (atM L i)=mk2 (atM L k)):mk2 (atM L j)=mk2 (atM L i):=by
 have a:=wpm h hij (by omega);have b:=wpm h hjk hk;have c:wcy (atM L k) (atM L i)<=0:=by rw[wjy.2 e.symm];exact Int.le_refl 0
 have d:=wpn.trans _ _ _ b c;have n:=wpn.neg (atM L j) (atM L i);have:wcy (atM L i) (atM L j)=0:=by omega
 exact(wjy.1 this).symm
theorem ws2(g:Nat->MG)(p:List UInt8×Int):∀n,0<numC g p n↔∃i,i<n/\mk2 (g i)=p
 |0=>by simp[numC]
 |n+1=>by
  have ih:=ws2 g p n;have nn:=(wpf g p n).1;rw[numC]
  cases q:decide ((mk2 (g n)).1=p.1) && decide ((mk2 (g n)).2=p.2) with
  |true=>
   have e:=weh.1 q;simp only[cond_true];exact⟨λ_=>⟨n,by omega,e⟩,λ_=>by omega⟩
  |false=>
   have ne:mk2 (g n)≠p:=λe=>by rw[e] at q;simp at q
   simp only[cond_false]
   constructor
   ·intro h;obtain⟨i,hi,e⟩:=ih.1 (by omega);exact⟨i,by omega,e⟩
   ·rintro⟨i,hi,e⟩;have:i≠n:=λq=>ne (q ▸ e);have:=ih.2 ⟨i,by omega,e⟩;omega
theorem why(g:Nat->MG)(p:List UInt8×Int):∀n,1<numC g p n↔∃i j,i<j/\j<n/\mk2 (g i)=p/\mk2 (g j)=p
 |0=>by simp[numC]
 |n+1=>by
  have ih:=why g p n;have ip:=ws2 g p n;rw[numC]
  cases q:decide ((mk2 (g n)).1=p.1) && decide ((mk2 (g n)).2=p.2) with
  |true=>
   have e:=weh.1 q;simp only[cond_true]
   constructor
   ·intro h;obtain⟨i,hi,e'⟩:=ip.1 (by omega);exact⟨i,n,hi,by omega,e',e⟩
   ·rintro⟨i,j,hij,hj,e1,e2⟩;have:=ip.2 ⟨i,by omega,e1⟩;omega
  |false=>
   have ne:mk2 (g n)≠p:=λe=>by rw[e] at q;simp at q
   simp only[cond_false]
   constructor
   ·intro h;obtain⟨i,j,hij,hj,e⟩:=ih.1 (by omega);exact⟨i,j,hij,by omega,e⟩
   ·rintro⟨i,j,hij,hj,e1,e2⟩;have:j≠n:=λq=>ne (q ▸ e2);have:=ih.2 ⟨i,j,hij,by omega,e1,e2⟩;omega
def wc7(a b:MG):Bool:=decide (a.dev=b.dev) && decide (a.seq=b.seq)
theorem wxh{a b:MG}:wc7 a b=true↔mk2 a=mk2 b:=by simp[wc7,mk2]
def clnB(L:List MG)(i:Nat):Bool:= !((decide (0<i) && wc7 (atM L (i - 1)) (atM L i)) || (decide (i+1<L.length) && wc7 (atM L (i+1)) (atM L i)))
def clnK(L:List MG)(k:Nat):List MG:=((List.range k).filter (clnB L)).map (atM L)
theorem wvi{L:List MG}(h:Asc ordM L){i:Nat}(hi:i<L.length):clnB L i= !decide (1<numC (atM L) (mk2 (atM L i)) L.length):=by
 have key:1<numC (atM L) (mk2 (atM L i)) L.length↔(0<i/\mk2 (atM L (i - 1))=mk2 (atM L i))∨(i+1<L.length/\mk2 (atM L (i+1))=mk2 (atM L i)):=by
  rw[why]
  constructor
  ·rintro⟨a,b,hab,hb,ea,eb⟩
   by_cases q:a<i
   ·exact .inl ⟨by omega,(wtm h (i:=a) (j:=i - 1) (k:=i) (by omega) (by omega) hi ea).trans ea⟩
   ·exact .inr ⟨by omega,wtm h (i:=i) (j:=i+1) (k:=b) (by omega) (by omega) hb eb.symm⟩
  ·rintro(⟨h0,e⟩ | ⟨h0,e⟩)
   ·exact⟨i - 1,i,by omega,hi,e,rfl⟩
   ·exact⟨i,i+1,by omega,h0,rfl,e⟩
 unfold clnB;congr 1;rw[Bool.eq_iff_iff,decide_eq_true_eq,key];simp[wxh]
theorem wvj(g:Nat->MG)(n:Nat):clnK (mrgL g n noM 0) (mrgL g n noM 0).length=wad g n:=by
 have h:Asc ordM (mrgL g n noM 0):=wh2 _;unfold wad;generalize mrgL g n noM 0=L at *;unfold clnK;have e:∀q:MG->Bool,L.filter q=((List.range L.length).map (atM L)).filter q:=λq=>by rw[show (List.range L.length).map (atM L)=L from wdi L]
 rw[e,List.filter_map];congr 1;exact List.filter_congr λi hi=>wvi h (List.mem_range.1 hi)
theorem wsg(g:Nat->MG)(n:Nat):Asc wcy (wad g n):=by
 have h:Asc ordM (mrgL g n noM 0):=wh2 _;rw[← wvj];generalize mrgL g n noM 0=L at *;unfold clnK Asc;rw[List.pairwise_map];refine(List.pairwise_lt_range.filter _).imp_of_mem ?_;intro i j hi hj hij;obtain⟨hi1,hi2⟩:=List.mem_filter.1 hi;have hj1:=List.mem_range.1 (List.mem_filter.1 hj).1;have hi1:=List.mem_range.1 hi1;have le:=wpm h (Nat.le_of_lt hij) hj1
 rcases Int.lt_or_eq_of_le le with q | q
 ·exact q
 ·have e:=wjy.1 q;rw[wvi h hi1,Bool.not_eq_true',decide_eq_false_iff_not] at hi2;exact absurd ((why _ _ _).2 ⟨i,j,hij,hj1,rfl,e.symm⟩) hi2
theorem w1w{m:MG}(h:msgF m=0):wa6 m.dev=true/\1<=m.seq/\m.seq<=1048576:=by
 unfold msgF at h
 cases h1:wa6 m.dev with
 |false=>rw[h1] at h;exact absurd (show (110:Int)=0 from h) (by decide)
 |true=>
  rw[h1] at h
  cases h2:numF m.seq with
  |false=>rw[h2] at h;exact absurd (show (111:Int)=0 from h) (by decide)
  |true=>
   unfold numF at h2;rw[bA7,decide_eq_true_eq,decide_eq_true_eq] at h2;exact⟨rfl,h2⟩
theorem wsh{g:Nat->MG}{n:Nat}{m:MG}(h:m∈wad g n):msgF m=0:=(wpk.1 (List.mem_filter.1 h).1).2
def agF(C:List MG):Nat->Bool
 |0=>true
 |k+1=>agF C k && !difF (atM C 0).v (atM C k)
theorem agF_eq(C:List MG):∀n,agF C n= !decide (fstB (λi=>difF (atM C 0).v (atM C i)) n<n)
 |0=>rfl
 |n+1=>by
  have le:=wgj (λi=>difF (atM C 0).v (atM C i)) n;rw[agF,agF_eq C n,fstB]
  by_cases h:fstB (λi=>difF (atM C 0).v (atM C i)) n<n
  ·rw[decide_eq_true h];show false= !decide (fstB (λi=>difF (atM C 0).v (atM C i)) n<n+1);rw[decide_eq_true (by omega)];rfl
  ·rw[decide_eq_false h]
   cases difF (atM C 0).v (atM C n) with
   |true=>show false= !decide (n<n+1);rw[decide_eq_true (by omega)];rfl
   |false=>show true= !decide (n+1<n+1);rw[decide_eq_false (by omega)];rfl
def betB(b m:MG):Bool:=decide (b.seq<m.seq) || (decide (b.seq=m.seq) && Op.bytesLess b.dev m.dev)
def inF(C:List MG)(m:MG)(s:MG×MG):Nat->MG×MG
 |0=>s
 |j+1=>bif namF m.d (atM C j) && betB (inF C m s j).1 m then (m,atM C j) else inF C m s j
theorem w41(m:MG):betB m m=false:=by simp[betB,wew]
theorem inF_eq(C:List MG)(m:MG)(s:MG×MG):∀n,inF C m s n=bif betB s.1 m && decide (fstB (λi=>namF m.d (atM C i)) n<n) then (m,atM C (fstB (λi=>namF m.d (atM C i)) n)) else s
 |0=>by simp[inF]
 |n+1=>by
  have ih:=inF_eq C m s n;rw[inF,ih];have le:=wgj (λi=>namF m.d (atM C i)) n
  cases b:betB s.1 m with
  |false=>simp[b]
  |true=>
   by_cases h:fstB (λi=>namF m.d (atM C i)) n<n
   ·have e:fstB (λi=>namF m.d (atM C i)) (n+1)=fstB (λi=>namF m.d (atM C i)) n:=by rw[fstB,decide_eq_true h];rfl
    rw[e,decide_eq_true h,decide_eq_true (show fstB (λi=>namF m.d (atM C i)) n<n+1 by omega)];simp[w41]
   ·have h0:fstB (λi=>namF m.d (atM C i)) n=n:=by omega
    cases hq:namF m.d (atM C n) with
    |true=>
     have e:fstB (λi=>namF m.d (atM C i)) (n+1)=n:=by rw[fstB,decide_eq_false h,hq];rfl
     rw[e,decide_eq_false h,decide_eq_true (show n<n+1 by omega)];simp[b]
    |false=>
     have e:fstB (λi=>namF m.d (atM C i)) (n+1)=n+1:=wfr h0 hq;rw[e,decide_eq_false h,decide_eq_false (show ¬ n+1<n+1 by omega)];simp
def wcu:MG:=⟨[],0,0,⟨[],[],0,0,0,0,[]⟩,⟨[],[],0,[],0⟩⟩
def decA(o p:List UInt8)(per:Int)(m:MG):Bool:=decide (m.kind=2) && (decide (m.d.o=o) && (decide (m.d.p=p) && decide (m.d.per=per)))
def bfF(o p:List UInt8)(per:Int)(C:List MG)(g:Nat->MG):Nat->MG×MG
 |0=>(wcu,wcu)
 |k+1=>bif decA o p per (g k) then inF C (g k) (bfF o p per C g k) C.length else bfF o p per C g k
def resS(o p:List UInt8)(per:Int)(R C:List MG):VT×Int:=
 bif decide (C.length=0) then (wco,0) else bif agF C C.length then ((atM C 0).v,1) else
  bif decide ((bfF o p per C (atM R) R.length).1.seq=0) then (wco,2) else ((bfF o p per C (atM R) R.length).2.v,1)
theorem decOK_A(o p:List UInt8)(per q:Int)(m:MG):wb6 o p per q m=(decA o p per m && !decide (m.seq<q)):=by
 unfold wb6 decA;simp only[Bool.and_assoc]
theorem bf_dc{o p:List UInt8}{per:Int}{C R:List MG}(hR:Asc wcy R)(hp:∀m∈R,1<=m.seq):∀k,k<=R.length->
  (bfF o p per C (atM R) k=(wcu,wcu)/\dcF o p per C (atM R) k=(wco, -1))∨
  ((∃i,i<k/\(bfF o p per C (atM R) k).1=atM R i)/\dcF o p per C (atM R) k=((bfF o p per C (atM R) k).2.v,(bfF o p per C (atM R) k).1.seq))
 |0,_=>.inl ⟨rfl,rfl⟩
 |k+1,hk=>by
  have ih:=bf_dc (o:=o) (p:=p) (per:=per) (C:=C) hR hp k (by omega);have pos:=hp _ (wfy (L:=R) (i:=k) (by omega));have hb:betB (bfF o p per C (atM R) k).1 (atM R k)= !decide ((atM R k).seq<(dcF o p per C (atM R) k).2):=by
   rcases ih with⟨e1,e2⟩ | ⟨⟨i,hi,e1⟩,e2⟩
   ·rw[e1,e2];unfold betB;rw[decide_eq_true (show (wcu,wcu).1.seq<(atM R k).seq by show (0:Int)<_;omega),decide_eq_false (show ¬ (atM R k).seq<(wco,(-1:Int)).2 by show ¬ _<(-1:Int);omega)];rfl
   ·rw[e2];show _= !decide ((atM R k).seq<(bfF o p per C (atM R) k).1.seq);rw[e1];have hlt:=wlb hR hi (by omega);unfold betB
    rcases wdr (atM R i).seq (atM R k).seq with⟨a,_⟩ | ⟨a,a'⟩ | ⟨a,_⟩
    ·rw[decide_eq_true a,decide_eq_false (show ¬ (atM R k).seq<(atM R i).seq by omega)];rfl
    ·have hd:cmpS (atM R i).dev (atM R k).dev<0:=by
      unfold wcy at hlt
      by_cases z:cmpS (atM R i).dev (atM R k).dev=0
      ·simp[orL,z,a'] at hlt
      ·simp only[orL,z,decide_false,cond_false] at hlt;exact hlt
     rw[wil.1 hd,a,decide_eq_false (Int.lt_irrefl _),decide_eq_true rfl];rfl
    ·rw[decide_eq_false (show ¬ (atM R i).seq<(atM R k).seq by omega),decide_eq_false (show ¬ (atM R i).seq=(atM R k).seq by omega),decide_eq_true (show (atM R k).seq<(atM R i).seq by omega)];rfl
  rw[bfF,dcF,decOK_A, ← hb,inF_eq]
  cases decA o p per (atM R k) with
  |false=>
   rcases ih with h | ⟨⟨i,hi,e1⟩,e2⟩
   ·exact .inl h
   ·exact .inr ⟨⟨i,by omega,e1⟩,e2⟩
  |true=>
   simp only[Bool.true_and,cond_true]
   cases hq:betB (bfF o p per C (atM R) k).1 (atM R k) && decide (fstB (λi=>namF (atM R k).d (atM C i)) C.length<C.length) with
   |false=>
    rcases ih with h | ⟨⟨i,hi,e1⟩,e2⟩
    ·exact .inl h
    ·exact .inr ⟨⟨i,by omega,e1⟩,e2⟩
   |true=>exact .inr ⟨⟨k,by omega,rfl⟩,rfl⟩
theorem resS_eq{o p:List UInt8}{per:Int}{C R:List MG}(hR:Asc wcy R)(hp:∀m∈R,1<=m.seq):resS o p per R C=resR o p per R C:=by
 unfold resS resR
 cases decide (C.length=0) with
 |true=>rfl
 |false=>
  simp only[cond_false];have e:agF C C.length= !decide (0<=ixB (λi=>difF (atM C 0).v (atM C i)) C.length):=by
   rw[agF_eq];unfold ixB
   by_cases h:fstB (λi=>difF (atM C 0).v (atM C i)) C.length<C.length
   ·rw[decide_eq_true h];rfl
   ·rw[decide_eq_false h];rfl
  rw[e]
  cases decide (0<=ixB (λi=>difF (atM C 0).v (atM C i)) C.length) with
  |false=>rfl
  |true=>
   simp only[Bool.not_true,cond_false,cond_true]
   rcases bf_dc (o:=o) (p:=p) (per:=per) (C:=C) hR hp R.length (lR7 _) with⟨e1,e2⟩ | ⟨⟨i,hi,e1⟩,e2⟩
   ·rw[e1,e2];rfl
   ·have pos:=hp _ (wfy hi);rw[e2,e1];show (bif decide ((atM R i).seq=0) then _ else _)=(bif decide ((atM R i).seq<0) then _ else _)
    rw[decide_eq_false (by omega),decide_eq_false (by omega)]
theorem insM_at{L:List MG}(h:Asc ordM L){m:MG}{a:Nat}(ha:a<=L.length)(h1:∀i,a<=i->i<L.length->ordM m (atM L i)<0)(h2:a=0∨¬ ordM m (atM L (a - 1))<0):
  insM L m=bif decide (0<a) && eqM (atM L (a - 1)) m then L else L.take a++m::L.drop a:=by
 have hasc:=wp9 m h
 by_cases q:0<a/\atM L (a - 1)=m
 ·rw[decide_eq_true q.1,wkr.2 q.2];refine Asc.uniq wcx hasc h λx=>wia.trans ⟨?_,.inr⟩;rintro(rfl | hx)
  ·have:=wfy (L:=L) (i:=a - 1) (by omega);rw[q.2] at this;exact this
  ·exact hx
 ·have e:(decide (0<a) && eqM (atM L (a - 1)) m)=false:=by
   by_cases z:0<a
   ·cases z2:eqM (atM L (a - 1)) m with
    |false=>exact Bool.and_false _
    |true=>exact absurd ⟨z,wkr.1 z2⟩ q
   ·rw[decide_eq_false z];rfl
  rw[e];refine Asc.uniq wcx hasc (Asc.insert (by rw[List.take_append_drop];exact h) (λy hy=>?_) (λy hy=>?_)) λx=>wia.trans ?_
  ·obtain⟨i,hi,rfl⟩:=List.mem_iff_getElem.1 hy;rw[List.length_take] at hi;rw[List.getElem_take, ← wgt (show i<L.length by omega)];have b:¬ ordM m (atM L (a - 1))<0:=h2.resolve_left (by omega);have ne:ordM m (atM L (a - 1))≠0:=λz=>q ⟨by omega,(wjj.1 z).symm⟩;have n:=wcx.neg m (atM L (a - 1));have n':=wcx.neg (atM L (a - 1)) m;have lt:ordM (atM L (a - 1)) m<0:=by omega
   by_cases z:i=a - 1
   ·rw[z];exact lt
   ·exact wcx.lt_trans (wlb h (show i<a - 1 by omega) (by omega)) lt
  ·obtain⟨i,hi,rfl⟩:=List.mem_iff_getElem.1 hy;rw[List.length_drop] at hi;rw[List.getElem_drop, ← wgt (show a+i<L.length by omega)];exact h1 _ (by omega) (by omega)
  ·show x=m∨x∈L↔x∈L.take a++m::L.drop a;rw[List.mem_append,List.mem_cons];have:x∈L↔x∈L.take a∨x∈L.drop a:=by rw[← List.mem_append,List.take_append_drop]
   rw[this];grind
theorem lst_atL(L:List MG):lst (atM L) L.length++lst noM 0=L:=by rw[wdi];simp[lst]
def t30(nm:Nat->List UInt8)(i:Nat):List UInt8:=(nm i).take 30
theorem wi3(s:List UInt8)(k:Int):s.take (Int.toNat (min (s.length:Int) k))=s.take k.toNat:=by
 rcases Int.le_total (s.length:Int) k with h | h
 ·rw[Int.min_eq_left h,tN7,List.take_length,List.take_of_length_le (by omega)]
 ·rw[Int.min_eq_right h]
def wdn(n k:Int):Int:=n % 18446744073709551616 % k
def wmz:Spec
 |[.int .i64 n,.int .i64 k],[]=>some (.q (wdn n k),[],1<=k/\k<=1000000)
 |_,_=>none
def wa9(n:Nat)(v:Nat->Int)(a k:Int):Int:=wdn (bif decide (a<n) then v a.toNat else 0) k
def wmb:Spec
 |[.ptr 0 0,.int .i64 k],[.cells [.view sz n f,.int .i64 a] t]=>some (.q (wa9 n (vInt f) a k),[(0,.cells [.view 1 n f,.q (a+1)] 26)],t=26/\sz=1/\f=waj (vInt f)/\(1<=k/\k<=1000000)/\(0<=a/\a<=4611686018427387904))
 |_,_=>none
def pw(V j:Nat):Nat:=V / 10 ^ j
def dgI(V k:Nat):Int:=48+((V / 10 ^ (6 - k) % 10:Nat):Int)
def wcr(V:Nat)(k:Nat):List AV:=[.int .u8 (dgI V k)]
def idV(n:Int):Nat:=1000000+(wdn n 1000000).toNat
def id7(n:Int):List UInt8:=wbc 7 (wcr (idV n))
def idF(n:Int):List UInt8:=id7 n++[UInt8.ofNat (48+(cdF (id7 n)).1).toNat]
def S_id:Spec
 |[.int .i64 n],[]=>some (.str (idF n),[],True)
 |_,_=>none
def wmx(V:Nat)(j:Nat):St:=⟨[(3,.q (pw V j:Nat)),(4,.own 0 7),(5,.q (6 - (j:Int)))],[(0,.row 5 1 7 (λk=>[.int .u8 (bif decide (7<=k+j) then dgI V k else 0)]) false)],1,[]⟩
def L_id(V:Nat):wan:=λst Q=>canonIs te 0 [3,4,5] st (wmx V 0)/\V<2000000/\
 Q (.exit 0) ⟨[(4,.own 0 7)],[(0,.row 5 1 7 (wcr V) false)],1,[]⟩
theorem wif{k:Int}(h:1<=k)(n:Int):0<=wdn n k/\wdn n k<k:=by
 unfold wdn;exact⟨Int.emod_nonneg _ (by omega),Int.emod_lt_of_pos _ (by omega)⟩
theorem whz{k:Int}(h:1<=k)(n:Nat)(v:Nat->Int)(a:Int):0<=wa9 n v a k/\wa9 n v a k<k:=wif h _
theorem w4k(s:List UInt8):0<=(cdF s).1/\(cdF s).1<=9:=by
 unfold cdF;split
 ·show 0<=(10 - wa1 s s.length % 10) % 10/\(10 - wa1 s s.length % 10) % 10<=9;omega
 ·exact⟨by decide,by decide⟩
theorem id7_len(n:Int):(id7 n).length=7:=by simp[id7,wbc]
def wgw:Spec
 |[.str o,.str p,.int .i64 per],[]=>some (.bool (wcb o p per),[],o.length<9223372036854775808)
 |_,_=>none
def wl4:Spec
 |[.int .i64 p],[]=>some (.bool (decide (0<=p) && decide (p<=5999)),[],True)
 |_,_=>none
def wm2:Spec
 |[.agg [.str o,.str p,.int .i64 per,.str dev,.int .i64 num]],[]=>some (.bool (wcb o p per && (wa6 dev && numF num)),[],o.length<9223372036854775808/\dev.length<9223372036854775808)
 |_,_=>none
def wln:Spec
 |[.str a,.str b],[]=>some (.q (cmpS a b),[],True)
 |_,_=>none
def wl8:Spec
 |[.int .i64 a,.int .i64 b],[]=>some (.q (cmpI a b),[],True)
 |_,_=>none
def wg1:Spec
 |[.agg [.str dev,.int .i64 seq,.int .i64 _,.str _,.str _,.int .i64 _,.int .i64 _,.int .i64 _,.int .i64 _,.str _,.str _,.str _,.int .i64 _,.str _,.int .i64 _],.agg [.str dev2,.int .i64 seq2,.int .i64 _,.str _,.str _,.int .i64 _,.int .i64 _,.int .i64 _,.int .i64 _,.str _,.str _,.str _,.int .i64 _,.str _,.int .i64 _]],[]=>
   some (.bool (decide (dev=dev2) && decide (seq=seq2)),[],True)
 |_,_=>none
def whf:Spec
 |[.agg [.str o,.str p,.int .i64 per,.int .i64 _,.int .i64 _,.int .i64 _,.str _],.str o',.str p',.int .i64 per'],[]=>some (.bool (decide (o=o') && (decide (p=p') && decide (per=per'))),[],True)
 |_,_=>none
def MG.put(g:Nat->MG)(k:Nat)(r:MG)(i:Nat):MG:=if i<k then g i else r
structure RM (f:Nat->List AV) (n:Nat):Prop where
 eq:∀i,i<n->f i=waa (mgOf f) i
 sm:∀i,i<n->(mgOf f i).Sm
def S_mrgV:Spec
 |[.view 15 n f,.view 15 m h],[]=>some (.view 15 (mrgL (mgOf f) n (mgOf h) m).length (waa (atM (mrgL (mgOf f) n (mgOf h) m))),[],
   n<=100000/\m<=100000/\f=waa (mgOf f)/\h=waa (mgOf h)/\(∀i,i<n->(mgOf f i).Sm)/\∀i,i<m->(mgOf h i).Sm)
 |_,_=>none
def dnM(L:List MG)(m:MG):Nat->Nat
 |0=>0
 |a+1=>bif decide (ordM m (atM L a)<0) then dnM L m a else a+1
def catM(g:Nat->MG)(n:Nat)(h:Nat->MG)(i:Nat):MG:=if i<n then g i else h (i - n)
def mfL(c:Nat->MG)(k:Nat):List MG:=mrgF (lst c k)
def S_rm(c:Nat->MG)(N k:Nat):St:=⟨[(5,.own 0 (mfL c k).length),(14,.own 1 N),(15,.q N),(16,.q k)],[(0,.row 47 15 (mfL c k).length (waa (atM (mfL c k))) false),(1,.row 47 15 N (waa c) false)],2,[]⟩
def L_rm(c:Nat->MG)(N:Nat):wan:=λst Q=>canonIs te 0 [5,14,15,16] (ownNil 5 47 15 st) (S_rm c N 0)/\N<=200000/\(∀i,i<N->(c i).Sm)/\
 Q (.exit 0) ⟨[(5,.own 0 (mfL c N).length)],[(0,.row 47 15 (mfL c N).length (waa (atM (mfL c N))) false)],1,[]⟩
def wis(L:List MG)(m:MG)(c:Nat->MG)(N k a:Nat):St:=⟨[(5,.own 0 L.length),(7,.ptr 1 0),(8,.q a),(14,.own 2 N),(15,.q N),(16,.q k)],
 [(0,.row 47 15 L.length (waa (atM L)) false),(1,.cells [.str m.dev,.q m.seq,.q m.kind,.str m.v.o,.str m.v.p,.q m.v.per,.q m.v.day,.q m.v.st,.q m.v.pr,.str m.v.rep,.str m.d.o,.str m.d.p,.q m.d.per,.str m.d.dev,.q m.d.num] 47),(2,.row 47 15 N (waa c) false)],3,[]⟩
def wn1(L:List MG)(m:MG)(c:Nat->MG)(N k:Nat):wan:=λst Q=>canonIs te 0 [5,7,8,14,15,16] st (wis L m c N k L.length)/\L.length<=200000/\
 Q (.exit 2) (wis L m c N k (dnM L m L.length))
def wmd:Spec
 |[.view 15 n f,.nil],[]=>some (.view 15 (mrgL (mgOf f) n noM 0).length (waa (atM (mrgL (mgOf f) n noM 0))),[],n<=100000/\f=waa (mgOf f)/\∀i,i<n->(mgOf f i).Sm)
 |_,_=>none
def wcc(g:Nat->List UInt8×Int)(i:Nat):List AV:=[.str (g i).1,.q (g i).2]
def atK(L:List (List UInt8×Int))(i:Nat):List UInt8×Int:=L.getD i ([],0)
def smK(x y:List UInt8×Int):Bool:=decide (x.1=y.1) && decide (x.2=y.2)
theorem smK_iff{x y:List UInt8×Int}:smK x y=true↔x=y:=by
 obtain⟨a,b⟩:=x;obtain⟨c,d⟩:=y;simp[smK]
def clnP(M:List MG):Nat->List (List UInt8×Int)
 |0=>[]
 |k+1=>bif decide (1<numC (atM M) (mk2 (atM M k)) M.length) && (decide ((clnP M k).length=0) || !smK (atK (clnP M k) ((clnP M k).length - 1)) (mk2 (atM M k))) then clnP M k++[mk2 (atM M k)] else clnP M k
theorem wvt{L:List (List UInt8×Int)}{i:Nat}(h:i<L.length):atK L i∈L:=by
 unfold atK;simp only[List.getD_eq_getElem?_getD,List.getElem?_eq_getElem h,Option.getD_some];exact List.getElem_mem h
theorem w45(L:List (List UInt8×Int))(x:List UInt8×Int):atK (L++[x]) ((L++[x]).length - 1)=x:=by
 unfold atK;simp
theorem w4e{M:List MG}{k:Nat}(h:1<numC (atM M) (mk2 (atM M k)) M.length):0<(clnP M (k+1)).length/\atK (clnP M (k+1)) ((clnP M (k+1)).length - 1)=mk2 (atM M k):=by
 rw[clnP,decide_eq_true h,Bool.true_and]
 cases q:decide ((clnP M k).length=0) || !smK (atK (clnP M k) ((clnP M k).length - 1)) (mk2 (atM M k)) with
 |true=>exact⟨by simp,w45 _ _⟩
 |false=>
  rw[Bool.or_eq_false_iff,decide_eq_false_iff_not,Bool.not_eq_false'] at q;exact⟨by simp only[cond_false];omega,smK_iff.1 q.2⟩
def S_cl(M:List MG)(k:Nat):St:=⟨[(3,.view 15 M.length (waa (atM M))),(4,.own 0 (clnK M k).length),(9,.q M.length),(10,.q k)],[(0,.row 47 15 (clnK M k).length (waa (atM (clnK M k))) false)],1,[]⟩
def L_cl(M:List MG):wan:=λst Q=>canonIs te 0 [3,4,9,10] (ownNil 4 47 15 st) (S_cl M 0)/\M.length<=100000/\
 Q (.exit 0) ⟨[(4,.own 0 (clnK M M.length).length)],[(0,.row 47 15 (clnK M M.length).length (waa (atM (clnK M M.length))) false)],1,[]⟩
def wc1(g:Nat->MG)(n:Nat)(o p:List UInt8)(per:Int):List MG:=canL o p per (atM (wad g n)) (wad g n).length
def wm8:Spec
 |[.view 15 n f,.str o,.str p,.int .i64 per],[]=>some (.view 15 (wc1 (mgOf f) n o p per).length (waa (atM (wc1 (mgOf f) n o p per))),[],n<=100000/\f=waa (mgOf f)/\∀i,i<n->(mgOf f i).Sm)
 |_,_=>none
def wb7(g:Nat->MG)(n:Nat):List (List UInt8×Int):=clnP (mrgL g n noM 0) (mrgL g n noM 0).length
theorem wk2(M:List MG):∀k,(clnP M k).length<=k
 |0=>lR7 _
 |k+1=>by
  have ih:=wk2 M k;rw[clnP]
  cases decide (1<numC (atM M) (mk2 (atM M k)) M.length) && (decide ((clnP M k).length=0) || !smK (atK (clnP M k) ((clnP M k).length - 1)) (mk2 (atM M k))) with
  |true=>rw[cond_true,lA7];show _+1<=_;omega
  |false=>rw[cond_false];omega
end Go.Eng
