/- The tape: what its methods answer. -/
import Derived.Test.YtmcdngcjakjnmaaGreatDoorJvs
import Derived.Test.YtmcdngcjakjnmaaGreatDoorJvr
namespace Go.Eng
open Go.Proofs
set_option maxRecDepth 20000
theorem w2o(s:List UInt8)(a b:Int)(R:oR7):wpFn te [(164,.det weo)] [] 0 Tryz.f157 [.str s,.q a,.q b] [] R=(letI z0:=((s.length<=9223372036854775807/\2<=10/\10<4294967281/\∀(b:UInt8),b∈[(48:UInt8),49,50,51,52,53,54,55,56,57]->UInt8.toNat b<128)/\R (.bool (decide (wer ([(48:UInt8),49,50,51,52,53,54,55,56,57]) s=[]))) []:Prop);wab (decide ((s.length:Int)=a)) z0 (wab (decide ((s.length:Int)=b)) z0 (R (.bool false) []))):=by kernel_rfl
theorem w23(s:List UInt8)(R:oR7):wpFn te [(157,.det why)] [(5,wpo s)] 0 Tryz.f158 [.str s] [] R=(((7:Int)<=100/\(12:Int)<=100)/\wab (!wbf s (7:Int) (12:Int)) (R (.tuple [.q 0,.bool false]) []) (some (St.mk [(0,.str s),(4,.q 0),(11,.q (s.length:Int)),(12,.q 0)] [] 0 [])=some (St.mk [(0,.str s),(4,.q (wa5 s 0)),(11,.q (s.length:Int)),(12,.q (↑0:Int))] [] 0 [])/\s.length<=12/\List.all s wbc=true/\(10:Int)≠(0:Int)/\inR .i64 ((10:Int) - Int.tmod (wa5 s s.length) (10:Int))/\(10:Int)≠(0:Int)/\R (.tuple [.q (Int.tmod ((10:Int) - Int.tmod (wa5 s s.length) (10:Int)) (10:Int)),.bool true]) [])):=by kernel_rfl
theorem w22(s:List UInt8)(k:Nat)(P:Nat->Prop)(R:eR7):wat ⟨te,[],[],0,36,0⟩ (wav Tryz.f158 5) [0,4,11,12] [4] [] (S_cd s) P R (S_cd s k)=(letI z1:=(s.length:Int);letI z3:=(z1 - (k:Int));letI z0:=(↑(UInt8.toNat (List.getD s (k:Int).toNat (0:UInt8))):Int);letI z2:=(wa5 s k+((1:Int)+2 * Int.tmod z3 (2:Int)) * ((z0 - (48:Int)) % (256:Int)));wab (decide ((k:Int)<z1)) (inR .i64 z3/\(2:Int)≠(0:Int)/\inR .i64 ((2:Int) * Int.tmod z3 (2:Int))/\inR .i64 ((1:Int)+2 * Int.tmod z3 (2:Int))/\((0:Int)<=(k:Int)/\(k:Int)<z1)/\inR .i64 ((z0 - (48:Int)) % (256:Int))/\inR .i64 (((1:Int)+2 * Int.tmod z3 (2:Int)) * ((z0 - (48:Int)) % (256:Int)))/\inR .i64 z2/\inR .i64 ((k:Int)+1)/\∃(i':Nat),some (St.mk [(0,.str s),(4,.q z2),(11,.q z1),(12,.q ((k:Int)+1))] [] 0 [])=some (St.mk [(0,.str s),(4,.q (wa5 s i')),(11,.q z1),(12,.q (i':Int))] [] 0 [])/\P i') (R (.exit 0) (St.mk [(4,.q (wa5 s k))] [] 0 []))):=by kernel_rfl
theorem w0b(s:List UInt8)(R:oR7):wpFn te [(157,.det why),(158,.det web)] [] 0 Tryz.f139 [.str s] [] R=(letI z0:=(s.length:Int);letI z1:=(↑(UInt8.toNat (List.getD s (z0 - (1:Int)).toNat (0:UInt8))):Int);((8:Int)<=100/\(13:Int)<=100)/\wab (!wbf s (8:Int) (13:Int)) (R (.bool false) []) (inR .i64 (z0 - (1:Int))/\((0:Int)<=z0 - (1:Int)/\z0 - (1:Int)<=z0)/\True/\((0:Int)<=z0 - (1:Int)/\z0 - (1:Int)<z0)/\inR .i64 ((z1 - (48:Int)) % (256:Int))/\R (.bool (decide ((cdF (List.take (z0 - (1:Int)).toNat s)).1=(z1 - (48:Int)) % (256:Int)))) [])):=by kernel_rfl
variable {C:Ctx} [C.Loose]
theorem wwp(hP:C.P=Tryz.prog)(htrim:wad C 164 weo):wad C 157 why:=by
 have _:C.Loose:=inferInstance;rintro args objs U Os vc h hvc;unfold why at h;split at h<;>cases h;rename_i s a b;refine wad.wp0 (prg hP) [(164,.det weo)] 0 (.cons htrim .nil) (hP ▸ Tryz.func157) rfl rfl rfl ?_;rw[w2o];have hm:(9223372036854775807:Nat)=maxLen:=rfl;have hlt:∀b∈([48,49,50,51,52,53,54,55,56,57]:List UInt8),UInt8.toNat b<128:=by decide
 refine wan (λh=>?_) (λh=>wan (λh'=>?_) (λh'=>?_))
 ·have h2:=of_decide_eq_true h;refine⟨⟨by omega,by omega,by omega,hlt⟩,?_,rfl⟩;simp only[wbf,h,Bool.true_or,Bool.true_and,wsv]
 ·have h2:=of_decide_eq_true h';refine⟨⟨by omega,by omega,by omega,hlt⟩,?_,rfl⟩;simp only[wbf,h',Bool.or_true,Bool.true_and,wsv]
 ·simp[wbf,h,h']
theorem wl0{s:List UInt8}(h:s.all wbc=true):∀k,k<=s.length->0<=wa5 s k/\wa5 s k<=27 * k
 |0,_=>by simp[wa5]
 |k+1,hk=>by
  have ih:=wl0 h k (by omega);have hd:=wk3 h k (by omega);simp only[wa5]
  rcases Int.emod_two_eq (↑s.length - ↑k) with e | e<;>rw[e]<;>omega
theorem w6k(hP:C.P=Tryz.prog)(s:List UInt8):wah C 0 36 (wai Tryz.f158 5) (wpo s):=by
 have _:C.Loose:=inferInstance;rintro st Q ⟨h0,hlen,hall,hQ⟩;refine wah.mk (prg hP) [] 0 .nil [0,4,11,12] [4] [] (S_cd s) (λk=>k<=s.length) (λk=>s.length - k) 0 (zL7 _) h0 λk hk=>?_;rw[w22];have hb:=wl0 hall k hk;refine wan (λh=>?_) (λh=>?_)
 ·have h:=of_decide_eq_true h;have hd:=wk3 hall k (by omega);have e:Int.tmod (↑s.length - ↑k) 2=(↑s.length - ↑k) % 2:=Int.tmod_eq_emod_of_nonneg (by omega);have e3:((s.getD k 0).toNat - 48:Int) % 256=(s.getD k 0).toNat - 48:=by omega
  simp only[inR,e,tN7,e3];have hs:wa5 s (k+1)=wa5 s k+(1+2 * ((↑s.length - ↑k) % 2)) * (↑(s.getD k 0).toNat - 48):=rfl
  rcases Int.emod_two_eq (↑s.length - ↑k) with e | e<;>rw[e] at hs ⊢ <;>and_intros<;>first
   |omega
   |exact⟨k+1,by rw[hs];rfl,by omega,by omega⟩
 ·have h:=of_decide_eq_false h;have hk:k=s.length:=by omega
  rw[hk];exact hQ
theorem w6j(hP:C.P=Tryz.prog)(htrim:wad C 164 weo):wad C 158 web:=by
 rintro args objs U Os vc h hvc;unfold web at h;split at h<;>cases h;rename_i s;refine wad.wpL (prg hP) [(157,.det why)] [(5,wpo s)] 0 (.cons (wwp hP htrim) .nil) (hP ▸ Tryz.func158) rfl rfl rfl [(wai Tryz.f158 5,wpo s)] (by kernel_rfl) ⟨w6k hP s,trivial⟩ ?_;rw[w23];refine⟨by omega,wan (λh=>?_) (λh=>?_)⟩
 ·have h:wbf s 7 12=false:=by simpa using h
  simp[cdF,h]
 ·have h:wbf s 7 12=true:=by simpa using h
  have h':=h;simp only[wbf,bA7,Bool.or_eq_true,decide_eq_true_eq] at h';have hb:=wl0 h'.2 s.length (lR7 _);have e:Int.tmod (wa5 s s.length) 10=wa5 s s.length % 10:=Int.tmod_eq_emod_of_nonneg (by omega);rw[e,Int.tmod_eq_emod_of_nonneg (by omega)];refine⟨rfl,by omega,h'.2,by omega,by simp only[inR];omega,by omega,?_,rfl⟩;simp[cdF,h]
theorem wpx(hP:C.P=Tryz.prog)(htrim:wad C 164 weo):wad C 139 wct:=by
 rintro args objs U Os vc h hvc;unfold wct at h;split at h<;>cases h;rename_i s;refine wad.wp0 (prg hP) [(157,.det why),(158,.det web)] 0 (.cons (wwp hP htrim) (.cons (w6j hP htrim) .nil)) (hP ▸ Tryz.func139) rfl rfl rfl ?_;rw[w0b];refine⟨by omega,wan (λh=>?_) (λh=>?_)⟩
 ·have h:wbf s 8 13=false:=by simpa using h
  simp[wba,h]
 ·have h:wbf s 8 13=true:=by simpa using h
  have h':=h;simp only[wbf,bA7,Bool.or_eq_true,decide_eq_true_eq] at h';have e:(↑s.length - 1:Int).toNat=s.length - 1:=by omega
  have hd:=wk3 h'.2 (s.length - 1) (by omega);rw[e];have e2:((s.getD (s.length - 1) 0).toNat - 48:Int) % 256=(s.getD (s.length - 1) 0).toNat - 48:=by omega
  simp only[inR,e2];refine⟨by omega,by omega,trivial,by omega,by omega,?_,trivial⟩;simp[wba,h]
end Go.Eng
namespace Go.Eng
open Go.Proofs Go.RowKit
variable {C:Ctx} [C.Loose]
set_option maxRecDepth 20000
theorem nf_valw(id code brand:List UInt8)(d c a:Int)(n:Nat)(nm vl:Nat->List UInt8)(R:oR7):wpFn te [(139,.det wct),(153,.det wnd),(154,.det wht),(155,.det wmw)] [(13,L_vw n nm vl)] 2 Tryz.f137 [.agg [.str id,.str code,.str brand,.q d,.q c,.q a,.view 2 n (wfb nm vl)]] [] R=(True/\wab (!wba id) (R (.q 90) []) (code.length<4294967281/\wab (decide (wfy code<1)) (R (.q 91) []) (True/\wab (!wa3 brand) (R (.q 92) []) (True/\wab (!decide (qtyF d c a=0)) (R (.q 93) []) (wab (decide ((12:Int)<(n:Int))) (R (.q 94) []) (some (St.mk [(3,.map 0),(33,.view 2 n (wfb nm vl)),(34,.q (n:Int)),(35,.q 0)] [(0,.amap (List.map (λ(p:AV×AV)=>(AV.rn (ren 0 [(65,0)]) p.1,AV.rn (ren 0 [(65,0)]) p.2)) []))] 1 [])=some (St.mk [(3,.map 0),(33,.view 2 n (wfb nm vl)),(34,.q (n:Int)),(35,.q (↑0:Int))] [(0,.amap (wbo nm 0))] 1 [])/\n<=12/\(∀(i:Nat),i<n->(nm i).length<4294967281/\(vl i).length<4294967281)/\wab (wd6 nm vl n) (R (.q 0) []) (R (.q 94) []))))))):=by kernel_rfl
theorem wz7(n:Nat)(nm vl:Nat->List UInt8)(k:Nat)(P:Nat->Prop)(R:eR7):wat ⟨te,[(154,.det wht)],[],0,59,0⟩ (wav Tryz.f137 13) [3,33,34,35] [] [2] (S_vw n nm vl) P R (S_vw n nm vl k)=(letI z3:=(k:Int).toNat;letI z2:=TI.desc (TI.mk TypeDesc.string 1 16 (Value.string (ByteArray.mk #[])) false);letI z1:=R .ret (St.mk [(2,.q 94)] [] 0 []);letI z0:=(mget (wbo nm k) (.str (nm z3)));letI z4:=wcs (Option.getD z0 (zvA (.bool false)));wab (decide ((k:Int)<(n:Int))) (((0:Int)<=(k:Int)/\(k:Int)<(n:Int)/\2=2)/\True/\wab (!wa3 (nm z3)) z1 (True/\wab (!wa3 (vl z3)) z1 ((wjj z2 (wbo nm k)/\.bool z4=Option.getD z0 (zvA (.bool false)))/\wab z4 z1 (wjj z2 (wbo nm k)/\inR .i64 ((k:Int)+1)/\∃(i':Nat),some (St.mk [(3,.map 0),(33,.view 2 n (wfb nm vl)),(34,.q (n:Int)),(35,.q ((k:Int)+1))] [(0,.amap (List.map (λ(p:AV×AV)=>(AV.rn (ren 0 [(0,0)]) p.1,AV.rn (ren 0 [(0,0)]) p.2)) (mset (wbo nm k) (.str (nm z3)) (.bool true))))] 1 [])=some (St.mk [(3,.map 0),(33,.view 2 n (wfb nm vl)),(34,.q (n:Int)),(35,.q (i':Int))] [(0,.amap (wbo nm i'))] 1 [])/\P i')))) (R (.exit 1) (St.mk [] [] 0 []))):=by kernel_rfl
theorem wx0(hP:C.P=Tryz.prog)(n:Nat)(nm vl:Nat->List UInt8):wah C 0 59 (wai Tryz.f137 13) (L_vw n nm vl):=by
 rintro st Q ⟨h0,hn,hs,hQ⟩;have hR:=wbq hQ;refine wah.mk (prg hP) [(154,.det wht)] 0 (.cons (wum hP) .nil) [3,33,34,35] [] [2] (S_vw n nm vl) (λk=>k<=n/\wd6 nm vl k=true) (λk=>n - k) 0 ⟨by omega,rfl⟩ h0 (λk hk=>?_);obtain⟨hkn,hok⟩:=hk;rw[wz7];have hbad:∀m,k<=m->k<m->atOK nm vl k=false->wd6 nm vl m=false:=by
  intro m
  induction m with
  |zero=>intro _ h;omega
  |succ m ih=>
   intro _ h2 h3;rw[wd6]
   by_cases hkm:k=m
   ·subst hkm;rw[h3,Bool.and_false]
   ·rw[ih (by omega) (by omega) h3,Bool.false_and]
 rw[tN7];refine wag (λh1=>?_) (λh1=>?_)
 ·have hlt:k<n:=by omega
  have hfail:atOK nm vl k=false->Q .ret (St.mk [(2,.q 94)] [] 0 []):=λh=>hR.2 (hbad n hkn hlt h);have hk:=wtc nm vl k hok;rw[wut];refine⟨⟨by omega,by omega,rfl⟩,trivial,wcb (λh2=>hfail (by unfold atOK;rw[h2];rfl)) (λh2=>⟨trivial,wcb (λh3=>hfail (by unfold atOK;rw[h3,Bool.and_false];rfl)) (λh3=>⟨⟨hk,?_⟩,?_⟩)⟩)⟩
  ·cases (List.range k).any (λi=>decide (nm i=nm k))<;>rfl
  ·cases ha:(List.range k).any (λi=>decide (nm i=nm k)) with
   |true=>exact hfail (by unfold atOK;rw[wle,ha];simp)
   |false=>
    have hat:atOK nm vl k=true:=by unfold atOK;rw[h2,h3,wle,ha];rfl
    refine⟨hk,by simp only[inR];omega,k+1,?_,⟨by omega,by rw[wd6,hok,hat];rfl⟩,by omega⟩;rw[w3q nm _ _ k ha,show wbo nm k++[(.str (nm k),AV.bool true)]=wbo nm (k+1) from rfl,wtb];rfl
 ·have:k=n:=by omega
  subst this;exact hR.1 hok
theorem valV_ok(hP:C.P=Tryz.prog)(hL:∀w,C.laid w->LaidW w):wad C 137 S_valV:=by
 rintro args objs U Os vc h hvc;unfold S_valV at h;split at h<;>cases h;rename_i id code brand d c a n f;obtain⟨hn,h1,h2,hs,hf⟩:=hvc;rw[hf];rw[← hf];generalize nmOf f=nm at *;generalize vlOf f=vl at *;rw[hf];unfold valF;refine wad.wpL (prg hP) [(139,.det wct),(153,.det wnd),(154,.det wht),(155,.det wmw)] [(13,L_vw n nm vl)] 2 (.cons (wpx hP (wjs hP)) (.cons (w4c hP hL) (.cons (wum hP) (.cons (qty_ok hP) .nil)))) (hP ▸ Tryz.func137) rfl rfl rfl [(wai Tryz.f137 13,L_vw n nm vl)] (by kernel_rfl) ⟨wx0 hP n nm vl,trivial⟩ ?_;rw[nf_valw,w4d];refine⟨trivial,wcb (λq1=>?_) (λq1=>⟨h1,wcb (λq2=>?_) (λq2=>⟨trivial,wcb (λq3=>?_) (λq3=>⟨trivial,wax (λq4=>?_) (λq4=>wag (λq5=>?_) (λq5=>⟨rfl,by omega,hs,wan (λq6=>?_) (λq6=>?_)⟩))⟩)⟩)⟩)⟩
 ·rw[q1];exact⟨rfl,rfl⟩
 ·rw[q1,q2];exact⟨rfl,rfl⟩
 ·rw[q1,q2,q3];exact⟨rfl,rfl⟩
 ·rw[q1,q2,q3,decide_eq_false q4];exact⟨rfl,rfl⟩
 ·rw[q1,q2,q3,decide_eq_true q4,decide_eq_true (show 12<n by omega)];exact⟨rfl,rfl⟩
 ·rw[q1,q2,q3,decide_eq_true q4,decide_eq_false (show ¬ 12<n by omega),q6];exact⟨rfl,rfl⟩
 ·rw[q1,q2,q3,decide_eq_true q4,decide_eq_false (show ¬ 12<n by omega),q6];exact⟨rfl,rfl⟩
theorem w2w(s:List UInt8)(R:oR7):wpFn te [(137,.det wme)] [] 0 Tryz.f117 [.str s] [] R=((2<4294967281/\s.length<9223372036854775808)/\R (.bool (decide ((valF [(48:UInt8),48,48,48,48,48,48,48] [(48:UInt8),49] s (4:Int) (1:Int) (1:Int) 0 (λ(_x:Nat)=>[]) λ(_x:Nat)=>[])=0))) []):=by kernel_rfl
theorem nf_cnum(n:Int)(R:oR7):wpFn te [] [] 0 Tryz.f118 [.q n] [] R=(wab (decide ((1:Int)<=n)) (R (.bool (decide (n<=1048576))) []) (R (.bool false) [])):=by kernel_rfl
theorem nf_calv(n:Int)(R:oR7):wpFn te [] [] 0 Tryz.f156 [.q n] [] R=(wab (decide ((0:Int)<=n)) (R (.bool (decide (n<=182620))) []) (R (.bool false) [])):=by kernel_rfl
theorem wz6(n:Int)(R:oR7):wpFn te [(156,.det wob)] [] 0 Tryz.f138 [.q n] [] R=(True/\wab (!(decide ((0:Int)<=n) && decide (n<=182620))) (R (.q (-1:Int)) []) ((7:Int)≠(0:Int)/\R (.q (Int.tmod n (7:Int))) [])):=by kernel_rfl
theorem nf_slot(o p:List UInt8)(per:Int)(R:oR7):wpFn te [(117,.det wh0),(139,.det wct)] [] 0 Tryz.f120 [.str o,.str p,.q per] [] R=(o.length<9223372036854775808/\wab (wa3 o) (True/\wab (wba p) (wab (decide ((0:Int)<=per)) (R (.bool (decide (per<=5999))) []) (R (.bool false) [])) (R (.bool false) [])) (R (.bool false) [])):=by kernel_rfl
theorem wz9(o p:List UInt8)(per day st pr:Int)(rep:List UInt8)(R:oR7):wpFn te [(120,.det whf),(139,.det wct),(138,.det wmc)] [] 0 Tryz.f119 [.agg [.str o,.str p,.q per,.q day,.q st,.q pr,.str rep]] [] R=(letI z3:=R (.bool false) [];letI z0:=(wab (decide (st=5)) (True/\wab (wba rep) (R (.bool !decide (rep=p)) []) z3) (R (.bool (decide (rep=[]))) []));letI z2:=(wab (decide (pr<1)) z3 (wab (decide ((1099511627776:Int)<pr)) z3 z0));letI z1:=(wab (decide (st=3)) (wab (decide (st=3)) (wab (!decide (pr=0)) z3 z0) z3) (wab (decide (st=4)) (wab (!decide (pr=0)) z3 z0) z3));o.length<9223372036854775808/\wab (!wbz o p per) z3 (True/\wab (decide ((bif decide ((0:Int)<=day) && decide (day<=182620) then day % (7:Int) else (-1:Int))<0)) z3 (wab (decide (st=1)) (wab (decide (st=1)) z2 z1) (wab (decide (st=2)) (wab (decide (st=2)) z2 z1) (wab (decide (st=5)) z2 z1))))):=by kernel_rfl
theorem nf_msg(m:MG)(R:oR7):wpFn te [(117,.det wh0),(120,.det whf),(119,.det wfc),(118,.det wm3)] [] 0 Tryz.f96 [.agg [.str m.dev,.q m.seq,.q m.kind,.str m.v.o,.str m.v.p,.q m.v.per,.q m.v.day,.q m.v.st,.q m.v.pr,.str m.v.rep,.str m.d.o,.str m.d.p,.q m.d.per,.str m.d.dev,.q m.d.num]] [] R=(letI z6:=(m.kind=1);letI z5:=(m.kind=2);letI z4:=R (.q 114) [];letI z2:=(wab (decide z5) (m.d.o.length<9223372036854775808/\wab (wbz m.d.o m.d.p m.d.per) (m.d.dev.length<9223372036854775808/\wab (wa3 m.d.dev) (True/\wab (!numF m.d.num) z4 (R (.q 0) [])) z4) z4) (R (.q 0) []));letI z0:=(wab (decide z6) (wab (!(decide (m.d.o=[]) && (decide (m.d.p=[]) && (decide (m.d.per=0) && (decide (m.d.dev=[]) && decide (m.d.num=0)))))) z4 z2) z2);letI z1:=(wab (decide z5) (wab (!(decide (m.v.o=[]) && (decide (m.v.p=[]) && (decide (m.v.per=0) && (decide (m.v.day=0) && (decide (m.v.st=0) && (decide (m.v.pr=0) && decide (m.v.rep=[])))))))) (R (.q 113) []) z0) z0);letI z3:=(wab (decide z6) (m.v.o.length<9223372036854775808/\wab (!visF (VT.mk m.v.o m.v.p m.v.per m.v.day m.v.st m.v.pr m.v.rep)) (R (.q 113) []) z1) z1);m.dev.length<9223372036854775808/\wab (!wa3 m.dev) (R (.q 110) []) (True/\wab (!numF m.seq) (R (.q 111) []) (wab (!decide z6) (wab (!decide z5) (R (.q 112) []) z3) z3))):=by kernel_rfl
theorem val0_ok(hP:C.P=Tryz.prog)(hL:∀w,C.laid w->LaidW w):wad C 137 wme:=by
 rintro args objs U Os vc h hvc;unfold wme at h;split at h<;>cases h;rename_i id code brand d c a;exact waw.nilArg 2 (wfb (λ_=>[]) (λ_=>[])) (valV_ok hP hL _ _ _ _ _ rfl ⟨zL7 _,hvc.1,hvc.2,λi hi=>absurd hi (nZ7 i),rfl⟩)
theorem w6c(s:List UInt8):decide (valF [48,48,48,48,48,48,48,48] [48,49] s 4 1 1 0 (λ_=>[]) (λ_=>[])=0)=wa3 s:=by
 unfold valF;rw[show wba [48,48,48,48,48,48,48,48]=true by decide+kernel,show wdo [48,49]=true by decide+kernel,show qtyF 4 1 1=0 by rfl]
 cases wa3 s<;>rfl
theorem wwt(hP:C.P=Tryz.prog)(hL:∀w,C.laid w->LaidW w):wad C 117 wh0:=by
 rintro args objs U Os vc h hvc;unfold wh0 at h;split at h<;>cases h;rename_i s;refine wad.wp0 (prg hP) [(137,.det wme)] 0 (.cons (val0_ok hP hL) .nil) (hP ▸ Tryz.func117) rfl rfl rfl ?_;rw[w2w,w6c];exact⟨⟨by omega,hvc⟩,rfl,rfl⟩
theorem cnum_ok(hP:C.P=Tryz.prog):wad C 118 wm3:=by
 have _:C.Loose:=inferInstance;rintro args objs U Os vc h hvc;unfold wm3 at h;split at h<;>cases h;rename_i n;refine wad.wp0 (prg hP) [] 0 .nil (hP ▸ Tryz.func118) rfl rfl rfl ?_;rw[nf_cnum];unfold numF;exact wan (λh=>by rw[h];exact⟨rfl,rfl⟩) (λh=>by rw[h];exact⟨rfl,rfl⟩)
theorem calv_ok(hP:C.P=Tryz.prog):wad C 156 wob:=by
 have _:C.Loose:=inferInstance;rintro args objs U Os vc h hvc;unfold wob at h;split at h<;>cases h;rename_i n;refine wad.wp0 (prg hP) [] 0 .nil (hP ▸ Tryz.func156) rfl rfl rfl ?_;rw[nf_calv];exact wan (λh=>by rw[h];exact⟨rfl,rfl⟩) (λh=>by rw[h];exact⟨rfl,rfl⟩)
theorem wxu(hP:C.P=Tryz.prog):wad C 138 wmc:=by
 rintro args objs U Os vc h hvc;unfold wmc at h;split at h<;>cases h;rename_i n;refine wad.wp0 (prg hP) [(156,.det wob)] 0 (.cons (calv_ok hP) .nil) (hP ▸ Tryz.func138) rfl rfl rfl ?_;rw[wz6];refine⟨trivial,wcb (λh=>by rw[h];exact⟨rfl,rfl⟩) (λh=>⟨by decide,?_⟩)⟩;rw[h];have h0:0<=n:=of_decide_eq_true (Bool.and_eq_true_iff.1 h).1;exact⟨by rw[Int.tmod_eq_emod_of_nonneg h0];rfl,rfl⟩
theorem ws4(hP:C.P=Tryz.prog)(hL:∀w,C.laid w->LaidW w):wad C 120 whf:=by
 rintro args objs U Os vc h hvc;unfold whf at h;split at h<;>cases h;rename_i o p per;refine wad.wp0 (prg hP) [(117,.det wh0),(139,.det wct)] 0 (.cons (wwt hP hL) (.cons (wpx hP (wjs hP)) .nil)) (hP ▸ Tryz.func120) rfl rfl rfl ?_;rw[nf_slot];unfold wbz;exact⟨hvc,wan (λh1=>⟨trivial,wan (λh2=>wan (λh3=>by rw[h1,h2,h3];exact⟨rfl,rfl⟩) (λh3=>by rw[h1,h2,h3];exact⟨rfl,rfl⟩)) (λh2=>by rw[h1,h2];exact⟨rfl,rfl⟩)⟩) (λh1=>by rw[h1];exact⟨rfl,rfl⟩)⟩
theorem wk_neg(day:Int):decide ((bif decide (0<=day) && decide (day<=182620) then day % 7 else -1)<0)= !(decide (0<=day) && decide (day<=182620)):=by
 cases h:decide (0<=day) && decide (day<=182620) with
 |true=>
  show decide (day % 7<0)=false;rw[decide_eq_false];have:=Int.emod_nonneg day (show (7:Int)≠0 by decide);omega
 |false=>rfl
theorem wxv(hP:C.P=Tryz.prog)(hL:∀w,C.laid w->LaidW w):wad C 119 wfc:=by
 rintro args objs U Os vc h hvc;unfold wfc at h;split at h<;>cases h;rename_i o p per day st pr rep;refine wad.wp0 (prg hP) [(120,.det whf),(139,.det wct),(138,.det wmc)] 0 (.cons (ws4 hP hL) (.cons (wpx hP (wjs hP)) (.cons (wxu hP) .nil))) (hP ▸ Tryz.func119) rfl rfl rfl ?_;rw[wz9,wk_neg];refine⟨hvc,wcb (λh1=>?_) (λh1=>⟨trivial,wcb (λh2=>?_) (λh2=>?_)⟩)⟩
 ·unfold visF;simp[h1]
 ·unfold visF;simp[h1,h2]
 have hv:visF ⟨o,p,per,day,st,pr,rep⟩=(bif decide (st=1) || decide (st=2) then decide (1<=pr) && decide (pr<=1099511627776) && decide (rep=[])
  else bif decide (st=3) || decide (st=4) then decide (pr=0) && decide (rep=[])
  else bif decide (st=5) then decide (1<=pr) && decide (pr<=1099511627776) && wba rep && !decide (rep=p) else false):=by
  unfold visF;simp only[h1,Bool.true_and,h2]
 rw[hv];have e1:decide (1<=pr)= !decide (pr<1):=by by_cases h:pr<1<;>simp[h]<;>omega
 have e2:decide (pr<=1099511627776)= !decide (1099511627776<pr):=by by_cases h:1099511627776<pr<;>simp[h]<;>omega
 rw[e1,e2];clear hv h1 h2 e1 e2
 by_cases s1:st=1
 ·subst s1;generalize decide (pr<1)=b1,decide (1099511627776<pr)=b2,decide (pr=0)=b3,decide (rep=p)=b4,decide (rep=[])=b5,wba rep=b6
  cases b1<;>cases b2<;>exact⟨rfl,rfl⟩
 by_cases s2:st=2
 ·subst s2;generalize decide (pr<1)=b1,decide (1099511627776<pr)=b2,decide (pr=0)=b3,decide (rep=p)=b4,decide (rep=[])=b5,wba rep=b6
  cases b1<;>cases b2<;>exact⟨rfl,rfl⟩
 by_cases s3:st=3
 ·subst s3;generalize decide (pr<1)=b1,decide (1099511627776<pr)=b2,decide (pr=0)=b3,decide (rep=p)=b4,decide (rep=[])=b5,wba rep=b6
  cases b3<;>exact⟨rfl,rfl⟩
 by_cases s4:st=4
 ·subst s4;generalize decide (pr<1)=b1,decide (1099511627776<pr)=b2,decide (pr=0)=b3,decide (rep=p)=b4,decide (rep=[])=b5,wba rep=b6
  cases b3<;>exact⟨rfl,rfl⟩
 by_cases s5:st=5
 ·subst s5;generalize decide (pr<1)=b1,decide (1099511627776<pr)=b2,decide (pr=0)=b3,decide (rep=p)=b4,decide (rep=[])=b5,wba rep=b6
  cases b1<;>cases b2<;>cases b6<;>first | exact⟨rfl,rfl⟩ | exact⟨trivial,rfl,rfl⟩
 rw[decide_eq_false s1,decide_eq_false s2,decide_eq_false s3,decide_eq_false s4,decide_eq_false s5];exact⟨rfl,rfl⟩
theorem msg_ok(hP:C.P=Tryz.prog)(hL:∀w,C.laid w->LaidW w):wad C 96 wdb:=by
 rintro args objs U Os vc h hvc;unfold wdb at h;split at h<;>cases h;rename_i dev seq kind o p per day st pr rep o2 p2 per2 dev2 num;refine wad.wp0 (prg hP) [(117,.det wh0),(120,.det whf),(119,.det wfc),(118,.det wm3)] 0 (.cons (wwt hP hL) (.cons (ws4 hP hL) (.cons (wxv hP hL) (.cons (cnum_ok hP) .nil)))) (hP ▸ Tryz.func96) rfl rfl rfl ?_;have nf:=λR=>nf_msg ⟨dev,seq,kind,⟨o,p,per,day,st,pr,rep⟩,⟨o2,p2,per2,dev2,num⟩⟩ R;refine(nf _).mpr ?_;clear nf;obtain⟨l1,l2,l3,l4⟩:=hvc;unfold msgF VT.nil DT.nil;dsimp only
 generalize (decide (o=[]) && (decide (p=[]) && (decide (per=0) && (decide (day=0) && (decide (st=0) && (decide (pr=0) && decide (rep=[])))))))=vn;generalize (decide (o2=[]) && (decide (p2=[]) && (decide (per2=0) && (decide (dev2=[]) && decide (num=0)))))=dn;generalize wa3 dev=b1,numF seq=b2,visF ⟨o,p,per,day,st,pr,rep⟩=b3,wbz o2 p2 per2=b4,wa3 dev2=b5,numF num=b6;refine⟨l1,?_⟩
 cases b1
 ·exact⟨rfl,rfl⟩
 refine⟨trivial,?_⟩
 cases b2
 ·exact⟨rfl,rfl⟩
 by_cases k1:kind=1
 ·subst k1;refine⟨l2,?_⟩
  cases b3<;>cases dn<;>exact⟨rfl,rfl⟩
 by_cases k2:kind=2
 ·subst k2
  cases vn
  ·exact⟨rfl,rfl⟩
  refine⟨l3,?_⟩
  cases b4
  ·exact⟨rfl,rfl⟩
  refine⟨l4,?_⟩
  cases b5
  ·exact⟨rfl,rfl⟩
  refine⟨trivial,?_⟩
  cases b6<;>exact⟨rfl,rfl⟩
 rw[decide_eq_false k1,decide_eq_false k2];exact⟨rfl,rfl⟩
theorem nf_mrg(g:Nat->MG)(n:Nat)(h:Nat->MG)(m:Nat)(R:oR7):letI z4:=sumN (nn2 n m) 2;letI z3:=(List.flatten (List.replicate (nat_lit 0) [.nil]):List AV);letI z2:=catG (nn2 n m) (gg2 g h) 2;letI z0:=flL z2 z4;letI z1:=(∀(i:Nat),i<z0.length->true=true:Prop);wpFn te [(95,.rel wor),(96,.det wdb),(97,.rel wom),(99,.rel wos)] [(3,L_mg z2 z4)] 0 Tryz.f76 [.view 15 n (waa g),.view 15 m (waa h)] [] R=((2<=16777216/\1=1/\2<=9223372036854775807)/\(∀(i:Nat),i<2->nrefL (war 1 (.view 15 n (waa g):: .view 15 m (waa h)::List.append [] z3) i)=true)/\∃(nn:Nat->Nat),∃(gg:Nat->Nat->MG),22=22/\false=false/\2=2/\2<=1000/\(∀(i:Nat),i<2->[AV.view 15 (nn i) (waa (gg i))]=war 1 (.view 15 n (waa g):: .view 15 m (waa h)::List.append [] z3) i)/\sumN nn 2<=1000000/\(∀(i:Nat),i<2->true=true)/\(TEq [(5,.own 0 0),(11,.view 15 (sumN nn 2) (waa (catG nn gg 2))),(12,.q (↑(sumN nn 2):Int)),(13,.q 0)] [(5,.own 0 0),(11,.view 15 z4 (waa z2)),(12,.q (z4:Int)),(13,.q (↑0:Int))]/\wac [(0,.row 47 15 0 (λ(_x:Nat)=>[]) false)] [(0,.row 47 15 0 (waa (atM (flL z2 0))) false)])/\sumN (nn2 n m) 2<=200000/\(∀(i:Nat),i<sumN (nn2 n m) 2->MG.Sm (catG (nn2 n m) (gg2 g h) 2 i))/\z1/\47=47/\false=false/\z0.length=z0.length/\z0.length<=1000000/\waa (atM z0)=waa (mgOf (waa (atM z0)))/\∀(h_1:Nat->MG),List.Perm (lst h_1 z0.length) (lst (mgOf (waa (atM z0))) z0.length)->(∀(i j:Nat),i<j->j<z0.length->¬ordM (h_1 j) (h_1 i)<0)->z1/\z1/\47=47/\false=false/\z0.length=z0.length/\z0.length<=1000000/\waa h_1=waa (mgOf (waa h_1))/\∀(k:Nat) (h_2:Nat->MG),lst h_2 k=ddL (mgOf (waa h_1)) z0.length->(∀(i:Nat),i<k->true=true)/\(∀(i:Nat),i<k->true=true)/\∃(O':oL7),wac [(0,.row 47 15 k (waa h_2) false)] O'/\R (.own 0 k) O'):=by kernel_rfl
theorem w1x(g:Nat->MG)(n k:Nat)(P:Nat->Prop)(R:eR7):wat ⟨te,[(96,.det wdb)],[],0,29,0⟩ (wav Tryz.f76 3) [5,11,12,13] [5] [] (S_mg g n) P R (S_mg g n k)=(letI z2:=(flL g k).length+1;letI z1:=(flL g k).length;letI z3:=([(0,.row 47 15 z1 (waa (atM (flL g k))) false)]:oL7);letI z0:=(g (k:Int).toNat);wab (decide ((k:Int)<(n:Int))) (((0:Int)<=(k:Int)/\(k:Int)<(n:Int)/\15=15)/\(z0.dev.length<9223372036854775808/\z0.v.o.length<9223372036854775808/\z0.d.o.length<9223372036854775808/\z0.d.dev.length<9223372036854775808)/\wab (decide (msgF (MG.mk z0.dev z0.seq z0.kind (VT.mk z0.v.o z0.v.p z0.v.per z0.v.day z0.v.st z0.v.pr z0.v.rep) (DT.mk z0.d.o z0.d.p z0.d.per z0.d.dev z0.d.num))=0)) ((15<=16777216/\15=15/\1<=9223372036854775807)/\((1<=1/\15=15)/\(flL g k).length<=(flL g k).length/\15=15/\47=47/\15=15/\(flL g k).length+1<=9223372036854775807/\z2 * 176<=140737488355328)/\inR .i64 ((k:Int)+1)/\∃(i':Nat),(TEq [(5,.own 0 z2),(11,.view 15 n (waa g)),(12,.q (n:Int)),(13,.q ((k:Int)+1))] [(5,.own 0 (flL g i').length),(11,.view 15 n (waa g)),(12,.q (n:Int)),(13,.q (i':Int))]/\wac [(0,.row 47 15 z2 (apF z1 (waa (atM (flL g k))) (war 15 (.str z0.dev:: .q z0.seq:: .q z0.kind:: .str z0.v.o:: .str z0.v.p:: .q z0.v.per:: .q z0.v.day:: .q z0.v.st:: .q z0.v.pr:: .str z0.v.rep:: .str z0.d.o:: .str z0.d.p:: .q z0.d.per:: .str z0.d.dev:: .q z0.d.num::List.append [] wbn))) false)] [(0,.row 47 15 (flL g i').length (waa (atM (flL g i'))) false)])/\P i') (inR .i64 ((k:Int)+1)/\∃(i':Nat),(TEq [(5,.own 0 z1),(11,.view 15 n (waa g)),(12,.q (n:Int)),(13,.q ((k:Int)+1))] [(5,.own 0 (flL g i').length),(11,.view 15 n (waa g)),(12,.q (n:Int)),(13,.q (i':Int))]/\wac z3 [(0,.row 47 15 (flL g i').length (waa (atM (flL g i'))) false)])/\P i')) ((∀(i:Nat),i<(flL g k).length->true=true)/\∃(O':oL7),wac z3 O'/\R (.exit 0) (St.mk [(5,.own 0 z1)] O' 1 []))):=by kernel_rfl
theorem w54{h:Nat->MG}{n:Nat}(hs:∀i j,i<j->j<n->¬ ordM (h j) (h i)<0):Asc ordM (ddL h n)/\∀x,x∈ddL h n↔x∈lst h n:=by
 have le:∀i j,i<j->j<n->ordM (h i) (h j)<=0:=λi j hij hj=>by
  have:=hs i j hij hj;rw[wc4.neg] at this;omega
 have nk:∀j,0<j->wci h j=true->h j≠h (j - 1):=λj hj hk e=>by
  rw[wk2 hj,wlm.2 e] at hk;cases hk
 refine⟨?_,λx=>⟨λhx=>?_,λhx=>?_⟩⟩
 ·unfold Asc ddL;refine List.pairwise_map.2 ((List.pairwise_lt_range.filter _).imp_of_mem λ{i j} hi hj hij=>?_);obtain⟨hjn,hjk⟩:=List.mem_filter.1 hj;have hjn:=List.mem_range.1 hjn;have l1:=le i j hij hjn
  rcases Int.lt_or_eq_of_le l1 with h0 | h0
  ·exact h0
  ·exfalso;have e:=wkb.1 h0;refine nk j (by omega) hjk ?_
   by_cases q:i=j - 1
   ·rw[← q,e]
   ·have l2:=le i (j - 1) (by omega) (by omega);have l3:=le (j - 1) j (by omega) hjn;rw[e] at l2;have:=wc4.neg (h (j - 1)) (h j);exact wkb.1 (by omega)
 ·unfold ddL at hx;obtain⟨i,hi,rfl⟩:=List.mem_map.1 hx;exact List.mem_map.2 ⟨i,(List.mem_filter.1 hi).1,rfl⟩
 ·obtain⟨i,hi,rfl⟩:=List.mem_map.1 hx;have key:∀i,i<n->h i∈ddL h n:=λi=>by
   induction i with
   |zero=>intro hi;exact List.mem_map.2 ⟨0,List.mem_filter.2 ⟨List.mem_range.2 hi,rfl⟩,rfl⟩
   |succ i ih=>
    intro hi
    cases q:wci h (i+1) with
    |true=>exact List.mem_map.2 ⟨i+1,List.mem_filter.2 ⟨List.mem_range.2 hi,q⟩,rfl⟩
    |false=>
     rw[wk2 (Nat.succ_pos i)] at q;have e:eqM (h (i+1)) (h i)=true:=by
      have:i+1 - 1=i:=rfl;rw[this] at q
      cases r:eqM (h (i+1)) (h i) with
      |true=>rfl
      |false=>rw[r] at q;cases q
     rw[wlm.1 e];exact ih (by omega)
  exact key i (List.mem_range.1 hi)
theorem wds(L:List MG):lst (atM L) L.length=L:=by
 apply List.ext_getElem
 ·simp[lst]
 ·intro i h1 h2;simp[lst,atM,h2]
theorem wu3{g:Nat->MG}{L:List MG}{n:Nat}(h:lst g n=L):n=L.length/\∀i,i<n->g i=atM L i:=by
 subst h;refine⟨by simp[lst],λi hi=>?_⟩;simp[lst,atM,hi]
theorem w5l(g:Nat->MG)(k:Nat):flL g (k+1)=flL g k++bif okM (g k) then [g k] else []:=by
 unfold flL;rw[wdr,List.filter_append]
 cases h:okM (g k)<;>simp[h]
theorem wv6(g:Nat->MG)(k:Nat):(flL g k).length<=k:=by
 have:=List.length_filter_le okM (lst g k);have e:(lst g k).length=k:=by simp[lst]
 unfold flL;omega
theorem cat2(g:Nat->MG)(n:Nat)(h:Nat->MG)(m:Nat):sumN (nn2 n m) 2=n+m/\lst (catG (nn2 n m) (gg2 g h) 2) (n+m)=lst g n++lst h m/\∀i,i<n+m->(i<n/\catG (nn2 n m) (gg2 g h) 2 i=g i)∨(i - n<m/\n<=i/\catG (nn2 n m) (gg2 g h) 2 i=h (i - n)):=by
 have s1:sumN (nn2 n m) 1=n:=by simp[sumN,nn2]
 have at1:∀i,i<n+m->(i<n/\catG (nn2 n m) (gg2 g h) 2 i=g i)∨(i - n<m/\n<=i/\catG (nn2 n m) (gg2 g h) 2 i=h (i - n)):=λi hi=>by
  by_cases q:i<n
  ·refine .inl ⟨q,?_⟩;rw[catG,s1,if_pos q,catG];have:sumN (nn2 n m) 0=0:=rfl;rw[this,if_neg (by omega)];rfl
  ·refine .inr ⟨by omega,by omega,?_⟩;rw[catG,s1,if_neg q];rfl
 refine⟨by rw[sumN,s1];rfl,?_,at1⟩;apply List.ext_getElem
 ·simp[lst]
 ·intro i h1 h2;have hi:i<n+m:=by simpa[lst] using h1
  rcases at1 i hi with⟨q,e⟩ | ⟨q1,q2,e⟩
  ·rw[List.getElem_append_left (by simp[lst,q])];simp[lst,e]
  ·rw[List.getElem_append_right (by simp[lst,q2])];simp[lst,e]
theorem mg_loop(hP:C.P=Tryz.prog)(hL:∀w,C.laid w->LaidW w)(g:Nat->MG)(n:Nat):wah C 0 29 (wai Tryz.f76 3) (L_mg g n):=by
 rintro st Q ⟨h0,hn,hs,hQ⟩;refine AWP.ownNil 5 47 15 ?_;refine wah.mk (prg hP) [(96,.det wdb)] 0 (.cons (msg_ok hP hL) .nil) [5,11,12,13] [5] [] (S_mg g n) (λk=>k<=n) (λk=>n - k) 0 (zL7 _) h0 (λk hk=>?_) (λi=>⟨λ_ _=>rfl,trivial⟩);rw[w1x,tN7];have hlen:=wv6 g k;have hsu:=w5l g k;refine wag (λh1=>?_) (λh1=>?_)
 ·have hk:=hs k (by omega);refine⟨⟨by omega,by omega,rfl⟩,⟨hk.a,hk.b,hk.c,hk.d⟩,wag (λq=>?_) (λq=>?_)⟩
  ·have q:msgF (g k)=0:=q;have e:flL g (k+1)=flL g k++[g k]:=by rw[hsu,show okM (g k)=true from decide_eq_true q];rfl
   refine⟨⟨by omega,rfl,by omega⟩,⟨⟨lR7 _,rfl⟩,lR7 _,rfl,rfl,rfl,by omega,?_⟩,by simp only[inR];omega,k+1,?_,by omega,by omega⟩
   ·show ((flL g k).length+1) * 176<=_;omega
   ·rw[e,lA7];refine⟨rfl,⟨rfl,rfl,rfl,rfl,rfl,λj hj=>?_⟩,trivial⟩;generalize flL g k=L at *;unfold apF
    by_cases h:j<L.length
    ·rw[if_pos h];have:atM (L++[g k]) j=atM L j:=by simp[atM,List.getD_eq_getElem?_getD,List.getElem?_append_left h]
     unfold waa;rw[this]
    ·have hj:j=L.length:=by omega
     subst hj;rw[if_neg h,Nat.sub_self];have:atM (L++[g k]) L.length=g k:=by simp[atM]
     unfold waa;rw[this];rfl
  ·have q:¬ msgF (g k)=0:=q;have e:flL g (k+1)=flL g k:=by rw[hsu,show okM (g k)=false from decide_eq_false q];simp
   refine⟨by simp only[inR];omega,k+1,?_,by omega,by omega⟩;rw[e];exact⟨rfl,rQ7,trivial⟩
 ·have:k=n:=by omega
  subst this;exact⟨λ_ _=>rfl,_,waz _,hQ⟩
theorem mrg_ok(hP:C.P=Tryz.prog)(hL:∀w,C.laid w->LaidW w):wad C 76 S_mrg:=by
 rintro args objs U Os vc hh hvc;unfold S_mrg at hh;split at hh<;>simp only[sI7,pI7,reduceCtorEq] at hh;rename_i n f m h;obtain⟨rfl,rfl,rfl⟩:=hh;obtain⟨hn,hm,hf,hh,s1,s2⟩:=hvc;generalize mgOf f=g at *;generalize mgOf h=j at *;subst hf;subst hh;refine wad.wpL (prg hP) [(95,.rel wor),(96,.det wdb),(97,.rel wom),(99,.rel wos)] [(3,L_mg (catG (nn2 n m) (gg2 g j) 2) (sumN (nn2 n m) 2))] 0 (.cons (w58 hP) (.cons (msg_ok hP hL) (.cons (wyi hP) (.cons (w6d hP) .nil)))) (hP ▸ Tryz.func76) rfl rfl rfl [(wai Tryz.f76 3,L_mg (catG (nn2 n m) (gg2 g j) 2) (sumN (nn2 n m) 2))] (by kernel_rfl) ⟨mg_loop hP hL _ _,trivial⟩ ?_;rw[nf_mrg];obtain⟨c1,c2,c3⟩:=cat2 g n j m;have two:∀ {p:Nat->Prop},p 0->p 1->∀i,i<2->p i:=λh0 h1 i hi=>by
  match i,hi with
  |0,_=>exact h0
  |1,_=>exact h1
 have sm:∀i,i<n+m->(catG (nn2 n m) (gg2 g j) 2 i).Sm:=λi hi=>by
  rcases c3 i hi with⟨q,e⟩ | ⟨q1,q2,e⟩
  ·rw[e];exact s1 i q
  ·rw[e];exact s2 _ q1
 refine⟨⟨by omega,rfl,by omega⟩,two rfl rfl,nn2 n m,gg2 g j,rfl,rfl,rfl,by omega,two rfl rfl,by rw[c1];omega,two rfl rfl,⟨rfl,⟨rfl,rfl,rfl,rfl,rfl,λi hi=>absurd hi (nZ7 i)⟩,trivial⟩,?_⟩;have hfl:flL (catG (nn2 n m) (gg2 g j) 2) (n+m)=(lst g n++lst j m).filter okM:=by unfold flL;rw[c2]
 have hlen:=wv6 (catG (nn2 n m) (gg2 g j) 2) (n+m);have hLd:mrgL g n j m=mrgF (lst g n++lst j m):=rfl;rw[c1];generalize catG (nn2 n m) (gg2 g j) 2=cc at *;generalize hF:flL cc (n+m)=Fl at *;refine⟨by omega,sm,λ_ _=>rfl,rfl,rfl,rfl,by omega,rfl,λh1 hp hs=>⟨λ_ _=>rfl,λ_ _=>rfl,rfl,rfl,rfl,by omega,rfl,λk h2 hd=>?_⟩⟩;have hp:(lst h1 Fl.length).Perm (lst (atM Fl) Fl.length):=hp;have hd:lst h2 k=ddL h1 Fl.length:=hd;rw[wds] at hp;obtain⟨a1,a2⟩:=w54 hs;have hM:ddL h1 Fl.length=mrgL g n j m:=by
  refine wup a1 λx=>?_;rw[a2,hp.mem_iff,hfl,List.mem_filter];unfold okM;rw[decide_eq_true_eq]
 rw[hM] at hd;show _/\_/\∃O',wac _ O'/\AV.own 0 k= .own 0 (mrgL g n j m).length/\O'=[(0,.row 47 15 (mrgL g n j m).length (waa (atM (mrgL g n j m))) false)];generalize mrgL g n j m=M at *;obtain⟨rfl,hat⟩:=wu3 hd;refine⟨λ_ _=>rfl,λ_ _=>rfl,[(0,.row 47 15 M.length (waa (atM M)) false)],⟨⟨rfl,rfl,rfl,rfl,rfl,λi hi=>?_⟩,trivial⟩,rfl,rfl⟩;unfold waa;rw[hat i hi]
end Go.Eng
namespace Go.Eng
def wc5(a b:MG):Int:=orL [cmpS a.dev b.dev,cmpI a.seq b.seq]
theorem wqy:PreC wc5:=(wd0.comap MG.dev).or ((wd2.comap MG.seq).or .nil)
theorem wkq{a b:MG}:wc5 a b=0↔mk2 a=mk2 b:=by
 simp only[wc5,wqj,wdl,wr4,show orL []=0 from rfl,and_true,mk2,pI7]
theorem orL_two{x y:Int}{l:List Int}(h:orL (x::y::l)<0):orL [x,y]<=0:=by
 by_cases q:x=0
 ·by_cases q':y=0
  ·simp[orL,q,q']
  ·simp only[orL,q,q',decide_true,decide_false,cond_true,cond_false] at h ⊢;omega
 ·simp only[orL,q,decide_false,cond_false] at h ⊢;omega
theorem w32{a b:MG}(h:ordM a b<0):wc5 a b<=0:=orL_two h
theorem whb{L:List MG}{i:Nat}(h:i<L.length):atM L i=L[i]:=by simp[atM,h]
theorem wgb{L:List MG}{i:Nat}(h:i<L.length):atM L i∈L:=by rw[whb h];exact List.getElem_mem h
theorem mem_atM{L:List MG}{x:MG}(h:x∈L):∃i,i<L.length/\atM L i=x:=by
 obtain⟨i,hi,e⟩:=List.mem_iff_getElem.1 h;exact⟨i,hi,by rw[whb hi,e]⟩
theorem wl6{c:MG->MG->Int}{L:List MG}(h:Asc c L){i j:Nat}(hij:i<j)(hj:j<L.length):c (atM L i) (atM L j)<0:=by
 rw[whb (show i<L.length by omega),whb hj];exact List.pairwise_iff_getElem.1 h i j (by omega) hj hij
theorem wqx{L:List MG}(h:Asc ordM L){i j:Nat}(hij:i<=j)(hj:j<L.length):wc5 (atM L i) (atM L j)<=0:=by
 rcases Nat.lt_or_eq_of_le hij with q | q
 ·exact w32 (wl6 h q hj)
 ·subst q;rw[wqy.self];exact Int.le_refl 0
theorem wu0{L:List MG}(h:Asc ordM L){i j k:Nat}(hij:i<=j)(hjk:j<=k)(hk:k<L.length)(e:mk2 (atM L i)=mk2 (atM L k)):mk2 (atM L j)=mk2 (atM L i):=by
 have a:=wqx h hij (by omega);have b:=wqx h hjk hk;have c:wc5 (atM L k) (atM L i)<=0:=by rw[wkq.2 e.symm];exact Int.le_refl 0
 have d:=wqy.trans _ _ _ b c;have n:=wqy.neg (atM L j) (atM L i);have:wc5 (atM L i) (atM L j)=0:=by omega
 exact(wkq.1 this).symm
theorem wug(g:Nat->MG)(p:List UInt8×Int):∀n,0<numC g p n↔∃i,i<n/\mk2 (g i)=p
 |0=>by simp[numC]
 |n+1=>by
  have ih:=wug g p n;have nn:=(wqp g p n).1;rw[numC]
  cases q:decide ((mk2 (g n)).1=p.1) && decide ((mk2 (g n)).2=p.2) with
  |true=>
   have e:=wes.1 q;simp only[cond_true];exact⟨λ_=>⟨n,by omega,e⟩,λ_=>by omega⟩
  |false=>
   have ne:mk2 (g n)≠p:=λe=>by rw[e] at q;simp at q
   simp only[cond_false]
   constructor
   ·intro h;obtain⟨i,hi,e⟩:=ih.1 (by omega);exact⟨i,by omega,e⟩
   ·rintro⟨i,hi,e⟩;have:i≠n:=λq=>ne (q ▸ e);have:=ih.2 ⟨i,by omega,e⟩;omega
theorem win(g:Nat->MG)(p:List UInt8×Int):∀n,1<numC g p n↔∃i j,i<j/\j<n/\mk2 (g i)=p/\mk2 (g j)=p
 |0=>by simp[numC]
 |n+1=>by
  have ih:=win g p n;have ip:=wug g p n;rw[numC]
  cases q:decide ((mk2 (g n)).1=p.1) && decide ((mk2 (g n)).2=p.2) with
  |true=>
   have e:=wes.1 q;simp only[cond_true]
   constructor
   ·intro h;obtain⟨i,hi,e'⟩:=ip.1 (by omega);exact⟨i,n,hi,by omega,e',e⟩
   ·rintro⟨i,j,hij,hj,e1,e2⟩;have:=ip.2 ⟨i,by omega,e1⟩;omega
  |false=>
   have ne:mk2 (g n)≠p:=λe=>by rw[e] at q;simp at q
   simp only[cond_false]
   constructor
   ·intro h;obtain⟨i,j,hij,hj,e⟩:=ih.1 (by omega);exact⟨i,j,hij,by omega,e⟩
   ·rintro⟨i,j,hij,hj,e1,e2⟩;have:j≠n:=λq=>ne (q ▸ e2);have:=ih.2 ⟨i,j,hij,by omega,e1,e2⟩;omega
def wdf(a b:MG):Bool:=decide (a.dev=b.dev) && decide (a.seq=b.seq)
theorem wyw{a b:MG}:wdf a b=true↔mk2 a=mk2 b:=by simp[wdf,mk2]
def clnB(L:List MG)(i:Nat):Bool:= !((decide (0<i) && wdf (atM L (i - 1)) (atM L i)) || (decide (i+1<L.length) && wdf (atM L (i+1)) (atM L i)))
def clnK(L:List MG)(k:Nat):List MG:=((List.range k).filter (clnB L)).map (atM L)
theorem wwx{L:List MG}(h:Asc ordM L){i:Nat}(hi:i<L.length):clnB L i= !decide (1<numC (atM L) (mk2 (atM L i)) L.length):=by
 have key:1<numC (atM L) (mk2 (atM L i)) L.length↔(0<i/\mk2 (atM L (i - 1))=mk2 (atM L i))∨(i+1<L.length/\mk2 (atM L (i+1))=mk2 (atM L i)):=by
  rw[win]
  constructor
  ·rintro⟨a,b,hab,hb,ea,eb⟩
   by_cases q:a<i
   ·exact .inl ⟨by omega,(wu0 h (i:=a) (j:=i - 1) (k:=i) (by omega) (by omega) hi ea).trans ea⟩
   ·exact .inr ⟨by omega,wu0 h (i:=i) (j:=i+1) (k:=b) (by omega) (by omega) hb eb.symm⟩
  ·rintro(⟨h0,e⟩ | ⟨h0,e⟩)
   ·exact⟨i - 1,i,by omega,hi,e,rfl⟩
   ·exact⟨i,i+1,by omega,h0,rfl,e⟩
 unfold clnB;congr 1;rw[Bool.eq_iff_iff,decide_eq_true_eq,key];simp[wyw]
theorem wwy(g:Nat->MG)(n:Nat):clnK (mrgL g n noM 0) (mrgL g n noM 0).length=wae g n:=by
 have h:Asc ordM (mrgL g n noM 0):=wiq _;unfold wae;generalize mrgL g n noM 0=L at *;unfold clnK;have e:∀q:MG->Bool,L.filter q=((List.range L.length).map (atM L)).filter q:=λq=>by rw[show (List.range L.length).map (atM L)=L from wds L]
 rw[e,List.filter_map];congr 1;exact List.filter_congr λi hi=>wwx h (List.mem_range.1 hi)
theorem wtt(g:Nat->MG)(n:Nat):Asc wc5 (wae g n):=by
 have h:Asc ordM (mrgL g n noM 0):=wiq _;rw[← wwy];generalize mrgL g n noM 0=L at *;unfold clnK Asc;rw[List.pairwise_map];refine(List.pairwise_lt_range.filter _).imp_of_mem ?_;intro i j hi hj hij;obtain⟨hi1,hi2⟩:=List.mem_filter.1 hi;have hj1:=List.mem_range.1 (List.mem_filter.1 hj).1;have hi1:=List.mem_range.1 hi1;have le:=wqx h (Nat.le_of_lt hij) hj1
 rcases Int.lt_or_eq_of_le le with q | q
 ·exact q
 ·have e:=wkq.1 q;rw[wwx h hi1,Bool.not_eq_true',decide_eq_false_iff_not] at hi2;exact absurd ((win _ _ _).2 ⟨i,j,hij,hj1,rfl,e.symm⟩) hi2
theorem w3p{m:MG}(h:msgF m=0):wa3 m.dev=true/\1<=m.seq/\m.seq<=1048576:=by
 unfold msgF at h
 cases h1:wa3 m.dev with
 |false=>rw[h1] at h;exact absurd (show (110:Int)=0 from h) (by decide)
 |true=>
  rw[h1] at h
  cases h2:numF m.seq with
  |false=>rw[h2] at h;exact absurd (show (111:Int)=0 from h) (by decide)
  |true=>
   unfold numF at h2;rw[bA7,decide_eq_true_eq,decide_eq_true_eq] at h2;exact⟨rfl,h2⟩
theorem wtv{g:Nat->MG}{n:Nat}{m:MG}(h:m∈wae g n):msgF m=0:=(wqu.1 (List.mem_filter.1 h).1).2
def agF(C:List MG):Nat->Bool
 |0=>true
 |k+1=>agF C k && !difF (atM C 0).v (atM C k)
theorem agF_eq(C:List MG):∀n,agF C n= !decide (fstB (λi=>difF (atM C 0).v (atM C i)) n<n)
 |0=>rfl
 |n+1=>by
  have le:=wg1 (λi=>difF (atM C 0).v (atM C i)) n;rw[agF,agF_eq C n,fstB]
  by_cases h:fstB (λi=>difF (atM C 0).v (atM C i)) n<n
  ·rw[decide_eq_true h];show false= !decide (fstB (λi=>difF (atM C 0).v (atM C i)) n<n+1);rw[decide_eq_true (by omega)];rfl
  ·rw[decide_eq_false h]
   cases difF (atM C 0).v (atM C n) with
   |true=>show false= !decide (n<n+1);rw[decide_eq_true (by omega)];rfl
   |false=>show true= !decide (n+1<n+1);rw[decide_eq_false (by omega)];rfl
def betB(b m:MG):Bool:=decide (b.seq<m.seq) || (decide (b.seq=m.seq) && Op.bytesLess b.dev m.dev)
def inF(C:List MG)(m:MG)(s:MG×MG):Nat->MG×MG
 |0=>s
 |j+1=>bif namF m.d (atM C j) && betB (inF C m s j).1 m then (m,atM C j) else inF C m s j
theorem w62(m:MG):betB m m=false:=by simp[betB,we7]
theorem inF_eq(C:List MG)(m:MG)(s:MG×MG):∀n,inF C m s n=bif betB s.1 m && decide (fstB (λi=>namF m.d (atM C i)) n<n) then (m,atM C (fstB (λi=>namF m.d (atM C i)) n)) else s
 |0=>by simp[inF]
 |n+1=>by
  have ih:=inF_eq C m s n;rw[inF,ih];have le:=wg1 (λi=>namF m.d (atM C i)) n
  cases b:betB s.1 m with
  |false=>simp[b]
  |true=>
   by_cases h:fstB (λi=>namF m.d (atM C i)) n<n
   ·have e:fstB (λi=>namF m.d (atM C i)) (n+1)=fstB (λi=>namF m.d (atM C i)) n:=by rw[fstB,decide_eq_true h];rfl
    rw[e,decide_eq_true h,decide_eq_true (show fstB (λi=>namF m.d (atM C i)) n<n+1 by omega)];simp[w62]
   ·have h0:fstB (λi=>namF m.d (atM C i)) n=n:=by omega
    cases hq:namF m.d (atM C n) with
    |true=>
     have e:fstB (λi=>namF m.d (atM C i)) (n+1)=n:=by rw[fstB,decide_eq_false h,hq];rfl
     rw[e,decide_eq_false h,decide_eq_true (show n<n+1 by omega)];simp[b]
    |false=>
     have e:fstB (λi=>namF m.d (atM C i)) (n+1)=n+1:=wdi h0 hq;rw[e,decide_eq_false h,decide_eq_false (show ¬ n+1<n+1 by omega)];simp
def wc1:MG:=⟨[],0,0,⟨[],[],0,0,0,0,[]⟩,⟨[],[],0,[],0⟩⟩
def decA(o p:List UInt8)(per:Int)(m:MG):Bool:=decide (m.kind=2) && (decide (m.d.o=o) && (decide (m.d.p=p) && decide (m.d.per=per)))
def bfF(o p:List UInt8)(per:Int)(C:List MG)(g:Nat->MG):Nat->MG×MG
 |0=>(wc1,wc1)
 |k+1=>bif decA o p per (g k) then inF C (g k) (bfF o p per C g k) C.length else bfF o p per C g k
def resS(o p:List UInt8)(per:Int)(R C:List MG):VT×Int:=
 bif decide (C.length=0) then (wcu,0) else bif agF C C.length then ((atM C 0).v,1) else
  bif decide ((bfF o p per C (atM R) R.length).1.seq=0) then (wcu,2) else ((bfF o p per C (atM R) R.length).2.v,1)
theorem decOK_A(o p:List UInt8)(per q:Int)(m:MG):wca o p per q m=(decA o p per m && !decide (m.seq<q)):=by
 unfold wca decA;simp only[Bool.and_assoc]
theorem bf_dc{o p:List UInt8}{per:Int}{C R:List MG}(hR:Asc wc5 R)(hp:∀m∈R,1<=m.seq):∀k,k<=R.length->
  (bfF o p per C (atM R) k=(wc1,wc1)/\dcF o p per C (atM R) k=(wcu, -1))∨
  ((∃i,i<k/\(bfF o p per C (atM R) k).1=atM R i)/\dcF o p per C (atM R) k=((bfF o p per C (atM R) k).2.v,(bfF o p per C (atM R) k).1.seq))
 |0,_=>.inl ⟨rfl,rfl⟩
 |k+1,hk=>by
  have ih:=bf_dc (o:=o) (p:=p) (per:=per) (C:=C) hR hp k (by omega);have pos:=hp _ (wgb (L:=R) (i:=k) (by omega));have hb:betB (bfF o p per C (atM R) k).1 (atM R k)= !decide ((atM R k).seq<(dcF o p per C (atM R) k).2):=by
   rcases ih with⟨e1,e2⟩ | ⟨⟨i,hi,e1⟩,e2⟩
   ·rw[e1,e2];unfold betB;rw[decide_eq_true (show (wc1,wc1).1.seq<(atM R k).seq by show (0:Int)<_;omega),decide_eq_false (show ¬ (atM R k).seq<(wcu,(-1:Int)).2 by show ¬ _<(-1:Int);omega)];rfl
   ·rw[e2];show _= !decide ((atM R k).seq<(bfF o p per C (atM R) k).1.seq);rw[e1];have hlt:=wl6 hR hi (by omega);unfold betB
    rcases wd1 (atM R i).seq (atM R k).seq with⟨a,_⟩ | ⟨a,a'⟩ | ⟨a,_⟩
    ·rw[decide_eq_true a,decide_eq_false (show ¬ (atM R k).seq<(atM R i).seq by omega)];rfl
    ·have hd:cmpS (atM R i).dev (atM R k).dev<0:=by
      unfold wc5 at hlt
      by_cases z:cmpS (atM R i).dev (atM R k).dev=0
      ·simp[orL,z,a'] at hlt
      ·simp only[orL,z,decide_false,cond_false] at hlt;exact hlt
     rw[wja.1 hd,a,decide_eq_false (Int.lt_irrefl _),decide_eq_true rfl];rfl
    ·rw[decide_eq_false (show ¬ (atM R i).seq<(atM R k).seq by omega),decide_eq_false (show ¬ (atM R i).seq=(atM R k).seq by omega),decide_eq_true (show (atM R k).seq<(atM R i).seq by omega)];rfl
  rw[bfF,dcF,decOK_A, ← hb,inF_eq]
  cases decA o p per (atM R k) with
  |false=>
   rcases ih with h | ⟨⟨i,hi,e1⟩,e2⟩
   ·exact .inl h
   ·exact .inr ⟨⟨i,by omega,e1⟩,e2⟩
  |true=>
   simp only[Bool.true_and,cond_true]
   cases hq:betB (bfF o p per C (atM R) k).1 (atM R k) && decide (fstB (λi=>namF (atM R k).d (atM C i)) C.length<C.length) with
   |false=>
    rcases ih with h | ⟨⟨i,hi,e1⟩,e2⟩
    ·exact .inl h
    ·exact .inr ⟨⟨i,by omega,e1⟩,e2⟩
   |true=>exact .inr ⟨⟨k,by omega,rfl⟩,rfl⟩
theorem resS_eq{o p:List UInt8}{per:Int}{C R:List MG}(hR:Asc wc5 R)(hp:∀m∈R,1<=m.seq):resS o p per R C=resR o p per R C:=by
 unfold resS resR
 cases decide (C.length=0) with
 |true=>rfl
 |false=>
  simp only[cond_false];have e:agF C C.length= !decide (0<=ixB (λi=>difF (atM C 0).v (atM C i)) C.length):=by
   rw[agF_eq];unfold ixB
   by_cases h:fstB (λi=>difF (atM C 0).v (atM C i)) C.length<C.length
   ·rw[decide_eq_true h];rfl
   ·rw[decide_eq_false h];rfl
  rw[e]
  cases decide (0<=ixB (λi=>difF (atM C 0).v (atM C i)) C.length) with
  |false=>rfl
  |true=>
   simp only[Bool.not_true,cond_false,cond_true]
   rcases bf_dc (o:=o) (p:=p) (per:=per) (C:=C) hR hp R.length (lR7 _) with⟨e1,e2⟩ | ⟨⟨i,hi,e1⟩,e2⟩
   ·rw[e1,e2];rfl
   ·have pos:=hp _ (wgb hi);rw[e2,e1];show (bif decide ((atM R i).seq=0) then _ else _)=(bif decide ((atM R i).seq<0) then _ else _)
    rw[decide_eq_false (by omega),decide_eq_false (by omega)]
theorem insM_at{L:List MG}(h:Asc ordM L){m:MG}{a:Nat}(ha:a<=L.length)(h1:∀i,a<=i->i<L.length->ordM m (atM L i)<0)(h2:a=0∨¬ ordM m (atM L (a - 1))<0):
  insM L m=bif decide (0<a) && eqM (atM L (a - 1)) m then L else L.take a++m::L.drop a:=by
 have hasc:=wri m h
 by_cases q:0<a/\atM L (a - 1)=m
 ·rw[decide_eq_true q.1,wlm.2 q.2];refine Asc.uniq wc4 hasc h λx=>wiy.trans ⟨?_,.inr⟩;rintro(rfl | hx)
  ·have:=wgb (L:=L) (i:=a - 1) (by omega);rw[q.2] at this;exact this
  ·exact hx
 ·have e:(decide (0<a) && eqM (atM L (a - 1)) m)=false:=by
   by_cases z:0<a
   ·cases z2:eqM (atM L (a - 1)) m with
    |false=>exact Bool.and_false _
    |true=>exact absurd ⟨z,wlm.1 z2⟩ q
   ·rw[decide_eq_false z];rfl
  rw[e];refine Asc.uniq wc4 hasc (Asc.insert (by rw[List.take_append_drop];exact h) (λy hy=>?_) (λy hy=>?_)) λx=>wiy.trans ?_
  ·obtain⟨i,hi,rfl⟩:=List.mem_iff_getElem.1 hy;rw[List.length_take] at hi;rw[List.getElem_take, ← whb (show i<L.length by omega)];have b:¬ ordM m (atM L (a - 1))<0:=h2.resolve_left (by omega);have ne:ordM m (atM L (a - 1))≠0:=λz=>q ⟨by omega,(wkb.1 z).symm⟩;have n:=wc4.neg m (atM L (a - 1));have n':=wc4.neg (atM L (a - 1)) m;have lt:ordM (atM L (a - 1)) m<0:=by omega
   by_cases z:i=a - 1
   ·rw[z];exact lt
   ·exact wc4.lt_trans (wl6 h (show i<a - 1 by omega) (by omega)) lt
  ·obtain⟨i,hi,rfl⟩:=List.mem_iff_getElem.1 hy;rw[List.length_drop] at hi;rw[List.getElem_drop, ← whb (show a+i<L.length by omega)];exact h1 _ (by omega) (by omega)
  ·show x=m∨x∈L↔x∈L.take a++m::L.drop a;rw[List.mem_append,List.mem_cons];have:x∈L↔x∈L.take a∨x∈L.drop a:=by rw[← List.mem_append,List.take_append_drop]
   rw[this];grind
theorem lst_atL(L:List MG):lst (atM L) L.length++lst noM 0=L:=by rw[wds];simp[lst]
def t30(nm:Nat->List UInt8)(i:Nat):List UInt8:=(nm i).take 30
theorem wjt(s:List UInt8)(k:Int):s.take (Int.toNat (min (s.length:Int) k))=s.take k.toNat:=by
 rcases Int.le_total (s.length:Int) k with h | h
 ·rw[Int.min_eq_left h,tN7,List.take_length,List.take_of_length_le (by omega)]
 ·rw[Int.min_eq_right h]
def wdx(n k:Int):Int:=n % 18446744073709551616 % k
def wnx:Spec
 |[.int .i64 n,.int .i64 k],[]=>some (.q (wdx n k),[],1<=k/\k<=1000000)
 |_,_=>none
def wak(n:Nat)(v:Nat->Int)(a k:Int):Int:=wdx (bif decide (a<n) then v a.toNat else 0) k
def wce:Spec
 |[.ptr 0 0,.int .i64 k],[.cells [.view sz n f,.int .i64 a] t]=>some (.q (wak n (vInt f) a k),[(0,.cells [.view 1 n f,.q (a+1)] 26)],t=26/\sz=1/\f=waf (vInt f)/\(1<=k/\k<=1000000)/\(0<=a/\a<=4611686018427387904))
 |_,_=>none
def pw(V j:Nat):Nat:=V / 10 ^ j
def dgI(V k:Nat):Int:=48+((V / 10 ^ (6 - k) % 10:Nat):Int)
def wbb(V:Nat)(k:Nat):List AV:=[.int .u8 (dgI V k)]
def idV(n:Int):Nat:=1000000+(wdx n 1000000).toNat
def id7(n:Int):List UInt8:=wbe 7 (wbb (idV n))
def idF(n:Int):List UInt8:=id7 n++[UInt8.ofNat (48+(cdF (id7 n)).1).toNat]
def S_id:Spec
 |[.int .i64 n],[]=>some (.str (idF n),[],True)
 |_,_=>none
def wnt(V:Nat)(j:Nat):St:=⟨[(3,.q (pw V j:Nat)),(4,.own 0 7),(5,.q (6 - (j:Int)))],[(0,.row 5 1 7 (λk=>[.int .u8 (bif decide (7<=k+j) then dgI V k else 0)]) false)],1,[]⟩
def L_id(V:Nat):wap:=λst Q=>canonIs te 0 [3,4,5] st (wnt V 0)/\V<2000000/\
 Q (.exit 0) ⟨[(4,.own 0 7)],[(0,.row 5 1 7 (wbb V) false)],1,[]⟩
theorem wi4{k:Int}(h:1<=k)(n:Int):0<=wdx n k/\wdx n k<k:=by
 unfold wdx;exact⟨Int.emod_nonneg _ (by omega),Int.emod_lt_of_pos _ (by omega)⟩
theorem wbw{k:Int}(h:1<=k)(n:Nat)(v:Nat->Int)(a:Int):0<=wak n v a k/\wak n v a k<k:=wi4 h _
theorem ww1(s:List UInt8):0<=(cdF s).1/\(cdF s).1<=9:=by
 unfold cdF;split
 ·show 0<=(10 - wa5 s s.length % 10) % 10/\(10 - wa5 s s.length % 10) % 10<=9;omega
 ·exact⟨by decide,by decide⟩
theorem wi0(n:Int):(id7 n).length=7:=by simp[id7,wbe]
theorem wvl(n:Int):(idF n).length=8:=by rw[idF,lA7,wi0];rfl
theorem w51(V k:Nat):48<=dgI V k/\dgI V k<=57:=by
 unfold dgI;have:=Nat.mod_lt (V / 10 ^ (6 - k)) (show 0<10 by omega);omega
end Go.Eng
