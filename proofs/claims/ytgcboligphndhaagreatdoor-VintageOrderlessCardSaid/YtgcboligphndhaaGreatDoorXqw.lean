/- What is in a file. -/
import Derived.Test.YtgcboligphndhaaGreatDoorXqv
namespace Go.Eng
open Go.Proofs Go.RowKit
variable {C:Ctx} [C.Loose]
set_option maxRecDepth 20000
theorem wyw(s:List UInt8)(R:oR7):wpFn te [(72,.det wff)] [] 0 Tryz.f178 [.str s] [] R=((s.length<4294967281/\0<4294967281/\0<4294967281/\0<4294967281)/\R (.bool !decide (msgF (MG.mk s (0:Int) (0:Int) (VT.mk [] [] (0:Int) (0:Int) (0:Int) (0:Int) []) (DT.mk [] [] (0:Int) [] (0:Int)))=110)) []):=by kernel_rfl
theorem wyg(o p:List UInt8)(per u tv:Int)(R:oR7):wpFn te [(178,.det wlt),(160,.det web)] [] 0 Tryz.f145 [.agg [.str o,.str p,.q per,.q u,.q tv]] [] R=(letI z0:=R (.bool false) [];o.length<4294967281/\wad (wa8 o) (True/\wad (wbf p) (wad (decide ((0:Int)<=per)) (wad (decide (per<=5999)) (wad (decide ((1:Int)<=min u tv)) (R (.bool (decide (max u tv<=1099511627776))) []) z0) z0) z0) z0) z0):=by kernel_rfl
theorem nf_sv(g:Nat->RW)(n:Nat)(R:oR7):wpFn te [(145,.det wg9)] [(4,L_sv g n)] 0 Tryz.f105 [.view 5 n (wai g)] [] R=(wad (decide ((24000:Int)<(n:Int))) (R (.q 130) []) (some (St.mk [(8,.view 5 n (wai g)),(9,.q (n:Int)),(10,.q 0)] [] 0 [])=some (St.mk [(8,.view 5 n (wai g)),(9,.q (n:Int)),(10,.q (↑0:Int))] [] 0 [])/\n<=24000/\(∀(i:Nat),i<n->(g i).o.length<4294967281)/\wad (wdh g n) (R (.q 0) []) (R (.q 131) []))):=by kernel_rfl
theorem wyu(g:Nat->RW)(n k:Nat)(P:Nat->Prop)(R:eR7):wa0 ⟨te,[(145,.det wg9)],[],0,18,0⟩ (wa2 Tryz.f105 4) [8,9,10] [] [2] (S_sv g n) P R (S_sv g n k)=(letI z0:=(g (k:Int).toNat);wad (decide ((k:Int)<(n:Int))) (((0:Int)<=(k:Int)/\(k:Int)<(n:Int)/\5=5)/\z0.o.length<4294967281/\wad (!rowF (RW.mk z0.o z0.p z0.per z0.u z0.tv)) (R .ret (St.mk [(2,.q 131)] [] 0 [])) (inR .i64 ((k:Int)+1)/\∃(i':Nat),some (St.mk [(8,.view 5 n (wai g)),(9,.q (n:Int)),(10,.q ((k:Int)+1))] [] 0 [])=some (St.mk [(8,.view 5 n (wai g)),(9,.q (n:Int)),(10,.q (i':Int))] [] 0 [])/\P i')) (R (.exit 0) (St.mk [] [] 0 []))):=by kernel_rfl
theorem wze(n:Nat)(v:Nat->Int)(a:Int)(R:oR7):wpFn te [(42,.det wa7)] [] 0 Tryz.f80 [.ptr 0 0] [.cells [.view 1 n (wab v),.q a] 27] R=(letI z0:=vInt (wab v);(3<=16777216/\1=1/\3<=9223372036854775807)/\(27=27/\1=1/\wab v=wab z0/\((1:Int)<=3/\(3:Int)<=1000000)/\(0:Int)<=a/\a<=4611686018427387904)/\((0:Int)<=waa n z0 a (3:Int)/\waa n z0 a (3:Int)<(↑3:Int))/\((waa n z0 a (3:Int)).toNat<3/\1=1)/\R (.str (List.getD [[(111:UInt8),49],[(111:UInt8),50],[(112:UInt8)]] (waa n z0 a (3:Int)).toNat [])) [(0,.cells [.view 1 n (wab v),.q (a+1)] 27)]):=by kernel_rfl
theorem wys(n:Nat)(v:Nat->Int)(a:Int)(R:oR7):wpFn te [(42,.det wa7),(43,.det S_id)] [] 0 Tryz.f81 [.ptr 0 0] [.cells [.view 1 n (wab v),.q a] 27] R=((27=27/\1=1/\wab v=wab (vInt (wab v))/\((1:Int)<=4/\(4:Int)<=1000000)/\(0:Int)<=a/\a<=4611686018427387904)/\True/\R (.str (idF (waa n (vInt (wab v)) a (4:Int)))) [(0,.cells [.view 1 n (wab v),.q (a+1)] 27)]):=by kernel_rfl
theorem nf_trow(n:Nat)(v:Nat->Int)(a:Int)(R:oR7):wpFn te [(42,.det wa7),(80,.det wc5),(81,.det wc4)] [] 0 Tryz.f37 [.ptr 0 0] [.cells [.view 1 n (wab v),.q a] 27] R=(letI z3:=(a+1+1+1+1+1);letI z2:=4611686018427387904;letI z1:=(a+1+1+1+1);letI z0:=vInt (wab v);(27=27/\1=1/\wab v=wab z0/\((1:Int)<=20/\(20:Int)<=1000000)/\(0:Int)<=a/\a<=z2)/\inR .i64 ((1:Int)+waa n z0 a (20:Int))/\(27=27/\1=1/\wab v=wab z0/\(0:Int)<=a+1/\a+1<=4611686018427387000)/\(27=27/\1=1/\wab v=wab z0/\(0:Int)<=a+1+1/\a+1+1<=4611686018427387000)/\(27=27/\1=1/\wab v=wab z0/\((1:Int)<=4/\(4:Int)<=1000000)/\(0:Int)<=a+1+1+1/\a+1+1+1<=z2)/\inR .i64 ((1440:Int)+waa n z0 (a+1+1+1) (4:Int))/\(27=27/\1=1/\wab v=wab z0/\((1:Int)<=30/\(30:Int)<=1000000)/\(0:Int)<=a+1+1+1+1/\a+1+1+1+1<=z2)/\inR .i64 ((90:Int)+waa n z0 z1 (30:Int))/\inR .i64 (((1:Int)+waa n z0 a (20:Int)) * ((90:Int)+waa n z0 z1 (30:Int)))/\(27=27/\1=1/\wab v=wab z0/\((1:Int)<=3/\(3:Int)<=1000000)/\(0:Int)<=a+1+1+1+1+1/\a+1+1+1+1+1<=z2)/\inR .i64 (((1:Int)+waa n z0 a (20:Int)) * ((90:Int)+waa n z0 z1 (30:Int))+waa n z0 z3 (3:Int))/\(True/\True)/\R (.agg [.str (outF (waa n z0 (a+1) (3:Int))),.str (idF (waa n z0 (a+1+1) (4:Int))),.q ((1440:Int)+waa n z0 (a+1+1+1) (4:Int)),.q ((1:Int)+waa n z0 a (20:Int)),.q (((1:Int)+waa n z0 a (20:Int)) * ((90:Int)+waa n z0 z1 (30:Int))+waa n z0 z3 (3:Int))]) [(0,.cells [.view 1 n (wab v),.q (a+1+1+1+1+1+1)] 27)]):=by kernel_rfl
theorem wxh(hP:C.P=Tryz.prog)(hL:∀w,C.laid w->LaidW w):waf C 178 wlt:=by
 rintro args objs U Os vc h hvc;unfold wlt at h;split at h<;>cases h;rename_i s;refine waf.wp0 (prg hP) [(72,.det wff)] 0 (.cons (wpr hP hL) .nil) (hP ▸ Tryz.func178) rfl rfl rfl ?_;rw[wyw];refine⟨⟨hvc,by omega,by omega,by omega⟩,?_,rfl⟩;unfold msgF
 cases wa8 s<;>rfl
theorem wr0(hP:C.P=Tryz.prog)(hL:∀w,C.laid w->LaidW w):waf C 145 wg9:=by
 rintro args objs U Os vc h hvc;unfold wg9 at h;split at h<;>cases h;rename_i o p per u tv;refine waf.wp0 (prg hP) [(178,.det wlt),(160,.det web)] 0 (.cons (wxh hP hL) (.cons (wi6 hP (wht hP)) .nil)) (hP ▸ Tryz.func145) rfl rfl rfl ?_;rw[wyg];unfold rowF wby;dsimp only
 generalize wa8 o=b1,wbf p=b2,decide (0<=per)=b3,decide (per<=5999)=b4,decide (1<=min u tv)=b5,decide (max u tv<=1099511627776)=b6;refine⟨hvc,?_⟩
 cases b1
 ·exact⟨rfl,rfl⟩
 refine⟨trivial,?_⟩
 cases b2
 ·exact⟨rfl,rfl⟩
 cases b3
 ·exact⟨rfl,rfl⟩
 cases b4
 ·exact⟨rfl,rfl⟩
 cases b5<;>exact⟨rfl,rfl⟩
theorem wwf{g:Nat->RW}{k:Nat}(h:rowF (g k)=false):∀n,k<n->wdh g n=false
 |0,hn=>by omega
 |n+1,hn=>by
  rw[wdh]
  by_cases e:k=n
  ·subst e;rw[h,Bool.and_false]
  ·rw[wwf h n (by omega),Bool.false_and]
theorem sv_loop(hP:C.P=Tryz.prog)(hL:∀w,C.laid w->LaidW w)(g:Nat->RW)(n:Nat):waj C 0 18 (wam Tryz.f105 4) (L_sv g n):=by
 rintro st Q ⟨h0,hn,hs,hQ⟩;have hR:=wb3 hQ;refine waj.mk (prg hP) [(145,.det wg9)] 0 (.cons (wr0 hP hL) .nil) [8,9,10] [] [2] (S_sv g n) (λk=>k<=n/\wdh g k=true) (λk=>n - k) 0 ⟨zL7 _,rfl⟩ h0 (λk hk=>?_);obtain⟨hkn,hok⟩:=hk;rw[wyu,tN7];refine wak (λh1=>?_) (λh1=>?_)
 ·refine⟨⟨by omega,by omega,rfl⟩,hs k (by omega),wcw (λh2=>hR.2 (wwf h2 n (by omega))) (λh2=>⟨by simp only[inR];omega,k+1,rfl,⟨by omega,?_⟩,by omega⟩)⟩;rw[wdh,hok];exact h2
 ·have:k=n:=by omega
  subst this;exact hR.1 hok
theorem wsb(hP:C.P=Tryz.prog)(hL:∀w,C.laid w->LaidW w):waf C 105 wlq:=by
 rintro args objs U Os vc h hvc;unfold wlq at h;split at h<;>cases h;rename_i n f;obtain⟨hn,hf,hs⟩:=hvc;generalize rwOf f=g at *;subst hf;unfold svF;refine waf.wpL (prg hP) [(145,.det wg9)] [(4,L_sv g n)] 0 (.cons (wr0 hP hL) .nil) (hP ▸ Tryz.func105) rfl rfl rfl [(wam Tryz.f105 4,L_sv g n)] (by kernel_rfl) ⟨sv_loop hP hL g n,trivial⟩ ?_;rw[nf_sv];refine wak (λh1=>?_) (λh1=>⟨rfl,by omega,hs,waz (λh2=>?_) (λh2=>?_)⟩)
 ·rw[decide_eq_true (show 24000<n by omega)];exact⟨rfl,rfl⟩
 ·rw[decide_eq_false (show ¬ 24000<n by omega),h2];exact⟨rfl,rfl⟩
 ·rw[decide_eq_false (show ¬ 24000<n by omega),h2];exact⟨rfl,rfl⟩
theorem wgl(hP:C.P=Tryz.prog):waf C 80 wc5:=by
 rintro args objs U Os vc h hvc;unfold wc5 at h;split at h<;>cases h;rename_i sz n f a t;obtain⟨rfl,rfl,hf,h1,h2⟩:=hvc;rw[hf];generalize vInt f=v;have hw:vInt (wab v)=v:=rfl;refine waf.wp0 (prg hP) [(42,.det wa7)] 0 (.cons (wb0 hP) .nil) (hP ▸ Tryz.func80) rfl rfl rfl ?_;rw[wze];have r:=was (show (1:Int)<=3 by omega) n v a;exact⟨⟨by omega,rfl,by omega⟩,⟨rfl,rfl,rfl,⟨by omega,by omega⟩,by omega,by omega⟩,⟨r.1,r.2⟩,⟨by rw[hw];omega,rfl⟩,rfl,rfl⟩
theorem wgc(hP:C.P=Tryz.prog):waf C 81 wc4:=by
 rintro args objs U Os vc h hvc;unfold wc4 at h;split at h<;>cases h;rename_i sz n f a t;obtain⟨rfl,rfl,hf,h1,h2⟩:=hvc;rw[hf];generalize vInt f=v;have hw:vInt (wab v)=v:=rfl;refine waf.wp0 (prg hP) [(42,.det wa7),(43,.det S_id)] 0 (.cons (wb0 hP) (.cons (wka hP) .nil)) (hP ▸ Tryz.func81) rfl rfl rfl ?_;rw[wys];exact⟨⟨rfl,rfl,rfl,⟨by omega,by omega⟩,by omega,by omega⟩,trivial,rfl,rfl⟩
theorem wsw(n:Nat)(v:Nat->Int)(a:Int):1<=(rowV n v a).u/\(rowV n v a).u<=20/\90<=(rowV n v a).tv/\(rowV n v a).tv<=2382:=by
 have r1:=was (show (1:Int)<=20 by omega) n v a;have r2:=was (show (1:Int)<=30 by omega) n v (a+1+1+1+1);have r3:=was (show (1:Int)<=3 by omega) n v (a+1+1+1+1+1);have b1:(1+waa n v a 20) * (90+waa n v (a+1+1+1+1) 30)<=20 * 119:=Int.mul_le_mul (by omega) (by omega) (by omega) (by omega);have b2:1 * 90<=(1+waa n v a 20) * (90+waa n v (a+1+1+1+1) 30):=Int.mul_le_mul (by omega) (by omega) (by omega) (by omega);unfold rowV;dsimp only
 refine⟨by omega,by omega,?_,?_⟩<;>omega
theorem wh3:∀i,i<3->wa8 (List.getD [[111,49],[111,50],[112]] i [])=true/\(List.getD [[111,49],[111,50],[112]] i ([]:List UInt8)).length<=2:=by decide+kernel
theorem wpe(n:Nat)(v:Nat->Int)(a:Int):rowF (rowV n v a)=true/\(rowV n v a).o.length<=2:=by
 obtain⟨b1,b2,b3,b4⟩:=wsw n v a;have r1:=was (show (1:Int)<=3 by omega) n v (a+1);have r2:=was (show (1:Int)<=4 by omega) n v (a+1+1+1);have ho:=wh3 (waa n v (a+1) 3).toNat (by omega);refine⟨?_,ho.2⟩;unfold rowF wby;rw[show wa8 (rowV n v a).o=true from ho.1,show wbf (rowV n v a).p=true from wd3 _,decide_eq_true (show 0<=(rowV n v a).per by show 0<=1440+waa n v (a+1+1+1) 4;omega),decide_eq_true (show (rowV n v a).per<=5999 by show 1440+waa n v (a+1+1+1) 4<=5999;omega),
  decide_eq_true (show 1<=min (rowV n v a).u (rowV n v a).tv by omega),decide_eq_true (show max (rowV n v a).u (rowV n v a).tv<=1099511627776 by omega)]
 rfl
theorem wo4(hP:C.P=Tryz.prog):waf C 37 wfe:=by
 rintro args objs U Os vc h hvc;unfold wfe at h;split at h<;>cases h;rename_i sz n f a t;obtain⟨rfl,rfl,hf,h1,h2⟩:=hvc;rw[hf];generalize vInt f=v;have hw:vInt (wab v)=v:=rfl;refine waf.wp0 (prg hP) [(42,.det wa7),(80,.det wc5),(81,.det wc4)] 0 (.cons (wb0 hP) (.cons (wgl hP) (.cons (wgc hP) .nil))) (hP ▸ Tryz.func37) rfl rfl rfl ?_;rw[nf_trow,hw];have r1:=was (show (1:Int)<=20 by omega) n v a;have r2:=was (show (1:Int)<=30 by omega) n v (a+1+1+1+1);have r3:=was (show (1:Int)<=3 by omega) n v (a+1+1+1+1+1);have r4:=was (show (1:Int)<=4 by omega) n v (a+1+1+1);have b1:(1+waa n v a 20) * (90+waa n v (a+1+1+1+1) 30)<=20 * 119:=Int.mul_le_mul (by omega) (by omega) (by omega) (by omega);have b2:1 * 90<=(1+waa n v a 20) * (90+waa n v (a+1+1+1+1) 30):=Int.mul_le_mul (by omega) (by omega) (by omega) (by omega);exact⟨⟨rfl,rfl,rfl,⟨by omega,by omega⟩,by omega,by omega⟩,by simp only[inR];omega,⟨rfl,rfl,rfl,by omega,by omega⟩,⟨rfl,rfl,rfl,by omega,by omega⟩,⟨rfl,rfl,rfl,⟨by omega,by omega⟩,by omega,by omega⟩,by simp only[inR];omega,⟨rfl,rfl,rfl,⟨by omega,by omega⟩,by omega,by omega⟩,by simp only[inR];omega,by simp only[inR];omega,⟨rfl,rfl,rfl,⟨by omega,by omega⟩,by omega,by omega⟩,by simp only[inR];omega,⟨trivial,trivial⟩,rfl,rfl⟩
theorem wgp{α:Type}(g:Nat->α)(n:Nat):lst g (n+1)=lst g n++[g n]:=by simp[lst,List.range_succ]
theorem wp5{α:Type}{g:Nat->α}{L:List α}{n:Nat}(h:lst g n=L)(d:α):n=L.length/\∀i,i<n->g i=L.getD i d:=by
 subst h;refine⟨by simp[lst],λi hi=>?_⟩;simp[lst,hi]
theorem wy7(x:Int)(R:oR7):wpFn te [] [] 0 Tryz.f180 [.q x] [] R=(wad (decide ((0:Int)<=x)) (R (.bool (decide (x<=1099511627776))) []) (R (.bool false) [])):=by kernel_rfl
theorem nf_tarV(st:Int)(bs:List BK)(R:oR7):letI z3:=R (.q 141) [];letI z2:=wa1 (atB bs);letI z0:=bs.length;letI z1:=([(0,.cells [.q st,.view 2 z0 z2] 95)]:oL7);wpFn te [(180,.det whb)] [(7,L_tv st bs)] 0 Tryz.f151 [.agg [.q st,.view 2 bs.length z2]] [] R=(True/\wad (!(decide ((0:Int)<=st) && decide (st<=1099511627776))) (R (.q 140) []) (wad (decide ((z0:Int)<1)) z3 (wad (decide ((8:Int)<(z0:Int))) z3 (some (St.mk [(1,.ptr 0 0),(3,.q 0),(22,.view 2 z0 z2),(23,.q (z0:Int)),(24,.q 0)] z1 1 [])=some (St.mk [(1,.ptr 0 0),(3,.q (lowB bs 0)),(22,.view 2 z0 z2),(23,.q (z0:Int)),(24,.q (↑0:Int))] z1 1 [])/\bs.length<=8/\wad (bksB bs z0) (R (.q 0) []) z3)))):=by kernel_rfl
theorem wyi(st:Int)(bs:List BK)(k:Nat)(P:Nat->Prop)(R:eR7):wa0 ⟨te,[(180,.det whb)],[],0,65,0⟩ (wa2 Tryz.f151 7) [1,3,22,23,24] [] [2] (S_tv st bs) P R (S_tv st bs k)=(letI z6:=bs.length;letI z5:=([(0,.cells [.q st,.view 2 z6 (wa1 (atB bs))] 95)]:oL7);letI z4:=R .ret (St.mk [(2,.q 141)] [] 0 []);letI z3:=(z6:Int);letI z2:=(atB bs (k:Int).toNat);letI z0:=(inR .i64 ((k:Int)+1)/\∃(i':Nat),some (St.mk [(1,.ptr 0 0),(3,.q z2.up),(22,.view 2 z6 (wa1 (atB bs))),(23,.q z3),(24,.q ((k:Int)+1))] z5 1 [])=some (St.mk [(1,.ptr 0 0),(3,.q (lowB bs i')),(22,.view 2 z6 (wa1 (atB bs))),(23,.q z3),(24,.q (i':Int))] z5 1 [])/\P i');letI z1:=(wad (!decide ((k:Int)=z3 - (1:Int))) (wad (decide (z2.up<=lowB bs k)) z4 (wad (decide ((1099511627776:Int)<z2.up)) z4 z0)) z0);wad (decide ((k:Int)<z3)) (((0:Int)<=(k:Int)/\(k:Int)<z3/\2=2)/\inR .i64 (z3 - (1:Int))/\True/\wad (!(decide ((0:Int)<=z2.pr) && decide (z2.pr<=1099511627776))) z4 (wad (decide ((k:Int)=z3 - (1:Int))) (wad (!decide (z2.up=0)) z4 z1) z1)) (R (.exit 0) (St.mk [] [] 0 []))):=by kernel_rfl
theorem wyx(o p:List UInt8)(per:Int)(R:oR7):wpFn te [(105,.det wlp)] [] 0 Tryz.f150 [.str o,.str p,.q per] [] R=(letI z0:=waq (TI.sz wdn) (.str o:: .str p:: .q per:: .q 1:: .q 1::List.append [] wfs);(5<=16777216/\5=5/\1<=9223372036854775807)/\(∀(i:Nat),i<1->nrefL (waq (TI.sz wdn) (.str o:: .str p:: .q per:: .q 1:: .q 1::List.append [] wfs) i)=true)/\(1=1/\1<=1000000/\(∀(i:Nat),i<1->waq (TI.sz wdn) (.str o:: .str p:: .q per:: .q 1:: .q 1::List.append [] wfs) i=[.str (rwOf z0 i).o,.str (rwOf z0 i).p,.q (rwOf z0 i).per,.q (rwOf z0 i).u,.q (rwOf z0 i).tv])/\∀(i:Nat),i<1->(rwOf z0 i).o.length<4294967281)/\R (.bool (decide (svF (rwOf z0) 1=0))) []):=by kernel_rfl
theorem wy2(t:RT)(R:oR7):wpFn te [(150,.det wed),(151,.det wlo)] [] 0 Tryz.f108 [.agg [.str t.o,.str t.p,.q t.per,.q t.st,.view 2 t.bs.length (wa1 (atB t.bs))]] [] R=(letI z0:=lst (bkOf (wa1 (atB t.bs))) t.bs.length;t.o.length<4294967281/\wad (wby t.o t.p t.per) (wa1 (atB t.bs)=wa1 (atB z0)/\R (.bool (decide (tfF t.st z0=0))) []) (R (.bool false) [])):=by kernel_rfl
theorem wg4{bs:List BK}{i:Nat}:bkOK bs i=true↔0<=(atB bs i).pr/\(atB bs i).pr<=1099511627776/\(i+1=bs.length->(atB bs i).up=0)/\(¬ i+1=bs.length->lowB bs i<(atB bs i).up/\(atB bs i).up<=1099511627776):=by
 unfold bkOK
 by_cases h:i+1=bs.length
 ·rw[decide_eq_true h];simp[h]
 ·rw[decide_eq_false h];simp[h]
theorem wv2{bs:List BK}{k:Nat}(e:bksB bs (k+1)=false):∀n,k<n->bksB bs n=false
 |0,hn=>by omega
 |n+1,hn=>by
  by_cases q:k=n
  ·subst q;exact e
  ·rw[bksB,wv2 e n (by omega),Bool.false_and]
theorem ws5(hP:C.P=Tryz.prog):waf C 180 whb:=by
 have _:C.Loose:=inferInstance;rintro args objs U Os vc h hvc;unfold whb at h;split at h<;>cases h;rename_i n;refine waf.wp0 (prg hP) [] 0 .nil (hP ▸ Tryz.func180) rfl rfl rfl ?_;rw[wy7];exact wak (λh=>by rw[decide_eq_true h];exact⟨rfl,rfl⟩) (λh=>by rw[decide_eq_false h];exact⟨rfl,rfl⟩)
theorem tv_loop(hP:C.P=Tryz.prog)(st:Int)(bs:List BK):waj C 0 65 (wam Tryz.f151 7) (L_tv st bs):=by
 rintro s Q ⟨h0,hn,hQ⟩;have hR:=wb3 hQ;refine waj.mk (prg hP) [(180,.det whb)] 0 (.cons (ws5 hP) .nil) [1,3,22,23,24] [] [2] (S_tv st bs) (λk=>k<=bs.length/\bksB bs k=true) (λk=>bs.length - k) 0 ⟨zL7 _,rfl⟩ h0 (λk hk=>?_);obtain⟨hkn,hok⟩:=hk;rw[wyi,tN7];refine wak (λh1=>?_) (λh1=>?_)
 ·have hlt:k<bs.length:=by omega
  have bad:bkOK bs k=false->Q .ret ⟨[(2,.q 141)],[],0,[]⟩:=λh=>hR.2 (wv2 (k:=k) (by rw[bksB,h,Bool.and_false]) _ hlt);have bad':¬ bkOK bs k=true->Q .ret ⟨[(2,.q 141)],[],0,[]⟩:=λh=>bad (by cases q:bkOK bs k with
   |true=>exact absurd q h
   |false=>rfl)
  have next:bkOK bs k=true->inR .i64 ((k:Int)+1)/\∃i':Nat,some (St.mk [(1,.ptr 0 0),(3,.q (atB bs k).up),(22,.view 2 bs.length (wa1 (atB bs))),(23,.q (bs.length:Int)),(24,.q ((k:Int)+1))] [(0,.cells [.q st,.view 2 bs.length (wa1 (atB bs))] 95)] 1 [])=
    some (St.mk [(1,.ptr 0 0),(3,.q (lowB bs i')),(22,.view 2 bs.length (wa1 (atB bs))),(23,.q (bs.length:Int)),(24,.q (i':Int))] [(0,.cells [.q st,.view 2 bs.length (wa1 (atB bs))] 95)] 1 [])/\(i'<=bs.length/\bksB bs i'=true)/\bs.length - i'<bs.length - k:=
   λh=>⟨by simp only[inR];omega,k+1,rfl,⟨by omega,by rw[bksB,hok,h];rfl⟩,by omega⟩
  refine⟨⟨by omega,by omega,rfl⟩,by simp only[inR];omega,trivial,wcw (λh2=>bad' (λh=>?_)) (λh2=>?_)⟩
  ·rw[Bool.and_eq_false_iff,decide_eq_false_iff_not,decide_eq_false_iff_not] at h2;have:=wg4.1 h;omega
  ·rw[bA7,decide_eq_true_eq,decide_eq_true_eq] at h2
   refine wak (λh3=>wb7 (λh4=>bad' (λh=>h4 ((wg4.1 h).2.2.1 (by omega)))) (λh4=>wb7 (λh5=>absurd h3 h5) (λ_=>next (wg4.2 ⟨h2.1,h2.2,λ_=>h4,λh=>absurd (by omega) h⟩))))
    (λh3=>wb7 (λ_=>wak (λh4=>bad' (λh=>by have:=(wg4.1 h).2.2.2 (by omega);omega)) (λh4=>wak (λh5=>bad' (λh=>by have:=(wg4.1 h).2.2.2 (by omega);omega)) (λh5=>next (wg4.2 ⟨h2.1,h2.2,λh=>absurd h (by omega),λ_=>⟨by omega,by omega⟩⟩)))) (λh5=>absurd h5 h3))
 ·have:k=bs.length:=by omega
  subst this;exact hR.1 hok
theorem tarV_ok(hP:C.P=Tryz.prog):waf C 151 wlo:=by
 rintro args objs U Os vc h hvc;unfold wlo at h;split at h<;>cases h;rename_i st n f;have hl:(lst (bkOf f) n).length=n:=by simp[lst]
 generalize lst (bkOf f) n=bs at *;subst hl;subst hvc;refine waf.wpL (prg hP) [(180,.det whb)] [(7,L_tv st bs)] 0 (.cons (ws5 hP) .nil) (hP ▸ Tryz.func151) rfl rfl rfl [(wam Tryz.f151 7,L_tv st bs)] (by kernel_rfl) ⟨tv_loop hP st bs,trivial⟩ ?_;rw[nf_tarV];unfold tfF;refine⟨trivial,wcw (λh=>by rw[h];exact⟨rfl,rfl⟩) (λh=>?_)⟩;rw[h];refine wak (λh1=>?_) (λh1=>wak (λh2=>?_) (λh2=>⟨rfl,by omega,?_⟩))
 ·rw[decide_eq_true (show bs.length<1 by omega)];exact⟨rfl,rfl⟩
 ·rw[decide_eq_true (show 8<bs.length by omega),Bool.or_true];exact⟨rfl,rfl⟩
 ·rw[decide_eq_false (show ¬ bs.length<1 by omega),decide_eq_false (show ¬ 8<bs.length by omega)];exact waz (λq=>by rw[q];exact⟨rfl,rfl⟩) (λq=>by rw[q];exact⟨rfl,rfl⟩)
theorem wxa(hP:C.P=Tryz.prog)(hL:∀w,C.laid w->LaidW w):waf C 105 wlp:=by
 rintro args objs U Os vc h hvc;unfold wlp at h;split at h<;>cases h;rename_i n t m f fr;obtain⟨rfl,hn,hf,hs⟩:=hvc;refine wan.rowEq 0 (f':=wai (rwOf f)) rfl (λi hi=>(hf i hi).symm) ?_;have hb:Nat.ble n n=true:=Nat.ble_eq_true_of_le (lR7 _);exact ADet.give (wsb hP hL [.view 5 n (wai (rwOf f))] [] _ _ _ rfl ⟨hn,rfl,hs⟩) (by simp[frzC,frzA,frz,hb]) rfl rfl (λ_ _=>rfl)
theorem svF_one(o p:List UInt8)(per:Int)(g:Nat->RW)(h:g 0=⟨o,p,per,1,1⟩):decide (svF g 1=0)=wby o p per:=by
 unfold svF;rw[decide_eq_false (show ¬ 24000<1 by omega)];simp only[cond_false,wdh,Bool.true_and,h,rowF]
 cases wby o p per<;>rfl
theorem wxi(hP:C.P=Tryz.prog)(hL:∀w,C.laid w->LaidW w):waf C 150 wed:=by
 rintro args objs U Os vc h hvc;unfold wed at h;split at h<;>cases h;rename_i o p per;refine waf.wp0 (prg hP) [(105,.det wlp)] 0 (.cons (wxa hP hL) .nil) (hP ▸ Tryz.func150) rfl rfl rfl ?_;rw[wyx];have one:∀ {p:Nat->Prop},p 0->∀i,i<1->p i:=λh0 i hi=>by
  match i,hi with
  |0,_=>exact h0
 refine⟨⟨by omega,rfl,by omega⟩,one rfl,⟨rfl,by omega,one rfl,one hvc⟩,?_⟩;rw[svF_one o p per _ rfl];exact⟨rfl,rfl⟩
theorem wxt(hP:C.P=Tryz.prog)(hL:∀w,C.laid w->LaidW w):waf C 108 wlx:=by
 rintro args objs U Os vc h hvc;unfold wlx at h;split at h<;>cases h;rename_i o p per st n f;obtain⟨ho,hf⟩:=hvc;have hl:(lst (bkOf f) n).length=n:=by simp[lst]
 generalize hb:lst (bkOf f) n=bs at *;subst hl;subst hf;have hn:=wy2 ⟨o,p,per,st,bs⟩;dsimp only at hn;refine waf.wp0 (prg hP) [(150,.det wed),(151,.det wlo)] 0 (.cons (wxi hP hL) (.cons (tarV_ok hP) .nil)) (hP ▸ Tryz.func108) rfl rfl rfl ?_;rw[hn,wk4];unfold rtOK;exact⟨ho,waz (λq=>⟨rfl,by rw[q];exact⟨rfl,rfl⟩⟩) (λq=>by rw[q];exact⟨rfl,rfl⟩)⟩
def keyK(p:List UInt8×Int):AV:=.agg [.str p.1,.q p.2]
theorem wf0(a b:List UInt8×Int):keq (keyK a) (keyK b)=(decide (a.1=b.1) && decide (a.2=b.2)):=by simp[keyK,keq,keqL,keq0]
theorem wsm(p:List UInt8×Int):(decide (p.1=p.1) && decide (p.2=p.2))=true:=by simp
theorem wf4(σ:Nat->Option Nat)(L:List ((List UInt8×Int)×Int)):(entM L).map (λp=>(AV.rn σ p.1,AV.rn σ p.2))=entM L:=by
 unfold entM;rw[List.map_map];rfl
theorem w2q{L:List ((List UInt8×Int)×Int)}(h:(L.map Prod.fst).Nodup):wcz te 83 (entM L):=by
 refine⟨List.all_eq_true.2 λp hp=>?_,?_⟩
 ·obtain⟨r,_,rfl⟩:=List.mem_map.1 hp;have:∀(a:List UInt8) (b:Int),keyA te 83 (.agg [.str a,.q b])=true:=λa b=>by kernel_rfl
  exact this _ _
 ·have:(entM L).map Prod.fst=(L.map Prod.fst).map keyK:=by simp[entM,keyK]
  rw[this];refine List.pairwise_map.2 (h.imp λ{a b} hab he=>hab ?_);have q:=wf0 a b;rw[he,wf0,wsm] at q;exact wgg.1 q.symm
theorem wpw(p:List UInt8×Int):∀L:List ((List UInt8×Int)×Int),Option.getD (mget (entM L) (keyK p)) (.q 0)= .q (getC L p)
 |[]=>rfl
 |x::l=>by
  rw[getC];show Option.getD (match keq (keyK x.1) (keyK p) with | true=>some (.q x.2) | false=>mget (entM l) (keyK p)) _=_
  rw[wf0]
  cases decide (x.1.1=p.1) && decide (x.1.2=p.2) with
  |true=>rfl
  |false=>exact wpw p l
theorem ment_K(p:List UInt8×Int):∀L:List ((List UInt8×Int)×Int),
  Option.getD (mget (ment (.q 0) (entM L) (keyK p)) (keyK p)) (.q 0)= .q (getC L p)/\midx (entM L) (keyK p)<(ment (.q 0) (entM L) (keyK p)).length/\
  (ment (.q 0) (entM L) (keyK p)).set (midx (entM L) (keyK p)) (((ment (.q 0) (entM L) (keyK p)).getD (midx (entM L) (keyK p)) (.any,.any)).1,.q (getC L p+1))=entM (addC L p)
 |[]=>by
  refine⟨?_,Nat.zero_lt_one,rfl⟩;show Option.getD (match keq (keyK p) (keyK p) with | true=>some (AV.q 0) | false=>none) _=_
  rw[wf0,wsm];rfl
 |x::l=>by
  obtain⟨i1,i2,i3⟩:=ment_K p l;have e1:ment (.q 0) (entM (x::l)) (keyK p)=match keq (keyK x.1) (keyK p) with | true=>(keyK x.1,AV.q x.2)::entM l | false=>(keyK x.1,AV.q x.2)::ment (.q 0) (entM l) (keyK p):=rfl
  have e2:midx (entM (x::l)) (keyK p)=match keq (keyK x.1) (keyK p) with | true=>0 | false=>midx (entM l) (keyK p)+1:=rfl
  rw[e1,e2,getC,addC,wf0]
  cases h:decide (x.1.1=p.1) && decide (x.1.2=p.2) with
  |true=>
   have e:=wgg.1 h;refine⟨?_,Nat.succ_pos _,?_⟩
   ·show Option.getD (match keq (keyK x.1) (keyK p) with | true=>some (AV.q x.2) | false=>mget (entM l) (keyK p)) _=_
    rw[wf0,h];rfl
   ·show (keyK x.1,AV.q (x.2+1))::entM l=(keyK p,AV.q (x.2+1))::entM l;rw[e]
  |false=>
   refine⟨?_,Nat.succ_lt_succ i2,?_⟩
   ·show Option.getD (match keq (keyK x.1) (keyK p) with | true=>some (AV.q x.2) | false=>mget (ment (.q 0) (entM l) (keyK p)) (keyK p)) _=_
    rw[wf0,h];exact i1
   ·show (keyK x.1,AV.q x.2)::(ment (.q 0) (entM l) (keyK p)).set (midx (entM l) (keyK p)) (((ment (.q 0) (entM l) (keyK p)).getD (midx (entM l) (keyK p)) (.any,.any)).1,.q (getC l p+1))=(keyK x.1,AV.q x.2)::entM (addC l p);rw[i3]
theorem nf_k1(m:MG)(R:oR7):wpFn te [(72,.det wff)] [] 0 Tryz.f125 [.agg [.str m.dev,.q m.seq,.q m.kind,.str m.v.o,.str m.v.p,.q m.v.per,.q m.v.day,.q m.v.st,.q m.v.pr,.str m.v.rep,.str m.d.o,.str m.d.p,.q m.d.per,.str m.d.dev,.q m.d.num]] [] R=((m.dev.length<4294967281/\m.v.o.length<4294967281/\m.d.o.length<4294967281/\m.d.dev.length<4294967281)/\R (.bool !decide (msgF (MG.mk m.dev m.seq m.kind (VT.mk m.v.o m.v.p m.v.per m.v.day m.v.st m.v.pr m.v.rep) (DT.mk m.d.o m.d.p m.d.per m.d.dev m.d.num))=0)) []):=by kernel_rfl
theorem nf_k2(t:RT)(R:oR7):wpFn te [(108,.det wlx)] [] 0 Tryz.f127 [.agg [.str t.o,.str t.p,.q t.per,.q t.st,.view 2 t.bs.length (wa1 (atB t.bs))]] [] R=(letI z0:=lst (bkOf (wa1 (atB t.bs))) t.bs.length;(t.o.length<4294967281/\wa1 (atB t.bs)=wa1 (atB z0))/\R (.bool !rtOK (RT.mk t.o t.p t.per t.st z0)) []):=by kernel_rfl
theorem nf_ik1(g:Nat->MG)(n:Nat)(R:oR7):wpFn te [(125,.det S_k1)] [(2,wok g n)] 0 Tryz.f70 [.view 15 n (wag g),.func 125 []] [] R=(some (St.mk [(0,.view 15 n (wag g)),(1,.func 125 []),(7,.q (n:Int)),(8,.q 0)] [] 0 [])=some (St.mk [(0,.view 15 n (wag g)),(1,.func 125 []),(7,.q (n:Int)),(8,.q (↑0:Int))] [] 0 [])/\n<=1000000/\(∀(i:Nat),i<n->MG.Sm (g i))/\wad (decide (fstB (λ(i:Nat)=>badM (g i)) n<n)) (R (.q (↑(fstB (λ(i:Nat)=>badM (g i)) n):Int)) []) (R (.q (-1:Int)) [])):=by kernel_rfl
theorem wz1(g:Nat->MG)(n k:Nat)(P:Nat->Prop)(R:eR7):wa0 ⟨te,[(125,.det S_k1)],[],0,19,0⟩ (wa2 Tryz.f70 2) [0,1,7,8] [] [4] (wmp g n) P R (wmp g n k)=(letI z0:=(g (k:Int).toNat);wad (decide ((k:Int)<(n:Int))) (((0:Int)<=(k:Int)/\(k:Int)<(n:Int)/\15=15)/\(z0.dev.length<4294967281/\z0.v.o.length<4294967281/\z0.d.o.length<4294967281/\z0.d.dev.length<4294967281)/\wad (badM (MG.mk z0.dev z0.seq z0.kind (VT.mk z0.v.o z0.v.p z0.v.per z0.v.day z0.v.st z0.v.pr z0.v.rep) (DT.mk z0.d.o z0.d.p z0.d.per z0.d.dev z0.d.num))) (R .ret (St.mk [(4,.q (k:Int))] [] 0 [])) (inR .i64 ((k:Int)+1)/\∃(i':Nat),some (St.mk [(0,.view 15 n (wag g)),(1,.func 125 []),(7,.q (n:Int)),(8,.q ((k:Int)+1))] [] 0 [])=some (St.mk [(0,.view 15 n (wag g)),(1,.func 125 []),(7,.q (n:Int)),(8,.q (i':Int))] [] 0 [])/\P i')) (R (.exit 0) (St.mk [] [] 0 []))):=by kernel_rfl
theorem nf_ck1(g:Nat->MG)(n:Nat)(R:oR7):wpFn te [(70,.det wmr)] [] 0 Tryz.f68 [.view 15 n (wag g),.func 125 []] [] R=((n<=1000000/\wag g=wag (mgOf (wag g))/\∀(i:Nat),i<n->MG.Sm (mgOf (wag g) i))/\R (.bool (decide ((0:Int)<=ixB (λ(i:Nat)=>badM (mgOf (wag g) i)) n))) []):=by kernel_rfl
theorem nf_ik2(g:Nat->RT)(n:Nat)(R:oR7):wpFn te [(127,.det S_k2)] [(2,woj g n)] 0 Tryz.f161 [.view 5 n (wah g),.func 127 []] [] R=(some (St.mk [(0,.view 5 n (wah g)),(1,.func 127 []),(7,.q (n:Int)),(8,.q 0)] [] 0 [])=some (St.mk [(0,.view 5 n (wah g)),(1,.func 127 []),(7,.q (n:Int)),(8,.q (↑0:Int))] [] 0 [])/\n<=1000000/\(∀(i:Nat),i<n->RT.Sm (g i))/\wad (decide (fstB (λ(i:Nat)=>badT (g i)) n<n)) (R (.q (↑(fstB (λ(i:Nat)=>badT (g i)) n):Int)) []) (R (.q (-1:Int)) [])):=by kernel_rfl
theorem wz0(g:Nat->RT)(n k:Nat)(P:Nat->Prop)(R:eR7):wa0 ⟨te,[(127,.det S_k2)],[],0,19,0⟩ (wa2 Tryz.f161 2) [0,1,7,8] [] [4] (wmo g n) P R (wmo g n k)=(letI z0:=(g (k:Int).toNat);letI z1:=lst (bkOf (wa1 (atB z0.bs))) z0.bs.length;wad (decide ((k:Int)<(n:Int))) (((0:Int)<=(k:Int)/\(k:Int)<(n:Int)/\5=5)/\(z0.o.length<4294967281/\wa1 (atB z0.bs)=wa1 (atB z1))/\wad (badT (RT.mk z0.o z0.p z0.per z0.st z1)) (R .ret (St.mk [(4,.q (k:Int))] [] 0 [])) (inR .i64 ((k:Int)+1)/\∃(i':Nat),some (St.mk [(0,.view 5 n (wah g)),(1,.func 127 []),(7,.q (n:Int)),(8,.q ((k:Int)+1))] [] 0 [])=some (St.mk [(0,.view 5 n (wah g)),(1,.func 127 []),(7,.q (n:Int)),(8,.q (i':Int))] [] 0 [])/\P i')) (R (.exit 0) (St.mk [] [] 0 []))):=by kernel_rfl
theorem nf_ck2(g:Nat->RT)(n:Nat)(R:oR7):wpFn te [(161,.det wmq)] [] 0 Tryz.f126 [.view 5 n (wah g),.func 127 []] [] R=((n<=1000000/\wah g=wah (rtOf (wah g))/\∀(i:Nat),i<n->RT.Sm (rtOf (wah g) i))/\R (.bool (decide ((0:Int)<=ixB (λ(i:Nat)=>badT (rtOf (wah g) i)) n))) []):=by kernel_rfl
theorem w0e(F:FL)(R:oR7):wpFn te [(68,.det wm8),(126,.det wm7),(105,.det wlq)] [] 0 Tryz.f74 [.agg [.str F.id,.q F.ver,.q F.day,.q F.kind,.view 15 F.ms.length (wag (atM F.ms)),.view 5 F.rs.length (wai (atR F.rs)),.view 5 F.ts.length (wah (atT F.ts))]] [] R=(letI z6:=wah (atT F.ts);letI z5:=wai (atR F.rs);letI z4:=wag (atM F.ms);letI z3:=R (.bool false) [];letI z2:=(F.ms.length:Int);letI z1:=(F.ts.length:Int);letI z0:=(F.rs.length:Int);wad (decide (F.kind=1)) (inR .i64 (z0+z1)/\wad (decide (z0+z1=0)) (wad (decide (z2<=400)) ((F.ms.length<=1000000/\wag (atM F.ms)=wag (mgOf z4)/\∀(i:Nat),i<F.ms.length->MG.Sm (mgOf z4 i))/\R (.bool !decide ((0:Int)<=ixB (λ(i:Nat)=>badM (mgOf z4 i)) F.ms.length)) []) z3) z3) (wad (decide (F.kind=2)) (inR .i64 (z2+z1)/\wad (decide (z2+z1=0)) (wad (decide (z0<=400)) ((F.rs.length<=1000000/\wai (atR F.rs)=wai (rwOf z5)/\∀(i:Nat),i<F.rs.length->(rwOf z5 i).o.length<4294967281)/\R (.bool (decide (svF (rwOf z5) F.rs.length=0))) []) z3) z3) (inR .i64 (z2+z0)/\wad (decide (z2+z0=0)) (wad (decide (z1<=400)) ((F.ts.length<=1000000/\wah (atT F.ts)=wah (rtOf z6)/\∀(i:Nat),i<F.ts.length->RT.Sm (rtOf z6 i))/\R (.bool !decide ((0:Int)<=ixB (λ(i:Nat)=>badT (rtOf z6 i)) F.ts.length)) []) z3) z3))):=by kernel_rfl
theorem nf_vin(F:FL)(R:oR7):wpFn te [(72,.det wff),(73,.det wg8),(74,.det wm3)] [] 0 Tryz.f29 [.agg [.str F.id,.q F.ver,.q F.day,.q F.kind,.view 15 F.ms.length (wag (atM F.ms)),.view 5 F.rs.length (wai (atR F.rs)),.view 5 F.ts.length (wah (atT F.ts))]] [] R=(letI z2:=R (.q 151) [];letI z1:=flV F.id F.ver F.day F.kind F.ms.length (wag (atM F.ms)) F.rs.length (wai (atR F.rs)) F.ts.length (wah (atT F.ts));letI z0:=(True/\wad (decide ((bif decide ((0:Int)<=F.day) && decide (F.day<=182620) then FL.day F % (7:Int) else (-1:Int))<0)) (R (.q 152) []) (wad (decide (F.kind<1)) (R (.q 153) []) (wad (decide ((3:Int)<F.kind)) (R (.q 153) []) ((FlC F.ms.length (wag (atM F.ms)) F.rs.length (wai (atR F.rs)) F.ts.length (wah (atT F.ts))/\FL.Sm z1)/\wad (!ctF z1) (R (.q 154) []) (R (.q 0) [])))));(F.id.length<4294967281/\0<4294967281/\0<4294967281/\0<4294967281)/\wad (decide (msgF (MG.mk F.id (0:Int) (0:Int) (VT.mk [] [] (0:Int) (0:Int) (0:Int) (0:Int) []) (DT.mk [] [] (0:Int) [] (0:Int)))=110)) (R (.q 150) []) (wad (decide (F.ver<1)) z2 (wad (decide ((1000:Int)<F.ver)) z2 (wad (decide (F.kind=1)) (wad (!decide (F.ver=1)) z2 z0) z0)))):=by kernel_rfl
theorem ix_any{q:Nat->Bool}:∀n,decide (0<=ixB q n)=(List.range n).any q:=by
 intro n;unfold ixB;obtain⟨h1,h2⟩:=wih q n;have hle:=wgu q n
 by_cases h:fstB q n<n
 ·rw[decide_eq_true h];have:(List.range n).any q=true:=List.any_eq_true.2 ⟨_,List.mem_range.2 h,h2 h⟩;rw[this,decide_eq_true];show (0:Int)<=(fstB q n:Int);omega
 ·rw[decide_eq_false h];have:(List.range n).any q=false:=List.any_eq_false.2 λj hj=>by
   rw[h1 j (by have:=List.mem_range.1 hj;omega)];exact Bool.false_ne_true
  rw[this];exact decide_eq_false (show ¬ (0:Int)<= -1 by decide)
theorem ix_all{α:Type}(ok:α->Bool)(L:List α)(d:α):decide (0<=ixB (λi=> !ok (L.getD i d)) L.length)= !L.all ok:=by
 rw[ix_any];have e:L=(List.range L.length).map λi=>L.getD i d:=(wdz L d).symm;have:L.all ok=(List.range L.length).all λi=>ok (L.getD i d):=by
  conv=>lhs;rw[e]
  rw[List.all_map];rfl
 rw[this,List.any_eq_not_all_not];simp
theorem atT_sm{F:FL}(h:F.Sm){i:Nat}(hi:i<F.ts.length):(atT F.ts i).Sm:=h.t.2 _ (wwb hi)
theorem atM_sm{F:FL}(h:F.Sm){i:Nat}(hi:i<F.ms.length):(atM F.ms i).Sm:=h.m.2 _ (wwc hi)
theorem atR_sm{F:FL}(h:F.Sm){i:Nat}(hi:i<F.rs.length):(atR F.rs i).o.length<4294967281:=h.r.2 _ (by unfold atR;simp[List.getD,hi])
theorem k1_ok(hP:C.P=Tryz.prog)(hL:∀w,C.laid w->LaidW w):waf C 125 S_k1:=by
 rintro args objs U Os vc h hvc;unfold S_k1 at h;split at h<;>simp only[sI7,pI7,reduceCtorEq] at h;rename_i dev seq kind o p per day st pr rep o' p' per' dev' num;obtain⟨rfl,rfl,rfl⟩:=h;have hn:=nf_k1 ⟨dev,seq,kind,⟨o,p,per,day,st,pr,rep⟩,⟨o',p',per',dev',num⟩⟩;dsimp only at hn;refine waf.wp0 (prg hP) [(72,.det wff)] 0 (.cons (wpr hP hL) .nil) (hP ▸ Tryz.func125) rfl rfl rfl ?_;rw[hn];exact⟨hvc,rfl,rfl⟩
theorem k2_ok(hP:C.P=Tryz.prog)(hL:∀w,C.laid w->LaidW w):waf C 127 S_k2:=by
 rintro args objs U Os vc h hvc;unfold S_k2 at h;split at h<;>cases h;rename_i o p per st n f;obtain⟨ho,hf⟩:=hvc;have hl:(lst (bkOf f) n).length=n:=by simp[lst]
 generalize hb:lst (bkOf f) n=bs at *;subst hl;subst hf;have hn:=nf_k2 ⟨o,p,per,st,bs⟩;dsimp only at hn;refine waf.wp0 (prg hP) [(108,.det wlx)] 0 (.cons (wxt hP hL) .nil) (hP ▸ Tryz.func127) rfl rfl rfl ?_;rw[hn,wk4];exact⟨⟨ho,rfl⟩,rfl,rfl⟩
theorem w18(hP:C.P=Tryz.prog)(hL:∀w,C.laid w->LaidW w)(g:Nat->MG)(n:Nat):waj C 0 19 (wam Tryz.f70 2) (wok g n):=by
 rintro st Q ⟨h0,hn,hs,hQ⟩;have hR:=wb3 hQ;refine waj.mk (prg hP) [(125,.det S_k1)] 0 (.cons (k1_ok hP hL) .nil) [0,1,7,8] [] [4] (wmp g n) (λk=>k<=n/\fstB (λi=>badM (g i)) k=k) (λk=>n - k) 0 ⟨zL7 _,rfl⟩ h0 (λk hk=>?_);obtain⟨hkn,hok⟩:=hk;rw[wz1,tN7];refine wak (λh1=>?_) (λh1=>?_)
 ·have hlt:k<n:=by omega
  refine⟨⟨by omega,by omega,rfl⟩,⟨(hs k hlt).1,(hs k hlt).2,(hs k hlt).3,(hs k hlt).4⟩,waz (λh2=>?_) (λh2=>⟨by simp only[inR];omega,k+1,rfl,⟨by omega,wgt hok h2⟩,by omega⟩)⟩;have e:=wgv hok h2 n (by omega);have:=hR.1 (by rw[e,decide_eq_true];omega);rw[e] at this;exact this
 ·have:k=n:=by omega
  subst this;exact hR.2 (by rw[hok,decide_eq_false];omega)
theorem ik1_ok(hP:C.P=Tryz.prog)(hL:∀w,C.laid w->LaidW w):waf C 70 wmr:=by
 rintro args objs U Os vc h hvc;unfold wmr at h;split at h<;>cases h;rename_i n f;obtain⟨hn,hf,hs⟩:=hvc;generalize mgOf f=g at *;subst hf;refine waf.wpL (prg hP) [(125,.det S_k1)] [(2,wok g n)] 0 (.cons (k1_ok hP hL) .nil) (hP ▸ Tryz.func70) rfl rfl rfl [(wam Tryz.f70 2,wok g n)] (by kernel_rfl) ⟨w18 hP hL g n,trivial⟩ ?_;rw[nf_ik1];unfold ixB;refine⟨rfl,hn,hs,wak (λh=>?_) (λh=>?_)⟩
 ·rw[decide_eq_true h];exact⟨rfl,rfl⟩
 ·rw[decide_eq_false h];exact⟨rfl,rfl⟩
theorem ck1_ok(hP:C.P=Tryz.prog)(hL:∀w,C.laid w->LaidW w):waf C 68 wm8:=by
 rintro args objs U Os vc h hvc;unfold wm8 at h;split at h<;>cases h;rename_i n f;obtain⟨hn,hf,hs⟩:=hvc;generalize hg:mgOf f=g at *;subst hf;refine waf.wp0 (prg hP) [(70,.det wmr)] 0 (.cons (ik1_ok hP hL) .nil) (hP ▸ Tryz.func68) rfl rfl rfl ?_;rw[nf_ck1];exact⟨⟨hn,rfl,hs⟩,rfl,rfl⟩
theorem w17(hP:C.P=Tryz.prog)(hL:∀w,C.laid w->LaidW w)(g:Nat->RT)(n:Nat):waj C 0 19 (wam Tryz.f161 2) (woj g n):=by
 rintro st Q ⟨h0,hn,hs,hQ⟩;have hR:=wb3 hQ;refine waj.mk (prg hP) [(127,.det S_k2)] 0 (.cons (k2_ok hP hL) .nil) [0,1,7,8] [] [4] (wmo g n) (λk=>k<=n/\fstB (λi=>badT (g i)) k=k) (λk=>n - k) 0 ⟨zL7 _,rfl⟩ h0 (λk hk=>?_);obtain⟨hkn,hok⟩:=hk;rw[wz0,tN7];refine wak (λh1=>?_) (λh1=>?_)
 ·have hlt:k<n:=by omega
  rw[wk4];refine⟨⟨by omega,by omega,rfl⟩,⟨(hs k hlt).o,rfl⟩,waz (λh2=>?_) (λh2=>⟨by simp only[inR];omega,k+1,rfl,⟨by omega,wgt hok h2⟩,by omega⟩)⟩;have e:=wgv hok h2 n (by omega);have:=hR.1 (by rw[e,decide_eq_true];omega);rw[e] at this;exact this
 ·have:k=n:=by omega
  subst this;exact hR.2 (by rw[hok,decide_eq_false];omega)
theorem ik2_ok(hP:C.P=Tryz.prog)(hL:∀w,C.laid w->LaidW w):waf C 161 wmq:=by
 rintro args objs U Os vc h hvc;unfold wmq at h;split at h<;>cases h;rename_i n f;obtain⟨hn,hf,hs⟩:=hvc;generalize rtOf f=g at *;subst hf;refine waf.wpL (prg hP) [(127,.det S_k2)] [(2,woj g n)] 0 (.cons (k2_ok hP hL) .nil) (hP ▸ Tryz.func161) rfl rfl rfl [(wam Tryz.f161 2,woj g n)] (by kernel_rfl) ⟨w17 hP hL g n,trivial⟩ ?_;rw[nf_ik2];unfold ixB;refine⟨rfl,hn,hs,wak (λh=>?_) (λh=>?_)⟩
 ·rw[decide_eq_true h];exact⟨rfl,rfl⟩
 ·rw[decide_eq_false h];exact⟨rfl,rfl⟩
theorem ck2_ok(hP:C.P=Tryz.prog)(hL:∀w,C.laid w->LaidW w):waf C 126 wm7:=by
 rintro args objs U Os vc h hvc;unfold wm7 at h;split at h<;>cases h;rename_i n f;obtain⟨hn,hf,hs⟩:=hvc;generalize hg:rtOf f=g at *;subst hf;refine waf.wp0 (prg hP) [(161,.det wmq)] 0 (.cons (ik2_ok hP hL) .nil) (hP ▸ Tryz.func126) rfl rfl rfl ?_;rw[nf_ck2];rw[wjj];exact⟨⟨hn,rfl,hs⟩,rfl,rfl⟩
theorem w4b(L:List RW):wdh (atR L) L.length=L.all rowF:=by
 have go:∀(g:Nat->RW) n,wdh g n=((List.range n).map g).all rowF:=by
  intro g n
  induction n with
  |zero=>rfl
  |succ n ih=>rw[wdh,ih,List.range_succ,List.map_append,List.all_append];simp
 rw[go];exact congrArg (λl=>l.all rowF) (wdz L default)
theorem w24(hP:C.P=Tryz.prog)(hL:∀w,C.laid w->LaidW w):waf C 74 wm3:=by
 rintro args objs U Os vc h hvc;unfold wm3 at h;split at h<;>cases h;rename_i id ver day kind nm fm nr fr nt ft;obtain⟨hc,hs⟩:=hvc;have l1:(lst (mgOf fm) nm).length=nm:=by simp[lst]
 have l2:(lst (rwOf fr) nr).length=nr:=by simp[lst]
 have l3:(lst (rtOf ft) nt).length=nt:=by simp[lst]
 obtain⟨c1,c2,c3⟩:=hc;unfold flV at hs ⊢;generalize lst (mgOf fm) nm=ms at *;generalize lst (rwOf fr) nr=rs at *;generalize lst (rtOf ft) nt=ts at *;subst l1;subst l2;subst l3;subst c1;subst c2;subst c3;have hn:=w0e ⟨id,ver,day,kind,ms,rs,ts⟩;dsimp only at hn;refine waf.wp0 (prg hP) [(68,.det wm8),(126,.det wm7),(105,.det wlq)] 0 (.cons (ck1_ok hP hL) (.cons (ck2_ok hP hL) (.cons (wsb hP hL) .nil))) (hP ▸ Tryz.func74) rfl rfl rfl ?_;rw[hn];have m1:=hs.m.1;have r1:=hs.r.1;have t1:=hs.t.1;dsimp only at m1 r1 t1;have e1:decide (0<=ixB (λi=>badM (mgOf (wag (atM ms)) i)) ms.length)= !ms.all λm=>decide (msgF m=0):=ix_all (λm=>decide (msgF m=0)) ms default;have e3:decide (0<=ixB (λi=>badT (rtOf (wah (atT ts)) i)) ts.length)= !ts.all rtOK:=by rw[wjj];exact ix_all rtOK ts whp
 have e2:rs.length<=400->decide (svF (rwOf (wai (atR rs))) rs.length=0)=rs.all rowF:=λh=>by
  show decide (svF (atR rs) rs.length=0)=_;unfold svF;rw[decide_eq_false (show ¬ 24000<rs.length by omega),w4b]
  cases rs.all rowF<;>rfl
 rw[e1,e3,wjj];unfold ctF;dsimp only
 refine wak (λk1=>?_) (λk1=>wak (λk2=>?_) (λk2=>?_))
 ·rw[decide_eq_true k1];refine⟨by simp only[inR];omega,wak (λz=>wak (λy=>⟨⟨by omega,rfl,λi hi=>atM_sm hs hi⟩,?_⟩) (λy=>?_)) (λz=>?_)⟩
  ·rw[decide_eq_true (show rs.length+ts.length=0 by omega),decide_eq_true (show ms.length<=400 by omega),Bool.not_not];exact⟨rfl,rfl⟩
  ·rw[decide_eq_true (show rs.length+ts.length=0 by omega),decide_eq_false (show ¬ ms.length<=400 by omega)];exact⟨rfl,rfl⟩
  ·rw[decide_eq_false (show ¬ rs.length+ts.length=0 by omega)];exact⟨rfl,rfl⟩
 ·rw[decide_eq_false k1,decide_eq_true k2];refine⟨by simp only[inR];omega,wak (λz=>wak (λy=>⟨⟨by omega,rfl,λi hi=>atR_sm hs hi⟩,?_⟩) (λy=>?_)) (λz=>?_)⟩
  ·rw[decide_eq_true (show ms.length+ts.length=0 by omega),decide_eq_true (show rs.length<=400 by omega),e2 (by omega)];exact⟨rfl,rfl⟩
  ·rw[decide_eq_true (show ms.length+ts.length=0 by omega),decide_eq_false (show ¬ rs.length<=400 by omega)];exact⟨rfl,rfl⟩
  ·rw[decide_eq_false (show ¬ ms.length+ts.length=0 by omega)];exact⟨rfl,rfl⟩
 ·rw[decide_eq_false k1,decide_eq_false k2];refine⟨by simp only[inR];omega,wak (λz=>wak (λy=>⟨⟨by omega,rfl,λi hi=>atT_sm hs hi⟩,?_⟩) (λy=>?_)) (λz=>?_)⟩
  ·rw[decide_eq_true (show ms.length+rs.length=0 by omega),decide_eq_true (show ts.length<=400 by omega),Bool.not_not];exact⟨rfl,rfl⟩
  ·rw[decide_eq_true (show ms.length+rs.length=0 by omega),decide_eq_false (show ¬ ts.length<=400 by omega)];exact⟨rfl,rfl⟩
  ·rw[decide_eq_false (show ¬ ms.length+rs.length=0 by omega)];exact⟨rfl,rfl⟩
end Go.Eng
