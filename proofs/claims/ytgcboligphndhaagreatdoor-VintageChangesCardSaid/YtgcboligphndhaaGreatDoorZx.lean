/- What is in a file. -/
import Derived.Test.YtgcboligphndhaaGreatDoorZw
namespace Go.Eng
open Go.Proofs Go.RowKit
variable {C:Ctx} [C.Loose]
set_option maxRecDepth 20000
theorem w0s(o p:List UInt8)(per day st pr:Int)(rep:List UInt8)(R:oR7):wpFn te [(130,.det wek),(162,.det wcv)] [] 0 Tryz.f128 [.agg [.str o,.str p,.q per,.q day,.q st,.q pr,.str rep]] [] R=(letI z1:=R (.bool false) [];letI z4:=(wac (decide (pr=0)) (R (.bool (decide (rep=[]))) []) z1);letI z3:=(wac (decide ((1:Int)<=pr)) (wac (decide (pr<=1099511627776)) (R (.bool (decide (rep=[]))) []) z1) z1);letI z2:=(wac (decide (st=5)) (wac (decide ((1:Int)<=pr)) (wac (decide (pr<=1099511627776)) (True/\wac (wba rep) (R (.bool !decide (rep=p)) []) z1) z1) z1) z1);letI z0:=(wac (decide (st=3)) (wac (decide (st=3)) z4 z2) (wac (decide (st=4)) z4 z2));o.length<4294967281/\wac (!wbh o p per) z1 (wac (decide (day<0)) z1 (wac (decide ((182621:Int)<=day)) z1 (wac (decide (st=1)) (wac (decide (st=1)) z3 z0) (wac (decide (st=2)) z3 z0))))):=by kernel_rfl
theorem nf_decR(o p:List UInt8)(per:Int)(dev:List UInt8)(num:Int)(R:oR7):wpFn te [(130,.det wek),(75,.det wem)] [] 0 Tryz.f129 [.agg [.str o,.str p,.q per,.str dev,.q num]] [] R=(o.length<4294967281/\wac (wbh o p per) (dev.length<=9223372036854775806/\wac (wa3 dev) (wac (decide ((1:Int)<=num)) (R (.bool (decide (num<=1048576))) []) (R (.bool false) [])) (R (.bool false) [])) (R (.bool false) [])):=by kernel_rfl
theorem nf_msgR(m:MG)(R:oR7):wpFn te [(75,.det wem),(128,.det wfz),(129,.det wn3)] [] 0 Tryz.f76 [.agg [.str m.dev,.q m.seq,.q m.kind,.str m.v.o,.str m.v.p,.q m.v.per,.q m.v.day,.q m.v.st,.q m.v.pr,.str m.v.rep,.str m.d.o,.str m.d.p,.q m.d.per,.str m.d.dev,.q m.d.num]] [] R=(letI z5:=(m.kind=2);letI z4:=(m.kind=1);letI z1:=(wac (decide z4) (wac (!(decide (m.d.o=[]) && (decide (m.d.p=[]) && (decide (m.d.per=0) && (decide (m.d.dev=[]) && decide (m.d.num=0)))))) (R (.q 114) []) (R (.q 0) [])) (R (.q 0) []));letI z2:=(wac (decide z5) ((m.d.o.length<4294967281/\m.d.dev.length<4294967281)/\wac (!(wbh m.d.o m.d.p m.d.per && (wa3 m.d.dev && numF m.d.num))) (R (.q 114) []) z1) z1);letI z0:=(wac (decide z5) (wac (!(decide (m.v.o=[]) && (decide (m.v.p=[]) && (decide (m.v.per=0) && (decide (m.v.day=0) && (decide (m.v.st=0) && (decide (m.v.pr=0) && decide (m.v.rep=[])))))))) (R (.q 113) []) z2) z2);letI z3:=(wac (decide z4) (m.v.o.length<4294967281/\wac (!visF (VT.mk m.v.o m.v.p m.v.per m.v.day m.v.st m.v.pr m.v.rep)) (R (.q 113) []) z0) z0);m.dev.length<=9223372036854775806/\wac (!wa3 m.dev) (R (.q 110) []) (wac (decide (m.seq<1)) (R (.q 111) []) (wac (decide ((1048576:Int)<m.seq)) (R (.q 111) []) (wac (!decide z4) (wac (!decide z5) (R (.q 112) []) z3) z3)))):=by kernel_rfl
theorem wym(hP:C.P=Tryz.prog):wai C 128 wfz:=by
 rintro args objs U Os vc h hvc;unfold wfz at h;split at h<;>cases h;rename_i o p per day st pr rep;refine wai.wp0 (prg hP) [(130,.det wek),(162,.det wcv)] 0 (.cons (wj5 hP) (.cons (wtn hP) .nil)) (hP ▸ Tryz.func128) rfl rfl rfl ?_;rw[w0s];refine⟨hvc,wcb (λh1=>?_) (λh1=>wak (λh2=>?_) (λh2=>wak (λh3=>?_) (λh3=>?_)))⟩
 ·unfold visF;simp[h1]
 ·unfold visF;simp[show ¬ 0<=day by omega]
 ·unfold visF;simp[show ¬ day<=182620 by omega]
 have hv:visF ⟨o,p,per,day,st,pr,rep⟩=(bif decide (st=1) || decide (st=2) then decide (1<=pr) && decide (pr<=1099511627776) && decide (rep=[])
  else bif decide (st=3) || decide (st=4) then decide (pr=0) && decide (rep=[])
  else bif decide (st=5) then decide (1<=pr) && decide (pr<=1099511627776) && wba rep && !decide (rep=p) else false):=by
  unfold visF;simp only[h1,Bool.true_and,decide_eq_true (show 0<=day by omega),decide_eq_true (show day<=182620 by omega)]
 rw[hv];clear hv h1 h2 h3
 by_cases s1:st=1
 ·subst s1;generalize decide (1<=pr)=b1,decide (pr<=1099511627776)=b2,decide (pr=0)=b3,decide (rep=p)=b4,decide (rep=[])=b5,wba rep=b6
  cases b1<;>cases b2<;>exact⟨rfl,rfl⟩
 by_cases s2:st=2
 ·subst s2;generalize decide (1<=pr)=b1,decide (pr<=1099511627776)=b2,decide (pr=0)=b3,decide (rep=p)=b4,decide (rep=[])=b5,wba rep=b6
  cases b1<;>cases b2<;>exact⟨rfl,rfl⟩
 by_cases s3:st=3
 ·subst s3;generalize decide (1<=pr)=b1,decide (pr<=1099511627776)=b2,decide (pr=0)=b3,decide (rep=p)=b4,decide (rep=[])=b5,wba rep=b6
  cases b3<;>exact⟨rfl,rfl⟩
 by_cases s4:st=4
 ·subst s4;generalize decide (1<=pr)=b1,decide (pr<=1099511627776)=b2,decide (pr=0)=b3,decide (rep=p)=b4,decide (rep=[])=b5,wba rep=b6
  cases b3<;>exact⟨rfl,rfl⟩
 by_cases s5:st=5
 ·subst s5;generalize decide (1<=pr)=b1,decide (pr<=1099511627776)=b2,decide (pr=0)=b3,decide (rep=p)=b4,decide (rep=[])=b5,wba rep=b6
  cases b1<;>cases b2<;>cases b6<;>first | exact⟨rfl,rfl⟩ | exact⟨trivial,rfl,rfl⟩
 rw[decide_eq_false s1,decide_eq_false s2,decide_eq_false s3,decide_eq_false s4,decide_eq_false s5];exact⟨rfl,rfl⟩
theorem decR_ok(hP:C.P=Tryz.prog):wai C 129 wn3:=by
 rintro args objs U Os vc h hvc;unfold wn3 at h;split at h<;>cases h;rename_i o p per dev num;refine wai.wp0 (prg hP) [(130,.det wek),(75,.det wem)] 0 (.cons (wj5 hP) (.cons (wkn hP) .nil)) (hP ▸ Tryz.func129) rfl rfl rfl ?_;rw[nf_decR];unfold numF;generalize wbh o p per=b1,wa3 dev=b2,decide (1<=num)=b3,decide (num<=1048576)=b4;refine⟨hvc.1,?_⟩
 cases b1
 ·exact⟨rfl,rfl⟩
 refine⟨by omega,?_⟩
 cases b2<;>cases b3<;>exact⟨rfl,rfl⟩
theorem msgR_ok(hP:C.P=Tryz.prog):wai C 76 wds:=by
 rintro args objs U Os vc h hvc;unfold wds at h;split at h<;>cases h;rename_i dev seq kind o p per day st pr rep o2 p2 per2 dev2 num;refine wai.wp0 (prg hP) [(75,.det wem),(128,.det wfz),(129,.det wn3)] 0 (.cons (wkn hP) (.cons (wym hP) (.cons (decR_ok hP) .nil))) (hP ▸ Tryz.func76) rfl rfl rfl ?_;have nf:=λR=>nf_msgR ⟨dev,seq,kind,⟨o,p,per,day,st,pr,rep⟩,⟨o2,p2,per2,dev2,num⟩⟩ R;refine(nf _).mpr ?_;clear nf;obtain⟨l1,l2,l3,l4⟩:=hvc;unfold msgF VT.nil DT.nil;dsimp only
 generalize (decide (o=[]) && (decide (p=[]) && (decide (per=0) && (decide (day=0) && (decide (st=0) && (decide (pr=0) && decide (rep=[])))))))=vn;generalize (decide (o2=[]) && (decide (p2=[]) && (decide (per2=0) && (decide (dev2=[]) && decide (num=0)))))=dn;generalize wa3 dev=b1,visF ⟨o,p,per,day,st,pr,rep⟩=b3,wbh o2 p2 per2=b4,wa3 dev2=b5,numF num=b6;refine⟨by omega,?_⟩
 cases b1
 ·exact⟨rfl,rfl⟩
 by_cases s1:seq<1
 ·rw[show numF seq=false by unfold numF;rw[decide_eq_false (show ¬ 1<=seq by omega)];rfl,decide_eq_true s1];exact⟨rfl,rfl⟩
 by_cases s2:1048576<seq
 ·rw[show numF seq=false by unfold numF;rw[decide_eq_false (show ¬ seq<=1048576 by omega),Bool.and_false],decide_eq_false s1,decide_eq_true s2];exact⟨rfl,rfl⟩
 rw[show numF seq=true by unfold numF;rw[decide_eq_true (show 1<=seq by omega),decide_eq_true (show seq<=1048576 by omega)];rfl,decide_eq_false s1,decide_eq_false s2]
 by_cases k1:kind=1
 ·subst k1;refine⟨l2,?_⟩
  cases b3<;>cases dn<;>exact⟨rfl,rfl⟩
 by_cases k2:kind=2
 ·subst k2
  cases vn
  ·exact⟨rfl,rfl⟩
  refine⟨⟨l3,l4⟩,?_⟩
  cases b4<;>cases b5<;>cases b6<;>exact⟨rfl,rfl⟩
 rw[decide_eq_false k1,decide_eq_false k2];exact⟨rfl,rfl⟩
theorem w1v(x:Int)(R:oR7):wpFn te [] [] 0 Tryz.f180 [.q x] [] R=(wac (decide ((0:Int)<=x)) (R (.bool (decide (x<=1099511627776))) []) (R (.bool false) [])):=by kernel_rfl
theorem nf_tarV(st:Int)(bs:List BK)(R:oR7):letI z3:=R (.q 141) [];letI z2:=was (atB bs);letI z0:=bs.length;letI z1:=([(0,.cells [.q st,.view 2 z0 z2] 95)]:oL7);wpFn te [(180,.det whv)] [(7,L_tv st bs)] 0 Tryz.f151 [.agg [.q st,.view 2 bs.length z2]] [] R=(True/\wac (!(decide ((0:Int)<=st) && decide (st<=1099511627776))) (R (.q 140) []) (wac (decide ((z0:Int)<1)) z3 (wac (decide ((8:Int)<(z0:Int))) z3 (some (St.mk [(1,.ptr 0 0),(3,.q 0),(22,.view 2 z0 z2),(23,.q (z0:Int)),(24,.q 0)] z1 1 [])=some (St.mk [(1,.ptr 0 0),(3,.q (lowB bs 0)),(22,.view 2 z0 z2),(23,.q (z0:Int)),(24,.q (↑0:Int))] z1 1 [])/\bs.length<=8/\wac (bksB bs z0) (R (.q 0) []) z3)))):=by kernel_rfl
theorem w0z(st:Int)(bs:List BK)(k:Nat)(P:Nat->Prop)(R:eR7):wau ⟨te,[(180,.det whv)],[],0,65,0⟩ (wax Tryz.f151 7) [1,3,22,23,24] [] [2] (S_tv st bs) P R (S_tv st bs k)=(letI z6:=bs.length;letI z5:=([(0,.cells [.q st,.view 2 z6 (was (atB bs))] 95)]:oL7);letI z4:=R .ret (St.mk [(2,.q 141)] [] 0 []);letI z3:=(z6:Int);letI z2:=(atB bs (k:Int).toNat);letI z0:=(inR .i64 ((k:Int)+1)/\∃(i':Nat),some (St.mk [(1,.ptr 0 0),(3,.q z2.up),(22,.view 2 z6 (was (atB bs))),(23,.q z3),(24,.q ((k:Int)+1))] z5 1 [])=some (St.mk [(1,.ptr 0 0),(3,.q (lowB bs i')),(22,.view 2 z6 (was (atB bs))),(23,.q z3),(24,.q (i':Int))] z5 1 [])/\P i');letI z1:=(wac (!decide ((k:Int)=z3 - (1:Int))) (wac (decide (z2.up<=lowB bs k)) z4 (wac (decide ((1099511627776:Int)<z2.up)) z4 z0)) z0);wac (decide ((k:Int)<z3)) (((0:Int)<=(k:Int)/\(k:Int)<z3/\2=2)/\inR .i64 (z3 - (1:Int))/\True/\wac (!(decide ((0:Int)<=z2.pr) && decide (z2.pr<=1099511627776))) z4 (wac (decide ((k:Int)=z3 - (1:Int))) (wac (!decide (z2.up=0)) z4 z1) z1)) (R (.exit 0) (St.mk [] [] 0 []))):=by kernel_rfl
theorem nf_tarR(st:Int)(bs:List BK)(R:oR7):letI z3:=R (.q 141) [];letI z2:=was (atB bs);letI z0:=bs.length;letI z1:=([(0,.cells [.q st,.view 2 z0 z2] 95)]:oL7);wpFn te [] [(7,L_tw st bs)] 0 Tryz.f131 [.agg [.q st,.view 2 bs.length z2]] [] R=(wac (decide (st<0)) (R (.q 140) []) (wac (decide ((1099511627776:Int)<st)) (R (.q 140) []) (wac (decide ((z0:Int)<1)) z3 (wac (decide ((8:Int)<(z0:Int))) z3 (some (St.mk [(1,.ptr 0 0),(3,.q 0),(25,.view 2 z0 z2),(26,.q (z0:Int)),(27,.q 0)] z1 1 [])=some (St.mk [(1,.ptr 0 0),(3,.q (lowB bs 0)),(25,.view 2 z0 z2),(26,.q (z0:Int)),(27,.q (↑0:Int))] z1 1 [])/\bs.length<=8/\wac (bksB bs z0) (R (.q 0) []) z3))))):=by kernel_rfl
theorem w0y(st:Int)(bs:List BK)(k:Nat)(P:Nat->Prop)(R:eR7):wau ⟨te,[],[],0,61,0⟩ (wax Tryz.f131 7) [1,3,25,26,27] [] [2] (S_tw st bs) P R (S_tw st bs k)=(letI z3:=bs.length;letI z4:=([(0,.cells [.q st,.view 2 z3 (was (atB bs))] 95)]:oL7);letI z2:=(atB bs (k:Int).toNat);letI z1:=R .ret (St.mk [(2,.q 141)] [] 0 []);letI z0:=(inR .i64 ((k:Int)+1)/\∃(i':Nat),some (St.mk [(1,.ptr 0 0),(3,.q z2.up),(25,.view 2 z3 (was (atB bs))),(26,.q (z3:Int)),(27,.q ((k:Int)+1))] z4 1 [])=some (St.mk [(1,.ptr 0 0),(3,.q (lowB bs i')),(25,.view 2 z3 (was (atB bs))),(26,.q (z3:Int)),(27,.q (i':Int))] z4 1 [])/\P i');wac (decide ((k:Int)<(z3:Int))) (((0:Int)<=(k:Int)/\(k:Int)<(z3:Int)/\2=2)/\wac (decide (z2.pr<0)) z1 (wac (decide ((1099511627776:Int)<z2.pr)) z1 (inR .i64 ((k:Int)+1)/\wac (decide ((k:Int)+1=(z3:Int))) (wac (!decide (z2.up=0)) z1 z0) (wac (decide (z2.up<=lowB bs k)) z1 (wac (decide ((1099511627776:Int)<z2.up)) z1 z0))))) (R (.exit 0) (St.mk [] [] 0 []))):=by kernel_rfl
theorem w1c(o p:List UInt8)(per:Int)(R:oR7):wpFn te [(105,.det wmh)] [] 0 Tryz.f150 [.str o,.str p,.q per] [] R=(letI z0:=wap (TI.sz wc9) (.str o:: .str p:: .q per:: .q 1:: .q 1::List.append [] wff);(5<=16777216/\5=5/\1<=9223372036854775807)/\(∀(i:Nat),i<1->nrefL (wap (TI.sz wc9) (.str o:: .str p:: .q per:: .q 1:: .q 1::List.append [] wff) i)=true)/\(1=1/\1<=1000000/\(∀(i:Nat),i<1->wap (TI.sz wc9) (.str o:: .str p:: .q per:: .q 1:: .q 1::List.append [] wff) i=[.str (rwOf z0 i).o,.str (rwOf z0 i).p,.q (rwOf z0 i).per,.q (rwOf z0 i).u,.q (rwOf z0 i).tv])/\∀(i:Nat),i<1->(rwOf z0 i).o.length<4294967281)/\R (.bool (decide (svF (rwOf z0) 1=0))) []):=by kernel_rfl
theorem w1o(t:RT)(R:oR7):wpFn te [(150,.det wel),(151,.det wf1)] [] 0 Tryz.f108 [.agg [.str t.o,.str t.p,.q t.per,.q t.st,.view 2 t.bs.length (was (atB t.bs))]] [] R=(letI z0:=lst (bkOf (was (atB t.bs))) t.bs.length;t.o.length<4294967281/\wac (wbh t.o t.p t.per) (was (atB t.bs)=was (atB z0)/\R (.bool (decide (tfF t.st z0=0))) []) (R (.bool false) [])):=by kernel_rfl
theorem w1p(t:RT)(R:oR7):wpFn te [(130,.det wek),(131,.det wf1)] [] 0 Tryz.f78 [.agg [.str t.o,.str t.p,.q t.per,.q t.st,.view 2 t.bs.length (was (atB t.bs))]] [] R=(letI z0:=lst (bkOf (was (atB t.bs))) t.bs.length;t.o.length<4294967281/\wac (wbh t.o t.p t.per) (was (atB t.bs)=was (atB z0)/\R (.bool (decide (tfF t.st z0=0))) []) (R (.bool false) [])):=by kernel_rfl
theorem wdd{bs:List BK}{i:Nat}:bkOK bs i=true↔0<=(atB bs i).pr/\(atB bs i).pr<=1099511627776/\(i+1=bs.length->(atB bs i).up=0)/\(¬ i+1=bs.length->lowB bs i<(atB bs i).up/\(atB bs i).up<=1099511627776):=by
 unfold bkOK
 by_cases h:i+1=bs.length
 ·rw[decide_eq_true h];simp[h]
 ·rw[decide_eq_false h];simp[h]
theorem wsw{bs:List BK}{k:Nat}(e:bksB bs (k+1)=false):∀n,k<n->bksB bs n=false
 |0,hn=>by omega
 |n+1,hn=>by
  by_cases q:k=n
  ·subst q;exact e
  ·rw[bksB,wsw e n (by omega),Bool.false_and]
theorem wuv(hP:C.P=Tryz.prog):wai C 180 whv:=by
 have _:C.Loose:=inferInstance;rintro args objs U Os vc h hvc;unfold whv at h;split at h<;>cases h;rename_i n;refine wai.wp0 (prg hP) [] 0 .nil (hP ▸ Tryz.func180) rfl rfl rfl ?_;rw[w1v];exact wak (λh=>by rw[decide_eq_true h];exact⟨rfl,rfl⟩) (λh=>by rw[decide_eq_false h];exact⟨rfl,rfl⟩)
theorem tv_loop(hP:C.P=Tryz.prog)(st:Int)(bs:List BK):waj C 0 65 (wal Tryz.f151 7) (L_tv st bs):=by
 rintro s Q ⟨h0,hn,hQ⟩;have hR:=wbr hQ;refine waj.mk (prg hP) [(180,.det whv)] 0 (.cons (wuv hP) .nil) [1,3,22,23,24] [] [2] (S_tv st bs) (λk=>k<=bs.length/\bksB bs k=true) (λk=>bs.length - k) 0 ⟨zL7 _,rfl⟩ h0 (λk hk=>?_);obtain⟨hkn,hok⟩:=hk;rw[w0z,tN7];refine wak (λh1=>?_) (λh1=>?_)
 ·have hlt:k<bs.length:=by omega
  have bad:bkOK bs k=false->Q .ret ⟨[(2,.q 141)],[],0,[]⟩:=λh=>hR.2 (wsw (k:=k) (by rw[bksB,h,Bool.and_false]) _ hlt);have bad':¬ bkOK bs k=true->Q .ret ⟨[(2,.q 141)],[],0,[]⟩:=λh=>bad (by cases q:bkOK bs k with
   |true=>exact absurd q h
   |false=>rfl)
  have next:bkOK bs k=true->inR .i64 ((k:Int)+1)/\∃i':Nat,some (St.mk [(1,.ptr 0 0),(3,.q (atB bs k).up),(22,.view 2 bs.length (was (atB bs))),(23,.q (bs.length:Int)),(24,.q ((k:Int)+1))] [(0,.cells [.q st,.view 2 bs.length (was (atB bs))] 95)] 1 [])=
    some (St.mk [(1,.ptr 0 0),(3,.q (lowB bs i')),(22,.view 2 bs.length (was (atB bs))),(23,.q (bs.length:Int)),(24,.q (i':Int))] [(0,.cells [.q st,.view 2 bs.length (was (atB bs))] 95)] 1 [])/\(i'<=bs.length/\bksB bs i'=true)/\bs.length - i'<bs.length - k:=
   λh=>⟨by simp only[inR];omega,k+1,rfl,⟨by omega,by rw[bksB,hok,h];rfl⟩,by omega⟩
  refine⟨⟨by omega,by omega,rfl⟩,by simp only[inR];omega,trivial,wcb (λh2=>bad' (λh=>?_)) (λh2=>?_)⟩
  ·rw[Bool.and_eq_false_iff,decide_eq_false_iff_not,decide_eq_false_iff_not] at h2;have:=wdd.1 h;omega
  ·rw[bA7,decide_eq_true_eq,decide_eq_true_eq] at h2
   refine wak (λh3=>wbj (λh4=>bad' (λh=>h4 ((wdd.1 h).2.2.1 (by omega)))) (λh4=>wbj (λh5=>absurd h3 h5) (λ_=>next (wdd.2 ⟨h2.1,h2.2,λ_=>h4,λh=>absurd (by omega) h⟩))))
    (λh3=>wbj (λ_=>wak (λh4=>bad' (λh=>by have:=(wdd.1 h).2.2.2 (by omega);omega)) (λh4=>wak (λh5=>bad' (λh=>by have:=(wdd.1 h).2.2.2 (by omega);omega)) (λh5=>next (wdd.2 ⟨h2.1,h2.2,λh=>absurd h (by omega),λ_=>⟨by omega,by omega⟩⟩)))) (λh5=>absurd h5 h3))
 ·have:k=bs.length:=by omega
  subst this;exact hR.1 hok
theorem tw_loop(hP:C.P=Tryz.prog)(st:Int)(bs:List BK):waj C 0 61 (wal Tryz.f131 7) (L_tw st bs):=by
 have _:C.Loose:=inferInstance;rintro s Q ⟨h0,hn,hQ⟩;have hR:=wbr hQ;refine waj.mk (prg hP) [] 0 .nil [1,3,25,26,27] [] [2] (S_tw st bs) (λk=>k<=bs.length/\bksB bs k=true) (λk=>bs.length - k) 0 ⟨zL7 _,rfl⟩ h0 (λk hk=>?_);obtain⟨hkn,hok⟩:=hk;rw[w0y,tN7];refine wak (λh1=>?_) (λh1=>?_)
 ·have hlt:k<bs.length:=by omega
  have bad:bkOK bs k=false->Q .ret ⟨[(2,.q 141)],[],0,[]⟩:=λh=>hR.2 (wsw (k:=k) (by rw[bksB,h,Bool.and_false]) _ hlt);have bad':¬ bkOK bs k=true->Q .ret ⟨[(2,.q 141)],[],0,[]⟩:=λh=>bad (by cases q:bkOK bs k with
   |true=>exact absurd q h
   |false=>rfl)
  have next:bkOK bs k=true->inR .i64 ((k:Int)+1)/\∃i':Nat,some (St.mk [(1,.ptr 0 0),(3,.q (atB bs k).up),(25,.view 2 bs.length (was (atB bs))),(26,.q (bs.length:Int)),(27,.q ((k:Int)+1))] [(0,.cells [.q st,.view 2 bs.length (was (atB bs))] 95)] 1 [])=
    some (St.mk [(1,.ptr 0 0),(3,.q (lowB bs i')),(25,.view 2 bs.length (was (atB bs))),(26,.q (bs.length:Int)),(27,.q (i':Int))] [(0,.cells [.q st,.view 2 bs.length (was (atB bs))] 95)] 1 [])/\(i'<=bs.length/\bksB bs i'=true)/\bs.length - i'<bs.length - k:=
   λh=>⟨by simp only[inR];omega,k+1,rfl,⟨by omega,by rw[bksB,hok,h];rfl⟩,by omega⟩
  refine⟨⟨by omega,by omega,rfl⟩,wak (λh2=>bad' (λh=>by have:=wdd.1 h;omega)) (λh2=>wak (λh3=>bad' (λh=>by have:=wdd.1 h;omega)) (λh3=>⟨by simp only[inR];omega,wak (λh4=>wbj (λh5=>bad' (λh=>h5 ((wdd.1 h).2.2.1 (by omega)))) (λh5=>next (wdd.2 ⟨by omega,by omega,λ_=>h5,λh=>absurd (by omega) h⟩)))
   (λh4=>wak (λh5=>bad' (λh=>by have:=(wdd.1 h).2.2.2 (by omega);omega)) (λh5=>wak (λh6=>bad' (λh=>by have:=(wdd.1 h).2.2.2 (by omega);omega)) (λh6=>next (wdd.2 ⟨by omega,by omega,λh=>absurd h (by omega),λ_=>⟨by omega,by omega⟩⟩))))⟩))⟩
 ·have:k=bs.length:=by omega
  subst this;exact hR.1 hok
theorem tarV_ok(hP:C.P=Tryz.prog):wai C 151 wf1:=by
 rintro args objs U Os vc h hvc;unfold wf1 at h;split at h<;>cases h;rename_i st n f;have hl:(lst (bkOf f) n).length=n:=by simp[lst]
 generalize lst (bkOf f) n=bs at *;subst hl;subst hvc;refine wai.wpL (prg hP) [(180,.det whv)] [(7,L_tv st bs)] 0 (.cons (wuv hP) .nil) (hP ▸ Tryz.func151) rfl rfl rfl [(wal Tryz.f151 7,L_tv st bs)] (by kernel_rfl) ⟨tv_loop hP st bs,trivial⟩ ?_;rw[nf_tarV];unfold tfF;refine⟨trivial,wcb (λh=>by rw[h];exact⟨rfl,rfl⟩) (λh=>?_)⟩;rw[h];refine wak (λh1=>?_) (λh1=>wak (λh2=>?_) (λh2=>⟨rfl,by omega,?_⟩))
 ·rw[decide_eq_true (show bs.length<1 by omega)];exact⟨rfl,rfl⟩
 ·rw[decide_eq_true (show 8<bs.length by omega),Bool.or_true];exact⟨rfl,rfl⟩
 ·rw[decide_eq_false (show ¬ bs.length<1 by omega),decide_eq_false (show ¬ 8<bs.length by omega)];exact waz (λq=>by rw[q];exact⟨rfl,rfl⟩) (λq=>by rw[q];exact⟨rfl,rfl⟩)
theorem tarR_ok(hP:C.P=Tryz.prog):wai C 131 wf1:=by
 rintro args objs U Os vc h hvc;unfold wf1 at h;split at h<;>cases h;rename_i st n f;have hl:(lst (bkOf f) n).length=n:=by simp[lst]
 generalize lst (bkOf f) n=bs at *;subst hl;subst hvc;refine wai.wpL (prg hP) [] [(7,L_tw st bs)] 0 .nil (hP ▸ Tryz.func131) rfl rfl rfl [(wal Tryz.f131 7,L_tw st bs)] (by kernel_rfl) ⟨tw_loop hP st bs,trivial⟩ ?_;rw[nf_tarR];unfold tfF;refine wak (λh=>?_) (λh=>wak (λh'=>?_) (λh'=>wak (λh1=>?_) (λh1=>wak (λh2=>?_) (λh2=>⟨rfl,by omega,?_⟩))))
 ·rw[decide_eq_false (show ¬ 0<=st by omega)];exact⟨rfl,rfl⟩
 ·rw[decide_eq_false (show ¬ st<=1099511627776 by omega),Bool.and_false];exact⟨rfl,rfl⟩
 all_goals rw[decide_eq_true (show 0<=st by omega),decide_eq_true (show st<=1099511627776 by omega)]
 ·rw[decide_eq_true (show bs.length<1 by omega)];exact⟨rfl,rfl⟩
 ·rw[decide_eq_true (show 8<bs.length by omega),Bool.or_true];exact⟨rfl,rfl⟩
 ·rw[decide_eq_false (show ¬ bs.length<1 by omega),decide_eq_false (show ¬ 8<bs.length by omega)];exact waz (λq=>by rw[q];exact⟨rfl,rfl⟩) (λq=>by rw[q];exact⟨rfl,rfl⟩)
theorem wy5(hP:C.P=Tryz.prog)(hL:∀w,C.laid w->LaidW w):wai C 105 wmh:=by
 rintro args objs U Os vc h hvc;unfold wmh at h;split at h<;>cases h;rename_i n t m f fr;obtain⟨rfl,hn,hf,hs⟩:=hvc;refine wan.rowEq 0 (f':=wah (rwOf f)) rfl (λi hi=>(hf i hi).symm) ?_;have hb:Nat.ble n n=true:=Nat.ble_eq_true_of_le (lR7 _);exact ADet.give (wty hP hL [.view 5 n (wah (rwOf f))] [] _ _ _ rfl ⟨hn,rfl,hs⟩) (by simp[frzC,frzA,frz,hb]) rfl rfl (λ_ _=>rfl)
theorem svF_one(o p:List UInt8)(per:Int)(g:Nat->RW)(h:g 0=⟨o,p,per,1,1⟩):decide (svF g 1=0)=wbh o p per:=by
 unfold svF;rw[decide_eq_false (show ¬ 24000<1 by omega)];simp only[cond_false,wdp,Bool.true_and,h,rowF]
 cases wbh o p per<;>rfl
theorem wze(hP:C.P=Tryz.prog)(hL:∀w,C.laid w->LaidW w):wai C 150 wel:=by
 rintro args objs U Os vc h hvc;unfold wel at h;split at h<;>cases h;rename_i o p per;refine wai.wp0 (prg hP) [(105,.det wmh)] 0 (.cons (wy5 hP hL) .nil) (hP ▸ Tryz.func150) rfl rfl rfl ?_;rw[w1c];have one:∀ {p:Nat->Prop},p 0->∀i,i<1->p i:=λh0 i hi=>by
  match i,hi with
  |0,_=>exact h0
 refine⟨⟨by omega,rfl,by omega⟩,one rfl,⟨rfl,by omega,one rfl,one hvc⟩,?_⟩;rw[svF_one o p per _ rfl];exact⟨rfl,rfl⟩
theorem wzx(hP:C.P=Tryz.prog)(hL:∀w,C.laid w->LaidW w):wai C 108 wf3:=by
 rintro args objs U Os vc h hvc;unfold wf3 at h;split at h<;>cases h;rename_i o p per st n f;obtain⟨ho,hf⟩:=hvc;have hl:(lst (bkOf f) n).length=n:=by simp[lst]
 generalize hb:lst (bkOf f) n=bs at *;subst hl;subst hf;have hn:=w1o ⟨o,p,per,st,bs⟩;dsimp only at hn;refine wai.wp0 (prg hP) [(150,.det wel),(151,.det wf1)] 0 (.cons (wze hP hL) (.cons (tarV_ok hP) .nil)) (hP ▸ Tryz.func108) rfl rfl rfl ?_;rw[hn,whp];unfold rtOK;exact⟨ho,waz (λq=>⟨rfl,by rw[q];exact⟨rfl,rfl⟩⟩) (λq=>by rw[q];exact⟨rfl,rfl⟩)⟩
theorem wzy(hP:C.P=Tryz.prog):wai C 78 wf3:=by
 rintro args objs U Os vc h hvc;unfold wf3 at h;split at h<;>cases h;rename_i o p per st n f;obtain⟨ho,hf⟩:=hvc;have hl:(lst (bkOf f) n).length=n:=by simp[lst]
 generalize hb:lst (bkOf f) n=bs at *;subst hl;subst hf;have hn:=w1p ⟨o,p,per,st,bs⟩;dsimp only at hn;refine wai.wp0 (prg hP) [(130,.det wek),(131,.det wf1)] 0 (.cons (wj5 hP) (.cons (tarR_ok hP) .nil)) (hP ▸ Tryz.func78) rfl rfl rfl ?_;rw[hn,whp];unfold rtOK;exact⟨ho,waz (λq=>⟨rfl,by rw[q];exact⟨rfl,rfl⟩⟩) (λq=>by rw[q];exact⟨rfl,rfl⟩)⟩
def keyK(p:List UInt8×Int):AV:=.agg [.str p.1,.q p.2]
theorem wgl(a b:List UInt8×Int):keq (keyK a) (keyK b)=(decide (a.1=b.1) && decide (a.2=b.2)):=by simp[keyK,keq,keqL,keq0]
theorem wuc(p:List UInt8×Int):(decide (p.1=p.1) && decide (p.2=p.2))=true:=by simp
theorem wgp(σ:Nat->Option Nat)(L:List ((List UInt8×Int)×Int)):(entM L).map (λp=>(AV.rn σ p.1,AV.rn σ p.2))=entM L:=by
 unfold entM;rw[List.map_map];rfl
theorem w5k{L:List ((List UInt8×Int)×Int)}(h:(L.map Prod.fst).Nodup):wc7 te 83 (entM L):=by
 refine⟨List.all_eq_true.2 λp hp=>?_,?_⟩
 ·obtain⟨r,_,rfl⟩:=List.mem_map.1 hp;have:∀(a:List UInt8) (b:Int),keyA te 83 (.agg [.str a,.q b])=true:=λa b=>by kernel_rfl
  exact this _ _
 ·have:(entM L).map Prod.fst=(L.map Prod.fst).map keyK:=by simp[entM,keyK]
  rw[this];refine List.pairwise_map.2 (h.imp λ{a b} hab he=>hab ?_);have q:=wgl a b;rw[he,wgl,wuc] at q;exact wfi.1 q.symm
theorem wrh(p:List UInt8×Int):∀L:List ((List UInt8×Int)×Int),Option.getD (mget (entM L) (keyK p)) (.q 0)= .q (getC L p)
 |[]=>rfl
 |x::l=>by
  rw[getC];show Option.getD (match keq (keyK x.1) (keyK p) with | true=>some (.q x.2) | false=>mget (entM l) (keyK p)) _=_
  rw[wgl]
  cases decide (x.1.1=p.1) && decide (x.1.2=p.2) with
  |true=>rfl
  |false=>exact wrh p l
theorem ment_K(p:List UInt8×Int):∀L:List ((List UInt8×Int)×Int),
  Option.getD (mget (ment (.q 0) (entM L) (keyK p)) (keyK p)) (.q 0)= .q (getC L p)/\midx (entM L) (keyK p)<(ment (.q 0) (entM L) (keyK p)).length/\
  (ment (.q 0) (entM L) (keyK p)).set (midx (entM L) (keyK p)) (((ment (.q 0) (entM L) (keyK p)).getD (midx (entM L) (keyK p)) (.any,.any)).1,.q (getC L p+1))=entM (addC L p)
 |[]=>by
  refine⟨?_,Nat.zero_lt_one,rfl⟩;show Option.getD (match keq (keyK p) (keyK p) with | true=>some (AV.q 0) | false=>none) _=_
  rw[wgl,wuc];rfl
 |x::l=>by
  obtain⟨i1,i2,i3⟩:=ment_K p l;have e1:ment (.q 0) (entM (x::l)) (keyK p)=match keq (keyK x.1) (keyK p) with | true=>(keyK x.1,AV.q x.2)::entM l | false=>(keyK x.1,AV.q x.2)::ment (.q 0) (entM l) (keyK p):=rfl
  have e2:midx (entM (x::l)) (keyK p)=match keq (keyK x.1) (keyK p) with | true=>0 | false=>midx (entM l) (keyK p)+1:=rfl
  rw[e1,e2,getC,addC,wgl]
  cases h:decide (x.1.1=p.1) && decide (x.1.2=p.2) with
  |true=>
   have e:=wfi.1 h;refine⟨?_,Nat.succ_pos _,?_⟩
   ·show Option.getD (match keq (keyK x.1) (keyK p) with | true=>some (AV.q x.2) | false=>mget (entM l) (keyK p)) _=_
    rw[wgl,h];rfl
   ·show (keyK x.1,AV.q (x.2+1))::entM l=(keyK p,AV.q (x.2+1))::entM l;rw[e]
  |false=>
   refine⟨?_,Nat.succ_lt_succ i2,?_⟩
   ·show Option.getD (match keq (keyK x.1) (keyK p) with | true=>some (AV.q x.2) | false=>mget (ment (.q 0) (entM l) (keyK p)) (keyK p)) _=_
    rw[wgl,h];exact i1
   ·show (keyK x.1,AV.q x.2)::(ment (.q 0) (entM l) (keyK p)).set (midx (entM l) (keyK p)) (((ment (.q 0) (entM l) (keyK p)).getD (midx (entM l) (keyK p)) (.any,.any)).1,.q (getC l p+1))=(keyK x.1,AV.q x.2)::entM (addC l p);rw[i3]
theorem nf_k1(m:MG)(R:oR7):wpFn te [(72,.det wds)] [] 0 Tryz.f125 [.agg [.str m.dev,.q m.seq,.q m.kind,.str m.v.o,.str m.v.p,.q m.v.per,.q m.v.day,.q m.v.st,.q m.v.pr,.str m.v.rep,.str m.d.o,.str m.d.p,.q m.d.per,.str m.d.dev,.q m.d.num]] [] R=((m.dev.length<4294967281/\m.v.o.length<4294967281/\m.d.o.length<4294967281/\m.d.dev.length<4294967281)/\R (.bool !decide (msgF (MG.mk m.dev m.seq m.kind (VT.mk m.v.o m.v.p m.v.per m.v.day m.v.st m.v.pr m.v.rep) (DT.mk m.d.o m.d.p m.d.per m.d.dev m.d.num))=0)) []):=by kernel_rfl
theorem nf_k2(t:RT)(R:oR7):wpFn te [(108,.det wf3)] [] 0 Tryz.f127 [.agg [.str t.o,.str t.p,.q t.per,.q t.st,.view 2 t.bs.length (was (atB t.bs))]] [] R=(letI z0:=lst (bkOf (was (atB t.bs))) t.bs.length;(t.o.length<4294967281/\was (atB t.bs)=was (atB z0))/\R (.bool !rtOK (RT.mk t.o t.p t.per t.st z0)) []):=by kernel_rfl
theorem nf_ik1(g:Nat->MG)(n:Nat)(R:oR7):wpFn te [(125,.det S_k1)] [(2,wpy g n)] 0 Tryz.f70 [.view 15 n (waf g),.func 125 []] [] R=(some (St.mk [(0,.view 15 n (waf g)),(1,.func 125 []),(7,.q (n:Int)),(8,.q 0)] [] 0 [])=some (St.mk [(0,.view 15 n (waf g)),(1,.func 125 []),(7,.q (n:Int)),(8,.q (↑0:Int))] [] 0 [])/\n<=1000000/\(∀(i:Nat),i<n->MG.Sm (g i))/\wac (decide (fstB (λ(i:Nat)=>badM (g i)) n<n)) (R (.q (↑(fstB (λ(i:Nat)=>badM (g i)) n):Int)) []) (R (.q (-1:Int)) [])):=by kernel_rfl
theorem w2v(g:Nat->MG)(n k:Nat)(P:Nat->Prop)(R:eR7):wau ⟨te,[(125,.det S_k1)],[],0,19,0⟩ (wax Tryz.f70 2) [0,1,7,8] [] [4] (wnq g n) P R (wnq g n k)=(letI z0:=(g (k:Int).toNat);wac (decide ((k:Int)<(n:Int))) (((0:Int)<=(k:Int)/\(k:Int)<(n:Int)/\15=15)/\(z0.dev.length<4294967281/\z0.v.o.length<4294967281/\z0.d.o.length<4294967281/\z0.d.dev.length<4294967281)/\wac (badM (MG.mk z0.dev z0.seq z0.kind (VT.mk z0.v.o z0.v.p z0.v.per z0.v.day z0.v.st z0.v.pr z0.v.rep) (DT.mk z0.d.o z0.d.p z0.d.per z0.d.dev z0.d.num))) (R .ret (St.mk [(4,.q (k:Int))] [] 0 [])) (inR .i64 ((k:Int)+1)/\∃(i':Nat),some (St.mk [(0,.view 15 n (waf g)),(1,.func 125 []),(7,.q (n:Int)),(8,.q ((k:Int)+1))] [] 0 [])=some (St.mk [(0,.view 15 n (waf g)),(1,.func 125 []),(7,.q (n:Int)),(8,.q (i':Int))] [] 0 [])/\P i')) (R (.exit 0) (St.mk [] [] 0 []))):=by kernel_rfl
theorem nf_ck1(g:Nat->MG)(n:Nat)(R:oR7):wpFn te [(70,.det wns)] [] 0 Tryz.f68 [.view 15 n (waf g),.func 125 []] [] R=((n<=1000000/\waf g=waf (mgOf (waf g))/\∀(i:Nat),i<n->MG.Sm (mgOf (waf g) i))/\R (.bool (decide ((0:Int)<=ixB (λ(i:Nat)=>badM (mgOf (waf g) i)) n))) []):=by kernel_rfl
theorem nf_ik2(g:Nat->RT)(n:Nat)(R:oR7):wpFn te [(127,.det S_k2)] [(2,wpx g n)] 0 Tryz.f161 [.view 5 n (wag g),.func 127 []] [] R=(some (St.mk [(0,.view 5 n (wag g)),(1,.func 127 []),(7,.q (n:Int)),(8,.q 0)] [] 0 [])=some (St.mk [(0,.view 5 n (wag g)),(1,.func 127 []),(7,.q (n:Int)),(8,.q (↑0:Int))] [] 0 [])/\n<=1000000/\(∀(i:Nat),i<n->RT.Sm (g i))/\wac (decide (fstB (λ(i:Nat)=>badT (g i)) n<n)) (R (.q (↑(fstB (λ(i:Nat)=>badT (g i)) n):Int)) []) (R (.q (-1:Int)) [])):=by kernel_rfl
theorem w2u(g:Nat->RT)(n k:Nat)(P:Nat->Prop)(R:eR7):wau ⟨te,[(127,.det S_k2)],[],0,19,0⟩ (wax Tryz.f161 2) [0,1,7,8] [] [4] (wnp g n) P R (wnp g n k)=(letI z0:=(g (k:Int).toNat);letI z1:=lst (bkOf (was (atB z0.bs))) z0.bs.length;wac (decide ((k:Int)<(n:Int))) (((0:Int)<=(k:Int)/\(k:Int)<(n:Int)/\5=5)/\(z0.o.length<4294967281/\was (atB z0.bs)=was (atB z1))/\wac (badT (RT.mk z0.o z0.p z0.per z0.st z1)) (R .ret (St.mk [(4,.q (k:Int))] [] 0 [])) (inR .i64 ((k:Int)+1)/\∃(i':Nat),some (St.mk [(0,.view 5 n (wag g)),(1,.func 127 []),(7,.q (n:Int)),(8,.q ((k:Int)+1))] [] 0 [])=some (St.mk [(0,.view 5 n (wag g)),(1,.func 127 []),(7,.q (n:Int)),(8,.q (i':Int))] [] 0 [])/\P i')) (R (.exit 0) (St.mk [] [] 0 []))):=by kernel_rfl
theorem nf_ck2(g:Nat->RT)(n:Nat)(R:oR7):wpFn te [(161,.det wnr)] [] 0 Tryz.f126 [.view 5 n (wag g),.func 127 []] [] R=((n<=1000000/\wag g=wag (rtOf (wag g))/\∀(i:Nat),i<n->RT.Sm (rtOf (wag g) i))/\R (.bool (decide ((0:Int)<=ixB (λ(i:Nat)=>badT (rtOf (wag g) i)) n))) []):=by kernel_rfl
theorem w28(F:FL)(R:oR7):wpFn te [(68,.det wn9),(126,.det wn8),(105,.det wmi)] [] 0 Tryz.f74 [.agg [.str F.id,.q F.ver,.q F.day,.q F.kind,.view 15 F.ms.length (waf (atM F.ms)),.view 5 F.rs.length (wah (atR F.rs)),.view 5 F.ts.length (wag (atT F.ts))]] [] R=(letI z6:=wag (atT F.ts);letI z5:=wah (atR F.rs);letI z4:=waf (atM F.ms);letI z3:=R (.bool false) [];letI z2:=(F.ms.length:Int);letI z1:=(F.ts.length:Int);letI z0:=(F.rs.length:Int);wac (decide (F.kind=1)) (inR .i64 (z0+z1)/\wac (decide (z0+z1=0)) (wac (decide (z2<=400)) ((F.ms.length<=1000000/\waf (atM F.ms)=waf (mgOf z4)/\∀(i:Nat),i<F.ms.length->MG.Sm (mgOf z4 i))/\R (.bool !decide ((0:Int)<=ixB (λ(i:Nat)=>badM (mgOf z4 i)) F.ms.length)) []) z3) z3) (wac (decide (F.kind=2)) (inR .i64 (z2+z1)/\wac (decide (z2+z1=0)) (wac (decide (z0<=400)) ((F.rs.length<=1000000/\wah (atR F.rs)=wah (rwOf z5)/\∀(i:Nat),i<F.rs.length->(rwOf z5 i).o.length<4294967281)/\R (.bool (decide (svF (rwOf z5) F.rs.length=0))) []) z3) z3) (inR .i64 (z2+z0)/\wac (decide (z2+z0=0)) (wac (decide (z1<=400)) ((F.ts.length<=1000000/\wag (atT F.ts)=wag (rtOf z6)/\∀(i:Nat),i<F.ts.length->RT.Sm (rtOf z6 i))/\R (.bool !decide ((0:Int)<=ixB (λ(i:Nat)=>badT (rtOf z6 i)) F.ts.length)) []) z3) z3))):=by kernel_rfl
theorem nf_vin(F:FL)(R:oR7):wpFn te [(72,.det wds),(73,.det whs),(74,.det wn5)] [] 0 Tryz.f29 [.agg [.str F.id,.q F.ver,.q F.day,.q F.kind,.view 15 F.ms.length (waf (atM F.ms)),.view 5 F.rs.length (wah (atR F.rs)),.view 5 F.ts.length (wag (atT F.ts))]] [] R=(letI z2:=R (.q 151) [];letI z1:=flV F.id F.ver F.day F.kind F.ms.length (waf (atM F.ms)) F.rs.length (wah (atR F.rs)) F.ts.length (wag (atT F.ts));letI z0:=(True/\wac (decide ((bif decide ((0:Int)<=F.day) && decide (F.day<=182620) then FL.day F % (7:Int) else (-1:Int))<0)) (R (.q 152) []) (wac (decide (F.kind<1)) (R (.q 153) []) (wac (decide ((3:Int)<F.kind)) (R (.q 153) []) ((FlC F.ms.length (waf (atM F.ms)) F.rs.length (wah (atR F.rs)) F.ts.length (wag (atT F.ts))/\FL.Sm z1)/\wac (!ctF z1) (R (.q 154) []) (R (.q 0) [])))));(F.id.length<4294967281/\0<4294967281/\0<4294967281/\0<4294967281)/\wac (decide (msgF (MG.mk F.id (0:Int) (0:Int) (VT.mk [] [] (0:Int) (0:Int) (0:Int) (0:Int) []) (DT.mk [] [] (0:Int) [] (0:Int)))=110)) (R (.q 150) []) (wac (decide (F.ver<1)) z2 (wac (decide ((1000:Int)<F.ver)) z2 (wac (decide (F.kind=1)) (wac (!decide (F.ver=1)) z2 z0) z0)))):=by kernel_rfl
theorem nf_vinR(F:FL)(R:oR7):wpFn te [(75,.det wem)] [(14,L_w1 F),(20,L_w2 F),(26,L_w3 F)] 0 Tryz.f30 [.agg [.str F.id,.q F.ver,.q F.day,.q F.kind,.view 15 F.ms.length (waf (atM F.ms)),.view 5 F.rs.length (wah (atR F.rs)),.view 5 F.ts.length (wag (atT F.ts))]] [] R=(letI z12:=R (.q 151) [];letI z11:=wag (atT F.ts);letI z10:=wah (atR F.rs);letI z9:=waf (atM F.ms);letI z7:=F.rs.length;letI z6:=F.ms.length;letI z5:=F.ts.length;letI z4:=R (.q 154) [];letI z2:=([(0,.cells [.str F.id,.q F.ver,.q F.day,.q F.kind,.view 15 z6 z9,.view 5 z7 z10,.view 5 z5 z11] 49)]:oL7);letI z0:=(wac (decide ((400:Int)<(z6:Int))) z4 (wac (decide ((400:Int)<(z7:Int))) z4 (wac (decide ((400:Int)<(z5:Int))) z4 (some (St.mk [(1,.ptr 0 0),(95,.view 15 z6 z9),(96,.q (z6:Int)),(97,.q 0)] z2 1 [])=some (St.mk [(1,.ptr 0 0),(95,.view 15 z6 z9),(96,.q (z6:Int)),(97,.q (↑0:Int))] z2 1 [])/\FL.Sm F/\wac (List.all F.ms λ(m:MG)=>decide (msgF m=0)) (some (St.mk [(1,.ptr 0 0),(106,.view 5 z7 z10),(107,.q (z7:Int)),(108,.q 0)] z2 1 [])=some (St.mk [(1,.ptr 0 0),(106,.view 5 z7 z10),(107,.q (z7:Int)),(108,.q (↑0:Int))] z2 1 [])/\FL.Sm F/\wac (List.all F.rs rowF) (some (St.mk [(117,.view 5 z5 z11),(118,.q (z5:Int)),(119,.q 0)] [] 0 [])=some (St.mk [(117,.view 5 z5 z11),(118,.q (z5:Int)),(119,.q (↑0:Int))] [] 0 [])/\FL.Sm F/\wac (List.all F.ts rtOK) (R (.q 0) []) z4) z4) z4))));letI z8:=(wac (!decide (F.kind=3)) (wac (decide ((0:Int)<(z5:Int))) z4 z0) z0);letI z1:=(wac (!decide (F.kind=2)) (wac (decide ((0:Int)<(z7:Int))) z4 z8) z8);letI z3:=(wac (decide (F.day<0)) (R (.q 152) []) (wac (decide ((182621:Int)<=F.day)) (R (.q 152) []) (wac (decide (F.kind<1)) (R (.q 153) []) (wac (decide ((3:Int)<F.kind)) (R (.q 153) []) (wac (!decide (F.kind=1)) (wac (decide ((0:Int)<(z6:Int))) z4 z1) z1)))));F.id.length<=9223372036854775806/\wac (!wa3 F.id) (R (.q 150) []) (wac (decide (F.ver<1)) z12 (wac (decide ((1000:Int)<F.ver)) z12 (wac (decide (F.kind=1)) (wac (!decide (F.ver=1)) z12 z3) z3)))):=by kernel_rfl
theorem w0o(F:FL)(k:Nat)(P:Nat->Prop)(R:eR7):wau ⟨te,[(76,.det wds)],[],0,127,0⟩ (wax Tryz.f30 14) [1,95,96,97] [1] [2] (S_w1 F) P R (S_w1 F k)=(letI z3:=waf (atM F.ms);letI z2:=F.ms.length;letI z1:=([(0,.cells [.str F.id,.q F.ver,.q F.day,.q F.kind,.view 15 z2 z3,.view 5 F.rs.length (wah (atR F.rs)),.view 5 F.ts.length (wag (atT F.ts))] 49)]:oL7);letI z0:=(atM F.ms (k:Int).toNat);wac (decide ((k:Int)<(z2:Int))) (((0:Int)<=(k:Int)/\(k:Int)<(z2:Int)/\15=15)/\(z0.dev.length<4294967281/\z0.v.o.length<4294967281/\z0.d.o.length<4294967281/\z0.d.dev.length<4294967281)/\wac (!decide (msgF (MG.mk z0.dev z0.seq z0.kind (VT.mk z0.v.o z0.v.p z0.v.per z0.v.day z0.v.st z0.v.pr z0.v.rep) (DT.mk z0.d.o z0.d.p z0.d.per z0.d.dev z0.d.num))=0)) (R .ret (St.mk [(2,.q 154)] [] 0 [])) (inR .i64 ((k:Int)+1)/\∃(i':Nat),some (St.mk [(1,.ptr 0 0),(95,.view 15 z2 z3),(96,.q (z2:Int)),(97,.q ((k:Int)+1))] z1 1 [])=some (St.mk [(1,.ptr 0 0),(95,.view 15 z2 z3),(96,.q (z2:Int)),(97,.q (i':Int))] z1 1 [])/\P i')) (R (.exit 0) (St.mk [(1,.ptr 0 0)] z1 1 []))):=by kernel_rfl
theorem w0n(F:FL)(k:Nat)(P:Nat->Prop)(R:eR7):wau ⟨te,[(77,.det wei)],[],0,127,0⟩ (wax Tryz.f30 20) [1,106,107,108] [1] [2] (S_w2 F) P R (S_w2 F k)=(letI z3:=wah (atR F.rs);letI z2:=F.rs.length;letI z1:=(atR F.rs (k:Int).toNat);letI z0:=([(0,.cells [.str F.id,.q F.ver,.q F.day,.q F.kind,.view 15 F.ms.length (waf (atM F.ms)),.view 5 z2 z3,.view 5 F.ts.length (wag (atT F.ts))] 49)]:oL7);wac (decide ((k:Int)<(z2:Int))) (((0:Int)<=(k:Int)/\(k:Int)<(z2:Int)/\5=5)/\z1.o.length<4294967281/\wac (!rowF (RW.mk z1.o z1.p z1.per z1.u z1.tv)) (R .ret (St.mk [(2,.q 154)] [] 0 [])) (inR .i64 ((k:Int)+1)/\∃(i':Nat),some (St.mk [(1,.ptr 0 0),(106,.view 5 z2 z3),(107,.q (z2:Int)),(108,.q ((k:Int)+1))] z0 1 [])=some (St.mk [(1,.ptr 0 0),(106,.view 5 z2 z3),(107,.q (z2:Int)),(108,.q (i':Int))] z0 1 [])/\P i')) (R (.exit 2) (St.mk [(1,.ptr 0 0)] z0 1 []))):=by kernel_rfl
theorem w0m(F:FL)(k:Nat)(P:Nat->Prop)(R:eR7):wau ⟨te,[(78,.det wf3)],[],0,127,0⟩ (wax Tryz.f30 26) [117,118,119] [] [2] (S_w3 F) P R (S_w3 F k)=(letI z1:=F.ts.length;letI z0:=(atT F.ts (k:Int).toNat);letI z2:=lst (bkOf (was (atB z0.bs))) z0.bs.length;wac (decide ((k:Int)<(z1:Int))) (((0:Int)<=(k:Int)/\(k:Int)<(z1:Int)/\5=5)/\(z0.o.length<4294967281/\was (atB z0.bs)=was (atB z2))/\wac (!rtOK (RT.mk z0.o z0.p z0.per z0.st z2)) (R .ret (St.mk [(2,.q 154)] [] 0 [])) (inR .i64 ((k:Int)+1)/\∃(i':Nat),some (St.mk [(117,.view 5 z1 (wag (atT F.ts))),(118,.q (z1:Int)),(119,.q ((k:Int)+1))] [] 0 [])=some (St.mk [(117,.view 5 z1 (wag (atT F.ts))),(118,.q (z1:Int)),(119,.q (i':Int))] [] 0 [])/\P i')) (R (.exit 4) (St.mk [] [] 0 []))):=by kernel_rfl
theorem ix_any{q:Nat->Bool}:∀n,decide (0<=ixB q n)=(List.range n).any q:=by
 intro n;unfold ixB;obtain⟨h1,h2⟩:=wi4 q n;have hle:=whe q n
 by_cases h:fstB q n<n
 ·rw[decide_eq_true h];have:(List.range n).any q=true:=List.any_eq_true.2 ⟨_,List.mem_range.2 h,h2 h⟩;rw[this,decide_eq_true];show (0:Int)<=(fstB q n:Int);omega
 ·rw[decide_eq_false h];have:(List.range n).any q=false:=List.any_eq_false.2 λj hj=>by
   rw[h1 j (by have:=List.mem_range.1 hj;omega)];exact Bool.false_ne_true
  rw[this];exact decide_eq_false (show ¬ (0:Int)<= -1 by decide)
theorem ix_all{α:Type}(ok:α->Bool)(L:List α)(d:α):decide (0<=ixB (λi=> !ok (L.getD i d)) L.length)= !L.all ok:=by
 rw[ix_any];have e:L=(List.range L.length).map λi=>L.getD i d:=(wdw L d).symm;have:L.all ok=(List.range L.length).all λi=>ok (L.getD i d):=by
  conv=>lhs;rw[e]
  rw[List.all_map];rfl
 rw[this,List.any_eq_not_all_not];simp
theorem atT_sm{F:FL}(h:F.Sm){i:Nat}(hi:i<F.ts.length):(atT F.ts i).Sm:=h.t.2 _ (wxz hi)
theorem atM_sm{F:FL}(h:F.Sm){i:Nat}(hi:i<F.ms.length):(atM F.ms i).Sm:=h.m.2 _ (wx0 hi)
theorem atR_sm{F:FL}(h:F.Sm){i:Nat}(hi:i<F.rs.length):(atR F.rs i).o.length<4294967281:=h.r.2 _ (by unfold atR;simp[List.getD,hi])
theorem k1_ok(hP:C.P=Tryz.prog)(hL:∀w,C.laid w->LaidW w):wai C 125 S_k1:=by
 rintro args objs U Os vc h hvc;unfold S_k1 at h;split at h<;>simp only[sI7,pI7,reduceCtorEq] at h;rename_i dev seq kind o p per day st pr rep o' p' per' dev' num;obtain⟨rfl,rfl,rfl⟩:=h;have hn:=nf_k1 ⟨dev,seq,kind,⟨o,p,per,day,st,pr,rep⟩,⟨o',p',per',dev',num⟩⟩;dsimp only at hn;refine wai.wp0 (prg hP) [(72,.det wds)] 0 (.cons (wrc hP hL) .nil) (hP ▸ Tryz.func125) rfl rfl rfl ?_;rw[hn];exact⟨hvc,rfl,rfl⟩
theorem k2_ok(hP:C.P=Tryz.prog)(hL:∀w,C.laid w->LaidW w):wai C 127 S_k2:=by
 rintro args objs U Os vc h hvc;unfold S_k2 at h;split at h<;>cases h;rename_i o p per st n f;obtain⟨ho,hf⟩:=hvc;have hl:(lst (bkOf f) n).length=n:=by simp[lst]
 generalize hb:lst (bkOf f) n=bs at *;subst hl;subst hf;have hn:=nf_k2 ⟨o,p,per,st,bs⟩;dsimp only at hn;refine wai.wp0 (prg hP) [(108,.det wf3)] 0 (.cons (wzx hP hL) .nil) (hP ▸ Tryz.func127) rfl rfl rfl ?_;rw[hn,whp];exact⟨⟨ho,rfl⟩,rfl,rfl⟩
theorem w42(hP:C.P=Tryz.prog)(hL:∀w,C.laid w->LaidW w)(g:Nat->MG)(n:Nat):waj C 0 19 (wal Tryz.f70 2) (wpy g n):=by
 rintro st Q ⟨h0,hn,hs,hQ⟩;have hR:=wbr hQ;refine waj.mk (prg hP) [(125,.det S_k1)] 0 (.cons (k1_ok hP hL) .nil) [0,1,7,8] [] [4] (wnq g n) (λk=>k<=n/\fstB (λi=>badM (g i)) k=k) (λk=>n - k) 0 ⟨zL7 _,rfl⟩ h0 (λk hk=>?_);obtain⟨hkn,hok⟩:=hk;rw[w2v,tN7];refine wak (λh1=>?_) (λh1=>?_)
 ·have hlt:k<n:=by omega
  refine⟨⟨by omega,by omega,rfl⟩,⟨(hs k hlt).1,(hs k hlt).2,(hs k hlt).3,(hs k hlt).4⟩,waz (λh2=>?_) (λh2=>⟨by simp only[inR];omega,k+1,rfl,⟨by omega,whd hok h2⟩,by omega⟩)⟩;have e:=whf hok h2 n (by omega);have:=hR.1 (by rw[e,decide_eq_true];omega);rw[e] at this;exact this
 ·have:k=n:=by omega
  subst this;exact hR.2 (by rw[hok,decide_eq_false];omega)
theorem ik1_ok(hP:C.P=Tryz.prog)(hL:∀w,C.laid w->LaidW w):wai C 70 wns:=by
 rintro args objs U Os vc h hvc;unfold wns at h;split at h<;>cases h;rename_i n f;obtain⟨hn,hf,hs⟩:=hvc;generalize mgOf f=g at *;subst hf;refine wai.wpL (prg hP) [(125,.det S_k1)] [(2,wpy g n)] 0 (.cons (k1_ok hP hL) .nil) (hP ▸ Tryz.func70) rfl rfl rfl [(wal Tryz.f70 2,wpy g n)] (by kernel_rfl) ⟨w42 hP hL g n,trivial⟩ ?_;rw[nf_ik1];unfold ixB;refine⟨rfl,hn,hs,wak (λh=>?_) (λh=>?_)⟩
 ·rw[decide_eq_true h];exact⟨rfl,rfl⟩
 ·rw[decide_eq_false h];exact⟨rfl,rfl⟩
theorem ck1_ok(hP:C.P=Tryz.prog)(hL:∀w,C.laid w->LaidW w):wai C 68 wn9:=by
 rintro args objs U Os vc h hvc;unfold wn9 at h;split at h<;>cases h;rename_i n f;obtain⟨hn,hf,hs⟩:=hvc;generalize hg:mgOf f=g at *;subst hf;refine wai.wp0 (prg hP) [(70,.det wns)] 0 (.cons (ik1_ok hP hL) .nil) (hP ▸ Tryz.func68) rfl rfl rfl ?_;rw[nf_ck1];exact⟨⟨hn,rfl,hs⟩,rfl,rfl⟩
theorem w41(hP:C.P=Tryz.prog)(hL:∀w,C.laid w->LaidW w)(g:Nat->RT)(n:Nat):waj C 0 19 (wal Tryz.f161 2) (wpx g n):=by
 rintro st Q ⟨h0,hn,hs,hQ⟩;have hR:=wbr hQ;refine waj.mk (prg hP) [(127,.det S_k2)] 0 (.cons (k2_ok hP hL) .nil) [0,1,7,8] [] [4] (wnp g n) (λk=>k<=n/\fstB (λi=>badT (g i)) k=k) (λk=>n - k) 0 ⟨zL7 _,rfl⟩ h0 (λk hk=>?_);obtain⟨hkn,hok⟩:=hk;rw[w2u,tN7];refine wak (λh1=>?_) (λh1=>?_)
 ·have hlt:k<n:=by omega
  rw[whp];refine⟨⟨by omega,by omega,rfl⟩,⟨(hs k hlt).o,rfl⟩,waz (λh2=>?_) (λh2=>⟨by simp only[inR];omega,k+1,rfl,⟨by omega,whd hok h2⟩,by omega⟩)⟩;have e:=whf hok h2 n (by omega);have:=hR.1 (by rw[e,decide_eq_true];omega);rw[e] at this;exact this
 ·have:k=n:=by omega
  subst this;exact hR.2 (by rw[hok,decide_eq_false];omega)
theorem ik2_ok(hP:C.P=Tryz.prog)(hL:∀w,C.laid w->LaidW w):wai C 161 wnr:=by
 rintro args objs U Os vc h hvc;unfold wnr at h;split at h<;>cases h;rename_i n f;obtain⟨hn,hf,hs⟩:=hvc;generalize rtOf f=g at *;subst hf;refine wai.wpL (prg hP) [(127,.det S_k2)] [(2,wpx g n)] 0 (.cons (k2_ok hP hL) .nil) (hP ▸ Tryz.func161) rfl rfl rfl [(wal Tryz.f161 2,wpx g n)] (by kernel_rfl) ⟨w41 hP hL g n,trivial⟩ ?_;rw[nf_ik2];unfold ixB;refine⟨rfl,hn,hs,wak (λh=>?_) (λh=>?_)⟩
 ·rw[decide_eq_true h];exact⟨rfl,rfl⟩
 ·rw[decide_eq_false h];exact⟨rfl,rfl⟩
theorem ck2_ok(hP:C.P=Tryz.prog)(hL:∀w,C.laid w->LaidW w):wai C 126 wn8:=by
 rintro args objs U Os vc h hvc;unfold wn8 at h;split at h<;>cases h;rename_i n f;obtain⟨hn,hf,hs⟩:=hvc;generalize hg:rtOf f=g at *;subst hf;refine wai.wp0 (prg hP) [(161,.det wnr)] 0 (.cons (ik2_ok hP hL) .nil) (hP ▸ Tryz.func126) rfl rfl rfl ?_;rw[nf_ck2];rw[wkb];exact⟨⟨hn,rfl,hs⟩,rfl,rfl⟩
theorem w64(L:List RW):wdp (atR L) L.length=L.all rowF:=by
 have go:∀(g:Nat->RW) n,wdp g n=((List.range n).map g).all rowF:=by
  intro g n
  induction n with
  |zero=>rfl
  |succ n ih=>rw[wdp,ih,List.range_succ,List.map_append,List.all_append];simp
 rw[go];exact congrArg (λl=>l.all rowF) (wdw L default)
theorem w50(hP:C.P=Tryz.prog)(hL:∀w,C.laid w->LaidW w):wai C 74 wn5:=by
 rintro args objs U Os vc h hvc;unfold wn5 at h;split at h<;>cases h;rename_i id ver day kind nm fm nr fr nt ft;obtain⟨hc,hs⟩:=hvc;have l1:(lst (mgOf fm) nm).length=nm:=by simp[lst]
 have l2:(lst (rwOf fr) nr).length=nr:=by simp[lst]
 have l3:(lst (rtOf ft) nt).length=nt:=by simp[lst]
 obtain⟨c1,c2,c3⟩:=hc;unfold flV at hs ⊢;generalize lst (mgOf fm) nm=ms at *;generalize lst (rwOf fr) nr=rs at *;generalize lst (rtOf ft) nt=ts at *;subst l1;subst l2;subst l3;subst c1;subst c2;subst c3;have hn:=w28 ⟨id,ver,day,kind,ms,rs,ts⟩;dsimp only at hn;refine wai.wp0 (prg hP) [(68,.det wn9),(126,.det wn8),(105,.det wmi)] 0 (.cons (ck1_ok hP hL) (.cons (ck2_ok hP hL) (.cons (wty hP hL) .nil))) (hP ▸ Tryz.func74) rfl rfl rfl ?_;rw[hn];have m1:=hs.m.1;have r1:=hs.r.1;have t1:=hs.t.1;dsimp only at m1 r1 t1;have e1:decide (0<=ixB (λi=>badM (mgOf (waf (atM ms)) i)) ms.length)= !ms.all λm=>decide (msgF m=0):=ix_all (λm=>decide (msgF m=0)) ms default;have e3:decide (0<=ixB (λi=>badT (rtOf (wag (atT ts)) i)) ts.length)= !ts.all rtOK:=by rw[wkb];exact ix_all rtOK ts we9
 have e2:rs.length<=400->decide (svF (rwOf (wah (atR rs))) rs.length=0)=rs.all rowF:=λh=>by
  show decide (svF (atR rs) rs.length=0)=_;unfold svF;rw[decide_eq_false (show ¬ 24000<rs.length by omega),w64]
  cases rs.all rowF<;>rfl
 rw[e1,e3,wkb];unfold ctF;dsimp only
 refine wak (λk1=>?_) (λk1=>wak (λk2=>?_) (λk2=>?_))
 ·rw[decide_eq_true k1];refine⟨by simp only[inR];omega,wak (λz=>wak (λy=>⟨⟨by omega,rfl,λi hi=>atM_sm hs hi⟩,?_⟩) (λy=>?_)) (λz=>?_)⟩
  ·rw[decide_eq_true (show rs.length+ts.length=0 by omega),decide_eq_true (show ms.length<=400 by omega),Bool.not_not];exact⟨rfl,rfl⟩
  ·rw[decide_eq_true (show rs.length+ts.length=0 by omega),decide_eq_false (show ¬ ms.length<=400 by omega)];exact⟨rfl,rfl⟩
  ·rw[decide_eq_false (show ¬ rs.length+ts.length=0 by omega)];exact⟨rfl,rfl⟩
 ·rw[decide_eq_false k1,decide_eq_true k2];refine⟨by simp only[inR];omega,wak (λz=>wak (λy=>⟨⟨by omega,rfl,λi hi=>atR_sm hs hi⟩,?_⟩) (λy=>?_)) (λz=>?_)⟩
  ·rw[decide_eq_true (show ms.length+ts.length=0 by omega),decide_eq_true (show rs.length<=400 by omega),e2 (by omega)];exact⟨rfl,rfl⟩
  ·rw[decide_eq_true (show ms.length+ts.length=0 by omega),decide_eq_false (show ¬ rs.length<=400 by omega)];exact⟨rfl,rfl⟩
  ·rw[decide_eq_false (show ¬ ms.length+ts.length=0 by omega)];exact⟨rfl,rfl⟩
 ·rw[decide_eq_false k1,decide_eq_false k2];refine⟨by simp only[inR];omega,wak (λz=>wak (λy=>⟨⟨by omega,rfl,λi hi=>atT_sm hs hi⟩,?_⟩) (λy=>?_)) (λz=>?_)⟩
  ·rw[decide_eq_true (show ms.length+rs.length=0 by omega),decide_eq_true (show ts.length<=400 by omega),Bool.not_not];exact⟨rfl,rfl⟩
  ·rw[decide_eq_true (show ms.length+rs.length=0 by omega),decide_eq_false (show ¬ ts.length<=400 by omega)];exact⟨rfl,rfl⟩
  ·rw[decide_eq_false (show ¬ ms.length+rs.length=0 by omega)];exact⟨rfl,rfl⟩
end Go.Eng
