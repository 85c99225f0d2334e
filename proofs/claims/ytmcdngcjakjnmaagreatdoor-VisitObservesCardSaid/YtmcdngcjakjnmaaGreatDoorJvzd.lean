/- The reference's Merge: what it answers. -/
import Derived.Test.YtmcdngcjakjnmaaGreatDoorJvzc
namespace Go.Eng
open Go.Proofs Go.RowKit
variable {C:Ctx} [C.Loose]
set_option maxRecDepth 20000
theorem nf_fold(n k:Int)(R:oR7):wpFn te [] [] 0 Tryz.f56 [.q n,.q k] [] R=(letI z0:=(Int.tmod (IntKind.wrap IntKind.u64 n) (IntKind.wrap IntKind.u64 (max k (1:Int))));True/\True/\IntKind.wrap IntKind.u64 (max k (1:Int))≠(0:Int)/\inR .i64 z0/\R (.q z0) []):=by kernel_rfl
theorem nf_next(n:Nat)(v:Nat->Int)(a k:Int)(R:oR7):wpFn te [] [] 0 Tryz.f30 [.ptr 0 0,.q k] [.cells [.view 1 n (waf v),.q a] 26] R=(letI z1:=([(0,.cells [.view 1 n (waf v),.q (a+1)] 26)]:oL7);letI z0:=(IntKind.wrap IntKind.u64 (max k (1:Int)));letI z3:=Int.tmod (IntKind.wrap IntKind.u64 0) z0;letI z2:=Int.tmod (IntKind.wrap IntKind.u64 (v a.toNat)) z0;wab (decide (a<(n:Int))) (((0:Int)<=a/\a<(n:Int)/\1=1)/\inR .i64 (a+1)/\True/\True/\IntKind.wrap IntKind.u64 (max k (1:Int))≠(0:Int)/\inR .i64 z2/\R (.q z2) z1) (inR .i64 (a+1)/\True/\True/\IntKind.wrap IntKind.u64 (max k (1:Int))≠(0:Int)/\inR .i64 z3/\R (.q z3) z1)):=by kernel_rfl
theorem wsi(n:Int):IntKind.wrap .u64 n=n % 18446744073709551616:=by
 show n % (2:Int) ^ 64=_;rfl
theorem wqq{k:Int}(h:1<=k/\k<=1000000)(x:Int):IntKind.wrap .u64 (max k 1)≠0/\Int.tmod (IntKind.wrap .u64 x) (IntKind.wrap .u64 (max k 1))=wdx x k:=by
 have e:IntKind.wrap .u64 (max k 1)=k:=by
  rw[wsi,Int.max_eq_left h.1];omega
 rw[e,wsi];have hx:0<=x % 18446744073709551616:=by omega
 rw[Int.tmod_eq_emod_of_nonneg hx];exact⟨by omega,rfl⟩
theorem fold_ok(hP:C.P=Tryz.prog):wad C 56 wnx:=by
 have _:C.Loose:=inferInstance;rintro args objs U Os vc h hvc;unfold wnx at h;split at h<;>cases h;rename_i n k;refine wad.wp0 (prg hP) [] 0 .nil (hP ▸ Tryz.func56) rfl rfl rfl ?_;rw[nf_fold];obtain⟨h1,h2⟩:=wqq hvc n;have h3:=wi4 hvc.1 n;rw[h2];exact⟨trivial,trivial,h1,by simp only[inR];omega,rfl,rfl⟩
theorem wft(hP:C.P=Tryz.prog):wad C 30 wce:=by
 have _:C.Loose:=inferInstance;rintro args objs U Os vc h hvc;unfold wce at h;split at h<;>cases h;rename_i k sz n f a t;obtain⟨rfl,rfl,hf,hk,ha⟩:=hvc;rw[hf];have hv:vInt (waf (vInt f))=vInt f:=rfl;rw[hv];generalize vInt f=v at *;refine wad.wp0 (prg hP) [] 0 .nil (hP ▸ Tryz.func30) rfl rfl rfl ?_;rw[nf_next];unfold wak;refine wag (λh=>?_) (λh=>?_)
 ·obtain⟨h1,h2⟩:=wqq hk (v a.toNat);have h3:=wi4 hk.1 (v a.toNat);rw[h2,decide_eq_true h];exact⟨⟨by omega,by omega,rfl⟩,by simp only[inR];omega,trivial,trivial,h1,by simp only[inR];omega,rfl,rfl⟩
 ·obtain⟨h1,h2⟩:=wqq hk 0;have h3:=wi4 hk.1 0;rw[h2,decide_eq_false h];exact⟨by simp only[inR];omega,trivial,trivial,h1,by simp only[inR];omega,rfl,rfl⟩
theorem w2d(V j:Nat)(P:Nat->Prop)(R:eR7):wat ⟨te,[],[],0,39,0⟩ (wav Tryz.f27 4) [3,4,5] [4] [] (wnt V) P R (wnt V j)=(letI z0:=(↑(pw V j):Int);wab (decide ((0:Int)<=6 - (j:Int))) ((10:Int)≠(0:Int)/\inR .i64 ((48:Int)+Int.tmod z0 (10:Int))/\inR .u8 ((48:Int)+Int.tmod z0 (10:Int))/\((0:Int)<=6 - (j:Int)/\(6:Int) - (j:Int)<(↑7:Int))/\(List.length [AV.int .u8 ((48:Int)+Int.tmod z0 (10:Int))]=1/\((6:Int) - (j:Int)).toNat<7/\1=1)/\((10:Int)≠(0:Int)/\inR .i64 (Int.tdiv z0 (10:Int)))/\inR .i64 ((6:Int) - (j:Int) - (1:Int))/\∃(i':Nat),(TEq [(3,.q (Int.tdiv z0 (10:Int))),(4,.own 0 7),(5,.q ((6:Int) - (j:Int) - (1:Int)))] [(3,.q (↑(pw V i'):Int)),(4,.own 0 7),(5,.q ((6:Int) - (i':Int)))]/\wac [(0,.row 5 1 7 (λ(k:Nat)=>if k=Int.toNat ((6:Int) - (j:Int)) then [.int .u8 ((48:Int)+Int.tmod z0 (10:Int))] else [.int .u8 (bif decide (7<=k+j) then dgI V k else (0:Int))]) false)] [(0,.row 5 1 7 (λ(k:Nat)=>[.int .u8 (bif decide (7<=k+i') then dgI V k else (0:Int))]) false)])/\P i') ((∀(i:Nat),i<7->true=true)/\∃(O':oL7),wac [(0,.row 5 1 7 (λ(k:Nat)=>[.int .u8 (bif decide (7<=k+j) then dgI V k else (0:Int))]) false)] O'/\R (.exit 0) (St.mk [(4,.own 0 7)] O' 1 []))):=by kernel_rfl
theorem nf_id(n:Int)(V:Nat)(R:oR7):wpFn te [(56,.det wnx),(57,.det web)] [(4,L_id V)] 2 Tryz.f27 [.q n] [] R=(letI z5:=(List.flatten (List.replicate (nat_lit 0) [.int .u8 0]):List AV);letI z4:=cdF (wbe 7 (wbb V));letI z3:=((7<=7/\1=1)/\∀(i:Nat),i<7->isU8 (wbb V i)=true:Prop);letI z2:=1000000;letI z1:=TI.mk (TypeDesc.int IntKind.u8) 1 1 (Value.int IntKind.u8 0) false;letI z0:=(war (TI.sz z1) (.int .u8 ((48:Int)+z4.1)::List.append [] z5));((1:Int)<=z2/\z2<=z2)/\inR .i64 (z2+wdx n z2)/\((0:Int)<=7/\(7:Int)<=7/\(↑(TI.bytes z1):Int) * (7:Int)<=281474976710656/\(7:Int)<=9223372036854775807)/\(TEq [(3,.q (z2+wdx n z2)),(4,.own 0 7),(5,.q 6)] [(3,.q (↑(pw V 0):Int)),(4,.own 0 7),(5,.q ((6:Int) - (↑0:Int)))]/\wac [(0,.row 5 1 7 (λ(_x:Nat)=>[.int .u8 0]) false)] [(0,.row 5 1 7 (λ(k:Nat)=>[.int .u8 (bif decide (7<=k+0) then dgI V k else (0:Int))]) false)])/\V<2000000/\z3/\True/\z3/\inR .i64 ((48:Int)+z4.1)/\inR .u8 ((48:Int)+z4.1)/\(1<=16777216/\1=1/\1<=9223372036854775807)/\((1<=1/\1=1)/\∀(i:Nat),i<1->isU8 (war (TI.sz z1) (.int .u8 ((48:Int)+z4.1)::List.append [] z5) i)=true)/\(wbe 7 (wbb V)).length+(wbe 1 z0).length<=9223372036854775807/\R (.str (wbe 7 (wbb V)++wbe 1 z0)) []):=by kernel_rfl
theorem pw_step(V j:Nat):Int.tdiv (pw V j:Nat) 10=(pw V (j+1):Nat):=by
 rw[Int.tdiv_eq_ediv_of_nonneg (Int.natCast_nonneg _)];unfold pw;rw[Nat.pow_succ, ← Nat.div_div_eq_div_mul];rfl
theorem pw_le(V j:Nat):pw V j<=V:=Nat.div_le_self _ _
theorem id_loop(hP:C.P=Tryz.prog)(V:Nat):wah C 0 39 (wai Tryz.f27 4) (L_id V):=by
 have _:C.Loose:=inferInstance;rintro st Q ⟨h0,hv,hQ⟩;refine wah.mk (prg hP) [] 0 .nil [3,4,5] [4] [] (wnt V) (λj=>j<=7) (λj=>7 - j) 0 (by omega) h0 (λj hj=>?_) (λi=>⟨λ_ _=>rfl,trivial⟩);rw[w2d];have hle:=pw_le V j;have ht:Int.tmod (pw V j:Nat) 10=((pw V j % 10:Nat):Int):=by
  rw[Int.tmod_eq_emod_of_nonneg (Int.natCast_nonneg _)];rfl
 rw[ht,pw_step];have hle':=pw_le V (j+1);have hm:=Nat.mod_lt (pw V j) (show 0<10 by omega);refine wag (λh=>?_) (λh=>⟨λ_ _=>rfl,_,?_,hQ⟩)
 ·refine⟨by omega,by simp only[inR];omega,by simp only[inR];omega,⟨h,by omega⟩,⟨rfl,by omega,rfl⟩,⟨by omega,by simp only[inR];omega⟩,by simp only[inR];omega,j+1,⟨?_,⟨rfl,rfl,rfl,rfl,rfl,λk hk=>?_⟩,trivial⟩,by omega,by omega⟩
  ·rw[show (6:Int) - (j:Int) - 1=6 - ((j+1:Nat):Int) by omega];rfl
  ·dsimp only
   split
   ·rename_i e;have e':6 - k=j:=by omega
    rw[decide_eq_true (show 7<=k+(j+1) by omega)];unfold dgI;rw[e'];rfl
   ·rename_i e
    by_cases h7:7<=k+j
    ·rw[decide_eq_true h7,decide_eq_true (show 7<=k+(j+1) by omega)]
    ·rw[decide_eq_false h7,decide_eq_false (show ¬ 7<=k+(j+1) by omega)]
 ·have:j=7:=by omega
  subst this;refine⟨⟨rfl,rfl,rfl,rfl,rfl,λk hk=>?_⟩,trivial⟩;dsimp only
  rw[decide_eq_true (show 7<=k+7 by omega)];rfl
theorem id_ok(hP:C.P=Tryz.prog):wad C 27 S_id:=by
 rintro args objs U Os vc h hvc;unfold S_id at h;split at h<;>cases h;rename_i n;refine wad.wpL (prg hP) [(56,.det wnx),(57,.det web)] [(4,L_id (idV n))] 2 (.cons (fold_ok hP) (.cons (cdR_ok hP) .nil)) (hP ▸ Tryz.func27) rfl rfl rfl [(wai Tryz.f27 4,L_id (idV n))] (by kernel_rfl) ⟨id_loop hP _,trivial⟩ ?_;rw[nf_id];have hf:=wi4 (show (1:Int)<=1000000 by omega) n;have hV:((idV n:Nat):Int)=1000000+wdx n 1000000:=by unfold idV;omega
 have hl:=wi0 n;have hc:=ww1 (id7 n);refine⟨⟨by omega,by omega⟩,by simp only[inR];omega,⟨by omega,by omega,by decide,by omega⟩,⟨?_,⟨rfl,rfl,rfl,rfl,rfl,λk hk=>?_⟩,trivial⟩,by omega,⟨⟨by omega,rfl⟩,λ_ _=>rfl⟩,trivial,⟨⟨by omega,rfl⟩,λ_ _=>rfl⟩,?_,?_,⟨by omega,rfl,by omega⟩,⟨⟨by omega,rfl⟩,λi hi=>?_⟩,?_,rfl,rfl⟩
 ·rw[← hV];show TEq [(3,.q ((idV n:Nat):Int)),(4,.own 0 7),(5,.q 6)] [(3,.q ((idV n / 1:Nat):Int)),(4,.own 0 7),(5,.q 6)];rw[Nat.div_one];rfl
 ·dsimp only
  rw[decide_eq_false (show ¬ 7<=k+0 by omega)];rfl
 ·show inR .i64 (48+(cdF (id7 n)).1);simp only[inR];omega
 ·show inR .u8 (48+(cdF (id7 n)).1);simp only[inR];omega
 ·obtain rfl:i=0:=by omega
  rfl
 ·show (id7 n).length+_<=_;rw[hl];simp[wbe]
theorem w1i(n:Nat)(v:Nat->Int)(a:Int)(R:oR7):wpFn te [(30,.det wce)] [] 0 Tryz.f67 [.ptr 0 0] [.cells [.view 1 n (waf v),.q a] 26] R=(letI z0:=vInt (waf v);(3<=16777216/\1=1/\3<=9223372036854775807)/\(26=26/\1=1/\waf v=waf z0/\((1:Int)<=3/\(3:Int)<=1000000)/\(0:Int)<=a/\a<=4611686018427387904)/\((0:Int)<=wak n z0 a (3:Int)/\wak n z0 a (3:Int)<(↑3:Int))/\((wak n z0 a (3:Int)).toNat<3/\1=1)/\R (.str (List.getD [[(111:UInt8),49],[(111:UInt8),50],[(112:UInt8)]] (wak n z0 a (3:Int)).toNat [])) [(0,.cells [.view 1 n (waf v),.q (a+1)] 26)]):=by kernel_rfl
theorem w0l(n:Nat)(v:Nat->Int)(a:Int)(R:oR7):wpFn te [(30,.det wce),(27,.det S_id)] [] 0 Tryz.f68 [.ptr 0 0] [.cells [.view 1 n (waf v),.q a] 26] R=((26=26/\1=1/\waf v=waf (vInt (waf v))/\((1:Int)<=4/\(4:Int)<=1000000)/\(0:Int)<=a/\a<=4611686018427387904)/\True/\R (.str (idF (wak n (vInt (waf v)) a (4:Int)))) [(0,.cells [.view 1 n (waf v),.q (a+1)] 26)]):=by kernel_rfl
theorem wt6(hP:C.P=Tryz.prog):wad C 67 whq:=by
 rintro args objs U Os vc h hvc;unfold whq at h;split at h<;>cases h;rename_i sz n f a t;obtain⟨rfl,rfl,hf,h1,h2⟩:=hvc;rw[hf];generalize vInt f=v;have hw:vInt (waf v)=v:=rfl;refine wad.wp0 (prg hP) [(30,.det wce)] 0 (.cons (wft hP) .nil) (hP ▸ Tryz.func67) rfl rfl rfl ?_;rw[w1i];have r:=wbw (show (1:Int)<=3 by omega) n v a;exact⟨⟨by omega,rfl,by omega⟩,⟨rfl,rfl,rfl,⟨by omega,by omega⟩,by omega,by omega⟩,⟨r.1,r.2⟩,⟨by rw[hw];omega,rfl⟩,rfl,rfl⟩
theorem wsw(hP:C.P=Tryz.prog):wad C 68 whp:=by
 rintro args objs U Os vc h hvc;unfold whp at h;split at h<;>cases h;rename_i sz n f a t;obtain⟨rfl,rfl,hf,h1,h2⟩:=hvc;rw[hf];generalize vInt f=v;have hw:vInt (waf v)=v:=rfl;refine wad.wp0 (prg hP) [(30,.det wce),(27,.det S_id)] 0 (.cons (wft hP) (.cons (id_ok hP) .nil)) (hP ▸ Tryz.func68) rfl rfl rfl ?_;rw[w0l];exact⟨⟨rfl,rfl,rfl,⟨by omega,by omega⟩,by omega,by omega⟩,trivial,rfl,rfl⟩
theorem wt7:∀i,i<3->wa3 (List.getD [[111,49],[111,50],[112]] i [])=true/\(List.getD [[111,49],[111,50],[112]] i ([]:List UInt8)).length<=2:=by decide+kernel
theorem w1f(p:Int)(R:oR7):wpFn te [] [] 0 Tryz.f162 [.q p] [] R=(wab (decide ((0:Int)<=p)) (R (.bool (decide (p<=5999))) []) (R (.bool false) [])):=by kernel_rfl
theorem w0s(o p:List UInt8)(per:Int)(R:oR7):wpFn te [(131,.det wfj),(152,.det wct),(162,.det wmx)] [] 0 Tryz.f151 [.str o,.str p,.q per] [] R=(o.length<=9223372036854775807/\wab (wa3 o) (True/\wab (wba p) (True/\R (.bool (decide ((0:Int)<=per) && decide (per<=5999))) []) (R (.bool false) [])) (R (.bool false) [])):=by kernel_rfl
theorem wzt(hP:C.P=Tryz.prog):wad C 162 wmx:=by
 have _:C.Loose:=inferInstance;rintro args objs U Os vc h hvc;unfold wmx at h;split at h<;>cases h;refine wad.wp0 (prg hP) [] 0 .nil (hP ▸ Tryz.func162) rfl rfl rfl ?_;rw[w1f];exact wan (λh=>by rw[h];exact⟨rfl,rfl⟩) (λh=>by rw[h];exact⟨rfl,rfl⟩)
theorem ws5(hP:C.P=Tryz.prog):wad C 151 whe:=by
 rintro args objs U Os vc h hvc;unfold whe at h;split at h<;>cases h;rename_i o p per;refine wad.wp0 (prg hP) [(131,.det wfj),(152,.det wct),(162,.det wmx)] 0 (.cons (wqs hP) (.cons (wsq hP) (.cons (wzt hP) .nil))) (hP ▸ Tryz.func151) rfl rfl rfl ?_;rw[w0s];unfold wbz;exact⟨by omega,wan (λh1=>⟨trivial,wan (λh2=>⟨trivial,by rw[h1,h2,Bool.true_and,Bool.true_and];exact⟨rfl,rfl⟩⟩) (λh2=>by rw[h1,h2];exact⟨rfl,rfl⟩)⟩) (λh1=>by rw[h1];exact⟨rfl,rfl⟩)⟩
theorem wz8(o p:List UInt8)(per day st pr:Int)(rep:List UInt8)(R:oR7):wpFn te [(151,.det whe),(152,.det wct)] [] 0 Tryz.f132 [.agg [.str o,.str p,.q per,.q day,.q st,.q pr,.str rep]] [] R=(letI z1:=R (.bool false) [];letI z4:=(wab (decide (pr=0)) (R (.bool (decide (rep=[]))) []) z1);letI z3:=(wab (decide ((1:Int)<=pr)) (wab (decide (pr<=1099511627776)) (R (.bool (decide (rep=[]))) []) z1) z1);letI z2:=(wab (decide (st=5)) (wab (decide ((1:Int)<=pr)) (wab (decide (pr<=1099511627776)) (True/\wab (wba rep) (R (.bool !decide (rep=p)) []) z1) z1) z1) z1);letI z0:=(wab (decide (st=3)) (wab (decide (st=3)) z4 z2) (wab (decide (st=4)) z4 z2));o.length<9223372036854775808/\wab (!wbz o p per) z1 (wab (decide (day<0)) z1 (wab (decide ((182621:Int)<=day)) z1 (wab (decide (st=1)) (wab (decide (st=1)) z3 z0) (wab (decide (st=2)) z3 z0))))):=by kernel_rfl
theorem nf_decR(o p:List UInt8)(per:Int)(dev:List UInt8)(num:Int)(R:oR7):wpFn te [(151,.det whe),(131,.det wfj)] [] 0 Tryz.f133 [.agg [.str o,.str p,.q per,.str dev,.q num]] [] R=(o.length<9223372036854775808/\wab (wbz o p per) (dev.length<=9223372036854775807/\wab (wa3 dev) (wab (decide ((1:Int)<=num)) (R (.bool (decide (num<=1048576))) []) (R (.bool false) [])) (R (.bool false) [])) (R (.bool false) [])):=by kernel_rfl
theorem nf_msgR(m:MG)(R:oR7):wpFn te [(131,.det wfj),(132,.det wfc),(133,.det wn3)] [] 0 Tryz.f113 [.agg [.str m.dev,.q m.seq,.q m.kind,.str m.v.o,.str m.v.p,.q m.v.per,.q m.v.day,.q m.v.st,.q m.v.pr,.str m.v.rep,.str m.d.o,.str m.d.p,.q m.d.per,.str m.d.dev,.q m.d.num]] [] R=(letI z5:=(m.kind=2);letI z4:=(m.kind=1);letI z2:=(wab (decide z4) (wab (!(decide (m.d.o=[]) && (decide (m.d.p=[]) && (decide (m.d.per=0) && (decide (m.d.dev=[]) && decide (m.d.num=0)))))) (R (.q 114) []) (R (.q 0) [])) (R (.q 0) []));letI z1:=(wab (decide z5) ((m.d.o.length<9223372036854775808/\m.d.dev.length<9223372036854775808)/\wab (!(wbz m.d.o m.d.p m.d.per && (wa3 m.d.dev && numF m.d.num))) (R (.q 114) []) z2) z2);letI z0:=(wab (decide z5) (wab (!(decide (m.v.o=[]) && (decide (m.v.p=[]) && (decide (m.v.per=0) && (decide (m.v.day=0) && (decide (m.v.st=0) && (decide (m.v.pr=0) && decide (m.v.rep=[])))))))) (R (.q 113) []) z1) z1);letI z3:=(wab (decide z4) (m.v.o.length<9223372036854775808/\wab (!visF (VT.mk m.v.o m.v.p m.v.per m.v.day m.v.st m.v.pr m.v.rep)) (R (.q 113) []) z0) z0);m.dev.length<=9223372036854775807/\wab (!wa3 m.dev) (R (.q 110) []) (wab (decide (m.seq<1)) (R (.q 111) []) (wab (decide ((1048576:Int)<m.seq)) (R (.q 111) []) (wab (!decide z4) (wab (!decide z5) (R (.q 112) []) z3) z3)))):=by kernel_rfl
theorem w0m(a b:List UInt8)(R:oR7):wpFn te [] [] 0 Tryz.f134 [.str a,.str b] [] R=(wab (Op.bytesLess a b) (R (.q (-1:Int)) []) (wab (!(Op.bytesLess a b || decide (a=b))) (R (.q 1) []) (R (.q 0) []))):=by kernel_rfl
theorem nf_numR(a b:Int)(R:oR7):wpFn te [] [] 0 Tryz.f135 [.q a,.q b] [] R=(wab (decide (a<b)) (R (.q (-1:Int)) []) (wab (decide (b<a)) (R (.q 1) []) (R (.q 0) []))):=by kernel_rfl
theorem w0v(m x:MG)(R:oR7):wpFn te [] [] 0 Tryz.f88 [.agg [.str m.dev,.q m.seq,.q m.kind,.str m.v.o,.str m.v.p,.q m.v.per,.q m.v.day,.q m.v.st,.q m.v.pr,.str m.v.rep,.str m.d.o,.str m.d.p,.q m.d.per,.str m.d.dev,.q m.d.num],.agg [.str x.dev,.q x.seq,.q x.kind,.str x.v.o,.str x.v.p,.q x.v.per,.q x.v.day,.q x.v.st,.q x.v.pr,.str x.v.rep,.str x.d.o,.str x.d.p,.q x.d.per,.str x.d.dev,.q x.d.num]] [] R=(wab (decide (m.dev=x.dev)) (R (.bool (decide (m.seq=x.seq))) []) (R (.bool false) [])):=by kernel_rfl
theorem wxw(hP:C.P=Tryz.prog):wad C 132 wfc:=by
 rintro args objs U Os vc h hvc;unfold wfc at h;split at h<;>cases h;rename_i o p per day st pr rep;refine wad.wp0 (prg hP) [(151,.det whe),(152,.det wct)] 0 (.cons (ws5 hP) (.cons (wsq hP) .nil)) (hP ▸ Tryz.func132) rfl rfl rfl ?_;rw[wz8];refine⟨hvc,wcb (λh1=>?_) (λh1=>wag (λh2=>?_) (λh2=>wag (λh3=>?_) (λh3=>?_)))⟩
 ·unfold visF;simp[h1]
 ·unfold visF;simp[show ¬ 0<=day by omega]
 ·unfold visF;simp[show ¬ day<=182620 by omega]
 have hv:visF ⟨o,p,per,day,st,pr,rep⟩=(bif decide (st=1) || decide (st=2) then decide (1<=pr) && decide (pr<=1099511627776) && decide (rep=[])
  else bif decide (st=3) || decide (st=4) then decide (pr=0) && decide (rep=[])
  else bif decide (st=5) then decide (1<=pr) && decide (pr<=1099511627776) && wba rep && !decide (rep=p) else false):=by
  unfold visF;simp only[h1,Bool.true_and,decide_eq_true (show 0<=day by omega),decide_eq_true (show day<=182620 by omega)]
 rw[hv];clear hv h1 h2 h3
 by_cases s1:st=1
 ·subst s1;generalize decide (1<=pr)=b1,decide (pr<=1099511627776)=b2,decide (pr=0)=b3,decide (rep=p)=b4,decide (rep=[])=b5,wba rep=b6
  cases b1<;>cases b2<;>exact⟨rfl,rfl⟩
 by_cases s2:st=2
 ·subst s2;generalize decide (1<=pr)=b1,decide (pr<=1099511627776)=b2,decide (pr=0)=b3,decide (rep=p)=b4,decide (rep=[])=b5,wba rep=b6
  cases b1<;>cases b2<;>exact⟨rfl,rfl⟩
 by_cases s3:st=3
 ·subst s3;generalize decide (1<=pr)=b1,decide (pr<=1099511627776)=b2,decide (pr=0)=b3,decide (rep=p)=b4,decide (rep=[])=b5,wba rep=b6
  cases b3<;>exact⟨rfl,rfl⟩
 by_cases s4:st=4
 ·subst s4;generalize decide (1<=pr)=b1,decide (pr<=1099511627776)=b2,decide (pr=0)=b3,decide (rep=p)=b4,decide (rep=[])=b5,wba rep=b6
  cases b3<;>exact⟨rfl,rfl⟩
 by_cases s5:st=5
 ·subst s5;generalize decide (1<=pr)=b1,decide (pr<=1099511627776)=b2,decide (pr=0)=b3,decide (rep=p)=b4,decide (rep=[])=b5,wba rep=b6
  cases b1<;>cases b2<;>cases b6<;>first | exact⟨rfl,rfl⟩ | exact⟨trivial,rfl,rfl⟩
 rw[decide_eq_false s1,decide_eq_false s2,decide_eq_false s3,decide_eq_false s4,decide_eq_false s5];exact⟨rfl,rfl⟩
theorem decR_ok(hP:C.P=Tryz.prog):wad C 133 wn3:=by
 rintro args objs U Os vc h hvc;unfold wn3 at h;split at h<;>cases h;rename_i o p per dev num;refine wad.wp0 (prg hP) [(151,.det whe),(131,.det wfj)] 0 (.cons (ws5 hP) (.cons (wqs hP) .nil)) (hP ▸ Tryz.func133) rfl rfl rfl ?_;rw[nf_decR];unfold numF;generalize wbz o p per=b1,wa3 dev=b2,decide (1<=num)=b3,decide (num<=1048576)=b4;refine⟨hvc.1,?_⟩
 cases b1
 ·exact⟨rfl,rfl⟩
 refine⟨by omega,?_⟩
 cases b2<;>cases b3<;>exact⟨rfl,rfl⟩
theorem wun(hP:C.P=Tryz.prog):wad C 113 wdb:=by
 rintro args objs U Os vc h hvc;unfold wdb at h;split at h<;>cases h;rename_i dev seq kind o p per day st pr rep o2 p2 per2 dev2 num;refine wad.wp0 (prg hP) [(131,.det wfj),(132,.det wfc),(133,.det wn3)] 0 (.cons (wqs hP) (.cons (wxw hP) (.cons (decR_ok hP) .nil))) (hP ▸ Tryz.func113) rfl rfl rfl ?_;have nf:=λR=>nf_msgR ⟨dev,seq,kind,⟨o,p,per,day,st,pr,rep⟩,⟨o2,p2,per2,dev2,num⟩⟩ R;refine(nf _).mpr ?_;clear nf;obtain⟨l1,l2,l3,l4⟩:=hvc;unfold msgF VT.nil DT.nil;dsimp only
 generalize (decide (o=[]) && (decide (p=[]) && (decide (per=0) && (decide (day=0) && (decide (st=0) && (decide (pr=0) && decide (rep=[])))))))=vn;generalize (decide (o2=[]) && (decide (p2=[]) && (decide (per2=0) && (decide (dev2=[]) && decide (num=0)))))=dn;generalize wa3 dev=b1,visF ⟨o,p,per,day,st,pr,rep⟩=b3,wbz o2 p2 per2=b4,wa3 dev2=b5,numF num=b6;refine⟨by omega,?_⟩
 cases b1
 ·exact⟨rfl,rfl⟩
 by_cases s1:seq<1
 ·rw[show numF seq=false by unfold numF;rw[decide_eq_false (show ¬ 1<=seq by omega)];rfl,decide_eq_true s1];exact⟨rfl,rfl⟩
 by_cases s2:1048576<seq
 ·rw[show numF seq=false by unfold numF;rw[decide_eq_false (show ¬ seq<=1048576 by omega),Bool.and_false],decide_eq_false s1,decide_eq_true s2];exact⟨rfl,rfl⟩
 rw[show numF seq=true by unfold numF;rw[decide_eq_true (show 1<=seq by omega),decide_eq_true (show seq<=1048576 by omega)];rfl,decide_eq_false s1,decide_eq_false s2]
 by_cases k1:kind=1
 ·subst k1;refine⟨l2,?_⟩
  cases b3<;>cases dn<;>exact⟨rfl,rfl⟩
 by_cases k2:kind=2
 ·subst k2
  cases vn
  ·exact⟨rfl,rfl⟩
  refine⟨⟨l3,l4⟩,?_⟩
  cases b4<;>cases b5<;>cases b6<;>exact⟨rfl,rfl⟩
 rw[decide_eq_false k1,decide_eq_false k2];exact⟨rfl,rfl⟩
theorem wx9(hP:C.P=Tryz.prog):wad C 134 wmh:=by
 have _:C.Loose:=inferInstance;rintro args objs U Os vc h hvc;unfold wmh at h;split at h<;>cases h;rename_i a b;refine wad.wp0 (prg hP) [] 0 .nil (hP ▸ Tryz.func134) rfl rfl rfl ?_;rw[w0m]
 rcases wg7 a b with⟨q,e⟩ | ⟨q,e⟩ | ⟨q,e⟩
 ·rw[e,q];exact⟨rfl,rfl⟩
 ·subst q;rw[e,we7,decide_eq_true rfl];exact⟨rfl,rfl⟩
 ·have n1:Op.bytesLess a b=false:=by
   cases z:Op.bytesLess a b with
   |false=>rfl
   |true=>have:=wja.2 z;omega
  have n2:decide (a=b)=false:=decide_eq_false λz=>by have:=wdl.2 z;omega
  rw[e,n1,n2];exact⟨rfl,rfl⟩
theorem numR_ok(hP:C.P=Tryz.prog):wad C 135 wm2:=by
 have _:C.Loose:=inferInstance;rintro args objs U Os vc h hvc;unfold wm2 at h;split at h<;>cases h;rename_i a b;refine wad.wp0 (prg hP) [] 0 .nil (hP ▸ Tryz.func135) rfl rfl rfl ?_;rw[nf_numR];have e:=wd1 a b;refine wag (λq=>?_) (λq=>wag (λq2=>?_) (λq2=>?_))
 ·rw[show cmpI a b= -1 by omega];exact⟨rfl,rfl⟩
 ·rw[show cmpI a b=1 by omega];exact⟨rfl,rfl⟩
 ·rw[show cmpI a b=0 by omega];exact⟨rfl,rfl⟩
theorem wte(hP:C.P=Tryz.prog):wad C 88 whi:=by
 have _:C.Loose:=inferInstance;rintro args objs U Os vc h hvc;unfold whi at h;split at h<;>simp only[sI7,pI7,reduceCtorEq] at h;rename_i dev seq kind o p per day st pr rep o2 p2 per2 dev2 num dev' seq' kind' o' p' per' day' st' pr' rep' o2' p2' per2' dev2' num';obtain⟨rfl,rfl,rfl⟩:=h;refine wad.wp0 (prg hP) [] 0 .nil (hP ▸ Tryz.func88) rfl rfl rfl ?_;refine(w0v ⟨dev,seq,kind,⟨o,p,per,day,st,pr,rep⟩,⟨o2,p2,per2,dev2,num⟩⟩ ⟨dev',seq',kind',⟨o',p',per',day',st',pr',rep'⟩,⟨o2',p2',per2',dev2',num'⟩⟩ _).mpr ?_;exact wan (λh=>by rw[h];exact⟨rfl,rfl⟩) (λh=>by rw[h];exact⟨rfl,rfl⟩)
theorem w1j(m x:MG)(R:oR7):wpFn te [(134,.det wmh),(135,.det wm2)] [] 16 Tryz.f114 [.agg [.str m.dev,.q m.seq,.q m.kind,.str m.v.o,.str m.v.p,.q m.v.per,.q m.v.day,.q m.v.st,.q m.v.pr,.str m.v.rep,.str m.d.o,.str m.d.p,.q m.d.per,.str m.d.dev,.q m.d.num],.agg [.str x.dev,.q x.seq,.q x.kind,.str x.v.o,.str x.v.p,.q x.v.per,.q x.v.day,.q x.v.st,.q x.v.pr,.str x.v.rep,.str x.d.o,.str x.d.p,.q x.d.per,.str x.d.dev,.q x.d.num]] [] R=(letI z0:=[cmpS m.dev x.dev,cmpI m.seq x.seq,cmpI m.kind x.kind,cmpS m.v.o x.v.o,cmpS m.v.p x.v.p,cmpI m.v.per x.v.per,cmpI m.v.day x.v.day,cmpI m.v.st x.v.st,cmpI m.v.pr x.v.pr,cmpS m.v.rep x.v.rep,cmpS m.d.o x.d.o,cmpS m.d.p x.d.p,cmpI m.d.per x.d.per,cmpS m.d.dev x.d.dev,cmpI m.d.num x.d.num];True/\True/\True/\True/\True/\True/\True/\True/\True/\True/\True/\True/\True/\True/\True/\(15<=16777216/\1=1/\15<=9223372036854775807)/\((0:Int)<=0/\(0:Int)<(↑15:Int))/\(0<15/\1=1)/\wab (!decide (List.getD z0 0 (0:Int)=0)) (R (.q (List.getD z0 0 (0:Int))) []) (inR .i64 ((0:Int)+1)/\((0:Int)<=0+1/\(0:Int)+1<(↑15:Int))/\(1<15/\1=1)/\wab (!decide (List.getD z0 1 (0:Int)=0)) (R (.q (List.getD z0 1 (0:Int))) []) (inR .i64 ((0:Int)+1+1)/\((0:Int)<=0+1+1/\(0:Int)+1+1<(↑15:Int))/\(2<15/\1=1)/\wab (!decide (List.getD z0 2 (0:Int)=0)) (R (.q (List.getD z0 2 (0:Int))) []) (inR .i64 ((0:Int)+1+1+1)/\((0:Int)<=0+1+1+1/\(0:Int)+1+1+1<(↑15:Int))/\(3<15/\1=1)/\wab (!decide (List.getD z0 3 (0:Int)=0)) (R (.q (List.getD z0 3 (0:Int))) []) (inR .i64 ((0:Int)+1+1+1+1)/\((0:Int)<=0+1+1+1+1/\(0:Int)+1+1+1+1<(↑15:Int))/\(4<15/\1=1)/\wab (!decide (List.getD z0 4 (0:Int)=0)) (R (.q (List.getD z0 4 (0:Int))) []) (inR .i64 ((0:Int)+1+1+1+1+1)/\((0:Int)<=0+1+1+1+1+1/\(0:Int)+1+1+1+1+1<(↑15:Int))/\(5<15/\1=1)/\wab (!decide (List.getD z0 5 (0:Int)=0)) (R (.q (List.getD z0 5 (0:Int))) []) (inR .i64 ((0:Int)+1+1+1+1+1+1)/\((0:Int)<=0+1+1+1+1+1+1/\(0:Int)+1+1+1+1+1+1<(↑15:Int))/\(6<15/\1=1)/\wab (!decide (List.getD z0 6 (0:Int)=0)) (R (.q (List.getD z0 6 (0:Int))) []) (inR .i64 ((0:Int)+1+1+1+1+1+1+1)/\((0:Int)<=0+1+1+1+1+1+1+1/\(0:Int)+1+1+1+1+1+1+1<(↑15:Int))/\(7<15/\1=1)/\wab (!decide (List.getD z0 7 (0:Int)=0)) (R (.q (List.getD z0 7 (0:Int))) []) (inR .i64 ((0:Int)+1+1+1+1+1+1+1+1)/\((0:Int)<=0+1+1+1+1+1+1+1+1/\(0:Int)+1+1+1+1+1+1+1+1<(↑15:Int))/\(8<15/\1=1)/\wab (!decide (List.getD z0 8 (0:Int)=0)) (R (.q (List.getD z0 8 (0:Int))) []) (inR .i64 ((0:Int)+1+1+1+1+1+1+1+1+1)/\((0:Int)<=0+1+1+1+1+1+1+1+1+1/\(0:Int)+1+1+1+1+1+1+1+1+1<(↑15:Int))/\(9<15/\1=1)/\wab (!decide (List.getD z0 9 (0:Int)=0)) (R (.q (List.getD z0 9 (0:Int))) []) (inR .i64 ((0:Int)+1+1+1+1+1+1+1+1+1+1)/\((0:Int)<=0+1+1+1+1+1+1+1+1+1+1/\(0:Int)+1+1+1+1+1+1+1+1+1+1<(↑15:Int))/\(10<15/\1=1)/\wab (!decide (List.getD z0 10 (0:Int)=0)) (R (.q (List.getD z0 10 (0:Int))) []) (inR .i64 ((0:Int)+1+1+1+1+1+1+1+1+1+1+1)/\((0:Int)<=0+1+1+1+1+1+1+1+1+1+1+1/\(0:Int)+1+1+1+1+1+1+1+1+1+1+1<(↑15:Int))/\(11<15/\1=1)/\wab (!decide (List.getD z0 11 (0:Int)=0)) (R (.q (List.getD z0 11 (0:Int))) []) (inR .i64 ((0:Int)+1+1+1+1+1+1+1+1+1+1+1+1)/\((0:Int)<=0+1+1+1+1+1+1+1+1+1+1+1+1/\(0:Int)+1+1+1+1+1+1+1+1+1+1+1+1<(↑15:Int))/\(12<15/\1=1)/\wab (!decide (List.getD z0 12 (0:Int)=0)) (R (.q (List.getD z0 12 (0:Int))) []) (inR .i64 ((0:Int)+1+1+1+1+1+1+1+1+1+1+1+1+1)/\((0:Int)<=0+1+1+1+1+1+1+1+1+1+1+1+1+1/\(0:Int)+1+1+1+1+1+1+1+1+1+1+1+1+1<(↑15:Int))/\(13<15/\1=1)/\wab (!decide (List.getD z0 13 (0:Int)=0)) (R (.q (List.getD z0 13 (0:Int))) []) (inR .i64 ((0:Int)+1+1+1+1+1+1+1+1+1+1+1+1+1+1)/\((0:Int)<=0+1+1+1+1+1+1+1+1+1+1+1+1+1+1/\(0:Int)+1+1+1+1+1+1+1+1+1+1+1+1+1+1<(↑15:Int))/\(14<15/\1=1)/\wab (!decide (List.getD z0 14 (0:Int)=0)) (R (.q (List.getD z0 14 (0:Int))) []) (inR .i64 ((0:Int)+1+1+1+1+1+1+1+1+1+1+1+1+1+1+1)/\R (.q 0) [])))))))))))))))):=by kernel_rfl
theorem wqh(hP:C.P=Tryz.prog):wad C 114 wd8:=by
 rintro args objs U Os vc h hvc;unfold wd8 at h;split at h<;>simp only[sI7,pI7,reduceCtorEq] at h;rename_i dev seq kind o p per day st pr rep o' p' per' dev' num dev2 seq2 kind2 o2 p2 per2 day2 st2 pr2 rep2 o3 p3 per3 dev3 num2;obtain⟨rfl,rfl,rfl⟩:=h;have hn:=w1j ⟨dev,seq,kind,⟨o,p,per,day,st,pr,rep⟩,⟨o',p',per',dev',num⟩⟩ ⟨dev2,seq2,kind2,⟨o2,p2,per2,day2,st2,pr2,rep2⟩,⟨o3,p3,per3,dev3,num2⟩⟩;dsimp only at hn;refine wad.wp0 (prg hP) [(134,.det wmh),(135,.det wm2)] 16 (.cons (wx9 hP) (.cons (numR_ok hP) .nil)) (hP ▸ Tryz.func114) rfl rfl rfl ?_;rw[hn];unfold ordM;dsimp only
 generalize cmpS dev dev2=c0,cmpI seq seq2=c1,cmpI kind kind2=c2,cmpS o o2=c3,cmpS p p2=c4,cmpI per per2=c5,cmpI day day2=c6,cmpI st st2=c7,cmpI pr pr2=c8,cmpS rep rep2=c9,cmpS o' o3=c10,cmpS p' p3=c11,cmpI per' per3=c12,cmpS dev' dev3=c13,cmpI num num2=c14;refine⟨trivial,trivial,trivial,trivial,trivial,trivial,trivial,trivial,trivial,trivial,trivial,trivial,trivial,trivial,trivial,⟨by omega,rfl,by omega⟩,⟨by omega,by omega⟩,⟨by omega,rfl⟩,?_⟩;refine wax (λq=>?_) (λq=>?_)
 ·have q:¬ c0=0:=q;exact⟨by simp[orL,q],rfl⟩
 have q:c0=0:=q;subst q;refine⟨by simp only[inR];omega,⟨by omega,by omega⟩,⟨by omega,rfl⟩,?_⟩;refine wax (λq=>?_) (λq=>?_)
 ·have q:¬ c1=0:=q;exact⟨by simp[orL,q],rfl⟩
 have q:c1=0:=q;subst q;refine⟨by simp only[inR];omega,⟨by omega,by omega⟩,⟨by omega,rfl⟩,?_⟩;refine wax (λq=>?_) (λq=>?_)
 ·have q:¬ c2=0:=q;exact⟨by simp[orL,q],rfl⟩
 have q:c2=0:=q;subst q;refine⟨by simp only[inR];omega,⟨by omega,by omega⟩,⟨by omega,rfl⟩,?_⟩;refine wax (λq=>?_) (λq=>?_)
 ·have q:¬ c3=0:=q;exact⟨by simp[orL,q],rfl⟩
 have q:c3=0:=q;subst q;refine⟨by simp only[inR];omega,⟨by omega,by omega⟩,⟨by omega,rfl⟩,?_⟩;refine wax (λq=>?_) (λq=>?_)
 ·have q:¬ c4=0:=q;exact⟨by simp[orL,q],rfl⟩
 have q:c4=0:=q;subst q;refine⟨by simp only[inR];omega,⟨by omega,by omega⟩,⟨by omega,rfl⟩,?_⟩;refine wax (λq=>?_) (λq=>?_)
 ·have q:¬ c5=0:=q;exact⟨by simp[orL,q],rfl⟩
 have q:c5=0:=q;subst q;refine⟨by simp only[inR];omega,⟨by omega,by omega⟩,⟨by omega,rfl⟩,?_⟩;refine wax (λq=>?_) (λq=>?_)
 ·have q:¬ c6=0:=q;exact⟨by simp[orL,q],rfl⟩
 have q:c6=0:=q;subst q;refine⟨by simp only[inR];omega,⟨by omega,by omega⟩,⟨by omega,rfl⟩,?_⟩;refine wax (λq=>?_) (λq=>?_)
 ·have q:¬ c7=0:=q;exact⟨by simp[orL,q],rfl⟩
 have q:c7=0:=q;subst q;refine⟨by simp only[inR];omega,⟨by omega,by omega⟩,⟨by omega,rfl⟩,?_⟩;refine wax (λq=>?_) (λq=>?_)
 ·have q:¬ c8=0:=q;exact⟨by simp[orL,q],rfl⟩
 have q:c8=0:=q;subst q;refine⟨by simp only[inR];omega,⟨by omega,by omega⟩,⟨by omega,rfl⟩,?_⟩;refine wax (λq=>?_) (λq=>?_)
 ·have q:¬ c9=0:=q;exact⟨by simp[orL,q],rfl⟩
 have q:c9=0:=q;subst q;refine⟨by simp only[inR];omega,⟨by omega,by omega⟩,⟨by omega,rfl⟩,?_⟩;refine wax (λq=>?_) (λq=>?_)
 ·have q:¬ c10=0:=q;exact⟨by simp[orL,q],rfl⟩
 have q:c10=0:=q;subst q;refine⟨by simp only[inR];omega,⟨by omega,by omega⟩,⟨by omega,rfl⟩,?_⟩;refine wax (λq=>?_) (λq=>?_)
 ·have q:¬ c11=0:=q;exact⟨by simp[orL,q],rfl⟩
 have q:c11=0:=q;subst q;refine⟨by simp only[inR];omega,⟨by omega,by omega⟩,⟨by omega,rfl⟩,?_⟩;refine wax (λq=>?_) (λq=>?_)
 ·have q:¬ c12=0:=q;exact⟨by simp[orL,q],rfl⟩
 have q:c12=0:=q;subst q;refine⟨by simp only[inR];omega,⟨by omega,by omega⟩,⟨by omega,rfl⟩,?_⟩;refine wax (λq=>?_) (λq=>?_)
 ·have q:¬ c13=0:=q;exact⟨by simp[orL,q],rfl⟩
 have q:c13=0:=q;subst q;refine⟨by simp only[inR];omega,⟨by omega,by omega⟩,⟨by omega,rfl⟩,?_⟩;refine wax (λq=>?_) (λq=>?_)
 ·have q:¬ c14=0:=q;exact⟨by simp[orL,q],rfl⟩
 have q:c14=0:=q;subst q;exact⟨by simp only[inR];omega,rfl,rfl⟩
theorem nf_rmg(g:Nat->MG)(n:Nat)(h:Nat->MG)(m:Nat)(R:oR7):wpFn te [(113,.det wdb),(114,.det wd8)] [(3,L_rm (catM g n h) (n+m))] 0 Tryz.f87 [.view 15 n (waa g),.view 15 m (waa h)] [] R=(letI z0:=mfL (catM g n h) (n+m);(0<=16777216/\15=15/\0<=9223372036854775807)/\(15=15/\0<=0/\15=15/\47=47/\15=15/\0+n<=9223372036854775807/\(0+n) * 176<=140737488355328)/\(15=15/\0+n<=0+n/\15=15/\47=47/\15=15/\0+n+m<=9223372036854775807/\(0+n+m) * 176<=140737488355328)/\(TEq [(5,.own 0 0),(14,.own 1 (0+n+m)),(15,.q (↑(0+n+m):Int)),(16,.q 0)] [(5,.own 0 0),(14,.own 1 (n+m)),(15,.q (↑(n+m):Int)),(16,.q (↑0:Int))]/\wac [(0,.row 47 15 0 (λ(_x:Nat)=>[]) false),(1,.row 47 15 (0+n+m) (apF (0+n) (apF 0 (war 15 (List.flatten (List.replicate 0 [.str ([]),.q 0,.q 0,.str ([]),.str ([]),.q 0,.q 0,.q 0,.q 0,.str ([]),.str ([]),.str ([]),.q 0,.str ([]),.q 0]))) (waa g)) (waa h)) false)] [(0,.row 47 15 0 (waa (atM (mfL (catM g n h) 0))) false),(1,.row 47 15 (n+m) (waa (catM g n h)) false)])/\n+m<=200000/\(∀(i:Nat),i<n+m->MG.Sm (catM g n h i))/\(∀(i:Nat),i<z0.length->true=true)/\∃(O':oL7),wac [(0,.row 47 15 z0.length (waa (atM z0)) false)] O'/\R (.own 0 z0.length) O'):=by kernel_rfl
theorem w01(L:List MG)(m:MG)(c:Nat->MG)(N k a:Nat)(P:Nat->Prop)(R:eR7):wat ⟨te,[(114,.det wd8)],[],0,65,0⟩ (wav Tryz.f87 7) [5,7,8,14,15,16] [5,7,8,14,15,16] [] (wjh L m c N k) P R (wjh L m c N k a)=(letI z3:=L.length;letI z1:=(atM L ((a:Int) - (1:Int)).toNat);letI z0:=([(0,.row 47 15 z3 (waa (atM L)) false),(1,.cells [.str m.dev,.q m.seq,.q m.kind,.str m.v.o,.str m.v.p,.q m.v.per,.q m.v.day,.q m.v.st,.q m.v.pr,.str m.v.rep,.str m.d.o,.str m.d.p,.q m.d.per,.str m.d.dev,.q m.d.num] 47),(2,.row 47 15 N (waa c) false)]:oL7);letI z2:=((∀(i:Nat),i<L.length->true=true)/\(∀(i:Nat),i<N->true=true)/\∃(O':oL7),wac z0 O'/\R (.exit 2) (St.mk [(5,.own 0 z3),(7,.ptr 1 0),(8,.q (a:Int)),(14,.own 2 N),(15,.q (N:Int)),(16,.q (k:Int))] O' 3 []):Prop);wab (decide ((0:Int)<(a:Int))) (inR .i64 ((a:Int) - (1:Int))/\((0:Int)<=(a:Int) - (1:Int)/\(a:Int) - (1:Int)<(z3:Int))/\(((a:Int) - (1:Int)).toNat<L.length/\15=15)/\True/\wab (decide (ordM (MG.mk m.dev m.seq m.kind (VT.mk m.v.o m.v.p m.v.per m.v.day m.v.st m.v.pr m.v.rep) (DT.mk m.d.o m.d.p m.d.per m.d.dev m.d.num)) (MG.mk z1.dev z1.seq z1.kind (VT.mk z1.v.o z1.v.p z1.v.per z1.v.day z1.v.st z1.v.pr z1.v.rep) (DT.mk z1.d.o z1.d.p z1.d.per z1.d.dev z1.d.num))<0)) (inR .i64 ((a:Int) - (1:Int))/\∃(i':Nat),(TEq [(5,.own 0 z3),(7,.ptr 1 0),(8,.q ((a:Int) - (1:Int))),(14,.own 2 N),(15,.q (N:Int)),(16,.q (k:Int))] [(5,.own 0 z3),(7,.ptr 1 0),(8,.q (i':Int)),(14,.own 2 N),(15,.q (N:Int)),(16,.q (k:Int))]/\wac z0 z0)/\P i') z2) z2):=by kernel_rfl
theorem w02(c:Nat->MG)(N k:Nat)(P:Nat->Prop)(R:eR7):wat ⟨te,[(113,.det wdb),(114,.det wd8)],[(7,wo5 (mfL c k) (c k) c N k)],0,65,0⟩ (wav Tryz.f87 3) [5,14,15,16] [5] [] (S_rm c N) P R (S_rm c N k)=(letI z9:=waa (atM (mfL c k));letI z6:=(mfL c k).length;letI z8:=([(5,.own 0 z6),(7,.ptr 1 0),(8,.q (z6:Int)),(14,.own 2 N),(15,.q (N:Int)),(16,.q (k:Int))]:tL7);letI z4:=(inR .i64 ((k:Int)+1)/\∃(i':Nat),(TEq [(5,.own 0 z6),(14,.own 1 N),(15,.q (N:Int)),(16,.q ((k:Int)+1))] [(5,.own 0 (mfL c i').length),(14,.own 1 N),(15,.q (N:Int)),(16,.q (i':Int))]/\wac [(0,.row 47 15 z6 z9 false),(1,.row 47 15 N (waa c) false)] [(0,.row 47 15 (mfL c i').length (waa (atM (mfL c i'))) false),(1,.row 47 15 N (waa c) false)])/\P i');letI z2:=(c (k:Int).toNat);letI z1:=(↑(dnM (mfL c k) (c k) z6):Int);letI z10:=((0:Int)<=z1/\z1<=(z6:Int):Prop);letI z7:=(mfL c k).length - z1.toNat;letI z3:=(atM (mfL c k) (z1 - (1:Int)).toNat);letI z0:=((0<=16777216/\15=15/\0<=9223372036854775807)/\z10/\((z1.toNat<=(mfL c k).length/\15=15)/\0<=0/\15=15/\47=47/\15=15/\0+z1.toNat<=9223372036854775807/\(0+z1.toNat) * 176<=140737488355328)/\(15<=16777216/\15=15/\1<=9223372036854775807)/\((1<=1/\15=15)/\0+z1.toNat<=0+z1.toNat/\15=15/\47=47/\15=15/\0+z1.toNat+1<=9223372036854775807/\(0+z1.toNat+1) * 176<=140737488355328)/\z10/\((z1.toNat+z7<=(mfL c k).length/\15=15/\15=15)/\0+z1.toNat+1<=0+z1.toNat+1/\15=15/\47=47/\15=15/\0+z1.toNat+1+z7<=9223372036854775807/\(0+z1.toNat+1+z7) * 176<=140737488355328)/\inR .i64 ((k:Int)+1)/\∃(i':Nat),(TEq [(5,.own 0 (0+z1.toNat+1+z7)),(14,.own 1 N),(15,.q (N:Int)),(16,.q ((k:Int)+1))] [(5,.own 0 (mfL c i').length),(14,.own 1 N),(15,.q (N:Int)),(16,.q (i':Int))]/\wac [(0,.row 47 15 (0+z1.toNat+1+z7) (apF (0+z1.toNat+1) (apF (0+z1.toNat) (apF 0 (war 15 (List.flatten (List.replicate 0 [.str ([]),.q 0,.q 0,.str ([]),.str ([]),.q 0,.q 0,.q 0,.q 0,.str ([]),.str ([]),.str ([]),.q 0,.str ([]),.q 0]))) z9) (war 15 (.str (c k).dev:: .q (c k).seq:: .q (c k).kind:: .str (c k).v.o:: .str (c k).v.p:: .q (c k).v.per:: .q (c k).v.day:: .q (c k).v.st:: .q (c k).v.pr:: .str (c k).v.rep:: .str (c k).d.o:: .str (c k).d.p:: .q (c k).d.per:: .str (c k).d.dev:: .q (c k).d.num::List.append [] wbn))) λ(i:Nat)=>letI z5:=atM (mfL c k) (z1.toNat+i);[.str z5.dev,.q z5.seq,.q z5.kind,.str z5.v.o,.str z5.v.p,.q z5.v.per,.q z5.v.day,.q z5.v.st,.q z5.v.pr,.str z5.v.rep,.str z5.d.o,.str z5.d.p,.q z5.d.per,.str z5.d.dev,.q z5.d.num]) false),(1,.row 47 15 N (waa c) false)] [(0,.row 47 15 (mfL c i').length (waa (atM (mfL c i'))) false),(1,.row 47 15 N (waa c) false)])/\P i':Prop);wab (decide ((k:Int)<(N:Int))) (((0:Int)<=(k:Int)/\(k:Int)<(N:Int))/\((k:Int).toNat<N/\15=15)/\(z2.dev.length<9223372036854775808/\z2.v.o.length<9223372036854775808/\z2.d.o.length<9223372036854775808/\z2.d.dev.length<9223372036854775808)/\wab (!decide (msgF (MG.mk z2.dev z2.seq z2.kind (VT.mk z2.v.o z2.v.p z2.v.per z2.v.day z2.v.st z2.v.pr z2.v.rep) (DT.mk z2.d.o z2.d.p z2.d.per z2.d.dev z2.d.num))=0)) z4 ((TEq z8 z8/\wac [(0,.row 47 15 z6 z9 false),(1,.cells [.str z2.dev,.q z2.seq,.q z2.kind,.str z2.v.o,.str z2.v.p,.q z2.v.per,.q z2.v.day,.q z2.v.st,.q z2.v.pr,.str z2.v.rep,.str z2.d.o,.str z2.d.p,.q z2.d.per,.str z2.d.dev,.q z2.d.num] 47),(2,.row 47 15 N (waa c) false)] [(0,.row 47 15 z6 z9 false),(1,.cells [.str (c k).dev,.q (c k).seq,.q (c k).kind,.str (c k).v.o,.str (c k).v.p,.q (c k).v.per,.q (c k).v.day,.q (c k).v.st,.q (c k).v.pr,.str (c k).v.rep,.str (c k).d.o,.str (c k).d.p,.q (c k).d.per,.str (c k).d.dev,.q (c k).d.num] 47),(2,.row 47 15 N (waa c) false)])/\(mfL c k).length<=200000/\wab (decide ((0:Int)<z1)) (inR .i64 (z1 - (1:Int))/\((0:Int)<=z1 - (1:Int)/\z1 - (1:Int)<(z6:Int))/\((z1 - (1:Int)).toNat<(mfL c k).length/\15=15)/\wab (decide (z3.dev=(c k).dev) && (decide (z3.seq=(c k).seq) && (decide (z3.kind=(c k).kind) && (decide (z3.v.o=(c k).v.o) && (decide (z3.v.p=(c k).v.p) && (decide (z3.v.per=(c k).v.per) && (decide (z3.v.day=(c k).v.day) && (decide (z3.v.st=(c k).v.st) && (decide (z3.v.pr=(c k).v.pr) && decide (z3.v.rep=(c k).v.rep)))))) && (decide (z3.d.o=(c k).d.o) && (decide (z3.d.p=(c k).d.p) && (decide (z3.d.per=(c k).d.per) && (decide (z3.d.dev=(c k).d.dev) && decide (z3.d.num=(c k).d.num))))))))) z4 z0) z0)) ((∀(i:Nat),i<(mfL c k).length->true=true)/\∃(O':oL7),wac [(0,.row 47 15 z6 z9 false)] O'/\R (.exit 0) (St.mk [(5,.own 0 z6)] O' 1 []))):=by kernel_rfl
theorem dnM_le(L:List MG)(m:MG):∀a,dnM L m a<=a
 |0=>lR7 _
 |a+1=>by
  rw[dnM]
  cases decide (ordM m (atM L a)<0) with
  |true=>have:=dnM_le L m a;show dnM L m a<=a+1;omega
  |false=>exact lR7 _
theorem dnM_hi(L:List MG)(m:MG):∀a i,dnM L m a<=i->i<a->ordM m (atM L i)<0
 |0,i,_,h=>absurd h (nZ7 _)
 |a+1,i,h1,h2=>by
  rw[dnM] at h1
  by_cases q:ordM m (atM L a)<0
  ·rw[decide_eq_true q] at h1
   by_cases e:i=a
   ·rw[e];exact q
   ·exact dnM_hi L m a i h1 (by omega)
  ·rw[decide_eq_false q] at h1;have h1:a+1<=i:=h1;omega
theorem dnM_lo(L:List MG)(m:MG):∀a,dnM L m a=0∨¬ ordM m (atM L (dnM L m a - 1))<0
 |0=>.inl rfl
 |a+1=>by
  rw[dnM]
  by_cases q:ordM m (atM L a)<0
  ·rw[decide_eq_true q];exact dnM_lo L m a
  ·rw[decide_eq_false q];exact .inr q
theorem w3y(c:Nat->MG)(k:Nat):mfL c (k+1)=bif okM (c k) then insM (mfL c k) (c k) else mfL c k:=by
 unfold mfL;rw[wdr,w3u]
theorem mfL_len(c:Nat->MG)(k:Nat):(mfL c k).length<=k:=by
 have:=wuq (lst c k);have e:(lst c k).length=k:=by simp[lst]
 unfold mfL;omega
theorem w35(g:Nat->MG)(n:Nat)(h:Nat->MG)(m:Nat):lst (catM g n h) (n+m)=lst g n++lst h m:=by
 apply List.ext_getElem
 ·simp[lst]
 ·intro i h1 h2;have hi:i<n+m:=by simpa[lst] using h1
  by_cases q:i<n
  ·rw[List.getElem_append_left (by simp[lst,q])];simp[lst,catM,q]
  ·rw[List.getElem_append_right (by simp[lst];omega)];simp[lst,catM,q]
theorem wy7(hP:C.P=Tryz.prog)(L:List MG)(m:MG)(c:Nat->MG)(N k:Nat):wah C 0 65 (wai Tryz.f87 7) (wo5 L m c N k):=by
 rintro st Q ⟨h0,hn,hQ⟩;refine wah.mk (prg hP) [(114,.det wd8)] 0 (.cons (wqh hP) .nil) [5,7,8,14,15,16] [5,7,8,14,15,16] [] (wjh L m c N k) (λa=>a<=L.length/\dnM L m a=dnM L m L.length) (λa=>a) L.length ⟨lR7 _,rfl⟩ h0 (λa ha=>?_) (λi=>⟨λ_ _=>rfl,λ_ _=>rfl,trivial⟩);obtain⟨ha,hd⟩:=ha;rw[w01];refine wag (λq=>?_) (λq=>?_)
 ·obtain⟨b,rfl⟩:∃b,a=b+1:=⟨a - 1,by omega⟩;have e:(((b+1:Nat):Int) - 1).toNat=b:=by omega
  have hb:((b+1:Nat):Int) - 1=(b:Int):=by omega
  rw[e,hb];refine⟨by simp only[inR];omega,⟨by omega,by omega⟩,⟨by omega,rfl⟩,trivial,wag (λq2=>?_) (λq2=>?_)⟩
  ·have q2:ordM m (atM L b)<0:=q2;exact⟨by simp only[inR];omega,b,⟨rfl,waz _⟩,⟨by omega,by rw[← hd,dnM,decide_eq_true q2];rfl⟩,by omega⟩
  ·have q2:¬ ordM m (atM L b)<0:=q2;have e2:dnM L m L.length=b+1:=by rw[← hd,dnM,decide_eq_false q2];rfl
   rw[e2] at hQ;exact⟨λ_ _=>rfl,λ_ _=>rfl,_,waz _,hQ⟩
 ·have e0:a=0:=by omega
  subst e0;have e2:dnM L m L.length=0:=hd.symm;rw[e2] at hQ;exact⟨λ_ _=>rfl,λ_ _=>rfl,_,waz _,hQ⟩
theorem rm_loop(hP:C.P=Tryz.prog)(c:Nat->MG)(N:Nat):wah C 0 65 (wai Tryz.f87 3) (L_rm c N):=by
 rintro st Q ⟨h0,hn,hs,hQ⟩;refine AWP.ownNil 5 47 15 ?_
 refine wah.mkI (prg hP) [(113,.det wdb),(114,.det wd8)] (λk:Nat=>[(7,wo5 (mfL c k) (c k) c N k)]) 0 (.cons (wun hP) (.cons (wqh hP) .nil))
  (λk=>[(wai Tryz.f87 7,wo5 (mfL c k) (c k) c N k)])
  (λk=>by kernel_rfl) (λk=>⟨wy7 hP _ _ _ _ _,trivial⟩) [5,14,15,16] [5] [] (S_rm c N) (λk=>k<=N) (λk=>N - k) 0 (zL7 _) h0 (λk hk=>?_) (λi=>⟨λ_ _=>rfl,λ_ _=>rfl,trivial⟩)
 rw[w02,tN7,tN7];have hsu:=w3y c k;have hlen:=mfL_len c k;have hasc:Asc ordM (mfL c k):=wiq _;have hple:=dnM_le (mfL c k) (c k) (mfL c k).length;have hhi:=dnM_hi (mfL c k) (c k) (mfL c k).length;have hlo:=dnM_lo (mfL c k) (c k) (mfL c k).length;refine wag (λh1=>?_) (λh1=>?_)
 ·have hkN:k<N:=by omega
  have hk:=hs k hkN;generalize hL:mfL c k=L at *;generalize hx:c k=x at *;generalize dnM L x L.length=p at *;have no:mfL c (k+1)=L->inR .i64 ((k:Int)+1)/\∃i':Nat,(TEq [(5,.own 0 L.length),(14,.own 1 N),(15,.q (N:Int)),(16,.q ((k:Int)+1))] [(5,.own 0 (mfL c i').length),(14,.own 1 N),(15,.q (N:Int)),(16,.q (i':Int))]/\
    wac [(0,.row 47 15 L.length (waa (atM L)) false),(1,.row 47 15 N (waa c) false)] [(0,.row 47 15 (mfL c i').length (waa (atM (mfL c i'))) false),(1,.row 47 15 N (waa c) false)])/\(i'<=N/\N - i'<N - k):=λe=>⟨by simp only[inR];omega,k+1,by rw[e];exact⟨rfl,waz _⟩,by omega,by omega⟩
  refine⟨⟨by omega,by omega⟩,⟨by omega,rfl⟩,⟨hk.a,hk.b,hk.c,hk.d⟩,wax (λq=>?_) (λq=>⟨⟨rfl,waz _⟩,by omega,?_⟩)⟩
  ·have q:¬ msgF x=0:=q;exact no (by rw[hsu,show okM x=false from decide_eq_false q];rfl)
  ·have q:msgF x=0:=q;have hins:=insM_at hasc (m:=x) (a:=p) hple hhi hlo;rw[show okM x=true from decide_eq_true q] at hsu;have hsu:mfL c (k+1)=insM L x:=hsu;have e1:((p:Int) - 1).toNat=p - 1:=by omega
   rw[e1];have hlen2:(L.take p++x::L.drop p).length=0+p+1+(L.length - p):=by simp;omega
   refine wag (λh2=>⟨by simp only[inR];omega,⟨by omega,by omega⟩,⟨by omega,rfl⟩,wan (λh3=>?_) (λh3=>?_)⟩) (λh2=>?_)
   ·have h3:eqM (atM L (p - 1)) x=true:=h3;rw[decide_eq_true (show 0<p by omega),h3] at hins;exact no (hsu.trans hins)
   all_goals
    have eM:mfL c (k+1)=L.take p++x::L.drop p:=by
     rw[hsu,hins]
     first
      |(rw[decide_eq_false (show ¬ 0<p by omega)];rfl)
      |(rw[show eqM (atM L (p - 1)) x=false from h3,Bool.and_false];rfl)
    refine⟨⟨by omega,rfl,by omega⟩,⟨by omega,by omega⟩,⟨⟨by omega,rfl⟩,lR7 _,rfl,rfl,rfl,by omega,?_⟩,⟨by omega,rfl,by omega⟩,⟨⟨lR7 _,rfl⟩,lR7 _,rfl,rfl,rfl,by omega,?_⟩,⟨by omega,by omega⟩,⟨⟨by omega,rfl,rfl⟩,lR7 _,rfl,rfl,rfl,by omega,?_⟩,by simp only[inR];omega,k+1,?_,by omega,by omega⟩
    ·show (0+p) * 176<=_;omega
    ·show (0+p+1) * 176<=_;omega
    ·show (0+p+1+(L.length - p)) * 176<=_;omega
    ·rw[eM];refine⟨by rw[hlen2];rfl,⟨rfl,rfl,rfl,hlen2.symm,rfl,λj hj=>?_⟩,rQ7,trivial⟩;exact insRow mgC L x p hple _ _ rfl j hj
 ·have:k=N:=by omega
  subst this;exact⟨λ_ _=>rfl,_,waz _,hQ⟩
theorem mrgR_ok(hP:C.P=Tryz.prog):wad C 87 S_mrgV:=by
 rintro args objs U Os vc hh hvc;unfold S_mrgV at hh;split at hh<;>simp only[sI7,pI7,reduceCtorEq] at hh;rename_i n f m h;obtain⟨rfl,rfl,rfl⟩:=hh;obtain⟨hn,hm,hf,hh,s1,s2⟩:=hvc;generalize mgOf f=g at *;generalize mgOf h=j at *;subst hf;subst hh;refine waw.frzO 0 ?_;refine wa8.wpL (prg hP) [(113,.det wdb),(114,.det wd8)] [(3,L_rm (catM g n j) (n+m))] 0 (.cons (wun hP) (.cons (wqh hP) .nil)) (hP ▸ Tryz.func87) rfl rfl rfl [(wai Tryz.f87 3,L_rm (catM g n j) (n+m))] (by kernel_rfl) ⟨rm_loop hP _ _,trivial⟩ ?_;rw[nf_rmg,Nat.zero_add];have hM:mfL (catM g n j) (n+m)=mrgL g n j m:=by unfold mfL mrgL;rw[w35]
 have hg:mgOf (waa g)=g:=rfl;have hj:mgOf (waa j)=j:=rfl;rw[hM];have sm:∀i,i<n+m->(catM g n j i).Sm:=λi hi=>by
  unfold catM
  by_cases q:i<n
  ·rw[if_pos q];exact s1 i q
  ·rw[if_neg q];exact s2 _ (by omega)
 refine⟨⟨by omega,rfl,by omega⟩,⟨rfl,zL7 _,rfl,rfl,rfl,by omega,?_⟩,⟨rfl,lR7 _,rfl,rfl,rfl,by omega,?_⟩,⟨rfl,⟨rfl,rfl,rfl,rfl,rfl,λi hi=>absurd hi (nZ7 i)⟩,⟨rfl,rfl,rfl,rfl,rfl,λi hi=>?_⟩,trivial⟩,by omega,sm,λ_ _=>rfl,_,waz _,λ_ _=>rfl,?_⟩
 ·show n * 176<=_;omega
 ·show (n+m) * 176<=_;omega
 ·unfold apF waa catM
  by_cases q:i<n
  ·rw[if_pos q,if_neg (nZ7 i),if_pos q,Nat.sub_zero]
  ·rw[if_neg q,if_neg q]
 ·have hb:Nat.ble (mrgL g n j m).length (mrgL g n j m).length=true:=Nat.ble_eq_true_of_le (lR7 _)
  constructor
  ·simp[frzC,frzA,frz,hb]
  ·rfl
theorem w3t(hP:C.P=Tryz.prog):wad C 87 wm7:=by
 rintro args objs U Os vc h hvc;unfold wm7 at h;split at h<;>cases h;rename_i n f;obtain⟨hn,hf,hs⟩:=hvc;refine waw.nilArg 15 (waa noM) ?_;exact mrgR_ok hP _ _ _ _ _ rfl ⟨hn,zL7 _,hf,rfl,hs,λi hi=>absurd hi (nZ7 i)⟩
end Go.Eng
