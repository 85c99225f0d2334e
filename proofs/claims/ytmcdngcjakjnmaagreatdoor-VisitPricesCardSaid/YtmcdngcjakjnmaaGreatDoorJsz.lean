/- Whole numbers as ratios; searching in a sorted list of slots. -/
import Derived.Test.YtmcdngcjakjnmaaGreatDoorJsy
namespace Go.Eng
open Go.Proofs Go.RowKit
variable {C:Ctx} [C.Loose]
set_option maxRecDepth 20000
theorem wzf(g:Nat->Int)(n k:Nat)(P:Nat->Prop)(Q:eR7):was ⟨te,[],[],1,21,0⟩ (wat Tryz.f150 1) [0] [0] [] (wg1 g n) P Q (wg1 g n k)=(letI z1:=([(0,.row 124 1 n (uRow g) false)]:oL7);letI z0:=((∀(i:Nat),i<n->true=true)/\∃(O':oL7),wac z1 O'/\Q (.exit 0) (St.mk [(0,.own 0 k)] O' 1 []):Prop);wab (decide ((0:Int)<(k:Int))) (inR .i64 ((k:Int) - (1:Int))/\((0:Int)<=(k:Int) - (1:Int)/\(k:Int) - (1:Int)<(k:Int))/\(((k:Int) - (1:Int)).toNat<n/\1=1)/\wab (decide (g ((k:Int) - (1:Int)).toNat=0)) (inR .i64 ((k:Int) - (1:Int))/\((0:Int)<=(k:Int) - (1:Int)/\(k:Int) - (1:Int)<=(k:Int))/\∃(i':Nat),(TEq [(0,.own 0 ((k:Int) - (1:Int)).toNat)] [(0,.own 0 i')]/\wac z1 z1)/\P i') z0) z0):=by kernel_rfl
theorem nf_low(f:Nat->List AV)(n:Nat)(Q:AV->oL7->Prop):wpFn te [] [(1,wnt (uOf f) n)] 0 Tryz.f150 [.own 0 n] [.row 124 1 n f false] Q=((TEq [(0,.own 0 n)] [(0,.own 0 n)]/\wac [(0,.row 124 1 n f false)] [(0,.row 124 1 n (uRow (uOf f)) false)])/\n<=1000/\(∀(i:Nat),i<n->true=true)/\∃(O':oL7),wac [(0,.row 124 1 n (uRow (uOf f)) false)] O'/\Q (.own 0 (lowI (uOf f) n)) O'):=by kernel_rfl
theorem wy4(f:Nat->List AV)(n:Nat)(Q:AV->oL7->Prop):wpFn te [(150,.det wl7)] [] 0 Tryz.f130 [.own 0 n] [.row 124 1 n f false] Q=(letI z0:=(∀(i:Nat),i<n->nrefL (f i)=true:Prop);z0/\(124=124/\false=false/\n=n/\n<=1000/\∀(i:Nat),i<n->f i=[.int .u32 (uOf f i)])/\z0/\((lowI (uOf f) n<=n/\1=1)/\1=1/\lowI (uOf f) n<=9223372036854775807/\lowI (uOf f) n * 4<=140737488355328)/\z0/\(∀(i:Nat),i<lowI (uOf f) n->nrefL (f i)=true)/\∃(O':oL7),wac [(0,.row 124 1 n f false),(1,.row 124 1 (lowI (uOf f) n) f false)] O'/\Q (.own 1 (lowI (uOf f) n)) O'):=by kernel_rfl
theorem wzs(v:Int)(Q:AV->oL7->Prop):wpFn te [(130,.det we3)] [] 0 Tryz.f112 [.int .u64 v] [] Q=(letI z4:=IntKind.wrap IntKind.u32 v;letI z3:=(List.flatten (List.replicate (nat_lit 0) [.int .u32 0]):List AV);letI z2:=(IntKind.wrap IntKind.u32 (v / (2:Int) ^ (32:Int).toNat));letI z1:=(∀(i:Nat),i<2->nrefL (war 1 (.int .u32 z4:: .int .u32 z2::List.append [] z3) i)=true:Prop);letI z0:=(war 1 (.int .u32 z4:: .int .u32 z2::List.append [] z3));True/\((0:Int)<=32/\(32:Int)<=(↑(IntKind.bits IntKind.u64):Int))/\True/\(2<=16777216/\1=1/\2<=9223372036854775807)/\z1/\(124=124/\false=false/\2=2/\2<=1000/\∀(i:Nat),i<2->war 1 (.int .u32 z4:: .int .u32 z2::List.append [] z3) i=[.int .u32 (uOf z0 i)])/\z1/\Q (.view 1 (lowI (uOf z0) 2) (uRow (uOf z0))) []):=by kernel_rfl
theorem nf_size(v:Int)(Q:AV->oL7->Prop):wpFn te [(112,.det we7)] [] 0 Tryz.f84 [.q v] [] Q=(wab (decide (v<0)) (True/\inR .u64 ((0:Int) - IntKind.wrap IntKind.u64 v)/\((0:Int)<=0 - IntKind.wrap IntKind.u64 v/\(0:Int) - IntKind.wrap IntKind.u64 v<18446744073709551616)/\Q (.view 1 (lmN ((0:Int) - IntKind.wrap IntKind.u64 v)) (uRow (lmF ((0:Int) - IntKind.wrap IntKind.u64 v)))) []) (True/\((0:Int)<=IntKind.wrap IntKind.u64 v/\IntKind.wrap IntKind.u64 v<18446744073709551616)/\Q (.view 1 (lmN (IntKind.wrap IntKind.u64 v)) (uRow (lmF (IntKind.wrap IntKind.u64 v)))) [])):=by kernel_rfl
theorem wzt(v:Int)(Q:AV->oL7->Prop):wpFn te [(84,.det we1)] [] 0 Tryz.f44 [.q v] [] Q=(((0:Int)<=v/\v<9223372036854775808)/\(True/\True)/\Q (.agg [.bool (decide (v<0)),.view 1 (lmN v) (uRow (lmF v)),.nil]) []):=by kernel_rfl
theorem w0h(g:Nat->SL)(s:SL)(n:Nat)(i:BI)(P:BI->Prop)(Q:eR7):was ⟨te,[(42,.det wgs)],[],0,49,0⟩ (wat Tryz.f41 3) [0,2,4,8,9,10] [0,2,4,8,9] [] (wm0 g s n) P Q (wm0 g s n i)=(letI z2:=(↑(BI.a i):Int);letI z3:=(z2+(↑(BI.b i):Int));letI z4:=(IntKind.wrap IntKind.u64 z3 / (2:Int) ^ (1:Int).toNat+1);letI z1:=([(0,.cells [.str (SL.o s),.str (SL.p s),.q (SL.per s)] 78)]:oL7);letI z0:=(IntKind.wrap IntKind.u64 z3 / (2:Int) ^ (1:Int).toNat);wab (decide (z2<(↑(BI.b i):Int))) (inR .i64 z3/\True/\((0:Int)<=1/\(1:Int)<=(↑(IntKind.bits IntKind.u64):Int))/\inR .i64 z0/\((0:Int)<=IntKind.wrap IntKind.u64 z3 / (2:Int) ^ (1:Int).toNat/\IntKind.wrap IntKind.u64 z3 / (2:Int) ^ (1:Int).toNat<(n:Int)/\3=3)/\True/\wab (decide (ordS (SL.mk (SL.o (g z0.toNat)) (SL.p (g z0.toNat)) (SL.per (g z0.toNat))) (SL.mk (SL.o s) (SL.p s) (SL.per s))<0)) (inR .i64 z4/\∃(i':BI),some (St.mk [(0,.view 3 n (wap g)),(2,.func 42 []),(4,.ptr 0 0),(8,.q (n:Int)),(9,.q z4),(10,.q (↑(BI.b i):Int))] z1 1 [])=some (St.mk [(0,.view 3 n (wap g)),(2,.func 42 []),(4,.ptr 0 0),(8,.q (n:Int)),(9,.q (↑(BI.a i'):Int)),(10,.q (↑(BI.b i'):Int))] z1 1 [])/\P i') (∃(i':BI),some (St.mk [(0,.view 3 n (wap g)),(2,.func 42 []),(4,.ptr 0 0),(8,.q (n:Int)),(9,.q z2),(10,.q z0)] z1 1 [])=some (St.mk [(0,.view 3 n (wap g)),(2,.func 42 []),(4,.ptr 0 0),(8,.q (n:Int)),(9,.q (↑(BI.a i'):Int)),(10,.q (↑(BI.b i'):Int))] z1 1 [])/\P i')) (Q (.exit 0) (St.mk [(0,.view 3 n (wap g)),(2,.func 42 []),(4,.ptr 0 0),(8,.q (n:Int)),(9,.q z2)] z1 1 []))):=by kernel_rfl
theorem nf_bs(g:Nat->SL)(s:SL)(n:Nat)(Q:AV->oL7->Prop):wpFn te [(42,.det wgs)] [(3,L_bs g s n)] 0 Tryz.f41 [.view 3 n (wap g),.agg [.str s.o,.str s.p,.q s.per],.func 42 []] [] Q=(letI z1:=([(0,.cells [.str (SL.o s),.str (SL.p s),.q (SL.per s)] 78)]:oL7);letI z0:=(↑(bsF g s n):Int);some (St.mk [(0,.view 3 n (wap g)),(2,.func 42 []),(4,.ptr 0 0),(8,.q (n:Int)),(9,.q 0),(10,.q (n:Int))] z1 1 [])=some (St.mk [(0,.view 3 n (wap g)),(2,.func 42 []),(4,.ptr 0 0),(8,.q (n:Int)),(9,.q (↑(BI.a (BI.mk 0 n)):Int)),(10,.q (↑(BI.b (BI.mk 0 n)):Int))] z1 1 [])/\n<=1000000/\(∀(i j:Nat),i<j->j<n->ordS (g i) (g j)<0)/\wab (decide (z0<(n:Int))) (((0:Int)<=z0/\z0<(n:Int)/\3=3)/\True/\Q (.tuple [.q z0,.bool (decide (ordS (SL.mk (SL.o (g z0.toNat)) (SL.p (g z0.toNat)) (SL.per (g z0.toNat))) (SL.mk (SL.o s) (SL.p s) (SL.per s))=0))]) []) (Q (.tuple [.q z0,.bool false]) [])):=by kernel_rfl
theorem wju(g:Nat->Int):∀n,lowI g n<=n
 |0=>lR7 _
 |k+1=>by
  have:=wju g k;rw[lowI]
  cases decide (g k=0) with
  |true=>rw[cond_true];omega
  |false=>rw[cond_false];omega
theorem wpa{g:Nat->Int}{k:Nat}:∀ {n},k<=n->(∀i,k<=i->i<n->g i=0)->lowI g n=lowI g k
 |0,hk,_=>by rw[show k=0 by omega]
 |n+1,hk,h=>by
  by_cases q:k=n+1
  ·rw[q]
  ·rw[lowI,decide_eq_true (h n (by omega) (by omega)),cond_true];exact wpa (by omega) λi h1 h2=>h i h1 (by omega)
theorem w1a(hP:C.P=Tryz.prog)(g:Nat->Int)(n:Nat):wag C 1 21 (wah Tryz.f150 1) (wnt g n):=by
 have _:C.Loose:=inferInstance;rintro st Q ⟨h0,hn,hQ⟩;refine wag.mk (prg hP) [] 0 .nil [0] [0] [] (wg1 g n) (λk=>k<=n/\∀i,k<=i->i<n->g i=0) (λk=>k) n ⟨lR7 _,λi h1 h2=>absurd h2 (by omega)⟩ h0 (λk hk=>?_) (λi=>⟨λ_ _=>rfl,trivial⟩);obtain⟨hkn,hz⟩:=hk;have hQ':lowI g n=k->Q (.exit 0) ⟨[(0,.own 0 k)],[(0,.row 124 1 n (uRow g) false)],1,[]⟩:=λh=>by
  have hQ:Q (.exit 0) (wg1 g n (lowI g n)):=hQ;rw[h] at hQ;exact hQ
 rw[wzf];have e1:((k:Int) - 1).toNat=k - 1:=by omega
 rw[e1];refine waf (λh1=>⟨by simp only[inR];omega,⟨by omega,by omega⟩,⟨by omega,rfl⟩,waf (λh2=>⟨by simp only[inR];omega,⟨by omega,by omega⟩,k - 1,⟨rfl,wav _⟩,⟨by omega,λi h3 h4=>?_⟩,by omega⟩) (λh2=>⟨λ_ _=>rfl,_,wav _,hQ' ?_⟩)⟩) (λh1=>⟨λ_ _=>rfl,_,wav _,hQ' ?_⟩)
 ·by_cases q:i=k - 1
  ·rw[q];exact h2
  ·exact hz i (by omega) h4
 ·rw[wpa hkn hz];obtain⟨j,rfl⟩:∃j,k=j+1:=⟨k - 1,by omega⟩;rw[lowI,decide_eq_false (by rw[Nat.add_sub_cancel] at h2;exact h2)];rfl
 ·rw[wpa hkn hz,show k=0 by omega];rfl
theorem low_ok(hP:C.P=Tryz.prog):wad C 150 wl7:=by
 rintro args objs U Os vc h hvc;unfold wl7 at h;split at h<;>cases h;rename_i n t m f fr;obtain⟨rfl,rfl,rfl,hn,hf⟩:=hvc;refine wad.wpL (prg hP) [] [(1,wnt (uOf f) n)] 0 .nil (hP ▸ Tryz.func150) rfl rfl rfl [(wah Tryz.f150 1,wnt (uOf f) n)] (by kernel_rfl) ⟨w1a hP _ n,trivial⟩ ?_;rw[nf_low];have hrow:wac [(0,AObj.row 124 1 n (uRow (uOf f)) false)] [(0,.row 124 1 n f false)]:=⟨⟨rfl,rfl,rfl,rfl,rfl,λi hi=>(hf i hi).symm⟩,trivial⟩;exact⟨⟨rfl,⟨rfl,rfl,rfl,rfl,rfl,hf⟩,trivial⟩,hn,λ_ _=>rfl,_,hrow,rfl,rfl⟩
theorem wxs(hP:C.P=Tryz.prog):wad C 130 we3:=by
 rintro args objs U Os vc h hvc;unfold we3 at h;split at h<;>cases h;rename_i n t m f fr;obtain⟨rfl,rfl,rfl,hn,hf⟩:=hvc;refine waq.frzO 1 ?_;refine wba.wpL (prg hP) [(150,.det wl7)] [] 0 (.cons (low_ok hP) .nil) (hP ▸ Tryz.func130) rfl rfl rfl [] (wcp _) trivial ?_;rw[wy4];have hle:=wju (uOf f) n;have hnr:∀i,i<n->nrefL (f i)=true:=λi hi=>by rw[hf i hi];rfl
 refine⟨hnr,⟨rfl,rfl,rfl,hn,hf⟩,hnr,⟨⟨hle,rfl⟩,rfl,by omega,by omega⟩,hnr,λi hi=>hnr i (by omega),[(0,.row 124 1 n f false),(1,.row 124 1 (lowI (uOf f) n) (uRow (uOf f)) false)],⟨rQ7,⟨rfl,rfl,rfl,rfl,rfl,λi hi=>hf i (by omega)⟩,trivial⟩,λ_ _=>rfl,?_⟩;generalize lowI (uOf f) n=c at *;have hb:Nat.ble c c=true:=Nat.ble_eq_true_of_le (lR7 _)
 constructor
 ·simp[frzC,frzA,frz,hb]
 ·rfl
theorem w2a(hP:C.P=Tryz.prog):wad C 112 we7:=by
 rintro args objs U Os vc h hvc;unfold we7 at h;split at h<;>cases h;rename_i v;obtain⟨h0,h1⟩:=hvc;refine wad.wp0 (prg hP) [(130,.det we3)] 0 (.cons (wxs hP) .nil) (hP ▸ Tryz.func112) rfl rfl rfl ?_;rw[wzs];have w1:IntKind.wrap .u32 v=v % 4294967296:=rfl;have w2:IntKind.wrap .u32 (v / (2:Int) ^ Int.toNat (32:Int))=v / 4294967296:=by
  show (v / 4294967296) % 4294967296=v / 4294967296;omega
 rw[w1,w2];have e:uOf (war 1 (.int .u32 (v % 4294967296):: .int .u32 (v / 4294967296)::List.append [] (List.flatten (List.replicate 0 [.int .u32 0]))))=lmF v:=by
  funext i
  match i with
  |0=>rfl
  |1=>rfl
  |i+2=>simp[uOf,war,lmF,wd5,wdi]
 have two:∀ {p:Nat->Prop},p 0->p 1->∀i,i<2->p i:=λh0 h1 i hi=>by
  match i,hi with
  |0,_=>exact h0
  |1,_=>exact h1
 refine⟨trivial,⟨by decide,by decide⟩,trivial,⟨by omega,rfl,by omega⟩,two rfl rfl,⟨rfl,rfl,rfl,by omega,two rfl rfl⟩,two rfl rfl,?_,rfl⟩;show AV.view 1 (lowI (uOf _) 2) (uRow (uOf _))=_;rw[e];rfl
theorem size_ok(hP:C.P=Tryz.prog):wad C 84 we1:=by
 rintro args objs U Os vc h hvc;unfold we1 at h;split at h<;>cases h;rename_i v;obtain⟨h0,h1⟩:=hvc;refine wad.wp0 (prg hP) [(112,.det we7)] 0 (.cons (w2a hP) .nil) (hP ▸ Tryz.func84) rfl rfl rfl ?_;rw[nf_size];have w:IntKind.wrap .u64 v=v:=by
  show v % 18446744073709551616=v;omega
 rw[w];exact waf (λh=>absurd h (by omega)) (λ_=>⟨trivial,⟨h0,by omega⟩,rfl,rfl⟩)
theorem w2b(hP:C.P=Tryz.prog):wad C 44 wdy:=by
 rintro args objs U Os vc h hvc;unfold wdy at h;split at h<;>cases h;rename_i v;obtain⟨h0,h1⟩:=hvc;refine wad.wp0 (prg hP) [(84,.det we1)] 0 (.cons (size_ok hP) .nil) (hP ▸ Tryz.func44) rfl rfl rfl ?_;rw[wzt,decide_eq_false (show ¬ v<0 by omega)];exact⟨⟨h0,h1⟩,⟨trivial,trivial⟩,rfl,rfl⟩
theorem bsF_at{g:Nat->SL}{s:SL}{n a:Nat}(ha:a<=n)(h1:∀i,i<a->ordS (g i) s<0)(h2:a<n->¬ ordS (g a) s<0):bsF g s n=a:=by
 unfold bsF;obtain⟨f1,f2⟩:=wkd (λi=> !decide (ordS (g i) s<0)) n;have f3:=wge (λi=> !decide (ordS (g i) s<0)) n;generalize fstB (λi=> !decide (ordS (g i) s<0)) n=p at *
 rcases Nat.lt_trichotomy p a with h | h | h
 ·have q:=f2 (by omega);have q:(!decide (ordS (g p) s<0))=true:=q;rw[decide_eq_true (h1 p h)] at q;cases q
 ·exact h
 ·have q:=f1 a h;have q:(!decide (ordS (g a) s<0))=false:=q;rw[decide_eq_false (h2 (by omega))] at q;cases q
theorem bs_loop(hP:C.P=Tryz.prog)(g:Nat->SL)(s:SL)(n:Nat):wag C 0 49 (wah Tryz.f41 3) (L_bs g s n):=by
 have _:C.Loose:=inferInstance;rintro st Q ⟨h0,hn,hs,hQ⟩;refine wag.mk (prg hP) [(42,.det wgs)] 0 (.cons (woi hP) .nil) [0,2,4,8,9,10] [0,2,4,8,9] [] (wm0 g s n) (λi=>i.a<=i.b/\i.b<=n/\(∀k,k<i.a->ordS (g k) s<0)/\∀k,i.b<=k->k<n->¬ ordS (g k) s<0) (λi=>i.b - i.a) ⟨0,n⟩ ⟨zL7 _,lR7 _,λk h=>absurd h (nZ7 k),λk h1 h2=>absurd h2 (by have h1:n<=k:=h1;omega)⟩ h0 (λi hi=>?_);obtain⟨a,b⟩:=i;obtain⟨hab,hbn,hlo,hhi⟩:=hi;have hab:a<=b:=hab;have hbn:b<=n:=hbn;have hlo:∀k,k<a->ordS (g k) s<0:=hlo;have hhi:∀k,b<=k->k<n->¬ ordS (g k) s<0:=hhi;rw[w0h];show wab (decide ((a:Int)<(b:Int))) _ _;have hm:IntKind.wrap .u64 ((a:Int)+(b:Int)) / (2:Int) ^ Int.toNat (1:Int)=(((a+b) / 2:Nat):Int):=by
  show ((a:Int)+(b:Int)) % 18446744073709551616 / 2=_;omega
 show wab _ (_/\_/\_/\inR .i64 (IntKind.wrap .u64 ((a:Int)+(b:Int)) / (2:Int) ^ Int.toNat (1:Int))/\_) _;rw[hm,tN7];have up:∀i j,i<=j->j<n->¬ ordS (g i) s<0->¬ ordS (g j) s<0:=λi j hij hj h q=>by
  rcases Nat.lt_or_ge i j with w | w
  ·exact h (wck.lt_trans (hs i j w hj) q)
  ·have:i=j:=by omega
   subst this;exact h q
 refine waf (λh1=>⟨by simp only[inR];show _<=(a:Int)+(b:Int)/\(a:Int)+(b:Int)<=_;omega,trivial,⟨by decide,by decide⟩,by simp only[inR];omega,⟨by omega,by omega,rfl⟩,trivial,waf (λh2=>?_) (λh2=>?_)⟩) (λh1=>?_)
 ·refine⟨by simp only[inR];omega,⟨(a+b) / 2+1,b⟩,rfl,⟨by show (a+b) / 2+1<=b;omega,hbn,λk hk=>?_,hhi⟩,by show b - ((a+b) / 2+1)<b - a;omega⟩;have hk:k<(a+b) / 2+1:=hk
  rcases Nat.lt_or_ge k ((a+b) / 2) with w | w
  ·exact wck.lt_trans (hs k _ w (by omega)) h2
  ·have:k=(a+b) / 2:=by omega
   subst this;exact h2
 ·exact⟨⟨a,(a+b) / 2⟩,rfl,⟨by show a<=(a+b) / 2;omega,by show (a+b) / 2<=n;omega,hlo,λk hk hkn=>up _ _ hk hkn h2⟩,by show (a+b) / 2 - a<b - a;omega⟩
 ·have e:bsF g s n=a:=bsF_at (by omega) hlo λh=>hhi a (by omega) h;rw[e] at hQ;exact hQ
theorem bs_ok(hP:C.P=Tryz.prog):wad C 41 S_bs:=by
 rintro args objs U Os vc h hvc;unfold S_bs at h;split at h<;>cases h;rename_i n f o p per;obtain⟨hn,hf,hs⟩:=hvc;generalize slOf f=g at *;subst hf;have hnf:=λQ=>nf_bs g ⟨o,p,per⟩ n Q;dsimp only at hnf
 refine wad.wpL (prg hP) [(42,.det wgs)] [(3,L_bs g ⟨o,p,per⟩ n)] 0 (.cons (woi hP) .nil) (hP ▸ Tryz.func41) rfl rfl rfl
  [(wah Tryz.f41 3,L_bs g ⟨o,p,per⟩ n)] (by kernel_rfl) ⟨bs_loop hP g _ n,trivial⟩ ?_
 rw[hnf];refine⟨rfl,hn,hs,waf (λh=>?_) (λh=>?_)⟩
 ·rw[decide_eq_true (show bsF g ⟨o,p,per⟩ n<n by omega)];exact⟨⟨by omega,h,rfl⟩,trivial,rfl,rfl⟩
 ·rw[decide_eq_false (show ¬ bsF g ⟨o,p,per⟩ n<n by omega)];exact⟨rfl,rfl⟩
theorem w3r{V:List SL}(h:Asc ordS V)(s:SL):(decide (bsF (atS V) s V.length<V.length) && decide (ordS (atS V (bsF (atS V) s V.length)) s=0))=decide (s∈V):=by
 rw[Bool.eq_iff_iff,bA7,decide_eq_true_eq,decide_eq_true_eq,decide_eq_true_eq]
 constructor
 ·rintro⟨h1,h2⟩;rw[← wjd.1 h2];exact wed h1
 ·intro hm;obtain⟨i,hi,rfl⟩:=wjp hm;have e:bsF (atS V) (atS V i) V.length=i:=bsF_at (by omega) (λj hj=>wgo h hj hi) λ_=>by rw[wck.self];omega
  rw[e];exact⟨hi,wck.self _⟩
end Go.Eng
