/- The order of messages: compare, and sorting by it. -/
import Derived.Test.YtmcdngcjakjnmaaGreatDoorJvq
import Derived.Ground.SlsfProg
import Derived.Shelf.SlSortCmp.NoneTotal
namespace Go.Eng
open Go.Proofs Go.RowKit
variable {C:Ctx} [C.Loose]
set_option maxRecDepth 20000
theorem nf_cp(g:Nat->MG)(n:Nat)(R:oR7):wpFn te [] [(4,L_cp g n)] 0 Tryz.f99 [.own 0 n] [.row 47 15 n (waa g) false] R=(letI z0:=([(0,.row 47 15 n (waa g) false)]:oL7);wab (decide ((n:Int)<2)) ((∀(i:Nat),i<n->true=true)/\∃(O':oL7),wac z0 O'/\R (.own 0 n) O') ((TEq [(0,.own 0 n),(3,.q 1)] [(0,.own 0 n),(3,.q (↑1:Int))]/\wac z0 z0)/\2<=n/\n<=1000000/\(allK g n=true->(∀(i:Nat),i<n->true=true)/\∃(O':oL7),wac z0 O'/\R (.own 0 n) O')/\∀(w:Nat) (h:Nat->MG),lst h w=ddL g n->(∀(i:Nat),i<w->true=true)/\∃(O':oL7),wac [(0,.row 47 15 w (waa h) false)] O'/\R (.own 0 w) O')):=by kernel_rfl
theorem w2s(g:Nat->MG)(n k:Nat)(P:Nat->Prop)(R:eR7):wat ⟨te,[],[(9,L_ci g n k)],1,61,0⟩ (wav Tryz.f99 4) [0,3] [0] [2] (S_cp g n) P R (S_cp g n k)=(letI z2:=([(0,.row 47 15 n (waa g) false)]:oL7);letI z1:=(g (k:Int).toNat);letI z0:=(g ((k:Int) - (1:Int)).toNat);wab (decide ((k:Int)<(n:Int))) (((0:Int)<=(k:Int)/\(k:Int)<(n:Int))/\((k:Int).toNat<n/\15=15)/\inR .i64 ((k:Int) - (1:Int))/\((0:Int)<=(k:Int) - (1:Int)/\(k:Int) - (1:Int)<(n:Int))/\(((k:Int) - (1:Int)).toNat<n/\15=15)/\wab (decide (z1.dev=z0.dev) && (decide (z1.seq=z0.seq) && (decide (z1.kind=z0.kind) && (decide (z1.v.o=z0.v.o) && (decide (z1.v.p=z0.v.p) && (decide (z1.v.per=z0.v.per) && (decide (z1.v.day=z0.v.day) && (decide (z1.v.st=z0.v.st) && (decide (z1.v.pr=z0.v.pr) && decide (z1.v.rep=z0.v.rep)))))) && (decide (z1.d.o=z0.d.o) && (decide (z1.d.p=z0.d.p) && (decide (z1.d.per=z0.d.per) && (decide (z1.d.dev=z0.d.dev) && decide (z1.d.num=z0.d.num))))))))) (((0:Int)<=(k:Int)/\(k:Int)<=(n:Int))/\(TEq [(0,.own 0 n),(3,.q (k:Int)),(4,.sub 0 15 (k:Int).toNat (n - (k:Int).toNat)),(5,.q 1)] [(0,.own 0 n),(3,.q (↑(CI.w (CI.mk 1 k g)):Int)),(4,.sub 0 15 k (n - k)),(5,.q (↑(CI.k (CI.mk 1 k g)):Int))]/\wac z2 [(0,.row 47 15 n (waa (CI.h (CI.mk 1 k g))) false)])/\(1<=k/\k<n/\n<=1000000)/\allK g k=true/\wci g k=false/\∀(w:Nat) (h:Nat->MG),letI z3:=((0:Int)<=(w:Int)/\(w:Int)<=(n:Int):Prop);w<=n->lst h w=ddL g n->z3/\(w:Int).toNat<=n/\z3/\(∀(i:Nat),i<(w:Int).toNat->true=true)/\∃(O':oL7),wac [(0,.row 47 15 (w:Int).toNat (waa h) false)] O'/\R .ret (St.mk [(2,.own 0 (w:Int).toNat)] O' 1 [])) (inR .i64 ((k:Int)+1)/\∃(i':Nat),(TEq [(0,.own 0 n),(3,.q ((k:Int)+1))] [(0,.own 0 n),(3,.q (i':Int))]/\wac z2 z2)/\P i')) ((∀(i:Nat),i<n->true=true)/\∃(O':oL7),wac z2 O'/\R (.exit 0) (St.mk [(0,.own 0 n)] O' 1 []))):=by kernel_rfl
theorem w21(g:Nat->MG)(n k0:Nat)(i:CI)(P:CI->Prop)(R:eR7):wat ⟨te,[],[],1,61,0⟩ (wav Tryz.f99 9) [0,3,4,5] [0,3] [] (S_ci g n k0) P R (S_ci g n k0 i)=(letI z6:=([(0,.row 47 15 n (waa (CI.h i)) false)]:oL7);letI z3:=(↑(CI.w i):Int);letI z2:=(↑(CI.k i):Int);letI z5:=(z2+1);letI z4:=((0:Int)<=z2/\z2<(↑(n - k0):Int)/\15=15:Prop);letI z1:=(CI.h i (k0+(z2 - (1:Int)).toNat));letI z0:=(CI.h i (k0+z2.toNat));wab (decide (z2<(↑(n - k0):Int))) (z4/\(k0+z2.toNat<n/\15=15)/\inR .i64 (z2 - (1:Int))/\((0:Int)<=z2 - (1:Int)/\z2 - (1:Int)<(↑(n - k0):Int)/\15=15)/\(k0+(z2 - (1:Int)).toNat<n/\15=15)/\wab (!(decide (z0.dev=z1.dev) && (decide (z0.seq=z1.seq) && (decide (z0.kind=z1.kind) && (decide (z0.v.o=z1.v.o) && (decide (z0.v.p=z1.v.p) && (decide (z0.v.per=z1.v.per) && (decide (z0.v.day=z1.v.day) && (decide (z0.v.st=z1.v.st) && (decide (z0.v.pr=z1.v.pr) && decide (z0.v.rep=z1.v.rep)))))) && (decide (z0.d.o=z1.d.o) && (decide (z0.d.p=z1.d.p) && (decide (z0.d.per=z1.d.per) && (decide (z0.d.dev=z1.d.dev) && decide (z0.d.num=z1.d.num)))))))))) (z4/\(k0+z2.toNat<n/\15=15)/\((0:Int)<=z3/\z3<(n:Int))/\(List.length [AV.str z0.dev,.q z0.seq,.q z0.kind,.str z0.v.o,.str z0.v.p,.q z0.v.per,.q z0.v.day,.q z0.v.st,.q z0.v.pr,.str z0.v.rep,.str z0.d.o,.str z0.d.p,.q z0.d.per,.str z0.d.dev,.q z0.d.num]=15/\z3.toNat<n/\15=15)/\inR .i64 (z3+1)/\inR .i64 z5/\∃(i':CI),(TEq [(0,.own 0 n),(3,.q (z3+1)),(4,.sub 0 15 k0 (n - k0)),(5,.q z5)] [(0,.own 0 n),(3,.q (↑(CI.w i'):Int)),(4,.sub 0 15 k0 (n - k0)),(5,.q (↑(CI.k i'):Int))]/\wac [(0,.row 47 15 n (λ(k:Nat)=>if k=Int.toNat z3 then [.str z0.dev,.q z0.seq,.q z0.kind,.str z0.v.o,.str z0.v.p,.q z0.v.per,.q z0.v.day,.q z0.v.st,.q z0.v.pr,.str z0.v.rep,.str z0.d.o,.str z0.d.p,.q z0.d.per,.str z0.d.dev,.q z0.d.num] else waa (CI.h i) k) false)] [(0,.row 47 15 n (waa (CI.h i')) false)])/\P i') (inR .i64 z5/\∃(i':CI),(TEq [(0,.own 0 n),(3,.q z3),(4,.sub 0 15 k0 (n - k0)),(5,.q z5)] [(0,.own 0 n),(3,.q (↑(CI.w i'):Int)),(4,.sub 0 15 k0 (n - k0)),(5,.q (↑(CI.k i'):Int))]/\wac z6 [(0,.row 47 15 n (waa (CI.h i')) false)])/\P i')) ((∀(i:Nat),i<n->true=true)/\∃(O':oL7),wac z6 O'/\R (.exit 2) (St.mk [(0,.own 0 n),(3,.q z3)] O' 1 []))):=by kernel_rfl
theorem wdr(g:Nat->MG)(n:Nat):lst g (n+1)=lst g n++[g n]:=by simp[lst,List.range_succ]
theorem wlm{a b:MG}:eqM a b=true↔a=b:=by
 unfold eqM;simp only[bA7,decide_eq_true_eq]
 constructor
 ·rintro⟨h1,h2,h3,⟨h4,h5,h6,h7,h8,h9,h10⟩,h11,h12,h13,h14,h15⟩;obtain⟨dev,seq,kind,⟨o,p,per,day,st,pr,rep⟩,⟨o',p',per',dev',num⟩⟩:=a;obtain⟨_,_,_,⟨_,_,_,_,_,_,_⟩,⟨_,_,_,_,_⟩⟩:=b;simp_all
 ·rintro rfl;simp
theorem wls(g:Nat->MG)(m:Nat):ddL g (m+1)=ddL g m++bif wci g m then [g m] else []:=by
 unfold ddL;rw[List.range_succ,List.filter_append,List.map_append]
 cases h:wci g m<;>simp[h]
theorem wsf(g:Nat->MG):∀ {k:Nat},allK g k=true->ddL g k=lst g k
 |0,_=>rfl
 |k+1,h=>by
  rw[allK,bA7] at h;rw[wls,wsf g h.1,h.2,wdr];rfl
theorem wk2{g:Nat->MG}{k:Nat}(h:0<k):wci g k= !eqM (g k) (g (k - 1)):=by
 unfold wci;rw[decide_eq_false (by omega)];rfl
theorem ci_loop(hP:C.P=Tryz.prog)(g:Nat->MG)(n k0:Nat):wah C 1 61 (wai Tryz.f99 9) (L_ci g n k0):=by
 have _:C.Loose:=inferInstance;rintro st Q ⟨h0,⟨hk0,hk1,hn⟩,hall,hkeep,hQ⟩
 refine wah.mk (prg hP) [] 0 .nil [0,3,4,5] [0,3] [] (S_ci g n k0) (λi=>1<=i.k/\i.k<=n - k0/\i.w<k0+i.k/\lst i.h i.w=ddL g (k0+i.k)/\∀j,i.w<=j->i.h j=g j) (λi=>n - k0 - i.k) ⟨1,k0,g⟩
  ⟨lR7 _,by show 1<=n - k0;omega,Nat.lt_succ_self _,?_,λ_ _=>rfl⟩ h0 (λi hi=>?_) (λi=>⟨λ_ _=>rfl,trivial⟩)
 ·show lst g k0=ddL g (k0+1);rw[wls,hkeep,wsf g hall];simp
 obtain⟨i1,i2,i3,i4,i5⟩:=hi;obtain⟨k,w,h⟩:=i;dsimp only at i1 i2 i3 i4 i5;rw[w21];dsimp only
 rw[tN7,tN7];have e1:((k:Int) - 1).toNat=k - 1:=by omega
 rw[e1];refine wag (λh1=>?_) (λh1=>?_)
 ·have hk:k<n - k0:=by omega
  have r1:h (k0+k)=g (k0+k):=i5 _ (by omega);have r2:h (k0+(k - 1))=g (k0+(k - 1)):=i5 _ (by omega);have hkp:wci g (k0+k)= !eqM (g (k0+k)) (g (k0+(k - 1))):=by
   rw[wk2 (by omega)];have:k0+k - 1=k0+(k - 1):=by omega
   rw[this]
  have hkp:wci g (k0+k)= !eqM (h (k0+k)) (h (k0+(k - 1))):=by rw[r1,r2];exact hkp
  refine⟨⟨by omega,by omega,rfl⟩,⟨by omega,rfl⟩,by simp only[inR];omega,⟨by omega,by omega,rfl⟩,⟨by omega,rfl⟩,wan (λq=>?_) (λq=>?_)⟩
  ·have q:wci g (k0+k)=true:=hkp.trans q;refine⟨⟨by omega,by omega,rfl⟩,⟨by omega,rfl⟩,⟨by omega,by omega⟩,⟨rfl,by omega,rfl⟩,by simp only[inR];omega,by simp only[inR];omega,⟨k+1,w+1,λj=>if j=w then h (k0+k) else h j⟩,⟨rfl,⟨rfl,rfl,rfl,rfl,rfl,λj hj=>?_⟩,trivial⟩,⟨Nat.le_add_left _ _,hk,?_,?_,λj hj=>?_⟩,?_⟩
   ·unfold waa
    by_cases e:j=w
    ·simp only[e,if_true]
    ·simp only[e,if_false]
   ·show w+1<k0+(k+1);omega
   ·show lst (λj=>if j=w then h (k0+k) else h j) (w+1)=ddL g (k0+k+1)
    have e:lst (λj=>if j=w then h (k0+k) else h j) w=lst h w:=List.map_congr_left λj hj=>by
     have:=List.mem_range.1 hj;rw[if_neg (by omega)]
    rw[wdr,wls,q,e,i4,if_pos rfl,r1];rfl
   ·have hj:w+1<=j:=hj;show (if j=w then h (k0+k) else h j)=g j
    rw[if_neg (by omega)];exact i5 j (by omega)
   ·show n - k0 - (k+1)<n - k0 - k;omega
  ·have q:wci g (k0+k)=false:=hkp.trans q;refine⟨by simp only[inR];omega,⟨k+1,w,h⟩,⟨rfl,rQ7,trivial⟩,⟨Nat.le_add_left _ _,hk,?_,?_,i5⟩,?_⟩
   ·show w<k0+(k+1);omega
   ·show lst h w=ddL g (k0+k+1);rw[wls,q,i4];simp
   ·show n - k0 - (k+1)<n - k0 - k;omega
 ·have:k=n - k0:=by omega
  subst this;have e:k0+(n - k0)=n:=by omega
  rw[e] at i4;exact⟨λ_ _=>rfl,_,waz _,hQ w h (by omega) i4⟩
theorem cp_loop(hP:C.P=Tryz.prog)(g:Nat->MG)(n:Nat):wah C 1 61 (wai Tryz.f99 4) (L_cp g n):=by
 rintro st Q ⟨h0,hn2,hn,hQ,hR⟩
 refine wah.mkI (prg hP) [] (λk=>[(9,L_ci g n k)]) 0 .nil (λk=>[(wai Tryz.f99 9,L_ci g n k)]) (λk=>by kernel_rfl) (λk=>⟨ci_loop hP g n k,trivial⟩) [0,3] [0] [2] (S_cp g n) (λk=>1<=k/\k<=n/\allK g k=true) (λk=>n - k) 1
  ⟨lR7 _,by omega,rfl⟩ h0 (λk hk=>?_) (λk=>⟨λ_ _=>rfl,trivial⟩)
 obtain⟨i1,i2,i3⟩:=hk;have e1:((k:Int) - 1).toNat=k - 1:=by omega
 have hkp:wci g k= !eqM (g k) (g (k - 1)):=wk2 (by omega);rw[w2s,tN7,e1];refine wag (λh1=>⟨⟨by omega,by omega⟩,⟨by omega,rfl⟩,by simp only[inR];omega,⟨by omega,by omega⟩,⟨by omega,rfl⟩,wan (λq=>?_) (λq=>?_)⟩) (λh1=>?_)
 ·have q:eqM (g k) (g (k - 1))=true:=q;rw[q] at hkp;refine⟨⟨by omega,by omega⟩,⟨rfl,rQ7,trivial⟩,⟨i1,by omega,hn⟩,i3,hkp,λw h hw hl=>?_⟩;rw[tN7];exact⟨⟨by omega,by omega⟩,hw,⟨by omega,by omega⟩,λ_ _=>rfl,_,waz _,hR w h hl⟩
 ·have q:eqM (g k) (g (k - 1))=false:=q;rw[q] at hkp;refine⟨by simp only[inR];omega,k+1,⟨rfl,rQ7,trivial⟩,⟨by omega,by omega,?_⟩,by omega⟩;rw[allK,i3,hkp];rfl
 ·have:k=n:=by omega
  subst this;exact⟨λ_ _=>rfl,_,waz _,hQ i3⟩
theorem w6d(hP:C.P=Tryz.prog):wa8 C 99 wos:=by
 rintro args objs R h;unfold wos at h;split at h
 ·rename_i n t m f fr;obtain⟨rfl,rfl,rfl,hn,hf,hR⟩:=h;generalize mgOf f=g at *;subst hf;refine wa8.wpL (prg hP) [] [(4,L_cp g n)] 0 .nil (hP ▸ Tryz.func99) rfl rfl rfl [(wai Tryz.f99 4,L_cp g n)] (by kernel_rfl) ⟨cp_loop hP g n,trivial⟩ ?_;rw[nf_cp];refine wag (λh1=>⟨λ_ _=>rfl,_,waz _,hR n g ?_⟩) (λh1=>⟨⟨rfl,rQ7,trivial⟩,by omega,hn,λha=>⟨λ_ _=>rfl,_,waz _,hR n g (wsf g ha).symm⟩,λw h hl=>⟨λ_ _=>rfl,_,waz _,hR w h hl⟩⟩);have h1:n<2:=by omega
  match n,h1 with
  |0,_=>rfl
  |1,_=>rfl
 ·exact h.elim
end Go.Eng
namespace Go.Proofs
open Go.Shelf
def Tryz.sort43_ren:Go.Shelf.Ren:=⟨λ | 6=>43 | 15=>83 | 14=>82 | 28=>110 | 29=>111 | 20=>102 | 21=>103 | 22=>104 | 23=>105 | 24=>106 | 25=>107 | 26=>108 | 27=>109 | 46=>125 | 47=>126 | 48=>127 | 49=>128 | 50=>129 | 57=>149 | n=>n,λ | 22=>70 | 24=>78 | 25=>84 | 3=>3 | 39=>117 | 0=>0 | 53=>124 | 55=>105 | 4=>4 | 46=>139 | 45=>138 | 50=>81 | 5=>5 | 9=>9 | 66=>152 | 70=>156 | 76=>172 | 77=>173 | n=>n,λ | n=>n⟩
theorem Tryz.sort43:Go.Proofs.SlLaysF0.n6 Tryz.prog Tryz.sort43_ren:={
 mixed:=by kernel_rfl
 f6:=⟨Tryz.f43.name,by decide,Tryz.func43.trans (congrArg some (by kernel_rfl))⟩
 f14:=⟨Tryz.f82.name,by decide,Tryz.func82.trans (congrArg some (by kernel_rfl))⟩
 f15:=Tryz.func83.trans (congrArg some (by kernel_rfl))
 f20:=⟨Tryz.f102.name,by decide,Tryz.func102.trans (congrArg some (by kernel_rfl))⟩
 f21:=⟨Tryz.f103.name,by decide,Tryz.func103.trans (congrArg some (by kernel_rfl))⟩
 f22:=⟨Tryz.f104.name,by decide,Tryz.func104.trans (congrArg some (by kernel_rfl))⟩
 f23:=⟨Tryz.f105.name,by decide,Tryz.func105.trans (congrArg some (by kernel_rfl))⟩
 f24:=⟨Tryz.f106.name,by decide,Tryz.func106.trans (congrArg some (by kernel_rfl))⟩
 f25:=⟨Tryz.f107.name,by decide,Tryz.func107.trans (congrArg some (by kernel_rfl))⟩
 f26:=⟨Tryz.f108.name,by decide,Tryz.func108.trans (congrArg some (by kernel_rfl))⟩
 f27:=⟨Tryz.f109.name,by decide,Tryz.func109.trans (congrArg some (by kernel_rfl))⟩
 f28:=Tryz.func110.trans (congrArg some (by kernel_rfl))
 f29:=Tryz.func111.trans (congrArg some (by kernel_rfl))
 f46:=⟨Tryz.f125.name,by decide,Tryz.func125.trans (congrArg some (by kernel_rfl))⟩
 f47:=Tryz.func126.trans (congrArg some (by kernel_rfl))
 f48:=Tryz.func127.trans (congrArg some (by kernel_rfl))
 f49:=⟨Tryz.f128.name,by decide,Tryz.func128.trans (congrArg some (by kernel_rfl))⟩
 f50:=⟨Tryz.f129.name,by decide,Tryz.func129.trans (congrArg some (by kernel_rfl))⟩
 f57:=⟨Tryz.f149.name,by decide,Tryz.func149.trans (congrArg some (by kernel_rfl))⟩
 t0:=Tryz.underlying0
 a0:=Tryz.isAgg0
 z0:=Tryz.sizeOf0
 v0:=Tryz.zeroValue0
 t3:=Tryz.underlying3
 a3:=Tryz.isAgg3
 z3:=Tryz.sizeOf3
 v3:=Tryz.zeroValue3
 t4:=Tryz.underlying4
 a4:=Tryz.isAgg4
 z4:=Tryz.sizeOf4
 v4:=Tryz.zeroValue4
 t5:=Tryz.underlying5
 a5:=Tryz.isAgg5
 z5:=Tryz.sizeOf5
 v5:=Tryz.zeroValue5
 t9:=Tryz.underlying9
 a9:=Tryz.isAgg9
 z9:=Tryz.sizeOf9
 v9:=Tryz.zeroValue9
 t22:=Tryz.underlying70
 a22:=Tryz.isAgg70
 z22:=Tryz.sizeOf70
 v22:=Tryz.zeroValue70
 t25:=Tryz.underlying84
 a25:=Tryz.isAgg84
 z25:=Tryz.sizeOf84
 v25:=Tryz.zeroValue84
 t39:=Tryz.underlying117
 a39:=Tryz.isAgg117
 z39:=Tryz.sizeOf117
 v39:=Tryz.zeroValue117
 t45:=Tryz.underlying138
 a45:=Tryz.isAgg138
 z45:=Tryz.sizeOf138
 v45:=Tryz.zeroValue138
 t46:=Tryz.underlying139
 a46:=Tryz.isAgg139
 z46:=Tryz.sizeOf139
 v46:=Tryz.zeroValue139
 t50:=Tryz.underlying81
 a50:=Tryz.isAgg81
 z50:=Tryz.sizeOf81
 v50:=Tryz.zeroValue81
 t53:=Tryz.underlying124
 a53:=Tryz.isAgg124
 z53:=Tryz.sizeOf124
 v53:=Tryz.zeroValue124
 t55:=Tryz.underlying105
 a55:=Tryz.isAgg105
 z55:=Tryz.sizeOf105
 v55:=Tryz.zeroValue105
 t66:=Tryz.underlying152
 a66:=Tryz.isAgg152
 z66:=Tryz.sizeOf152
 v66:=Tryz.zeroValue152
 t70:=Tryz.underlying156
 a70:=Tryz.isAgg156
 z70:=Tryz.sizeOf156
 v70:=Tryz.zeroValue156
 t76:=Tryz.underlying172
 a76:=Tryz.isAgg172
 z76:=Tryz.sizeOf172
 v76:=Tryz.zeroValue172
 t77:=Tryz.underlying173
 a77:=Tryz.isAgg173
 z77:=Tryz.sizeOf173
 v77:=Tryz.zeroValue173 }
def Tryz.sort97_ren:Go.Shelf.Ren:=⟨λ | 6=>97 | 15=>83 | 14=>121 | 28=>110 | 29=>111 | 20=>140 | 21=>141 | 22=>142 | 23=>143 | 24=>144 | 25=>145 | 26=>146 | 27=>147 | 46=>159 | 47=>126 | 48=>127 | 49=>160 | 50=>161 | 57=>168 | n=>n,λ | 22=>22 | 24=>47 | 25=>135 | 3=>3 | 39=>117 | 0=>0 | 53=>124 | 55=>105 | 4=>4 | 46=>139 | 45=>138 | 50=>81 | 5=>5 | 9=>9 | 66=>152 | 70=>156 | 76=>172 | 77=>173 | n=>n,λ | n=>n⟩
theorem Tryz.sort97:Go.Proofs.SlLaysF0.n6 Tryz.prog Tryz.sort97_ren:={
 mixed:=by kernel_rfl
 f6:=⟨Tryz.f97.name,by decide,Tryz.func97.trans (congrArg some (by kernel_rfl))⟩
 f14:=⟨Tryz.f121.name,by decide,Tryz.func121.trans (congrArg some (by kernel_rfl))⟩
 f15:=Tryz.func83.trans (congrArg some (by kernel_rfl))
 f20:=⟨Tryz.f140.name,by decide,Tryz.func140.trans (congrArg some (by kernel_rfl))⟩
 f21:=⟨Tryz.f141.name,by decide,Tryz.func141.trans (congrArg some (by kernel_rfl))⟩
 f22:=⟨Tryz.f142.name,by decide,Tryz.func142.trans (congrArg some (by kernel_rfl))⟩
 f23:=⟨Tryz.f143.name,by decide,Tryz.func143.trans (congrArg some (by kernel_rfl))⟩
 f24:=⟨Tryz.f144.name,by decide,Tryz.func144.trans (congrArg some (by kernel_rfl))⟩
 f25:=⟨Tryz.f145.name,by decide,Tryz.func145.trans (congrArg some (by kernel_rfl))⟩
 f26:=⟨Tryz.f146.name,by decide,Tryz.func146.trans (congrArg some (by kernel_rfl))⟩
 f27:=⟨Tryz.f147.name,by decide,Tryz.func147.trans (congrArg some (by kernel_rfl))⟩
 f28:=Tryz.func110.trans (congrArg some (by kernel_rfl))
 f29:=Tryz.func111.trans (congrArg some (by kernel_rfl))
 f46:=⟨Tryz.f159.name,by decide,Tryz.func159.trans (congrArg some (by kernel_rfl))⟩
 f47:=Tryz.func126.trans (congrArg some (by kernel_rfl))
 f48:=Tryz.func127.trans (congrArg some (by kernel_rfl))
 f49:=⟨Tryz.f160.name,by decide,Tryz.func160.trans (congrArg some (by kernel_rfl))⟩
 f50:=⟨Tryz.f161.name,by decide,Tryz.func161.trans (congrArg some (by kernel_rfl))⟩
 f57:=⟨Tryz.f168.name,by decide,Tryz.func168.trans (congrArg some (by kernel_rfl))⟩
 t0:=Tryz.underlying0
 a0:=Tryz.isAgg0
 z0:=Tryz.sizeOf0
 v0:=Tryz.zeroValue0
 t3:=Tryz.underlying3
 a3:=Tryz.isAgg3
 z3:=Tryz.sizeOf3
 v3:=Tryz.zeroValue3
 t4:=Tryz.underlying4
 a4:=Tryz.isAgg4
 z4:=Tryz.sizeOf4
 v4:=Tryz.zeroValue4
 t5:=Tryz.underlying5
 a5:=Tryz.isAgg5
 z5:=Tryz.sizeOf5
 v5:=Tryz.zeroValue5
 t9:=Tryz.underlying9
 a9:=Tryz.isAgg9
 z9:=Tryz.sizeOf9
 v9:=Tryz.zeroValue9
 t22:=Tryz.underlying22
 a22:=Tryz.isAgg22
 z22:=Tryz.sizeOf22
 v22:=Tryz.zeroValue22
 t25:=Tryz.underlying135
 a25:=Tryz.isAgg135
 z25:=Tryz.sizeOf135
 v25:=Tryz.zeroValue135
 t39:=Tryz.underlying117
 a39:=Tryz.isAgg117
 z39:=Tryz.sizeOf117
 v39:=Tryz.zeroValue117
 t45:=Tryz.underlying138
 a45:=Tryz.isAgg138
 z45:=Tryz.sizeOf138
 v45:=Tryz.zeroValue138
 t46:=Tryz.underlying139
 a46:=Tryz.isAgg139
 z46:=Tryz.sizeOf139
 v46:=Tryz.zeroValue139
 t50:=Tryz.underlying81
 a50:=Tryz.isAgg81
 z50:=Tryz.sizeOf81
 v50:=Tryz.zeroValue81
 t53:=Tryz.underlying124
 a53:=Tryz.isAgg124
 z53:=Tryz.sizeOf124
 v53:=Tryz.zeroValue124
 t55:=Tryz.underlying105
 a55:=Tryz.isAgg105
 z55:=Tryz.sizeOf105
 v55:=Tryz.zeroValue105
 t66:=Tryz.underlying152
 a66:=Tryz.isAgg152
 z66:=Tryz.sizeOf152
 v66:=Tryz.zeroValue152
 t70:=Tryz.underlying156
 a70:=Tryz.isAgg156
 z70:=Tryz.sizeOf156
 v70:=Tryz.zeroValue156
 t76:=Tryz.underlying172
 a76:=Tryz.isAgg172
 z76:=Tryz.sizeOf172
 v76:=Tryz.zeroValue172
 t77:=Tryz.underlying173
 a77:=Tryz.isAgg173
 z77:=Tryz.sizeOf173
 v77:=Tryz.zeroValue173 }
end Go.Proofs
namespace Go.Eng
open Go.Proofs Go.RowKit Go.Sort
def valA:AV->Value
 |.str l=>.string ⟨l.toArray⟩
 |.int k n=>.int k n
 |.bool b=>.bool b
 |_=>default
def wez:AV->Bool
 |.str _=>true
 |.int _ _=>true
 |.bool _=>true
 |_=>false
theorem wxh{w:World}{M:Nat->Prop}{bs:Nat->Option Hd}{v:Value}{u:AV}(hp:wez u=true)(h:V w M bs v u):v=valA u:=by
 cases u<;>simp only[wez,Bool.false_eq_true] at hp
 ·cases h;rfl
 ·cases h;rfl
 ·exact h.str_iff
theorem wt3{w:World}{M:Nat->Prop}{bs:Nat->Option Hd}{u:AV}(hp:wez u=true):V w M bs (valA u) u:=by
 cases u<;>simp only[wez,Bool.false_eq_true] at hp
 ·exact .bool
 ·exact .int
 ·exact .str rfl
theorem wt2{u:AV}(hp:wez u=true):(valA u).oneCell'=true:=by
 cases u<;>simp only[wez,Bool.false_eq_true] at hp<;>rfl
def Ctx.bare(P:Program)(h:P.follows .mixedOrders=true):Ctx:=⟨P,0,λ_=>True,h,λ_ _ _ h=>h,true⟩
theorem grow_of{w w':World}(h1:w'.os=w.os)(h2:w'.tape=w.tape)(h3:w'.output=w.output)(h4:w.heap.size<=w'.heap.size)(h5:∀b,b<w.heap.size->w'.heap[b]?=w.heap[b]?)(h6:w.drawn<=w'.drawn):
  ∃q os,w'=grow (w.drewN q) os:=by
 refine⟨w'.drawn - w.drawn,w'.heap.extract w.heap.size w'.heap.size,?_⟩;obtain⟨hp,tp,dr,os,out⟩:=w;obtain⟨hp',tp',dr',os',out'⟩:=w';simp only at h1 h2 h3 h4 h5 h6;subst h1;subst h2;subst h3;simp only[grow,World.drewN,World.mk.injEq,and_true,true_and];refine⟨?_,by omega⟩;apply Array.ext_getElem?;intro i;rw[Array.getElem?_append]
 by_cases h:i<hp.size
 ·rw[if_pos h,h5 i h]
 ·rw[if_neg h,Array.getElem?_extract]
  by_cases h':i<hp'.size
  ·rw[if_pos (by omega)];congr 1;omega
  ·rw[if_neg (by omega),Array.getElem?_eq_none (by omega)]
theorem ADet.grown{P:Program}{hm:P.follows .mixedOrders=true}{f:FuncId}{args:List AV}{u:AV}(h:ADet (Ctx.bare P hm) f args [] u [])(hu:wez u=true){w:World}{cargs:List Value}(hlen:cargs.length=args.length)
  (hV:∀(j:Nat) v x,cargs[j]?=some v->args[j]?=some x->V w (λ_=>False) nob v x):Calls P f cargs.toArray w λe w'=>e= .returned (valA u)/\∃q os,w'=grow (w.drewN q) os:=by
 have no:∀r,lkL [] r=none:=λr=>by cases r<;>rfl
 have nm:∀b',¬ mutB (lkL []) nob b':=by
  rintro b' ⟨r,o,c,ho,_⟩;rw[no r] at ho;cases ho
 have hw:WRep (Ctx.bare P hm) ⟨w,0,nob,λ_=>False,λ_=>False⟩ (lkL []) nob w:={
  obj:=λr o ho=>by rw[no r] at ho;cases ho
  sep:=λr r' o o' b c c' ho=>by rw[no r] at ho;cases ho
  out:=λb hb=>absurd hb (nm b)
  frz:=λr t sz n f b c ho=>by rw[no r] at ho;cases ho
  high:=λb hb=>zL7 _
  lt:=λr b c hb=>by simp[nob] at hb
  outlt:=λb hb=>hb.elim
  keep:=λb _ _=>rfl
  old:=λb hb=>absurd hb (nm b)
  size:=lR7 _
  pre:=λr x hr=>absurd hr (nZ7 r)
  os:=rfl
  tape:=.refl _ _
  output:=rfl
  laid:=trivial
  gle:=zL7 _ }
 refine(h.2 ⟨w,0,nob,λ_=>False,λ_=>False⟩ nob w cargs rfl rfl rfl hw (λ_ _=>rfl) hlen (λj v u hv hu=>(hV j v u hv hu).step_ (λb _ _ hb=>?_) (λ_ _ _=>rfl) (lR7 _) nob (λ_ _ h=>h))).mono ?_
 ·rcases hb with hb | hb
  ·exact hb
  ·exact nm b hb
 ·rintro e w' ⟨v,u',O',bs',rfl,⟨rfl,rfl⟩,hw',hV',_⟩;rw[wxh hu hV'];exact⟨rfl,grow_of hw'.os hw'.tape.tape hw'.output hw'.size (λi hi=>hw'.keep i hi (λh=>h)) (hw'.tape.drawn rfl)⟩
section
variable {α:Type} [Inhabited α]
def encV(enc:α->List AV)(x:α):List Value:=(enc x).map valA
theorem arr_get(n:Nat)(f:Nat->α){i:Nat}(hi:i<n):(((List.range n).map f).toArray)[i]! =f i:=by simp[hi]
theorem waw.sortK{C:Ctx}(enc:α->List AV)(k:Nat)(hk:∀x,(enc x).length=k)(hp:∀x u,u∈enc x->wez u=true)(cf:α->α->Int){fS g:FuncId}{t:TypeId}(heS:wjm C.P fS)
  (hS:∀(blk cap:Nat) (d:Array α) (w:World),CmpLays C.P g #[] (encV enc) k cf blk 0 d.size w->HoldsK (encV enc) k w blk 0 d->blk<w.heap.size->d.size<4611686018427387904->
   Calls C.P fS #[.slice (some ⟨blk,0,none⟩) d.size cap,.func (.func g) #[] #[]] w λe w'=>e= .returned (.tuple #[])/\∃d' n os,PermIn 0 d.size d d'/\SortedIn (ltOf cf) 0 d.size d'/\w'=sortWorldK (encV enc) k w blk 0 n d' os)
  (hN:∀(p:Option Addr) (cap:Nat) (fv:Value) (w:World),Calls C.P fS #[.slice p 0 cap,fv] w λe w'=>e= .returned (.tuple #[])/\w'=w)
  (hc:∀x y,ADet (Ctx.bare C.P C.mixed) g [.agg (enc x),.agg (enc y)] [] (.int .i64 (cf x y)) [])
  {n:Nat} (f:Nat->α) (hn:n<4611686018427387904):
  waw C fS [.own 0 n,.func g []] [.row t k n (λi=>enc (f i)) false] λu O=>u= .tuple []/\∃f':Nat->α,((List.range n).map f').Perm ((List.range n).map f)/\(∀i j,i<j->j<n->¬ cf (f' j) (f' i)<0)/\
   O=[(0,.row t k n (λi=>enc (f' i)) false)]:=by
 refine⟨heS,λE bs w cargs h1 h2 h3 hW h5 h6 h7=>?_⟩;obtain⟨a,b,rfl⟩:∃a b,cargs=[a,b]:=by
  match cargs,h6 with
  |[a,b],_=>exact⟨a,b,rfl⟩
 have V0:=h7 0 _ _ rfl rfl;have V1:=h7 1 _ _ rfl rfl;generalize hu:AV.func g []=uf at V1
 cases V1<;>cases hu;rename_i caps hl hv;obtain rfl:caps=#[]:=Array.eq_empty_of_size_eq_zero hl;have hO:lkL [AObj.row t k n (λi=>enc (f i)) false]=lk [(0,.row t k n (λi=>enc (f i)) false)]:=by
  funext i
  cases i with
  |zero=>rfl
  |succ i=>rw[wa0,if_neg (by show ¬ 0=i+1;omega)];simp[lkL,lk]
 have hbs:∀r,1+16<=r->lk [(0,AObj.row t k n (λi=>enc (f i)) false)] r=none/\bs r=none:=λr hr=>⟨by rw[wa0,if_neg (by show ¬ 0=r;omega)];rfl,h5 r (by show 1<=r;omega)⟩;rw[hO] at hW V0;generalize huo:AV.own 0 n=uo at V0
 cases V0<;>cases huo
 case func.refl.ownnil.refl A x1 x2=>
  have hn0:n=0:=by assumption
  clear x1 x2;subst hn0;refine(hN A 0 _ w).mono ?_;rintro e w' ⟨rfl,rfl⟩;refine⟨_,.tuple [],[(0,.row t k 0 (λi=>enc (f i)) false)],bs,rfl,⟨rfl,f,.refl _,λi j _ hj=>absurd hj (nZ7 j),rfl⟩,hW,.tuple rfl (λj v u hv hu=>by simp at hu),hbs⟩
 case func.refl.own.refl bk c x1 x2 x3=>
  have hb:bs 0=some (.blk bk c):=by assumption
  clear x1 x2 x3;have hrow:=hW.obj 0 _ rfl
  rcases hrow with⟨h,_⟩ | ⟨bk',c',vs,hb',hh,hnc',hcm',hsz,hln,hone,hval⟩
  ·rw[h] at hb;cases hb
  obtain⟨rfl,rfl⟩:bk'=bk/\c'=c:=by
   rw[hb'] at hb;injection hb with hb;injection hb with e1 e2;exact⟨e1,e2⟩
  have hblk:bk'<w.heap.size:=hW.lt _ _ _ hb';have hle:n * k<=vs.size:=by rw[hsz];exact Nat.mul_le_mul_right k hnc'
  have hdiv:∀q,q<n * k->q / k<n/\q % k<k/\q / k * k+q % k=q:=λq hq=>by
   have k0:0<k:=by
    rcases Nat.eq_zero_or_pos k with h | h
    ·subst h;simp at hq
    ·exact h
   exact⟨Nat.div_lt_of_lt_mul (by rwa [Nat.mul_comm]),Nat.mod_lt _ k0,Nat.div_add_mod' q k⟩
  have hds:(((List.range n).map f).toArray).size=n:=by simp
  have hlen:∀x,(encV enc x).length=k:=λx=>by simp[encV,hk]
  have hH:HoldsK (encV enc) k w bk' 0 ((List.range n).map f).toArray:=by
   intro q hq;rw[size_flatK,hds] at hq;obtain⟨q1,q2,q3⟩:=hdiv q hq;rw[get_flatK _ _ _ _ (by rw[hds];exact hq),arr_get n f q1,Nat.zero_add];have hlt:q<vs.size:=by omega
   refine⟨?_,?_⟩
   ·rw[cell_of_row w bk' q vs t (0,0) hh];have hg:vs[q / k * k+q % k]?=some vs[q]:=by rw[q3];exact Array.getElem?_eq_getElem hlt
    have hu:(enc (f (q / k)))[q % k]?=some ((enc (f (q / k)))[q % k]'(by rw[hk];exact q2)):=List.getElem?_eq_getElem _;have:=wxh (hp _ _ (List.mem_of_getElem? hu)) (hval (q / k) q1 (q % k) _ _ q2 hg hu);show vs[q]?=some (((enc (f (q / k))).map valA)[q % k]!);rw[Array.getElem?_eq_getElem hlt,this];congr 1;simp[hk,q2]
   ·simp[World.frozen?,hh]
  have hC:CmpLays C.P g #[] (encV enc) k cf bk' 0 ((List.range n).map f).toArray.size w:=by
   intro m os dk _ x y;have:=ADet.grown (hc x y) rfl (w:=sortWorldK (encV enc) k w bk' 0 m dk os) (cargs:=[.agg (encV enc x).toArray,.agg (encV enc y).toArray]) rfl (λj v u hv hu=>?_)
   ·simpa[valA] using this
   have ag:∀z:α,V (sortWorldK (encV enc) k w bk' 0 m dk os) (λ_=>False) nob (.agg (encV enc z).toArray) (.agg (enc z)):=λz=>by
    refine .agg (by simp[encV]) (λj v hv=>?_) (λj v u hv hu=>?_)
    ·simp only[List.getElem?_toArray,encV,List.getElem?_map,Option.map_eq_some_iff] at hv;obtain⟨u,hu,rfl⟩:=hv;exact wt2 (hp _ _ (List.mem_of_getElem? hu))
    ·simp only[List.getElem?_toArray,encV,List.getElem?_map,hu,Option.map_some,sI7] at hv;subst hv;exact wt3 (hp _ _ (List.mem_of_getElem? hu))
   match j with
   |0=>obtain rfl:=oJ7 hv;obtain rfl:=oJ7 hu;exact ag x
   |1=>obtain rfl:=oJ7 hv;obtain rfl:=oJ7 hu;exact ag y
   |j+2=>simp at hv
  have hcall:=hS bk' c' ((List.range n).map f).toArray w hC hH hblk (by rw[hds];exact hn);rw[hds] at hcall;refine hcall.mono ?_;rintro e w' ⟨rfl,d',m,os,hperm,hsort,rfl⟩;have hd':d'.size=n:=hperm.1.trans hds;have hlist:d'.toList=(List.range n).map (λi=>d'[i]!):=by
   apply List.ext_getElem?;intro i;rw[List.getElem?_map,Array.getElem?_toList]
   by_cases hi:i<n
   ·rw[List.getElem?_range hi,Option.map_some,getElem!_pos d' i (by omega),Array.getElem?_eq_getElem (by omega)]
   ·rw[Array.getElem?_eq_none (by omega),List.getElem?_eq_none (by simp;omega)];rfl
  have hnb:∀(o':AObj),lk [(0,o')]=up (lk [(0,AObj.row t k n (λi=>enc (f i)) false)]) 0 o':=λo'=>by
   funext i;rw[wa0]
   by_cases h:(0:Nat)=i
   ·rw[if_pos h, ← h,was]
   ·rw[if_neg h,waq _ _ _ h,wa0,if_neg h]
  have hheap:∀b,b<w.heap.size->b≠bk'->(sortWorldK (encV enc) k w bk' 0 m d' os).heap[b]?=w.heap[b]?:=λb hb hne=>by
   show ((putRowK (encV enc) k (Sort.ahead w m) bk' 0 d').heap++os)[b]?=_;rw[Array.getElem?_append_left (by show b<(putRowK _ _ _ _ _ _).heap.size;rw[show (putRowK (encV enc) k (Sort.ahead w m) bk' 0 d').heap.size=w.heap.size from by simp[putRowK]];exact hb)];simp[putRowK,putRow,mapBlock,Array.getElem?_modify,Ne.symm hne]
  have hsize:w.heap.size<=(sortWorldK (encV enc) k w bk' 0 m d' os).heap.size:=by simp[sortWorldK,grow,putRowK]
  have hnew:(sortWorldK (encV enc) k w bk' 0 m d' os).heap[bk']?=some (.cells (putCells id 0 (flatK (encV enc) k d') vs) t (0,0)):=by
   show ((putRowK (encV enc) k (Sort.ahead w m) bk' 0 d').heap++os)[bk']?=_;rw[Array.getElem?_append_left (by rw[show (putRowK (encV enc) k (Sort.ahead w m) bk' 0 d').heap.size=w.heap.size from by simp[putRowK]];exact hblk)];simp[putRowK,putRow,mapBlock,Array.getElem?_modify,hh,onCells]
  have hcell:∀i,i<n->∀j,j<k->∀v,(putCells id 0 (flatK (encV enc) k d') vs)[i * k+j]?=some v->∃u,(enc d'[i]!)[j]?=some u/\v=valA u:=λi hi j hj v hv=>by
   have hlt:i * k+j<n * k:=by
    have:=Nat.mul_le_mul_right k (show i+1<=n from hi);rw[Nat.add_mul,Nat.one_mul] at this;omega
   have hlt2:i * k+j<vs.size:=by omega
   simp only[putCells,Array.getElem?_mapIdx,Array.getElem?_eq_getElem hlt2,Option.map_some,size_flatK,hd',zL7,Nat.zero_add,hlt,and_self,if_true,Nat.sub_zero,sI7,id] at hv;rw[get_flatK _ _ _ _ (by rw[hd'];exact hlt)] at hv;have e1:(i * k+j) / k=i:=(blk_iff k i _ (by omega)).1 ⟨by omega,by omega⟩;have e2:(i * k+j) % k=j:=by rw[Nat.mod_eq_sub_div_mul,e1];omega
   rw[e1,e2] at hv;refine⟨(enc d'[i]!)[j]'(by rw[hk];exact hj),List.getElem?_eq_getElem _,?_⟩;rw[← hv];simp[encV,hk,hj]
  refine⟨_,.tuple [],[(0,.row t k n (λi=>enc d'[i]!) false)],bs,rfl,⟨rfl,λi=>d'[i]!,?_,λi j hij hj=>?_,rfl⟩,?_,.tuple rfl (λj v u hv hu=>by simp at hu),λr hr=>⟨by rw[wa0,if_neg (by show ¬ 0=r;exact λh=>by subst h;simp at hr)];rfl,(hbs r hr).2⟩⟩
  ·have:=hperm.2.2;have e1:d'.extract 0 n=d':=by rw[← hd'];exact Array.extract_size
   have e2:((List.range n).map f).toArray.extract 0 n=((List.range n).map f).toArray:=by
    have:=Array.extract_size (xs:=((List.range n).map f).toArray)
    rwa [hds] at this
   rw[e1,e2] at this;rw[← hlist];simpa using this
  ·have:=hsort i j (zL7 _) hij hj;simpa[ltOf] using this
  ·have hmb:∀b,mutB (lk [(0,AObj.row t k n (λi=>enc d'[i]!) false)]) bs b->mutB (lk [(0,AObj.row t k n (λi=>enc (f i)) false)]) bs b:=by
    rintro b ⟨r,o,c2,ho,hm,hb2⟩;rw[wa0] at ho
    by_cases h:(0:Nat)=r
    ·subst h;exact⟨0,_,c2,rfl,rfl,hb2⟩
    ·rw[if_neg h] at ho;cases ho
   refine(hW.next (w':=sortWorldK (encV enc) k w bk' 0 m d' os) (λb=>b=bk') (λi h hi=>hi) (λi b c' hi=>.inl hi) (λb hb2=>by subst hb2;exact⟨0,_,c',rfl,rfl,hb'⟩) (λb hb2 hne=>hheap b hb2 hne) hsize (λb hb2=>.inl (hmb b hb2)) (λhSt i o' ho=>?_)
    (λi j o1 o2 b c1 c2 hi hj m1 m2 bi bj=>?_) (λi t' sz' n' f' b c2 ho hb2=>?_) rfl ⟨rfl,λ_=>Nat.le_add_right _ _⟩ rfl).2
   ·rw[wa0] at ho
    by_cases h:(0:Nat)=i
    ·subst h;rw[if_pos rfl] at ho;injection ho with ho;subst ho;refine .inr (.inr ⟨bk',c',_,hb',hnew,hnc',hcm',by simp[putCells,hsz],λi hi=>hk _,λi hi j hj v hv=>?_,λi hi j v u hj hv hu=>?_⟩)
     ·obtain⟨u,hu,rfl⟩:=hcell i hi j hj v hv;exact wt2 (hp _ _ (List.mem_of_getElem? hu))
     ·obtain⟨u',hu',rfl⟩:=hcell i hi j hj v hv;have hu:(enc d'[i]!)[j]?=some u:=hu;rw[hu'] at hu;injection hu with hu;subst hu;exact wt3 (hp _ _ (List.mem_of_getElem? hu'))
    ·rw[if_neg h] at ho;cases ho
   ·rw[wa0] at hi hj
    by_cases h:(0:Nat)=i
    ·by_cases h':(0:Nat)=j
     ·rw[← h, ← h']
     ·rw[if_neg h'] at hj;cases hj
    ·rw[if_neg h] at hi;cases hi
   ·rw[wa0] at ho
    by_cases h:(0:Nat)=i
    ·rw[if_pos h] at ho;cases ho
    ·rw[if_neg h] at ho;cases ho
end
end Go.Eng
namespace Go.Eng
open Go.Proofs Go.RowKit Go.Sort
variable {C:Ctx}
set_option maxRecDepth 20000
theorem nf_nan(x:Int)(R:oR7):wpFn te [] [] 0 Tryz.f101 [.q x] [] R=(R (.bool !decide (x=x)) []):=by kernel_rfl
theorem nf_icmp(a b:Int)(R:oR7):wpFn te [(101,.det wfi)] [] 0 Tryz.f81 [.q a,.q b] [] R=(True/\True/\wab (decide (a<b)) (R (.q (-1:Int)) []) (wab (decide (b<a)) (R (.q 1) []) (R (.q 0) []))):=by kernel_rfl
theorem w1q(x:Int)(R:oR7):wpFn te [] [] 0 Tryz.f148 [.q x] [] R=(R (.bool !decide (x=x)) []):=by kernel_rfl
theorem w2e(a b:Int)(R:oR7):wpFn te [(148,.det wfi)] [] 0 Tryz.f123 [.q a,.q b] [] R=(True/\True/\wab (decide (a<b)) (R (.q (-1:Int)) []) (wab (decide (b<a)) (R (.q 1) []) (R (.q 0) []))):=by kernel_rfl
theorem nf_or(f:Nat->List AV)(n:Nat)(R:oR7):wpFn te [] [(3,L_or (vInt f) n)] 0 Tryz.f79 [.own 0 n] [.row 3 1 n f false] R=(letI z0:=([(0,.row 3 1 n (waf (vInt f)) false)]:oL7);(TEq [(3,.q 0),(6,.own 0 n),(7,.q (n:Int)),(8,.q 0)] [(3,.q 0),(6,.own 0 n),(7,.q (n:Int)),(8,.q (↑0:Int))]/\wac [(0,.row 3 1 n f false)] z0)/\n<=100/\wab (decide (orN (vInt f) n=0)) ((∀(i:Nat),i<n->true=true)/\∃(O':oL7),wac z0 O'/\R (.q 0) O') ((∀(i:Nat),i<n->true=true)/\∃(O':oL7),wac z0 O'/\R (.q (orN (vInt f) n)) O')):=by kernel_rfl
theorem w1k(v:Nat->Int)(n k:Nat)(P:Nat->Prop)(R:eR7):wat ⟨te,[],[],1,18,0⟩ (wav Tryz.f79 3) [3,6,7,8] [3] [2] (wmz v n) P R (wmz v n k)=(letI z0:=([(0,.row 3 1 n (waf v) false)]:oL7);wab (decide ((k:Int)<(n:Int))) (((0:Int)<=(k:Int)/\(k:Int)<(n:Int))/\((k:Int).toNat<n/\1=1)/\wab (!decide (v (k:Int).toNat=0)) ((∀(i:Nat),i<n->true=true)/\∃(O':oL7),wac z0 O'/\R .ret (St.mk [(2,.q (v (k:Int).toNat))] O' 1 [])) (inR .i64 ((k:Int)+1)/\∃(i':Nat),(TEq [(3,.q 0),(6,.own 0 n),(7,.q (n:Int)),(8,.q ((k:Int)+1))] [(3,.q 0),(6,.own 0 n),(7,.q (n:Int)),(8,.q (i':Int))]/\wac z0 z0)/\P i')) ((∀(i:Nat),i<n->true=true)/\∃(O':oL7),wac z0 O'/\R (.exit 0) (St.mk [(3,.q 0)] O' 1 []))):=by kernel_rfl
theorem wws:∀a b:List UInt8,Lib.compareBytes a b=cmpS a b
 |[],[]=>rfl
 |[],_::_=>rfl
 |_::_,[]=>rfl
 |a::x,b::y=>by
  have ih:=wws x y;rw[Lib.compareBytes,ih];unfold cmpS;simp only[Op.bytesLess]
  by_cases h:a<b
  ·simp[h]
  ·by_cases h':b<a
   ·have:(a==b)=false:=by
     rw[beq_eq_false_iff_ne];exact λe=>by subst e;exact h h'
    simp[h,h',this]
   ·have e:a=b:=by
     rcases Nat.lt_trichotomy a.toNat b.toNat with q | q | q
     ·exact absurd q h
     ·exact UInt8.toNat_inj.1 q
     ·exact absurd q h'
    subst e;simp[h]
theorem wtd(hP:C.P=Tryz.prog):wad C 80 whh:=by
 rintro args objs U Os vc h hvc;unfold whh at h;split at h<;>cases h;rename_i a b;refine waw.quiet ⟨Tryz.f80,hP ▸ Tryz.func80,rfl,by decide⟩ λE bs w cargs hW hl hv=>?_;obtain⟨x,y,rfl⟩:∃x y,cargs=[x,y]:=by
  match cargs,hl with
  |[x,y],_=>exact⟨x,y,rfl⟩
 have e1:=(hv 0 _ _ rfl rfl).str_iff;have e2:=(hv 1 _ _ rfl rfl).str_iff;subst e1;subst e2;rw[hP];refine(Tryz.strings_Compare ⟨a.toArray⟩ ⟨b.toArray⟩ w).mono ?_;rintro e w' ⟨rfl,rfl⟩;refine⟨_,rfl,rfl,?_⟩;rw[wws];exact .int
theorem nan_ok(hP:C.P=Tryz.prog):wad C 101 wfi:=by
 rintro args objs U Os vc h hvc;unfold wfi at h;split at h<;>cases h;refine wad.wp0 (prg hP) [] 0 .nil (hP ▸ Tryz.func101) rfl rfl rfl ?_;rw[nf_nan,decide_eq_true rfl];exact⟨rfl,rfl⟩
theorem w3c(hP:C.P=Tryz.prog):wad C 148 wfi:=by
 rintro args objs U Os vc h hvc;unfold wfi at h;split at h<;>cases h;refine wad.wp0 (prg hP) [] 0 .nil (hP ▸ Tryz.func148) rfl rfl rfl ?_;rw[w1q,decide_eq_true rfl];exact⟨rfl,rfl⟩
theorem wvm(hP:C.P=Tryz.prog):wad C 81 wd9:=by
 rintro args objs U Os vc h hvc;unfold wd9 at h;split at h<;>cases h;refine wad.wp0 (prg hP) [(101,.det wfi)] 0 (.cons (nan_ok hP) .nil) (hP ▸ Tryz.func81) rfl rfl rfl ?_;rw[nf_icmp];unfold cmpI;exact⟨trivial,trivial,wan (λh=>by rw[h];exact⟨rfl,rfl⟩) (λh=>wan (λk=>by rw[h,k];exact⟨rfl,rfl⟩) (λk=>by rw[h,k];exact⟨rfl,rfl⟩))⟩
theorem w43(hP:C.P=Tryz.prog):wad C 123 wd9:=by
 rintro args objs U Os vc h hvc;unfold wd9 at h;split at h<;>cases h;refine wad.wp0 (prg hP) [(148,.det wfi)] 0 (.cons (w3c hP) .nil) (hP ▸ Tryz.func123) rfl rfl rfl ?_;rw[w2e];unfold cmpI;exact⟨trivial,trivial,wan (λh=>by rw[h];exact⟨rfl,rfl⟩) (λh=>wan (λk=>by rw[h,k];exact⟨rfl,rfl⟩) (λk=>by rw[h,k];exact⟨rfl,rfl⟩))⟩
theorem wt8{v:Nat->Int}{k:Nat}(h:orN v k=0)(hv:v k≠0):∀n,k<n->orN v n=v k
 |0,hn=>by omega
 |n+1,hn=>by
  rw[orN]
  by_cases e:k=n
  ·subst e;rw[h];rfl
  ·rw[wt8 h hv n (by omega),decide_eq_false hv];rfl
theorem or_loop(hP:C.P=Tryz.prog)(v:Nat->Int)(n:Nat):wah C 1 18 (wai Tryz.f79 3) (L_or v n):=by
 rintro st Q ⟨h0,hn,hQ⟩;have hR:=wbq hQ;refine wah.mk (prg hP) [] 0 .nil [3,6,7,8] [3] [2] (wmz v n) (λk=>k<=n/\orN v k=0) (λk=>n - k) 0 ⟨zL7 _,rfl⟩ h0 (λk hk=>?_) (λi=>⟨λ_ _=>rfl,trivial⟩);obtain⟨hkn,hok⟩:=hk;rw[w1k,tN7];refine wag (λh1=>⟨⟨by omega,by omega⟩,⟨by omega,rfl⟩,wax (λh2=>⟨λ_ _=>rfl,_,waz _,?_⟩) (λh2=>⟨by simp only[inR];omega,k+1,⟨rfl,waz _⟩,⟨by omega,?_⟩,by omega⟩)⟩) (λh1=>⟨λ_ _=>rfl,_,waz _,?_⟩)
 ·have e:=wt8 hok h2 n (by omega);have:=hR.2 (by rw[e,decide_eq_false h2]);rw[e] at this;exact this
 ·rw[orN,hok];exact h2
 ·have:k=n:=by omega
  subst this;exact hR.1 (by rw[hok];rfl)
theorem or_ok(hP:C.P=Tryz.prog):wad C 79 S_or:=by
 rintro args objs U Os vc h hvc;unfold S_or at h;split at h<;>cases h;rename_i n t m f fr;obtain⟨rfl,rfl,rfl,hn,hf⟩:=hvc;have hrow:wac [(0,AObj.row 3 1 n (waf (vInt f)) false)] [(0,.row 3 1 n f false)]:=⟨⟨rfl,rfl,rfl,rfl,rfl,λi hi=>(hf i hi).symm⟩,trivial⟩;refine wad.wpL (prg hP) [] [(3,L_or (vInt f) n)] 0 .nil (hP ▸ Tryz.func79) rfl rfl rfl [(wai Tryz.f79 3,L_or (vInt f) n)] (by kernel_rfl) ⟨or_loop hP _ _,trivial⟩ ?_;rw[nf_or];refine⟨⟨rfl,⟨rfl,rfl,rfl,rfl,rfl,hf⟩,trivial⟩,hn,wag (λh=>⟨λ_ _=>rfl,_,hrow,?_⟩) (λh=>⟨λ_ _=>rfl,_,hrow,rfl,rfl⟩)⟩;rw[h];exact⟨rfl,rfl⟩
theorem wt9(x:Int):∀l:List Int,orL (l++[x])=bif decide (orL l=0) then x else orL l
 |[]=>by simp only[List.nil_append,orL];by_cases h:x=0<;>simp[h]
 |y::l=>by
  rw[List.cons_append,orL,wt9 x l,orL]
  by_cases h:y=0
  ·simp[h]
  ·simp[h]
theorem wqi(v:Nat->Int):∀n,orN v n=orL ((List.range n).map v)
 |0=>rfl
 |n+1=>by rw[List.range_succ,List.map_append,List.map_singleton,wt9,orN,wqi v n]
theorem swo_of{α:Type}{c:α->α->Int}(h:PreC c):SWO (ltOf c) where
 irrefl x:=by simp[ltOf,h.self x]
 trans x y z h1 h2:=by
  simp only[ltOf,decide_eq_true_eq] at *;exact h.lt_trans h1 h2
 ntrans x y z h1 h2:=by
  simp only[ltOf,decide_eq_false_iff_not] at *;intro q;have:=h.neg x y;have:=h.neg y x;have:=h.neg y z;have:=h.neg z y;have:=h.neg x z;have:=h.neg z x;have:=h.trans z y x (by omega) (by omega);omega
theorem w1y(a b:List UInt8)(R:oR7):wpFn te [(80,.det whh)] [] 0 Tryz.f122 [.str a,.str b] [] R=(True/\R (.q (cmpS a b)) []):=by kernel_rfl
theorem nf_mcmp(m m':MG)(R:oR7):wpFn te [(122,.det wm9),(81,.det wd9),(123,.det wd9),(79,.det S_or)] [] 0 Tryz.f98 [.agg [.str m.dev,.q m.seq,.q m.kind,.str m.v.o,.str m.v.p,.q m.v.per,.q m.v.day,.q m.v.st,.q m.v.pr,.str m.v.rep,.str m.d.o,.str m.d.p,.q m.d.per,.str m.d.dev,.q m.d.num],.agg [.str m'.dev,.q m'.seq,.q m'.kind,.str m'.v.o,.str m'.v.p,.q m'.v.per,.q m'.v.day,.q m'.v.st,.q m'.v.pr,.str m'.v.rep,.str m'.d.o,.str m'.d.p,.q m'.d.per,.str m'.d.dev,.q m'.d.num]] [] R=(letI z0:=war (TI.sz (TI.mk (TypeDesc.int IntKind.i64) 1 8 (Value.int IntKind.i64 0) false)) (.q (cmpS m.dev m'.dev):: .q (cmpI m.seq m'.seq):: .q (cmpI m.kind m'.kind):: .q (cmpS m.v.o m'.v.o):: .q (cmpS m.v.p m'.v.p):: .q (cmpI m.v.per m'.v.per):: .q (cmpI m.v.day m'.v.day):: .q (cmpI m.v.st m'.v.st):: .q (cmpI m.v.pr m'.v.pr):: .q (cmpS m.v.rep m'.v.rep):: .q (cmpS m.d.o m'.d.o):: .q (cmpS m.d.p m'.d.p):: .q (cmpI m.d.per m'.d.per):: .q (cmpS m.d.dev m'.d.dev):: .q (cmpI m.d.num m'.d.num)::List.append [] (List.flatten (List.replicate (nat_lit 0) [.q 0])));True/\True/\True/\True/\True/\True/\True/\True/\True/\True/\True/\True/\True/\True/\True/\(15<=16777216/\1=1/\15<=9223372036854775807)/\(∀(i:Nat),i<15->true=true)/\(3=3/\false=false/\15=15/\15<=100/\∀(i:Nat),i<15->[AV.q (List.getD [cmpS m.dev m'.dev,cmpI m.seq m'.seq,cmpI m.kind m'.kind,cmpS m.v.o m'.v.o,cmpS m.v.p m'.v.p,cmpI m.v.per m'.v.per,cmpI m.v.day m'.v.day,cmpI m.v.st m'.v.st,cmpI m.v.pr m'.v.pr,cmpS m.v.rep m'.v.rep,cmpS m.d.o m'.d.o,cmpS m.d.p m'.d.p,cmpI m.d.per m'.d.per,cmpS m.d.dev m'.d.dev,cmpI m.d.num m'.d.num] i (0:Int))]=[.q (vInt z0 i)])/\(∀(i:Nat),i<15->true=true)/\R (.q (orN (vInt z0) 15)) []):=by kernel_rfl
theorem lt15{p:Nat->Prop}(h0:p 0)(h1:p 1)(h2:p 2)(h3:p 3)(h4:p 4)(h5:p 5)(h6:p 6)(h7:p 7)(h8:p 8)(h9:p 9)(h10:p 10)(h11:p 11)(h12:p 12)(h13:p 13)(h14:p 14):∀i,i<15->p i:=λi hi=>by
 match i,hi with
 |0,_=>exact h0
 |1,_=>exact h1
 |2,_=>exact h2
 |3,_=>exact h3
 |4,_=>exact h4
 |5,_=>exact h5
 |6,_=>exact h6
 |7,_=>exact h7
 |8,_=>exact h8
 |9,_=>exact h9
 |10,_=>exact h10
 |11,_=>exact h11
 |12,_=>exact h12
 |13,_=>exact h13
 |14,_=>exact h14
theorem w3z(hP:C.P=Tryz.prog):wad C 122 wm9:=by
 rintro args objs U Os vc h hvc;unfold wm9 at h;split at h<;>cases h;rename_i a b;refine wad.wp0 (prg hP) [(80,.det whh)] 0 (.cons (wtd hP) .nil) (hP ▸ Tryz.func122) rfl rfl rfl ?_;rw[w1y];exact⟨trivial,rfl,rfl⟩
theorem mcmp_ok(hP:C.P=Tryz.prog):wad C 98 wd8:=by
 rintro args objs U Os vc h hvc;unfold wd8 at h;split at h<;>simp only[sI7,pI7,reduceCtorEq] at h;rename_i dev seq kind o p per day st pr rep o' p' per' dev' num dev2 seq2 kind2 o2 p2 per2 day2 st2 pr2 rep2 o3 p3 per3 dev3 num2;obtain⟨rfl,rfl,rfl⟩:=h;have hn:=nf_mcmp ⟨dev,seq,kind,⟨o,p,per,day,st,pr,rep⟩,⟨o',p',per',dev',num⟩⟩ ⟨dev2,seq2,kind2,⟨o2,p2,per2,day2,st2,pr2,rep2⟩,⟨o3,p3,per3,dev3,num2⟩⟩;dsimp only at hn;refine wad.wp0 (prg hP) [(122,.det wm9),(81,.det wd9),(123,.det wd9),(79,.det S_or)] 0 (.cons (w3z hP) (.cons (wvm hP) (.cons (w43 hP) (.cons (or_ok hP) .nil)))) (hP ▸ Tryz.func98) rfl rfl rfl ?_;rw[hn,wqi];exact⟨trivial,trivial,trivial,trivial,trivial,trivial,trivial,trivial,trivial,trivial,trivial,trivial,trivial,trivial,trivial,⟨by omega,rfl,by omega⟩,λ_ _=>rfl,⟨rfl,rfl,rfl,by omega,lt15 rfl rfl rfl rfl rfl rfl rfl rfl rfl rfl rfl rfl rfl rfl rfl⟩,λ_ _=>rfl,rfl,rfl⟩
theorem wyi(hP:C.P=Tryz.prog):wa8 C 97 wom:=by
 rintro args objs R h;unfold wom at h;split at h
 ·rename_i n t m f fr;obtain⟨rfl,rfl,rfl,hn,hf,hR⟩:=h;generalize mgOf f=g at *;subst hf;have hS:=waw.sortK (C:=C) mgC 15 (λ_=>rfl) (λx u hu=>by
    simp only[mgC,List.mem_cons,List.not_mem_nil,or_false] at hu
    rcases hu with rfl | rfl | rfl | rfl | rfl | rfl | rfl | rfl | rfl | rfl | rfl | rfl | rfl | rfl | rfl<;>rfl) ordM (t:=47) (fS:=97) (g:=98)
   ⟨_,hP ▸ Tryz.func97,rfl,by decide⟩
   (λblk cap d w h1 h2 h3 h4=>by
    rw[hP] at h1 ⊢;exact AnyQ.slices_SortFunc Tryz.sort97 15 Tryz.isAgg47 Tryz.sizeOf47 _ (λ_=>rfl) (λx v hv=>by
     simp only[encV,mgC,List.map_cons,List.map_nil,List.mem_cons,List.not_mem_nil,or_false] at hv
     rcases hv with rfl | rfl | rfl | rfl | rfl | rfl | rfl | rfl | rfl | rfl | rfl | rfl | rfl | rfl | rfl<;>rfl) ordM (swo_of wc4) 98 #[] blk 0 cap d w (enters_of Tryz.func98 (by kernel_rfl) rfl) h1 h2 h3 h4)
   (λp cap fv w=>by
    rw[hP];exact AnyF.slices_SortFunc_none Tryz.sort97 p cap fv w)
   (λx y=>mcmp_ok (C:=Ctx.bare C.P C.mixed) hP _ _ _ _ _ rfl trivial) g (n:=n) (by omega)
  refine hS.mono ?_;rintro u O ⟨rfl,f',hp,hs,rfl⟩;exact hR f' hp hs
 ·exact h.elim
end Go.Eng
