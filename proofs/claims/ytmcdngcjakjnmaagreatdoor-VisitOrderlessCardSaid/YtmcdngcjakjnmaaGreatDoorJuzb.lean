/- The reference: replacements, observations. -/
import Derived.Test.YtmcdngcjakjnmaaGreatDoorJuza
namespace Go.Eng
open Go.Proofs Go.RowKit
variable {C:Ctx} [C.Loose]
set_option maxRecDepth 20000
theorem wyi(g:Nat->Int)(n k:Nat)(P:Nat->Prop)(Q:eR7):wav ⟨te,[],[],1,19,0⟩ (wax Tryz.f136 2) [0,3] [3] [] (wlf g n) P Q (wlf g n k)=(letI z1:=([(0,.row 124 1 n (uRow g) false)]:oL7);letI z0:=((∀(i:Nat),i<n->true=true)/\∃(O':oL7),wac z1 O'/\Q (.exit 0) (St.mk [(3,.q (k:Int))] O' 1 []):Prop);wab (decide ((0:Int)<(k:Int))) (inR .i64 ((k:Int) - (1:Int))/\((0:Int)<=(k:Int) - (1:Int)/\(k:Int) - (1:Int)<(n:Int))/\(((k:Int) - (1:Int)).toNat<n/\1=1)/\wab (decide (g ((k:Int) - (1:Int)).toNat=0)) (inR .i64 ((k:Int) - (1:Int))/\∃(i':Nat),(TEq [(0,.own 0 n),(3,.q ((k:Int) - (1:Int)))] [(0,.own 0 n),(3,.q (i':Int))]/\wac z1 z1)/\P i') z0) z0):=by kernel_rfl
theorem nf_rlow(f:Nat->List AV)(n:Nat)(Q:AV->oL7->Prop):wpFn te [] [(2,wnf (uOf f) n)] 0 Tryz.f136 [.own 0 n] [.row 124 1 n f false] Q=(letI z0:=([(0,.own 0 n),(3,.q (n:Int))]:tL7);(TEq z0 z0/\wac [(0,.row 124 1 n f false)] [(0,.row 124 1 n (uRow (uOf f)) false)])/\n<=1000/\(∀(i:Nat),i<n->true=true)/\∃(O':oL7),wac [(0,.row 124 1 n (uRow (uOf f)) false)] O'/\Q (.q (↑(lowI (uOf f) n):Int)) O'):=by kernel_rfl
theorem wyh(f:Nat->List AV)(n:Nat)(Q:AV->oL7->Prop):wpFn te [(136,.det wlg)] [] 0 Tryz.f115 [.own 0 n] [.row 124 1 n f false] Q=(letI z2:=wau 1 (List.flatten (List.replicate 0 [.int .u32 0]));letI z1:=(∀(i:Nat),i<n->nrefL (f i)=true:Prop);letI z0:=(↑(lowI (uOf f) n):Int);(0<=16777216/\1=1/\0<=9223372036854775807)/\z1/\(124=124/\false=false/\n=n/\n<=1000/\∀(i:Nat),i<n->f i=[.int .u32 (uOf f i)])/\z1/\((0:Int)<=z0/\z0<=(n:Int))/\((z0.toNat<=n/\1=1)/\0<=0/\1=1/\124=124/\1=1/\0+z0.toNat<=9223372036854775807/\(0+z0.toNat) * 4<=140737488355328)/\z1/\(∀(i:Nat),i<0+z0.toNat->nrefL (apF 0 z2 f i)=true)/\∃(O':oL7),wac [(0,.row 124 1 n f false),(1,.row 124 1 (0+z0.toNat) (apF 0 z2 f) false)] O'/\Q (.own 1 (0+z0.toNat)) O'):=by kernel_rfl
theorem wym(v:Int)(Q:AV->oL7->Prop):wpFn te [(115,.det wet)] [] 0 Tryz.f89 [.int .u64 v] [] Q=(letI z4:=(List.flatten (List.replicate (nat_lit 0) [.int .u32 0]):List AV);letI z3:=(IntKind.wrap IntKind.u32 (v / (2:Int) ^ (32:Int).toNat));letI z2:=(IntKind.wrap IntKind.u32 (bits BinOp.and IntKind.u64 v (4294967295:Int)));letI z1:=(∀(i:Nat),i<2->nrefL (wau 1 (.int .u32 z2:: .int .u32 z3::List.append [] z4) i)=true:Prop);letI z0:=(wau 1 (.int .u32 z2:: .int .u32 z3::List.append [] z4));True/\True/\((0:Int)<=32/\(32:Int)<=(↑(IntKind.bits IntKind.u64):Int))/\True/\(2<=16777216/\1=1/\2<=9223372036854775807)/\z1/\(124=124/\false=false/\2=2/\2<=1000/\∀(i:Nat),i<2->wau 1 (.int .u32 z2:: .int .u32 z3::List.append [] z4) i=[.int .u32 (uOf z0 i)])/\z1/\Q (.view 1 (lowI (uOf z0) 2) (uRow (uOf z0))) []):=by kernel_rfl
theorem wxu(v:Int)(Q:AV->oL7->Prop):wpFn te [(89,.det wew)] [] 0 Tryz.f54 [.q v] [] Q=(letI z1:=18446744073709551616;letI z0:=(IntKind.wrap IntKind.u64 ((0:Int) - (v+1))+1);wab (decide (v<0)) (inR .i64 (v+1)/\inR .i64 ((0:Int) - (v+1))/\True/\((0:Int)<=z0 % z1/\z0 % z1<z1)/\Q (.view 1 (lmN (z0 % z1)) (uRow (lmF (z0 % z1)))) []) (True/\((0:Int)<=IntKind.wrap IntKind.u64 v/\IntKind.wrap IntKind.u64 v<z1)/\Q (.view 1 (lmN (IntKind.wrap IntKind.u64 v)) (uRow (lmF (IntKind.wrap IntKind.u64 v)))) [])):=by kernel_rfl
theorem wyn(v:Int)(Q:AV->oL7->Prop):wpFn te [(54,.det wep)] [] 0 Tryz.f22 [.q v] [] Q=(((0:Int)<=v/\v<9223372036854775808)/\(True/\True)/\Q (.agg [.bool (decide (v<0)),.view 1 (lmN v) (uRow (lmF v)),.nil]) []):=by kernel_rfl
theorem wyf(n:Nat)(u w:Nat->Int)(k:Nat)(P:Nat->Prop)(Q:eR7):wav ⟨te,[],[],0,26,0⟩ (wax Tryz.f53 4) [0,1,12,13] [] [4] (wla n u w) P Q (wla n u w k)=(letI z0:=((0:Int)<=(k:Int)/\(k:Int)<(n:Int)/\1=1:Prop);wab (decide ((k:Int)<(n:Int))) (z0/\z0/\wab (!decide (u (k:Int).toNat=w (k:Int).toNat)) (Q .ret (St.mk [(4,.bool false)] [] 0 [])) (inR .i64 ((k:Int)+1)/\∃(i':Nat),some (St.mk [(0,.view 1 n (uRow u)),(1,.view 1 n (uRow w)),(12,.q (n:Int)),(13,.q ((k:Int)+1))] [] 0 [])=some (St.mk [(0,.view 1 n (uRow u)),(1,.view 1 n (uRow w)),(12,.q (n:Int)),(13,.q (i':Int))] [] 0 [])/\P i')) (Q (.exit 0) (St.mk [] [] 0 []))):=by kernel_rfl
theorem wye(P:Nat->Prop)(Q:eR7):wav ⟨te,[],[],0,26,0⟩ (wax Tryz.f53 4) [0,1,12,13] [] [4] wk9 P Q (wk9 0)=(Q (.exit 0) (St.mk [] [] 0 [])):=by kernel_rfl
theorem nf_sm1(n m:Nat)(u w:Nat->Int)(Q:AV->oL7->Prop):wpFn te [] [(4,wne n u w)] 0 Tryz.f53 [.view 1 n (uRow u),.view 1 m (uRow w)] [] Q=(wab (!decide ((n:Int)=(m:Int))) (Q (.bool false) []) (some (St.mk [(0,.view 1 n (uRow u)),(1,.view 1 m (uRow w)),(12,.q (n:Int)),(13,.q 0)] [] 0 [])=some (St.mk [(0,.view 1 n (uRow u)),(1,.view 1 n (uRow w)),(12,.q (n:Int)),(13,.q (↑0:Int))] [] 0 [])/\n<=1000/\wab (decide (fstB (λ(i:Nat)=> !decide (u i=w i)) n=n)) (Q (.bool true) []) (Q (.bool false) []))):=by kernel_rfl
theorem nf_sm1n(Q:AV->oL7->Prop):wpFn te [] [(4,wnd)] 0 Tryz.f53 [.nil,.nil] [] Q=(some (St.mk [(0,.nil),(1,.nil),(12,.q 0),(13,.q 0)] [] 0 [])=some (St.mk [(0,.nil),(1,.nil),(12,.q 0),(13,.q (↑0:Int))] [] 0 [])/\Q (.bool true) []):=by kernel_rfl
theorem nf_sm2(a b:Bool)(n m:Nat)(u w:Nat->Int)(Q:AV->oL7->Prop):wpFn te [(53,.det wle)] [] 0 Tryz.f21 [.agg [.bool a,.view 1 n (uRow u),.nil],.agg [.bool b,.view 1 m (uRow w),.nil]] [] Q=(wab (decide (a=b)) ((n<=1000/\m<=1000/\uRow u=uRow (uOf (uRow u))/\uRow w=uRow (uOf (uRow w)))/\wab (we4 n (uOf (uRow u)) m (uOf (uRow w))) (True/\Q (.bool true) []) (Q (.bool false) [])) (Q (.bool false) [])):=by kernel_rfl
theorem wyb(g:Nat->VT)(n k:Nat)(P:Nat->Prop)(Q:eR7):wav ⟨te,[],[],0,26,0⟩ (wax Tryz.f24 4) [0,1,12,13] [] [4] (wk6 g n) P Q (wk6 g n k)=(letI z1:=((0:Int)<=(k:Int)/\(k:Int)<(n:Int)/\7=7:Prop);letI z0:=(g (k:Int).toNat);wab (decide ((k:Int)<(n:Int))) (z1/\z1/\wab (!(decide (z0.o=z0.o) && (decide (z0.p=z0.p) && (decide (z0.per=z0.per) && (decide (z0.day=z0.day) && (decide (z0.st=z0.st) && (decide (z0.pr=z0.pr) && decide (z0.rep=z0.rep)))))))) (Q .ret (St.mk [(4,.bool false)] [] 0 [])) (inR .i64 ((k:Int)+1)/\∃(i':Nat),some (St.mk [(0,.view 7 n (was g)),(1,.view 7 n (was g)),(12,.q (n:Int)),(13,.q ((k:Int)+1))] [] 0 [])=some (St.mk [(0,.view 7 n (was g)),(1,.view 7 n (was g)),(12,.q (n:Int)),(13,.q (i':Int))] [] 0 [])/\P i')) (Q (.exit 0) (St.mk [] [] 0 []))):=by kernel_rfl
theorem nf_svv(g:Nat->VT)(n:Nat)(Q:AV->oL7->Prop):wpFn te [] [(4,wnc g n)] 0 Tryz.f24 [.view 7 n (was g),.view 7 n (was g)] [] Q=(wab (!decide ((n:Int)=(n:Int))) (Q (.bool false) []) (some (St.mk [(0,.view 7 n (was g)),(1,.view 7 n (was g)),(12,.q (n:Int)),(13,.q 0)] [] 0 [])=some (St.mk [(0,.view 7 n (was g)),(1,.view 7 n (was g)),(12,.q (n:Int)),(13,.q (↑0:Int))] [] 0 [])/\n<=1000000/\Q (.bool true) [])):=by kernel_rfl
theorem wyd(g:Nat->OBS)(n k:Nat)(P:Nat->Prop)(Q:eR7):wav ⟨te,[(21,.det wgj)],[],0,68,0⟩ (wax Tryz.f16 4) [0,1,12,13] [] [4] (wk8 g n) P Q (wk8 g n k)=(letI z2:=Q .ret (St.mk [(4,.bool false)] [] 0 []);letI z1:=(g (k:Int).toNat);letI z3:=uOf (uRow z1.u);letI z0:=((0:Int)<=(k:Int)/\(k:Int)<(n:Int)/\6=6:Prop);wab (decide ((k:Int)<(n:Int))) (z0/\z0/\wab (!decide (z1.o=z1.o)) z2 (z0/\z0/\wab (!decide (z1.p=z1.p)) z2 (z0/\z0/\wab (!decide (z1.per=z1.per)) z2 (z0/\z0/\(z1.n<=1000/\z1.n<=1000/\uRow z1.u=uRow z3/\uRow z1.u=uRow z3)/\wab (!(decide (z1.ng=z1.ng) && we4 z1.n z3 z1.n z3)) z2 (inR .i64 ((k:Int)+1)/\∃(i':Nat),some (St.mk [(0,.view 6 n (wcj g)),(1,.view 6 n (wcj g)),(12,.q (n:Int)),(13,.q ((k:Int)+1))] [] 0 [])=some (St.mk [(0,.view 6 n (wcj g)),(1,.view 6 n (wcj g)),(12,.q (n:Int)),(13,.q (i':Int))] [] 0 [])/\P i'))))) (Q (.exit 0) (St.mk [] [] 0 []))):=by kernel_rfl
theorem nf_so(g:Nat->OBS)(n:Nat)(Q:AV->oL7->Prop):wpFn te [] [(4,L_so g n)] 0 Tryz.f16 [.view 6 n (wcj g),.view 6 n (wcj g)] [] Q=(wab (!decide ((n:Int)=(n:Int))) (Q (.bool false) []) (some (St.mk [(0,.view 6 n (wcj g)),(1,.view 6 n (wcj g)),(12,.q (n:Int)),(13,.q 0)] [] 0 [])=some (St.mk [(0,.view 6 n (wcj g)),(1,.view 6 n (wcj g)),(12,.q (n:Int)),(13,.q (↑0:Int))] [] 0 [])/\n<=1000000/\(∀(i:Nat),i<n->(g i).n<=1000)/\Q (.bool true) [])):=by kernel_rfl
theorem and_lim{v:Int}(h0:0<=v)(h1:v<18446744073709551616):bits .and .u64 v 4294967295=v % 4294967296:=by
 obtain⟨a,rfl⟩:=Int.eq_ofNat_of_zero_le h0;have e1:(BitVec.ofInt 64 (a:Int)).toNat=a:=by
  rw[BitVec.ofInt_natCast,BitVec.toNat_ofNat];exact Nat.mod_eq_of_lt (by omega)
 have e2:(BitVec.ofInt 64 4294967295).toNat=2 ^ 32 - 1:=by decide
 show IntKind.u64.wrap ((BitVec.ofInt 64 (a:Int) &&& BitVec.ofInt 64 4294967295).toNat:Int)=_;rw[BitVec.toNat_and,e1,e2,Nat.and_two_pow_sub_one_eq_mod];show ((a % 4294967296:Nat):Int) % 18446744073709551616=_;omega
theorem wwy(hP:C.P=Tryz.prog)(g:Nat->Int)(n:Nat):wai C 1 19 (wak Tryz.f136 2) (wnf g n):=by
 have _:C.Loose:=inferInstance;rintro st Q ⟨h0,hn,hQ⟩;refine wai.mk (prg hP) [] 0 .nil [0,3] [3] [] (wlf g n) (λk=>k<=n/\lowI g n=lowI g k) (λk=>k) n ⟨lR7 _,rfl⟩ h0 (λk hk=>?_) (λi=>⟨λ_ _=>rfl,trivial⟩);obtain⟨hkn,hz⟩:=hk;have fin:lowI g k=k->(∀i,i<n->true=true)/\∃O',wac [(0,AObj.row 124 1 n (uRow g) false)] O'/\Q (.exit 0) (St.mk [(3,.q k)] O' 1 []):=λh=>by
  rw[hz,h] at hQ;exact⟨λ_ _=>rfl,_,wa1 _,hQ⟩
 rw[wyi];refine waj (λh1=>?_) (λh1=>fin (by rw[show k=0 by omega];rfl));obtain⟨j,rfl⟩:∃j,k=j+1:=⟨k - 1,by omega⟩;have e1:((j+1:Nat):Int) - 1=(j:Int):=by omega
 rw[e1,tN7];refine⟨by simp only[inR];omega,⟨by omega,by omega⟩,⟨by omega,rfl⟩,waj (λh2=>⟨by simp only[inR];omega,j,⟨rfl,wa1 _⟩,⟨by omega,?_⟩,by omega⟩) (λh2=>fin ?_)⟩
 ·rw[hz,lowI,decide_eq_true h2];rfl
 ·rw[lowI,decide_eq_false h2];rfl
theorem rlow_ok(hP:C.P=Tryz.prog):wae C 136 wlg:=by
 rintro args objs U Os vc h hvc;unfold wlg at h;split at h<;>cases h;rename_i n t m f fr;obtain⟨rfl,rfl,rfl,hn,hf⟩:=hvc;refine wae.wpL (prg hP) [] [(2,wnf (uOf f) n)] 0 .nil (hP ▸ Tryz.func136) rfl rfl rfl [(wak Tryz.f136 2,wnf (uOf f) n)] (by kernel_rfl) ⟨wwy hP _ n,trivial⟩ ?_;rw[nf_rlow];have hrow:wac [(0,AObj.row 124 1 n (uRow (uOf f)) false)] [(0,.row 124 1 n f false)]:=⟨⟨rfl,rfl,rfl,rfl,rfl,λi hi=>(hf i hi).symm⟩,trivial⟩;exact⟨⟨rfl,⟨rfl,rfl,rfl,rfl,rfl,hf⟩,trivial⟩,hn,λ_ _=>rfl,_,hrow,rfl,rfl⟩
theorem wwu(hP:C.P=Tryz.prog):wae C 115 wet:=by
 rintro args objs U Os vc h hvc;unfold wet at h;split at h<;>cases h;rename_i n t m f fr;obtain⟨rfl,rfl,rfl,hn,hf⟩:=hvc;refine wat.frzO 1 ?_;refine wa8.wpL (prg hP) [(136,.det wlg)] [] 0 (.cons (rlow_ok hP) .nil) (hP ▸ Tryz.func115) rfl rfl rfl [] (wcw _) trivial ?_;rw[wyh,tN7,Nat.zero_add];have hle:=wjf (uOf f) n;have hnr:∀i,i<n->nrefL (f i)=true:=λi hi=>by rw[hf i hi];rfl
 have hap:∀i,i<lowI (uOf f) n->apF 0 (wau 1 (List.flatten (List.replicate 0 [.int .u32 0]))) f i=uRow (uOf f) i:=λi hi=>by
  unfold apF;rw[if_neg (nZ7 i),Nat.sub_zero];exact hf i (by omega)
 refine⟨⟨by omega,rfl,by omega⟩,hnr,⟨rfl,rfl,rfl,hn,hf⟩,hnr,⟨by omega,by omega⟩,⟨⟨hle,rfl⟩,lR7 _,rfl,rfl,rfl,by omega,by omega⟩,hnr,λi hi=>by rw[hap i hi];rfl,[(0,.row 124 1 n f false),(1,.row 124 1 (lowI (uOf f) n) (uRow (uOf f)) false)],⟨rQ7,⟨rfl,rfl,rfl,rfl,rfl,hap⟩,trivial⟩,λ_ _=>rfl,?_⟩;generalize lowI (uOf f) n=c at *;have hb:Nat.ble c c=true:=Nat.ble_eq_true_of_le (lR7 _)
 constructor
 ·simp[frzC,frzA,frz,hb]
 ·rfl
theorem ww4(hP:C.P=Tryz.prog):wae C 89 wew:=by
 rintro args objs U Os vc h hvc;unfold wew at h;split at h<;>cases h;rename_i v;obtain⟨h0,h1⟩:=hvc;refine wae.wp0 (prg hP) [(115,.det wet)] 0 (.cons (wwu hP) .nil) (hP ▸ Tryz.func89) rfl rfl rfl ?_;rw[wym,and_lim h0 h1];have w1:IntKind.wrap .u32 (v % 4294967296)=v % 4294967296:=by
  show (v % 4294967296) % 4294967296=v % 4294967296;omega
 have w2:IntKind.wrap .u32 (v / (2:Int) ^ Int.toNat (32:Int))=v / 4294967296:=by
  show (v / 4294967296) % 4294967296=v / 4294967296;omega
 rw[w1,w2];have e:uOf (wau 1 (.int .u32 (v % 4294967296):: .int .u32 (v / 4294967296)::List.append [] (List.flatten (List.replicate 0 [.int .u32 0]))))=lmF v:=by
  funext i
  match i with
  |0=>rfl
  |1=>rfl
  |i+2=>simp[uOf,wau,lmF,wdw,wdc]
 have two:∀ {p:Nat->Prop},p 0->p 1->∀i,i<2->p i:=λh0 h1 i hi=>by
  match i,hi with
  |0,_=>exact h0
  |1,_=>exact h1
 refine⟨trivial,trivial,⟨by decide,by decide⟩,trivial,⟨by omega,rfl,by omega⟩,two rfl rfl,⟨rfl,rfl,rfl,by omega,two rfl rfl⟩,two rfl rfl,?_,rfl⟩;show AV.view 1 (lowI (uOf _) 2) (uRow (uOf _))=_;rw[e];rfl
theorem wvo(hP:C.P=Tryz.prog):wae C 54 wep:=by
 rintro args objs U Os vc h hvc;unfold wep at h;split at h<;>cases h;rename_i v;obtain⟨h0,h1⟩:=hvc;refine wae.wp0 (prg hP) [(89,.det wew)] 0 (.cons (ww4 hP) .nil) (hP ▸ Tryz.func54) rfl rfl rfl ?_;rw[wxu];have w:IntKind.wrap .u64 v=v:=by
  show v % 18446744073709551616=v;omega
 rw[w];exact waj (λh=>absurd h (by omega)) (λ_=>⟨trivial,⟨h0,by omega⟩,rfl,rfl⟩)
theorem ww5(hP:C.P=Tryz.prog):wae C 22 wex:=by
 rintro args objs U Os vc h hvc;unfold wex at h;split at h<;>cases h;rename_i v;obtain⟨h0,h1⟩:=hvc;refine wae.wp0 (prg hP) [(54,.det wep)] 0 (.cons (wvo hP) .nil) (hP ▸ Tryz.func22) rfl rfl rfl ?_;rw[wyn,decide_eq_false (show ¬ v<0 by omega)];exact⟨⟨h0,h1⟩,⟨trivial,trivial⟩,rfl,rfl⟩
theorem wwg(hP:C.P=Tryz.prog)(n:Nat)(u w:Nat->Int):wai C 0 26 (wak Tryz.f53 4) (wne n u w):=by
 have _:C.Loose:=inferInstance;rintro st Q ⟨h0,hn,hQ⟩;have hR:=wb0 hQ;refine wai.mk (prg hP) [] 0 .nil [0,1,12,13] [] [4] (wla n u w) (λk=>k<=n/\fstB (λi=> !decide (u i=w i)) k=k) (λk=>n - k) 0 ⟨zL7 _,rfl⟩ h0 (λk hk=>?_);obtain⟨hkn,hok⟩:=hk;rw[wyf,tN7];refine waj (λh1=>⟨⟨by omega,by omega,rfl⟩,⟨by omega,by omega,rfl⟩,war (λh2=>hR.2 ?_) (λh2=>⟨by simp only[inR];omega,k+1,rfl,⟨by omega,wfg hok h2⟩,by omega⟩)⟩) (λh1=>hR.1 ?_)
 ·rw[wf7 hok h2 n (by omega),decide_eq_false];omega
 ·rw[show k=n by omega] at hok;rw[hok,decide_eq_true rfl]
theorem wwf(hP:C.P=Tryz.prog):wai C 0 26 (wak Tryz.f53 4) wnd:=by
 have _:C.Loose:=inferInstance;rintro st Q ⟨h0,hQ⟩;refine wai.mk (prg hP) [] 0 .nil [0,1,12,13] [] [4] wk9 (λk=>k=0) (λ_=>0) 0 rfl h0 (λk hk=>?_);subst hk;rw[wye];exact hQ
theorem wwq(hP:C.P=Tryz.prog):wae C 53 wle:=by
 rintro args objs U Os vc h hvc;unfold wle at h;split at h<;>simp only[sI7,pI7,reduceCtorEq] at h
 ·rename_i n f m g;obtain⟨rfl,rfl,rfl⟩:=h;obtain⟨hn,hm,hf,hg⟩:=hvc;generalize uOf f=u at *;generalize uOf g=w at *;subst hf;subst hg;refine wae.wpL (prg hP) [] [(4,wne n u w)] 0 .nil (hP ▸ Tryz.func53) rfl rfl rfl [(wak Tryz.f53 4,wne n u w)] (by kernel_rfl) ⟨wwg hP n u w,trivial⟩ ?_;rw[nf_sm1];unfold we4;refine wa7 (λh=>?_) (λh=>?_)
  ·rw[decide_eq_false (show ¬ n=m by omega)];exact⟨rfl,rfl⟩
  ·have:n=m:=by omega
   subst this;rw[decide_eq_true rfl,Bool.true_and];refine⟨rfl,hn,war (λh=>?_) (λh=>?_)⟩
   ·rw[h];exact⟨rfl,rfl⟩
   ·rw[h];exact⟨rfl,rfl⟩
 ·obtain⟨rfl,rfl,rfl⟩:=h;refine wae.wpL (prg hP) [] [(4,wnd)] 0 .nil (hP ▸ Tryz.func53) rfl rfl rfl [(wak Tryz.f53 4,wnd)] (by kernel_rfl) ⟨wwf hP,trivial⟩ ?_;rw[nf_sm1n];exact⟨rfl,rfl,rfl⟩
theorem wrg(hP:C.P=Tryz.prog):wae C 21 wgj:=by
 rintro args objs U Os vc h hvc;unfold wgj at h;split at h<;>cases h;rename_i a n f b m g;obtain⟨hn,hm,hf,hg⟩:=hvc;generalize uOf f=u at *;generalize uOf g=w at *;subst hf;subst hg;refine wae.wp0 (prg hP) [(53,.det wle)] 0 (.cons (wwq hP) .nil) (hP ▸ Tryz.func21) rfl rfl rfl ?_;have hu:∀u:Nat->Int,uOf (uRow u)=u:=λ_=>rfl;rw[nf_sm2,hu,hu];refine war (λh=>⟨⟨hn,hm,rfl,rfl⟩,war (λh2=>⟨trivial,?_,rfl⟩) (λh2=>⟨?_,rfl⟩)⟩) (λh=>⟨?_,rfl⟩)
 ·rw[h,h2];rfl
 ·rw[h,h2];rfl
 ·rw[h];rfl
theorem wvv(v:VT):visE v v=true:=by simp[visE]
theorem wv7(hP:C.P=Tryz.prog)(g:Nat->VT)(n:Nat):wai C 0 26 (wak Tryz.f24 4) (wnc g n):=by
 have _:C.Loose:=inferInstance;rintro st Q ⟨h0,hn,hQ⟩;refine wai.mk (prg hP) [] 0 .nil [0,1,12,13] [] [4] (wk6 g n) (λk=>k<=n) (λk=>n - k) 0 (zL7 _) h0 (λk hk=>?_);rw[wyb,tN7];refine waj (λh1=>⟨⟨by omega,by omega,rfl⟩,⟨by omega,by omega,rfl⟩,wct (λh2=>?_) (λh2=>⟨by simp only[inR];omega,k+1,rfl,by omega,by omega⟩)⟩) (λh1=>hQ);have:=wvv (g k);unfold visE at this;rw[this] at h2;cases h2
theorem svv_ok(hP:C.P=Tryz.prog):wae C 24 wlc:=by
 rintro args objs U Os vc h hvc;unfold wlc at h;split at h<;>cases h;rename_i n f m g;obtain⟨rfl,rfl,hn,hf⟩:=hvc;generalize vtOf f=g at *;subst hf;refine wae.wpL (prg hP) [] [(4,wnc g n)] 0 .nil (hP ▸ Tryz.func24) rfl rfl rfl [(wak Tryz.f24 4,wnc g n)] (by kernel_rfl) ⟨wv7 hP g n,trivial⟩ ?_;rw[nf_svv];exact wa7 (λh=>absurd rfl h) (λ_=>⟨rfl,hn,rfl,rfl⟩)
theorem wwo(n:Nat)(u:Nat->Int):we4 n u n u=true:=by
 unfold we4;have:∀k,fstB (λi=> !decide (u i=u i)) k=k:=λk=>by
  induction k with
  |zero=>rfl
  |succ k ih=>exact wfg ih (by simp)
 rw[this];simp
theorem so_loop(hP:C.P=Tryz.prog)(g:Nat->OBS)(n:Nat):wai C 0 68 (wak Tryz.f16 4) (L_so g n):=by
 rintro st Q ⟨h0,hn,hl,hQ⟩;refine wai.mk (prg hP) [(21,.det wgj)] 0 (.cons (wrg hP) .nil) [0,1,12,13] [] [4] (wk8 g n) (λk=>k<=n) (λk=>n - k) 0 (zL7 _) h0 (λk hk=>?_);have hu:∀u:Nat->Int,uOf (uRow u)=u:=λ_=>rfl;rw[wyd,tN7,hu];refine waj (λh1=>?_) (λh1=>hQ);have hb:((0:Int)<=(k:Int)/\(k:Int)<(n:Int)/\6=6):=⟨by omega,by omega,rfl⟩;have hlk:=hl k (by omega);refine⟨hb,hb,wa7 (λh=>absurd rfl h) (λ_=>⟨hb,hb,wa7 (λh=>absurd rfl h) (λ_=>⟨hb,hb,wa7 (λh=>absurd rfl h) (λ_=>⟨hb,hb,⟨hlk,hlk,rfl,rfl⟩,wct (λh2=>?_) (λh2=>⟨by simp only[inR];omega,k+1,rfl,by omega,by omega⟩)⟩)⟩)⟩)⟩;rw[wwo] at h2;simp at h2
theorem so_ok(hP:C.P=Tryz.prog):wae C 16 wld:=by
 rintro args objs U Os vc h hvc;unfold wld at h;split at h<;>cases h;rename_i n f m g;obtain⟨rfl,rfl,hn,hf,hl⟩:=hvc;generalize whd f=g at *;subst hf;refine wae.wpL (prg hP) [] [(4,L_so g n)] 0 .nil (hP ▸ Tryz.func16) rfl rfl rfl [(wak Tryz.f16 4,L_so g n)] (by kernel_rfl) ⟨so_loop hP g n,trivial⟩ ?_;rw[nf_so];exact wa7 (λh=>absurd rfl h) (λ_=>⟨rfl,hn,hl,rfl,rfl⟩)
end Go.Eng
namespace Go.Eng
end Go.Eng
namespace Go.Eng
open Go.Proofs Go.RowKit
set_option maxRecDepth 20000
theorem nf_cdR(s:List UInt8)(R:oR7):wpFn te [] [(5,wnt s)] 0 Tryz.f57 [.str s] [] R=(letI z2:=R (.tuple [.q 0,.bool false]) [];letI z1:=(s.length:Int);letI z0:=(some (St.mk [(0,.str s),(4,.q 0),(16,.q z1),(17,.q 0)] [] 0 [])=some (St.mk [(0,.str s),(4,.q (wa4 s 0)),(16,.q z1),(17,.q (↑0:Int))] [] 0 [])/\s.length<=12/\wab (List.all s wbq) ((10:Int)≠(0:Int)/\inR .i64 ((10:Int) - Int.tmod (wa4 s s.length) (10:Int))/\(10:Int)≠(0:Int)/\R (.tuple [.q (Int.tmod ((10:Int) - Int.tmod (wa4 s s.length) (10:Int)) (10:Int)),.bool true]) []) z2);wab (!decide (z1=7)) (wab (!decide (z1=12)) z2 z0) z0):=by kernel_rfl
theorem wz2(s:List UInt8)(k:Nat)(P:Nat->Prop)(R:eR7):wav ⟨te,[],[],0,50,0⟩ (wax Tryz.f57 5) [0,4,16,17] [4] [2,3] (wmm s) P R (wmm s k)=(letI z5:=R .ret (St.mk [(2,.q 0),(3,.bool false)] [] 0 []);letI z1:=(s.length:Int);letI z2:=((0:Int)<=(k:Int)/\(k:Int)<z1:Prop);letI z0:=(↑(UInt8.toNat (List.getD s (k:Int).toNat (0:UInt8))):Int);letI z3:=(z0 - (48:Int));letI z4:=(z3 % (256:Int));wab (decide ((k:Int)<z1)) (z2/\wab (decide (z0<48)) z5 (z2/\wab (decide ((57:Int)<z0)) z5 (inR .i64 (z1 - (k:Int))/\(2:Int)≠(0:Int)/\wab (decide (Int.tmod (z1 - (k:Int)) (2:Int)=1)) (z2/\inR .i64 z4/\inR .i64 ((3:Int) * z4)/\inR .i64 (wa4 s k+3 * z4)/\inR .i64 ((k:Int)+1)/\∃(i':Nat),some (St.mk [(0,.str s),(4,.q (wa4 s k+3 * z4)),(16,.q z1),(17,.q ((k:Int)+1))] [] 0 [])=some (St.mk [(0,.str s),(4,.q (wa4 s i')),(16,.q z1),(17,.q (i':Int))] [] 0 [])/\P i') (z2/\inR .i64 z4/\inR .i64 ((1:Int) * z4)/\inR .i64 (wa4 s k+1 * z4)/\inR .i64 ((k:Int)+1)/\∃(i':Nat),some (St.mk [(0,.str s),(4,.q (wa4 s k+1 * z4)),(16,.q z1),(17,.q ((k:Int)+1))] [] 0 [])=some (St.mk [(0,.str s),(4,.q (wa4 s i')),(16,.q z1),(17,.q (i':Int))] [] 0 [])/\P i')))) (R (.exit 0) (St.mk [(4,.q (wa4 s k))] [] 0 []))):=by kernel_rfl
variable {C:Ctx} [C.Loose]
theorem w29(hP:C.P=Tryz.prog)(s:List UInt8):wai C 0 50 (wak Tryz.f57 5) (wnt s):=by
 have _:C.Loose:=inferInstance;rintro st Q ⟨h0,hlen,hQ⟩;have hQ:=wb0 hQ;refine wai.mk (prg hP) [] 0 .nil [0,4,16,17] [4] [2,3] (wmm s) (λk=>k<=s.length/\∀j,j<k->48<=(s.getD j 0).toNat/\(s.getD j 0).toNat<=57) (λk=>s.length - k) 0 ⟨zL7 _,λj h=>by omega⟩ h0 λk ⟨hk,hall⟩=>?_;rw[wz2];have hb:=wuy k hk hall;refine waj (λh=>?_) (λh=>?_)
 ·have hlt:k<s.length:=by omega
  have hret:¬ (48<=(s.getD k 0).toNat/\(s.getD k 0).toNat<=57)->Q .ret ⟨[(2,.q 0),(3,.bool false)],[],0,[]⟩:=λhno=>hQ.2 (by
   cases ha:s.all wbq with
   |false=>rfl
   |true=>exact absurd (wjq ha k hlt) hno)
  have e:Int.tmod (↑s.length - ↑k) 2=(↑s.length - ↑k) % 2:=Int.tmod_eq_emod_of_nonneg (by omega);have hs:wa4 s (k+1)=wa4 s k+(1+2 * ((↑s.length - ↑k) % 2)) * (↑(s.getD k 0).toNat - 48):=rfl;have hgo:(48<=(s.getD k 0).toNat/\(s.getD k 0).toNat<=57)->(k+1<=s.length/\∀j,j<k+1->48<=(s.getD j 0).toNat/\(s.getD j 0).toNat<=57)/\s.length - (k+1)<s.length - k:=λhok=>
   ⟨⟨by omega,λj hj=>by
    rcases Nat.lt_succ_iff_lt_or_eq.1 hj with hj | rfl
    ·exact hall j hj
    ·exact hok⟩,by omega⟩
  simp only[tN7,inR,e];refine⟨by omega,waj (λh1=>hret (by omega)) (λh1=>⟨by omega,waj (λh2=>hret (by omega)) (λh2=>⟨by omega,by omega,?_⟩)⟩)⟩;have hgo:=hgo (by omega);have e3:((s.getD k 0).toNat - 48:Int) % 256=(s.getD k 0).toNat - 48:=by omega
  rw[e3];refine waj (λh3=>?_) (λh3=>?_)
  ·rw[h3] at hs;exact⟨by omega,by omega,by omega,by omega,by omega,k+1,by rw[hs];rfl,hgo⟩
  ·have h3:(↑s.length - ↑k:Int) % 2=0:=by omega
   rw[h3] at hs;exact⟨by omega,by omega,by omega,by omega,by omega,k+1,by rw[hs];rfl,hgo⟩
 ·have hks:k=s.length:=by omega
  rw[hks];exact hQ.1 (w3y λj hj=>hall j (by omega))
theorem cdR_ok(hP:C.P=Tryz.prog):wae C 57 wey:=by
 rintro args objs U Os vc h hvc;unfold wey at h;split at h<;>cases h;rename_i s;refine wae.wpL (prg hP) [] [(5,wnt s)] 0 .nil (hP ▸ Tryz.func57) rfl rfl rfl [(wak Tryz.f57 5,wnt s)] (by kernel_rfl) ⟨w29 hP s,trivial⟩ ?_;rw[nf_cdR]
 have main:(s.length=7∨s.length=12)->wab (s.all wbq) ((10:Int)≠0/\inR .i64 (10 - Int.tmod (wa4 s s.length) 10)/\(10:Int)≠0/\AV.tuple [.q (Int.tmod (10 - Int.tmod (wa4 s s.length) 10) 10),.bool true]= .tuple [.q (cdF s).1,.bool (cdF s).2]/\([]:List (Nat×AObj))=[])
   (AV.tuple [.q 0,.bool false]= .tuple [.q (cdF s).1,.bool (cdF s).2]/\([]:List (Nat×AObj))=[]):=by
  intro hl;have hd:wbu s 7 12=s.all wbq:=by
   unfold wbu
   rcases hl with h | h<;>simp[h]
  refine war (λha=>?_) (λha=>?_)
  ·have hb:=wkn ha s.length (lR7 _);have e:Int.tmod (wa4 s s.length) 10=wa4 s s.length % 10:=Int.tmod_eq_emod_of_nonneg (by omega);rw[e,Int.tmod_eq_emod_of_nonneg (by omega)];refine⟨by omega,by simp only[inR];omega,by omega,?_,rfl⟩;simp[cdF,hd,ha]
  ·refine⟨?_,rfl⟩;simp[cdF,hd,ha]
 refine wa7 (λh1=>wa7 (λh2=>⟨?_,rfl⟩) (λh2=>⟨rfl,by omega,main (by omega)⟩)) (λh1=>⟨rfl,by omega,main (by omega)⟩);have hd:wbu s 7 12=false:=by unfold wbu;rw[decide_eq_false h1,decide_eq_false h2];rfl
 simp[cdF,hd]
end Go.Eng
namespace Go.Eng
open Go.Proofs Go.RowKit
variable {C:Ctx} [C.Loose]
set_option maxRecDepth 20000
theorem nf_fold(n k:Int)(R:oR7):wpFn te [] [] 0 Tryz.f56 [.q n,.q k] [] R=(letI z0:=(Int.tmod (IntKind.wrap IntKind.u64 n) (IntKind.wrap IntKind.u64 (max k (1:Int))));True/\True/\IntKind.wrap IntKind.u64 (max k (1:Int))≠(0:Int)/\inR .i64 z0/\R (.q z0) []):=by kernel_rfl
theorem nf_next(n:Nat)(v:Nat->Int)(a k:Int)(R:oR7):wpFn te [] [] 0 Tryz.f30 [.ptr 0 0,.q k] [.cells [.view 1 n (wad v),.q a] 26] R=(letI z1:=([(0,.cells [.view 1 n (wad v),.q (a+1)] 26)]:oL7);letI z0:=(IntKind.wrap IntKind.u64 (max k (1:Int)));letI z3:=Int.tmod (IntKind.wrap IntKind.u64 0) z0;letI z2:=Int.tmod (IntKind.wrap IntKind.u64 (v a.toNat)) z0;wab (decide (a<(n:Int))) (((0:Int)<=a/\a<(n:Int)/\1=1)/\inR .i64 (a+1)/\True/\True/\IntKind.wrap IntKind.u64 (max k (1:Int))≠(0:Int)/\inR .i64 z2/\R (.q z2) z1) (inR .i64 (a+1)/\True/\True/\IntKind.wrap IntKind.u64 (max k (1:Int))≠(0:Int)/\inR .i64 z3/\R (.q z3) z1)):=by kernel_rfl
theorem wqo(n:Int):IntKind.wrap .u64 n=n % 18446744073709551616:=by
 show n % (2:Int) ^ 64=_;rfl
theorem wov{k:Int}(h:1<=k/\k<=1000000)(x:Int):IntKind.wrap .u64 (max k 1)≠0/\Int.tmod (IntKind.wrap .u64 x) (IntKind.wrap .u64 (max k 1))=wde x k:=by
 have e:IntKind.wrap .u64 (max k 1)=k:=by
  rw[wqo,Int.max_eq_left h.1];omega
 rw[e,wqo];have hx:0<=x % 18446744073709551616:=by omega
 rw[Int.tmod_eq_emod_of_nonneg hx];exact⟨by omega,rfl⟩
theorem fold_ok(hP:C.P=Tryz.prog):wae C 56 wmc:=by
 have _:C.Loose:=inferInstance;rintro args objs U Os vc h hvc;unfold wmc at h;split at h<;>cases h;rename_i n k;refine wae.wp0 (prg hP) [] 0 .nil (hP ▸ Tryz.func56) rfl rfl rfl ?_;rw[nf_fold];obtain⟨h1,h2⟩:=wov hvc n;have h3:=whx hvc.1 n;rw[h2];exact⟨trivial,trivial,h1,by simp only[inR];omega,rfl,rfl⟩
theorem wee(hP:C.P=Tryz.prog):wae C 30 wb1:=by
 have _:C.Loose:=inferInstance;rintro args objs U Os vc h hvc;unfold wb1 at h;split at h<;>cases h;rename_i k sz n f a t;obtain⟨rfl,rfl,hf,hk,ha⟩:=hvc;rw[hf];have hv:vInt (wad (vInt f))=vInt f:=rfl;rw[hv];generalize vInt f=v at *;refine wae.wp0 (prg hP) [] 0 .nil (hP ▸ Tryz.func30) rfl rfl rfl ?_;rw[nf_next];unfold wag;refine waj (λh=>?_) (λh=>?_)
 ·obtain⟨h1,h2⟩:=wov hk (v a.toNat);have h3:=whx hk.1 (v a.toNat);rw[h2,decide_eq_true h];exact⟨⟨by omega,by omega,rfl⟩,by simp only[inR];omega,trivial,trivial,h1,by simp only[inR];omega,rfl,rfl⟩
 ·obtain⟨h1,h2⟩:=wov hk 0;have h3:=whx hk.1 0;rw[h2,decide_eq_false h];exact⟨by simp only[inR];omega,trivial,trivial,h1,by simp only[inR];omega,rfl,rfl⟩
theorem wzi(V j:Nat)(P:Nat->Prop)(R:eR7):wav ⟨te,[],[],0,39,0⟩ (wax Tryz.f27 4) [3,4,5] [4] [] (wma V) P R (wma V j)=(letI z0:=(↑(pw V j):Int);wab (decide ((0:Int)<=6 - (j:Int))) ((10:Int)≠(0:Int)/\inR .i64 ((48:Int)+Int.tmod z0 (10:Int))/\inR .u8 ((48:Int)+Int.tmod z0 (10:Int))/\((0:Int)<=6 - (j:Int)/\(6:Int) - (j:Int)<(↑7:Int))/\(List.length [AV.int .u8 ((48:Int)+Int.tmod z0 (10:Int))]=1/\((6:Int) - (j:Int)).toNat<7/\1=1)/\((10:Int)≠(0:Int)/\inR .i64 (Int.tdiv z0 (10:Int)))/\inR .i64 ((6:Int) - (j:Int) - (1:Int))/\∃(i':Nat),(TEq [(3,.q (Int.tdiv z0 (10:Int))),(4,.own 0 7),(5,.q ((6:Int) - (j:Int) - (1:Int)))] [(3,.q (↑(pw V i'):Int)),(4,.own 0 7),(5,.q ((6:Int) - (i':Int)))]/\wac [(0,.row 5 1 7 (λ(k:Nat)=>if k=Int.toNat ((6:Int) - (j:Int)) then [.int .u8 ((48:Int)+Int.tmod z0 (10:Int))] else [.int .u8 (bif decide (7<=k+j) then dgI V k else (0:Int))]) false)] [(0,.row 5 1 7 (λ(k:Nat)=>[.int .u8 (bif decide (7<=k+i') then dgI V k else (0:Int))]) false)])/\P i') ((∀(i:Nat),i<7->true=true)/\∃(O':oL7),wac [(0,.row 5 1 7 (λ(k:Nat)=>[.int .u8 (bif decide (7<=k+j) then dgI V k else (0:Int))]) false)] O'/\R (.exit 0) (St.mk [(4,.own 0 7)] O' 1 []))):=by kernel_rfl
theorem nf_id(n:Int)(V:Nat)(R:oR7):wpFn te [(56,.det wmc),(57,.det wey)] [(4,L_id V)] 2 Tryz.f27 [.q n] [] R=(letI z4:=(List.flatten (List.replicate (nat_lit 0) [.int .u8 0]):List AV);letI z3:=cdF (wbb 7 (waw V));letI z2:=((7<=7/\1=1)/\∀(i:Nat),i<7->isU8 (waw V i)=true:Prop);letI z1:=1000000;letI z0:=(wau 1 (.int .u8 ((48:Int)+z3.1)::List.append [] z4));((1:Int)<=z1/\z1<=z1)/\inR .i64 (z1+wde n z1)/\((0:Int)<=7/\(7:Int)<=7/\(↑1:Int) * (7:Int)<=281474976710656/\(7:Int)<=9223372036854775807)/\(TEq [(3,.q (z1+wde n z1)),(4,.own 0 7),(5,.q 6)] [(3,.q (↑(pw V 0):Int)),(4,.own 0 7),(5,.q ((6:Int) - (↑0:Int)))]/\wac [(0,.row 5 1 7 (λ(_x:Nat)=>[.int .u8 0]) false)] [(0,.row 5 1 7 (λ(k:Nat)=>[.int .u8 (bif decide (7<=k+0) then dgI V k else (0:Int))]) false)])/\V<2000000/\z2/\True/\z2/\inR .i64 ((48:Int)+z3.1)/\inR .u8 ((48:Int)+z3.1)/\(1<=16777216/\1=1/\1<=9223372036854775807)/\((1<=1/\1=1)/\∀(i:Nat),i<1->isU8 (wau 1 (.int .u8 ((48:Int)+z3.1)::List.append [] z4) i)=true)/\(wbb 7 (waw V)).length+(wbb 1 z0).length<=9223372036854775807/\R (.str (wbb 7 (waw V)++wbb 1 z0)) []):=by kernel_rfl
theorem pw_step(V j:Nat):Int.tdiv (pw V j:Nat) 10=(pw V (j+1):Nat):=by
 rw[Int.tdiv_eq_ediv_of_nonneg (Int.natCast_nonneg _)];unfold pw;rw[Nat.pow_succ, ← Nat.div_div_eq_div_mul];rfl
theorem pw_le(V j:Nat):pw V j<=V:=Nat.div_le_self _ _
theorem id_loop(hP:C.P=Tryz.prog)(V:Nat):wai C 0 39 (wak Tryz.f27 4) (L_id V):=by
 have _:C.Loose:=inferInstance;rintro st Q ⟨h0,hv,hQ⟩;refine wai.mk (prg hP) [] 0 .nil [3,4,5] [4] [] (wma V) (λj=>j<=7) (λj=>7 - j) 0 (by omega) h0 (λj hj=>?_) (λi=>⟨λ_ _=>rfl,trivial⟩);rw[wzi];have hle:=pw_le V j;have ht:Int.tmod (pw V j:Nat) 10=((pw V j % 10:Nat):Int):=by
  rw[Int.tmod_eq_emod_of_nonneg (Int.natCast_nonneg _)];rfl
 rw[ht,pw_step];have hle':=pw_le V (j+1);have hm:=Nat.mod_lt (pw V j) (show 0<10 by omega);refine waj (λh=>?_) (λh=>⟨λ_ _=>rfl,_,?_,hQ⟩)
 ·refine⟨by omega,by simp only[inR];omega,by simp only[inR];omega,⟨h,by omega⟩,⟨rfl,by omega,rfl⟩,⟨by omega,by simp only[inR];omega⟩,by simp only[inR];omega,j+1,⟨?_,⟨rfl,rfl,rfl,rfl,rfl,λk hk=>?_⟩,trivial⟩,by omega,by omega⟩
  ·rw[show (6:Int) - (j:Int) - 1=6 - ((j+1:Nat):Int) by omega];rfl
  ·dsimp only
   split
   ·rename_i e;have e':6 - k=j:=by omega
    rw[decide_eq_true (show 7<=k+(j+1) by omega)];unfold dgI;rw[e'];rfl
   ·rename_i e
    by_cases h7:7<=k+j
    ·rw[decide_eq_true h7,decide_eq_true (show 7<=k+(j+1) by omega)]
    ·rw[decide_eq_false h7,decide_eq_false (show ¬ 7<=k+(j+1) by omega)]
 ·have:j=7:=by omega
  subst this;refine⟨⟨rfl,rfl,rfl,rfl,rfl,λk hk=>?_⟩,trivial⟩;dsimp only
  rw[decide_eq_true (show 7<=k+7 by omega)];rfl
theorem wjs(hP:C.P=Tryz.prog):wae C 27 S_id:=by
 rintro args objs U Os vc h hvc;unfold S_id at h;split at h<;>cases h;rename_i n;refine wae.wpL (prg hP) [(56,.det wmc),(57,.det wey)] [(4,L_id (idV n))] 2 (.cons (fold_ok hP) (.cons (cdR_ok hP) .nil)) (hP ▸ Tryz.func27) rfl rfl rfl [(wak Tryz.f27 4,L_id (idV n))] (by kernel_rfl) ⟨id_loop hP _,trivial⟩ ?_;rw[nf_id];have hf:=whx (show (1:Int)<=1000000 by omega) n;have hV:((idV n:Nat):Int)=1000000+wde n 1000000:=by unfold idV;omega
 have hl:=whs n;have hc:=wuz (id7 n);refine⟨⟨by omega,by omega⟩,by simp only[inR];omega,⟨by omega,by omega,by decide,by omega⟩,⟨?_,⟨rfl,rfl,rfl,rfl,rfl,λk hk=>?_⟩,trivial⟩,by omega,⟨⟨by omega,rfl⟩,λ_ _=>rfl⟩,trivial,⟨⟨by omega,rfl⟩,λ_ _=>rfl⟩,?_,?_,⟨by omega,rfl,by omega⟩,⟨⟨by omega,rfl⟩,λi hi=>?_⟩,?_,rfl,rfl⟩
 ·rw[← hV];show TEq [(3,.q ((idV n:Nat):Int)),(4,.own 0 7),(5,.q 6)] [(3,.q ((idV n / 1:Nat):Int)),(4,.own 0 7),(5,.q 6)];rw[Nat.div_one];rfl
 ·dsimp only
  rw[decide_eq_false (show ¬ 7<=k+0 by omega)];rfl
 ·show inR .i64 (48+(cdF (id7 n)).1);simp only[inR];omega
 ·show inR .u8 (48+(cdF (id7 n)).1);simp only[inR];omega
 ·obtain rfl:i=0:=by omega
  rfl
 ·show (id7 n).length+_<=_;rw[hl];simp[wbb]
theorem wyr(n:Nat)(v:Nat->Int)(a:Int)(R:oR7):wpFn te [(30,.det wb1)] [] 0 Tryz.f67 [.ptr 0 0] [.cells [.view 1 n (wad v),.q a] 26] R=(letI z0:=vInt (wad v);(3<=16777216/\1=1/\3<=9223372036854775807)/\(26=26/\1=1/\wad v=wad z0/\((1:Int)<=3/\(3:Int)<=1000000)/\(0:Int)<=a/\a<=4611686018427387904)/\((0:Int)<=wag n z0 a (3:Int)/\wag n z0 a (3:Int)<(↑3:Int))/\((wag n z0 a (3:Int)).toNat<3/\1=1)/\R (.str (List.getD [[(111:UInt8),49],[(111:UInt8),50],[(112:UInt8)]] (wag n z0 a (3:Int)).toNat [])) [(0,.cells [.view 1 n (wad v),.q (a+1)] 26)]):=by kernel_rfl
theorem wya(n:Nat)(v:Nat->Int)(a:Int)(R:oR7):wpFn te [(30,.det wb1),(27,.det S_id)] [] 0 Tryz.f68 [.ptr 0 0] [.cells [.view 1 n (wad v),.q a] 26] R=((26=26/\1=1/\wad v=wad (vInt (wad v))/\((1:Int)<=4/\(4:Int)<=1000000)/\(0:Int)<=a/\a<=4611686018427387904)/\True/\R (.str (idF (wag n (vInt (wad v)) a (4:Int)))) [(0,.cells [.view 1 n (wad v),.q (a+1)] 26)]):=by kernel_rfl
theorem wr4(hP:C.P=Tryz.prog):wae C 67 wgn:=by
 rintro args objs U Os vc h hvc;unfold wgn at h;split at h<;>cases h;rename_i sz n f a t;obtain⟨rfl,rfl,hf,h1,h2⟩:=hvc;rw[hf];generalize vInt f=v;have hw:vInt (wad v)=v:=rfl;refine wae.wp0 (prg hP) [(30,.det wb1)] 0 (.cons (wee hP) .nil) (hP ▸ Tryz.func67) rfl rfl rfl ?_;rw[wyr];have r:=wbp (show (1:Int)<=3 by omega) n v a;exact⟨⟨by omega,rfl,by omega⟩,⟨rfl,rfl,rfl,⟨by omega,by omega⟩,by omega,by omega⟩,⟨r.1,r.2⟩,⟨by rw[hw];omega,rfl⟩,rfl,rfl⟩
theorem wq1(hP:C.P=Tryz.prog):wae C 68 wgm:=by
 rintro args objs U Os vc h hvc;unfold wgm at h;split at h<;>cases h;rename_i sz n f a t;obtain⟨rfl,rfl,hf,h1,h2⟩:=hvc;rw[hf];generalize vInt f=v;have hw:vInt (wad v)=v:=rfl;refine wae.wp0 (prg hP) [(30,.det wb1),(27,.det S_id)] 0 (.cons (wee hP) (.cons (wjs hP) .nil)) (hP ▸ Tryz.func68) rfl rfl rfl ?_;rw[wya];exact⟨⟨rfl,rfl,rfl,⟨by omega,by omega⟩,by omega,by omega⟩,trivial,rfl,rfl⟩
theorem wr5:∀i,i<3->wa9 (List.getD [[111,49],[111,50],[112]] i [])=true/\(List.getD [[111,49],[111,50],[112]] i ([]:List UInt8)).length<=2:=by decide+kernel
theorem obU_len(R:List MG):(obU R).length<=(visL R).length+(repL R).length:=by
 have:=wpu ((repL R).map rsl) (visL R)
 rwa [List.length_map] at this
end Go.Eng
