/- The reference's Combine: what it answers. -/
import Derived.Test.YtmcdngcjakjnmaaGreatDoorJtza
namespace Go.Eng
open Go.Proofs Go.RowKit
variable {C:Ctx} [C.Loose]
set_option maxRecDepth 20000
theorem wzp(g:Nat->Int)(n k:Nat)(P:Nat->Prop)(Q:eR7):wat ⟨te,[],[],1,19,0⟩ (wau Tryz.f136 2) [0,3] [3] [] (wlw g n) P Q (wlw g n k)=(letI z1:=([(0,.row 124 1 n (uRow g) false)]:oL7);letI z0:=((∀(i:Nat),i<n->true=true)/\∃(O':oL7),wac z1 O'/\Q (.exit 0) (St.mk [(3,.q (k:Int))] O' 1 []):Prop);wab (decide ((0:Int)<(k:Int))) (inR .i64 ((k:Int) - (1:Int))/\((0:Int)<=(k:Int) - (1:Int)/\(k:Int) - (1:Int)<(n:Int))/\(((k:Int) - (1:Int)).toNat<n/\1=1)/\wab (decide (g ((k:Int) - (1:Int)).toNat=0)) (inR .i64 ((k:Int) - (1:Int))/\∃(i':Nat),(TEq [(0,.own 0 n),(3,.q ((k:Int) - (1:Int)))] [(0,.own 0 n),(3,.q (i':Int))]/\wac z1 z1)/\P i') z0) z0):=by kernel_rfl
theorem nf_rlow(f:Nat->List AV)(n:Nat)(Q:AV->oL7->Prop):wpFn te [] [(2,wn2 (uOf f) n)] 0 Tryz.f136 [.own 0 n] [.row 124 1 n f false] Q=(letI z0:=([(0,.own 0 n),(3,.q (n:Int))]:tL7);(TEq z0 z0/\wac [(0,.row 124 1 n f false)] [(0,.row 124 1 n (uRow (uOf f)) false)])/\n<=1000/\(∀(i:Nat),i<n->true=true)/\∃(O':oL7),wac [(0,.row 124 1 n (uRow (uOf f)) false)] O'/\Q (.q (↑(lowI (uOf f) n):Int)) O'):=by kernel_rfl
theorem wzm(f:Nat->List AV)(n:Nat)(Q:AV->oL7->Prop):wpFn te [(136,.det wlx)] [] 0 Tryz.f115 [.own 0 n] [.row 124 1 n f false] Q=(letI z2:=waq 1 (List.flatten (List.replicate 0 [.int .u32 0]));letI z1:=(∀(i:Nat),i<n->nrefL (f i)=true:Prop);letI z0:=(↑(lowI (uOf f) n):Int);(0<=16777216/\1=1/\0<=9223372036854775807)/\z1/\(124=124/\false=false/\n=n/\n<=1000/\∀(i:Nat),i<n->f i=[.int .u32 (uOf f i)])/\z1/\((0:Int)<=z0/\z0<=(n:Int))/\((z0.toNat<=n/\1=1)/\0<=0/\1=1/\124=124/\1=1/\0+z0.toNat<=9223372036854775807/\(0+z0.toNat) * 4<=140737488355328)/\z1/\(∀(i:Nat),i<0+z0.toNat->nrefL (apF 0 z2 f i)=true)/\∃(O':oL7),wac [(0,.row 124 1 n f false),(1,.row 124 1 (0+z0.toNat) (apF 0 z2 f) false)] O'/\Q (.own 1 (0+z0.toNat)) O'):=by kernel_rfl
theorem wzt(v:Int)(Q:AV->oL7->Prop):wpFn te [(115,.det we4)] [] 0 Tryz.f89 [.int .u64 v] [] Q=(letI z4:=(List.flatten (List.replicate (nat_lit 0) [.int .u32 0]):List AV);letI z3:=(IntKind.wrap IntKind.u32 (v / (2:Int) ^ (32:Int).toNat));letI z2:=(IntKind.wrap IntKind.u32 (bits BinOp.and IntKind.u64 v (4294967295:Int)));letI z1:=(∀(i:Nat),i<2->nrefL (waq 1 (.int .u32 z2:: .int .u32 z3::List.append [] z4) i)=true:Prop);letI z0:=(waq 1 (.int .u32 z2:: .int .u32 z3::List.append [] z4));True/\True/\((0:Int)<=32/\(32:Int)<=(↑(IntKind.bits IntKind.u64):Int))/\True/\(2<=16777216/\1=1/\2<=9223372036854775807)/\z1/\(124=124/\false=false/\2=2/\2<=1000/\∀(i:Nat),i<2->waq 1 (.int .u32 z2:: .int .u32 z3::List.append [] z4) i=[.int .u32 (uOf z0 i)])/\z1/\Q (.view 1 (lowI (uOf z0) 2) (uRow (uOf z0))) []):=by kernel_rfl
theorem wyu(v:Int)(Q:AV->oL7->Prop):wpFn te [(89,.det we8)] [] 0 Tryz.f54 [.q v] [] Q=(letI z1:=18446744073709551616;letI z0:=(IntKind.wrap IntKind.u64 ((0:Int) - (v+1))+1);wab (decide (v<0)) (inR .i64 (v+1)/\inR .i64 ((0:Int) - (v+1))/\True/\((0:Int)<=z0 % z1/\z0 % z1<z1)/\Q (.view 1 (lmN (z0 % z1)) (uRow (lmF (z0 % z1)))) []) (True/\((0:Int)<=IntKind.wrap IntKind.u64 v/\IntKind.wrap IntKind.u64 v<z1)/\Q (.view 1 (lmN (IntKind.wrap IntKind.u64 v)) (uRow (lmF (IntKind.wrap IntKind.u64 v)))) [])):=by kernel_rfl
theorem wzu(v:Int)(Q:AV->oL7->Prop):wpFn te [(54,.det we1)] [] 0 Tryz.f22 [.q v] [] Q=(((0:Int)<=v/\v<9223372036854775808)/\(True/\True)/\Q (.agg [.bool (decide (v<0)),.view 1 (lmN v) (uRow (lmF v)),.nil]) []):=by kernel_rfl
theorem wzf(n:Nat)(u w:Nat->Int)(k:Nat)(P:Nat->Prop)(Q:eR7):wat ⟨te,[],[],0,26,0⟩ (wau Tryz.f53 4) [0,1,12,13] [] [4] (wlp n u w) P Q (wlp n u w k)=(letI z0:=((0:Int)<=(k:Int)/\(k:Int)<(n:Int)/\1=1:Prop);wab (decide ((k:Int)<(n:Int))) (z0/\z0/\wab (!decide (u (k:Int).toNat=w (k:Int).toNat)) (Q .ret (St.mk [(4,.bool false)] [] 0 [])) (inR .i64 ((k:Int)+1)/\∃(i':Nat),some (St.mk [(0,.view 1 n (uRow u)),(1,.view 1 n (uRow w)),(12,.q (n:Int)),(13,.q ((k:Int)+1))] [] 0 [])=some (St.mk [(0,.view 1 n (uRow u)),(1,.view 1 n (uRow w)),(12,.q (n:Int)),(13,.q (i':Int))] [] 0 [])/\P i')) (Q (.exit 0) (St.mk [] [] 0 []))):=by kernel_rfl
theorem wze(P:Nat->Prop)(Q:eR7):wat ⟨te,[],[],0,26,0⟩ (wau Tryz.f53 4) [0,1,12,13] [] [4] wlo P Q (wlo 0)=(Q (.exit 0) (St.mk [] [] 0 [])):=by kernel_rfl
theorem nf_sm1(n m:Nat)(u w:Nat->Int)(Q:AV->oL7->Prop):wpFn te [] [(4,wny n u w)] 0 Tryz.f53 [.view 1 n (uRow u),.view 1 m (uRow w)] [] Q=(wab (!decide ((n:Int)=(m:Int))) (Q (.bool false) []) (some (St.mk [(0,.view 1 n (uRow u)),(1,.view 1 m (uRow w)),(12,.q (n:Int)),(13,.q 0)] [] 0 [])=some (St.mk [(0,.view 1 n (uRow u)),(1,.view 1 n (uRow w)),(12,.q (n:Int)),(13,.q (↑0:Int))] [] 0 [])/\n<=1000/\wab (decide (fstB (λ(i:Nat)=> !decide (u i=w i)) n=n)) (Q (.bool true) []) (Q (.bool false) []))):=by kernel_rfl
theorem nf_sm1n(Q:AV->oL7->Prop):wpFn te [] [(4,wnx)] 0 Tryz.f53 [.nil,.nil] [] Q=(some (St.mk [(0,.nil),(1,.nil),(12,.q 0),(13,.q 0)] [] 0 [])=some (St.mk [(0,.nil),(1,.nil),(12,.q 0),(13,.q (↑0:Int))] [] 0 [])/\Q (.bool true) []):=by kernel_rfl
theorem nf_sm2(a b:Bool)(n m:Nat)(u w:Nat->Int)(Q:AV->oL7->Prop):wpFn te [(53,.det wlu)] [] 0 Tryz.f21 [.agg [.bool a,.view 1 n (uRow u),.nil],.agg [.bool b,.view 1 m (uRow w),.nil]] [] Q=(wab (decide (a=b)) ((n<=1000/\m<=1000/\uRow u=uRow (uOf (uRow u))/\uRow w=uRow (uOf (uRow w)))/\wab (wi7 n (uOf (uRow u)) m (uOf (uRow w))) (True/\Q (.bool true) []) (Q (.bool false) [])) (Q (.bool false) [])):=by kernel_rfl
theorem nf_beV(a b:VT)(Q:AV->oL7->Prop):wpFn te [] [] 0 Tryz.f85 [.agg [.str a.o,.str a.p,.q a.per,.q a.day,.q a.st,.q a.pr,.str a.rep],.agg [.str b.o,.str b.p,.q b.per,.q b.day,.q b.st,.q b.pr,.str b.rep]] [] Q=(wab (!decide (a.o=b.o)) (Q (.bool (Op.bytesLess a.o b.o)) []) (wab (!decide (a.p=b.p)) (Q (.bool (Op.bytesLess a.p b.p)) []) (Q (.bool (decide (a.per<b.per))) []))):=by kernel_rfl
theorem wzc(g:Nat->VT)(n k:Nat)(P:Nat->Prop)(Q:eR7):wat ⟨te,[],[],0,26,0⟩ (wau Tryz.f24 4) [0,1,12,13] [] [4] (wlm g n) P Q (wlm g n k)=(letI z1:=((0:Int)<=(k:Int)/\(k:Int)<(n:Int)/\7=7:Prop);letI z0:=(g (k:Int).toNat);wab (decide ((k:Int)<(n:Int))) (z1/\z1/\wab (!(decide (z0.o=z0.o) && (decide (z0.p=z0.p) && (decide (z0.per=z0.per) && (decide (z0.day=z0.day) && (decide (z0.st=z0.st) && (decide (z0.pr=z0.pr) && decide (z0.rep=z0.rep)))))))) (Q .ret (St.mk [(4,.bool false)] [] 0 [])) (inR .i64 ((k:Int)+1)/\∃(i':Nat),some (St.mk [(0,.view 7 n (was g)),(1,.view 7 n (was g)),(12,.q (n:Int)),(13,.q ((k:Int)+1))] [] 0 [])=some (St.mk [(0,.view 7 n (was g)),(1,.view 7 n (was g)),(12,.q (n:Int)),(13,.q (i':Int))] [] 0 [])/\P i')) (Q (.exit 0) (St.mk [] [] 0 []))):=by kernel_rfl
theorem nf_svv(g:Nat->VT)(n:Nat)(Q:AV->oL7->Prop):wpFn te [] [(4,wnw g n)] 0 Tryz.f24 [.view 7 n (was g),.view 7 n (was g)] [] Q=(wab (!decide ((n:Int)=(n:Int))) (Q (.bool false) []) (some (St.mk [(0,.view 7 n (was g)),(1,.view 7 n (was g)),(12,.q (n:Int)),(13,.q 0)] [] 0 [])=some (St.mk [(0,.view 7 n (was g)),(1,.view 7 n (was g)),(12,.q (n:Int)),(13,.q (↑0:Int))] [] 0 [])/\n<=1000000/\Q (.bool true) [])):=by kernel_rfl
theorem wvs(a b:List UInt8):Op.bytesLess a b=decide (cmpS a b<0):=by
 have:= @wik a b
 cases q:Op.bytesLess a b with
 |true=>rw[decide_eq_true (this.2 q)]
 |false=>rw[decide_eq_false λh=>by rw[this.1 h] at q;cases q]
theorem ciS_dec(a b:Int):decide (a<b)=decide (cmpI a b<0):=by
 have:=wdr a b
 by_cases h:a<b
 ·rw[decide_eq_true h,decide_eq_true (by omega)]
 ·rw[decide_eq_false h,decide_eq_false (by omega)]
theorem ordS_if(a b:SL):ordS a b=if cmpS a.o b.o=0 then (if cmpS a.p b.p=0 then cmpI a.per b.per else cmpS a.p b.p) else cmpS a.o b.o:=by
 unfold ordS;simp only[orL]
 by_cases h1:cmpS a.o b.o=0
 ·by_cases h2:cmpS a.p b.p=0
  ·by_cases h3:cmpI a.per b.per=0<;>simp[h1,h2,h3]
  ·simp[h1,h2]
 ·simp[h1]
theorem and_lim{v:Int}(h0:0<=v)(h1:v<18446744073709551616):bits .and .u64 v 4294967295=v % 4294967296:=by
 obtain⟨a,rfl⟩:=Int.eq_ofNat_of_zero_le h0;have e1:(BitVec.ofInt 64 (a:Int)).toNat=a:=by
  rw[BitVec.ofInt_natCast,BitVec.toNat_ofNat];exact Nat.mod_eq_of_lt (by omega)
 have e2:(BitVec.ofInt 64 4294967295).toNat=2 ^ 32 - 1:=by decide
 show IntKind.u64.wrap ((BitVec.ofInt 64 (a:Int) &&& BitVec.ofInt 64 4294967295).toNat:Int)=_;rw[BitVec.toNat_and,e1,e2,Nat.and_two_pow_sub_one_eq_mod];show ((a % 4294967296:Nat):Int) % 18446744073709551616=_;omega
theorem wxu(hP:C.P=Tryz.prog)(g:Nat->Int)(n:Nat):waf C 1 19 (wah Tryz.f136 2) (wn2 g n):=by
 have _:C.Loose:=inferInstance;rintro st Q ⟨h0,hn,hQ⟩;refine waf.mk (prg hP) [] 0 .nil [0,3] [3] [] (wlw g n) (λk=>k<=n/\lowI g n=lowI g k) (λk=>k) n ⟨lR7 _,rfl⟩ h0 (λk hk=>?_) (λi=>⟨λ_ _=>rfl,trivial⟩);obtain⟨hkn,hz⟩:=hk;have fin:lowI g k=k->(∀i,i<n->true=true)/\∃O',wac [(0,AObj.row 124 1 n (uRow g) false)] O'/\Q (.exit 0) (St.mk [(3,.q k)] O' 1 []):=λh=>by
  rw[hz,h] at hQ;exact⟨λ_ _=>rfl,_,wav _,hQ⟩
 rw[wzp];refine wag (λh1=>?_) (λh1=>fin (by rw[show k=0 by omega];rfl));obtain⟨j,rfl⟩:∃j,k=j+1:=⟨k - 1,by omega⟩;have e1:((j+1:Nat):Int) - 1=(j:Int):=by omega
 rw[e1,tN7];refine⟨by simp only[inR];omega,⟨by omega,by omega⟩,⟨by omega,rfl⟩,wag (λh2=>⟨by simp only[inR];omega,j,⟨rfl,wav _⟩,⟨by omega,?_⟩,by omega⟩) (λh2=>fin ?_)⟩
 ·rw[hz,lowI,decide_eq_true h2];rfl
 ·rw[lowI,decide_eq_false h2];rfl
theorem rlow_ok(hP:C.P=Tryz.prog):wad C 136 wlx:=by
 rintro args objs U Os vc h hvc;unfold wlx at h;split at h<;>cases h;rename_i n t m f fr;obtain⟨rfl,rfl,rfl,hn,hf⟩:=hvc;refine wad.wpL (prg hP) [] [(2,wn2 (uOf f) n)] 0 .nil (hP ▸ Tryz.func136) rfl rfl rfl [(wah Tryz.f136 2,wn2 (uOf f) n)] (by kernel_rfl) ⟨wxu hP _ n,trivial⟩ ?_;rw[nf_rlow];have hrow:wac [(0,AObj.row 124 1 n (uRow (uOf f)) false)] [(0,.row 124 1 n f false)]:=⟨⟨rfl,rfl,rfl,rfl,rfl,λi hi=>(hf i hi).symm⟩,trivial⟩;exact⟨⟨rfl,⟨rfl,rfl,rfl,rfl,rfl,hf⟩,trivial⟩,hn,λ_ _=>rfl,_,hrow,rfl,rfl⟩
theorem wxp(hP:C.P=Tryz.prog):wad C 115 we4:=by
 rintro args objs U Os vc h hvc;unfold we4 at h;split at h<;>cases h;rename_i n t m f fr;obtain⟨rfl,rfl,rfl,hn,hf⟩:=hvc;refine war.frzO 1 ?_;refine wa8.wpL (prg hP) [(136,.det wlx)] [] 0 (.cons (rlow_ok hP) .nil) (hP ▸ Tryz.func115) rfl rfl rfl [] (wcq _) trivial ?_;rw[wzm,tN7,Nat.zero_add];have hle:=wps (uOf f) n;have hnr:∀i,i<n->nrefL (f i)=true:=λi hi=>by rw[hf i hi];rfl
 have hap:∀i,i<lowI (uOf f) n->apF 0 (waq 1 (List.flatten (List.replicate 0 [.int .u32 0]))) f i=uRow (uOf f) i:=λi hi=>by
  unfold apF;rw[if_neg (nZ7 i),Nat.sub_zero];exact hf i (by omega)
 refine⟨⟨by omega,rfl,by omega⟩,hnr,⟨rfl,rfl,rfl,hn,hf⟩,hnr,⟨by omega,by omega⟩,⟨⟨hle,rfl⟩,lR7 _,rfl,rfl,rfl,by omega,by omega⟩,hnr,λi hi=>by rw[hap i hi];rfl,[(0,.row 124 1 n f false),(1,.row 124 1 (lowI (uOf f) n) (uRow (uOf f)) false)],⟨rQ7,⟨rfl,rfl,rfl,rfl,rfl,hap⟩,trivial⟩,λ_ _=>rfl,?_⟩;generalize lowI (uOf f) n=c at *;have hb:Nat.ble c c=true:=Nat.ble_eq_true_of_le (lR7 _)
 constructor
 ·simp[frzC,frzA,frz,hb]
 ·rfl
theorem wxx(hP:C.P=Tryz.prog):wad C 89 we8:=by
 rintro args objs U Os vc h hvc;unfold we8 at h;split at h<;>cases h;rename_i v;obtain⟨h0,h1⟩:=hvc;refine wad.wp0 (prg hP) [(115,.det we4)] 0 (.cons (wxp hP) .nil) (hP ▸ Tryz.func89) rfl rfl rfl ?_;rw[wzt,and_lim h0 h1];have w1:IntKind.wrap .u32 (v % 4294967296)=v % 4294967296:=by
  show (v % 4294967296) % 4294967296=v % 4294967296;omega
 have w2:IntKind.wrap .u32 (v / (2:Int) ^ Int.toNat (32:Int))=v / 4294967296:=by
  show (v / 4294967296) % 4294967296=v / 4294967296;omega
 rw[w1,w2];have e:uOf (waq 1 (.int .u32 (v % 4294967296):: .int .u32 (v / 4294967296)::List.append [] (List.flatten (List.replicate 0 [.int .u32 0]))))=lmF v:=by
  funext i
  match i with
  |0=>rfl
  |1=>rfl
  |i+2=>simp[uOf,waq,lmF,wd7,wdl]
 have two:∀ {p:Nat->Prop},p 0->p 1->∀i,i<2->p i:=λh0 h1 i hi=>by
  match i,hi with
  |0,_=>exact h0
  |1,_=>exact h1
 refine⟨trivial,trivial,⟨by decide,by decide⟩,trivial,⟨by omega,rfl,by omega⟩,two rfl rfl,⟨rfl,rfl,rfl,by omega,two rfl rfl⟩,two rfl rfl,?_,rfl⟩;show AV.view 1 (lowI (uOf _) 2) (uRow (uOf _))=_;rw[e];rfl
theorem wwg(hP:C.P=Tryz.prog):wad C 54 we1:=by
 rintro args objs U Os vc h hvc;unfold we1 at h;split at h<;>cases h;rename_i v;obtain⟨h0,h1⟩:=hvc;refine wad.wp0 (prg hP) [(89,.det we8)] 0 (.cons (wxx hP) .nil) (hP ▸ Tryz.func54) rfl rfl rfl ?_;rw[wyu];have w:IntKind.wrap .u64 v=v:=by
  show v % 18446744073709551616=v;omega
 rw[w];exact wag (λh=>absurd h (by omega)) (λ_=>⟨trivial,⟨h0,by omega⟩,rfl,rfl⟩)
theorem wxy(hP:C.P=Tryz.prog):wad C 22 we9:=by
 rintro args objs U Os vc h hvc;unfold we9 at h;split at h<;>cases h;rename_i v;obtain⟨h0,h1⟩:=hvc;refine wad.wp0 (prg hP) [(54,.det we1)] 0 (.cons (wwg hP) .nil) (hP ▸ Tryz.func22) rfl rfl rfl ?_;rw[wzu,decide_eq_false (show ¬ v<0 by omega)];exact⟨⟨h0,h1⟩,⟨trivial,trivial⟩,rfl,rfl⟩
theorem wxa(hP:C.P=Tryz.prog)(n:Nat)(u w:Nat->Int):waf C 0 26 (wah Tryz.f53 4) (wny n u w):=by
 have _:C.Loose:=inferInstance;rintro st Q ⟨h0,hn,hQ⟩;have hR:=wb0 hQ;refine waf.mk (prg hP) [] 0 .nil [0,1,12,13] [] [4] (wlp n u w) (λk=>k<=n/\fstB (λi=> !decide (u i=w i)) k=k) (λk=>n - k) 0 ⟨zL7 _,rfl⟩ h0 (λk hk=>?_);obtain⟨hkn,hok⟩:=hk;rw[wzf,tN7];refine wag (λh1=>⟨⟨by omega,by omega,rfl⟩,⟨by omega,by omega,rfl⟩,wal (λh2=>hR.2 ?_) (λh2=>⟨by simp only[inR];omega,k+1,rfl,⟨by omega,wfs hok h2⟩,by omega⟩)⟩) (λh1=>hR.1 ?_)
 ·rw[wgj hok h2 n (by omega),decide_eq_false];omega
 ·rw[show k=n by omega] at hok;rw[hok,decide_eq_true rfl]
theorem ww9(hP:C.P=Tryz.prog):waf C 0 26 (wah Tryz.f53 4) wnx:=by
 have _:C.Loose:=inferInstance;rintro st Q ⟨h0,hQ⟩;refine waf.mk (prg hP) [] 0 .nil [0,1,12,13] [] [4] wlo (λk=>k=0) (λ_=>0) 0 rfl h0 (λk hk=>?_);subst hk;rw[wze];exact hQ
theorem wxk(hP:C.P=Tryz.prog):wad C 53 wlu:=by
 rintro args objs U Os vc h hvc;unfold wlu at h;split at h<;>simp only[sI7,pI7,reduceCtorEq] at h
 ·rename_i n f m g;obtain⟨rfl,rfl,rfl⟩:=h;obtain⟨hn,hm,hf,hg⟩:=hvc;generalize uOf f=u at *;generalize uOf g=w at *;subst hf;subst hg;refine wad.wpL (prg hP) [] [(4,wny n u w)] 0 .nil (hP ▸ Tryz.func53) rfl rfl rfl [(wah Tryz.f53 4,wny n u w)] (by kernel_rfl) ⟨wxa hP n u w,trivial⟩ ?_;rw[nf_sm1];unfold wi7;refine waw (λh=>?_) (λh=>?_)
  ·rw[decide_eq_false (show ¬ n=m by omega)];exact⟨rfl,rfl⟩
  ·have:n=m:=by omega
   subst this;rw[decide_eq_true rfl,Bool.true_and];refine⟨rfl,hn,wal (λh=>?_) (λh=>?_)⟩
   ·rw[h];exact⟨rfl,rfl⟩
   ·rw[h];exact⟨rfl,rfl⟩
 ·obtain⟨rfl,rfl,rfl⟩:=h;refine wad.wpL (prg hP) [] [(4,wnx)] 0 .nil (hP ▸ Tryz.func53) rfl rfl rfl [(wah Tryz.f53 4,wnx)] (by kernel_rfl) ⟨ww9 hP,trivial⟩ ?_;rw[nf_sm1n];exact⟨rfl,rfl,rfl⟩
theorem wxj(hP:C.P=Tryz.prog):wad C 21 wlt:=by
 rintro args objs U Os vc h hvc;unfold wlt at h;split at h<;>cases h;rename_i a n f b m g;obtain⟨hn,hm,hf,hg⟩:=hvc;generalize uOf f=u at *;generalize uOf g=w at *;subst hf;subst hg;refine wad.wp0 (prg hP) [(53,.det wlu)] 0 (.cons (wxk hP) .nil) (hP ▸ Tryz.func21) rfl rfl rfl ?_;have hu:∀u:Nat->Int,uOf (uRow u)=u:=λ_=>rfl;rw[nf_sm2,hu,hu];refine wal (λh=>⟨⟨hn,hm,rfl,rfl⟩,wal (λh2=>⟨trivial,?_,rfl⟩) (λh2=>⟨?_,rfl⟩)⟩) (λh=>⟨?_,rfl⟩)
 ·rw[h,h2];rfl
 ·rw[h,h2];rfl
 ·rw[h];rfl
theorem beV_ok(hP:C.P=Tryz.prog):wad C 85 wnd:=by
 have _:C.Loose:=inferInstance;rintro args objs U Os vc h hvc;unfold wnd at h;split at h<;>simp only[sI7,pI7,reduceCtorEq] at h;rename_i o p per d st pr rep o' p' per' d' st' pr' rep';obtain⟨rfl,rfl,rfl⟩:=h;have hnf:=λQ=>nf_beV ⟨o,p,per,d,st,pr,rep⟩ ⟨o',p',per',d',st',pr',rep'⟩ Q;dsimp only at hnf;refine wad.wp0 (prg hP) [] 0 .nil (hP ▸ Tryz.func85) rfl rfl rfl ?_;rw[hnf,ordS_if];refine waw (λh1=>?_) (λh1=>waw (λh2=>?_) (λh2=>?_))
 ·rw[if_neg (λq=>h1 (wdc.1 q)),wvs];exact⟨rfl,rfl⟩
 ·rw[if_pos (wdc.2 h1),if_neg (λq=>h2 (wdc.1 q)),wvs];exact⟨rfl,rfl⟩
 ·rw[if_pos (wdc.2 h1),if_pos (wdc.2 h2),ciS_dec];exact⟨rfl,rfl⟩
theorem wwm(v:VT):visE v v=true:=by simp[visE]
theorem wwz(hP:C.P=Tryz.prog)(g:Nat->VT)(n:Nat):waf C 0 26 (wah Tryz.f24 4) (wnw g n):=by
 have _:C.Loose:=inferInstance;rintro st Q ⟨h0,hn,hQ⟩;refine waf.mk (prg hP) [] 0 .nil [0,1,12,13] [] [4] (wlm g n) (λk=>k<=n) (λk=>n - k) 0 (zL7 _) h0 (λk hk=>?_);rw[wzc,tN7];refine wag (λh1=>⟨⟨by omega,by omega,rfl⟩,⟨by omega,by omega,rfl⟩,wcl (λh2=>?_) (λh2=>⟨by simp only[inR];omega,k+1,rfl,by omega,by omega⟩)⟩) (λh1=>hQ);have:=wwm (g k);unfold visE at this;rw[this] at h2;cases h2
theorem svv_ok(hP:C.P=Tryz.prog):wad C 24 wls:=by
 rintro args objs U Os vc h hvc;unfold wls at h;split at h<;>cases h;rename_i n f m g;obtain⟨rfl,rfl,hn,hf⟩:=hvc;generalize vtOf f=g at *;subst hf;refine wad.wpL (prg hP) [] [(4,wnw g n)] 0 .nil (hP ▸ Tryz.func24) rfl rfl rfl [(wah Tryz.f24 4,wnw g n)] (by kernel_rfl) ⟨wwz hP g n,trivial⟩ ?_;rw[nf_svv];exact waw (λh=>absurd rfl h) (λ_=>⟨rfl,hn,rfl,rfl⟩)
end Go.Eng
namespace Go.Eng
def S_ra(g:Nat->MG)(n:Nat)(o p:List UInt8)(per:Int)(C:List MG)(k:Nat):St:=⟨[(0,.view 15 n (waa g)),(1,.str o),(2,.str p),(3,.q per),(8,.ptr 0 0),(10,.view 15 C.length (waa (atM C))),(11,.bool (agF C k)),(32,.view 15 C.length (waa (atM C))),(33,.q C.length),(34,.q k)],
 [(0,.cells [.str [],.str [],.q 0,.q 0,.q 0,.q 0,.str []] 43)],1,[]⟩
def L_ra(g:Nat->MG)(n:Nat)(o p:List UInt8)(per:Int)(C:List MG):wan:=λst Q=>canonIs te 0 [0,1,2,3,8,10,11,32,33,34] st (S_ra g n o p per C 0)/\(0<C.length/\C.length<=1000000)/\
 Q (.exit 0) ⟨[(0,.view 15 n (waa g)),(1,.str o),(2,.str p),(3,.q per),(8,.ptr 0 0),(10,.view 15 C.length (waa (atM C))),(11,.bool (agF C C.length))],
  [(0,.cells [.str [],.str [],.q 0,.q 0,.q 0,.q 0,.str []] 43)],1,[]⟩
structure RbI where
 k:Nat
 x:MG
 y:MG
def S_rb(o p:List UInt8)(per:Int)(C R:List MG)(i:RbI):St:=⟨[(1,.str o),(2,.str p),(3,.q per),(8,.ptr 0 0),(10,.view 15 C.length (waa (atM C))),(16,.ptr 1 0),(17,.ptr 2 0),(72,.view 15 R.length (waa (atM R))),(73,.q R.length),(74,.q i.k)],
 [(0,.cells [.str [],.str [],.q 0,.q 0,.q 0,.q 0,.str []] 43),(1,.cells [.str i.x.dev,.q i.x.seq,.q i.x.kind,.str i.x.v.o,.str i.x.v.p,.q i.x.v.per,.q i.x.v.day,.q i.x.v.st,.q i.x.v.pr,.str i.x.v.rep,.str i.x.d.o,.str i.x.d.p,.q i.x.d.per,.str i.x.d.dev,.q i.x.d.num] 47),(2,.cells [.str i.y.dev,.q i.y.seq,.q i.y.kind,.str i.y.v.o,.str i.y.v.p,.q i.y.v.per,.q i.y.v.day,.q i.y.v.st,.q i.y.v.pr,.str i.y.v.rep,.str i.y.d.o,.str i.y.d.p,.q i.y.d.per,.str i.y.d.dev,.q i.y.d.num] 47)],3,[]⟩
def L_rb(o p:List UInt8)(per:Int)(C R:List MG):wan:=λst Q=>canonIs te 0 [1,2,3,8,10,16,17,72,73,74] st (S_rb o p per C R ⟨0,wcv,wcv⟩)/\R.length<=1000000/\C.length<=1000000/\
 ∀x y:MG,(x,y)=bfF o p per C (atM R) R.length->Q (.exit 2) ⟨[(8,.ptr 0 0),(16,.ptr 1 0),(17,.ptr 2 0)],
 [(0,.cells [.str [],.str [],.q 0,.q 0,.q 0,.q 0,.str []] 43),(1,.cells [.str x.dev,.q x.seq,.q x.kind,.str x.v.o,.str x.v.p,.q x.v.per,.q x.v.day,.q x.v.st,.q x.v.pr,.str x.v.rep,.str x.d.o,.str x.d.p,.q x.d.per,.str x.d.dev,.q x.d.num] 47),(2,.cells [.str y.dev,.q y.seq,.q y.kind,.str y.v.o,.str y.v.p,.q y.v.per,.q y.v.day,.q y.v.st,.q y.v.pr,.str y.v.rep,.str y.d.o,.str y.d.p,.q y.d.per,.str y.d.dev,.q y.d.num] 47)],3,[]⟩
def wis(o p:List UInt8)(per:Int)(C R:List MG)(k:Nat)(m:MG)(i:RbI):St:=⟨[(1,.str o),(2,.str p),(3,.q per),(8,.ptr 0 0),(10,.view 15 C.length (waa (atM C))),(16,.ptr 1 0),(17,.ptr 2 0),(19,.ptr 3 0),(20,.ptr 4 0),(72,.view 15 R.length (waa (atM R))),(73,.q R.length),(74,.q k),(101,.view 15 C.length (waa (atM C))),(102,.q C.length),(103,.q i.k)],
 [(0,.cells [.str [],.str [],.q 0,.q 0,.q 0,.q 0,.str []] 43),(1,.cells [.str i.x.dev,.q i.x.seq,.q i.x.kind,.str i.x.v.o,.str i.x.v.p,.q i.x.v.per,.q i.x.v.day,.q i.x.v.st,.q i.x.v.pr,.str i.x.v.rep,.str i.x.d.o,.str i.x.d.p,.q i.x.d.per,.str i.x.d.dev,.q i.x.d.num] 47),(2,.cells [.str i.y.dev,.q i.y.seq,.q i.y.kind,.str i.y.v.o,.str i.y.v.p,.q i.y.v.per,.q i.y.v.day,.q i.y.v.st,.q i.y.v.pr,.str i.y.v.rep,.str i.y.d.o,.str i.y.d.p,.q i.y.d.per,.str i.y.d.dev,.q i.y.d.num] 47),(3,.cells [.str m.dev,.q m.seq,.q m.kind,.str m.v.o,.str m.v.p,.q m.v.per,.q m.v.day,.q m.v.st,.q m.v.pr,.str m.v.rep,.str m.d.o,.str m.d.p,.q m.d.per,.str m.d.dev,.q m.d.num] 47),(4,.cells [.str m.d.o,.str m.d.p,.q m.d.per,.str m.d.dev,.q m.d.num] 45)],5,[]⟩
def wn4(o p:List UInt8)(per:Int)(C R:List MG)(k:Nat)(m:MG)(x y:MG):wan:=λst Q=>canonIs te 0 [1,2,3,8,10,16,17,19,20,72,73,74,101,102,103] st (wis o p per C R k m ⟨0,x,y⟩)/\C.length<=1000000/\
 ∀x' y':MG,(x',y')=inF C m (x,y) C.length->Q (.exit 4) (S_rb o p per C R ⟨k,x',y'⟩)
def wl0(o p:List UInt8)(per:Int)(C R:List MG)(k:Nat)(m x y z:MG)(i:Nat):St:=⟨[(1,.str o),(2,.str p),(3,.q per),(8,.ptr 0 0),(10,.view 15 C.length (waa (atM C))),(16,.ptr 1 0),(17,.ptr 2 0),(19,.ptr 3 0),(20,.ptr 4 0),(22,.ptr 5 0),(72,.view 15 R.length (waa (atM R))),(73,.q R.length),(74,.q k),(101,.view 15 C.length (waa (atM C))),(102,.q C.length),(103,.q i)],
 [(0,.cells [.str [],.str [],.q 0,.q 0,.q 0,.q 0,.str []] 43),(1,.cells [.str x.dev,.q x.seq,.q x.kind,.str x.v.o,.str x.v.p,.q x.v.per,.q x.v.day,.q x.v.st,.q x.v.pr,.str x.v.rep,.str x.d.o,.str x.d.p,.q x.d.per,.str x.d.dev,.q x.d.num] 47),(2,.cells [.str y.dev,.q y.seq,.q y.kind,.str y.v.o,.str y.v.p,.q y.v.per,.q y.v.day,.q y.v.st,.q y.v.pr,.str y.v.rep,.str y.d.o,.str y.d.p,.q y.d.per,.str y.d.dev,.q y.d.num] 47),(3,.cells [.str m.dev,.q m.seq,.q m.kind,.str m.v.o,.str m.v.p,.q m.v.per,.q m.v.day,.q m.v.st,.q m.v.pr,.str m.v.rep,.str m.d.o,.str m.d.p,.q m.d.per,.str m.d.dev,.q m.d.num] 47),(4,.cells [.str m.d.o,.str m.d.p,.q m.d.per,.str m.d.dev,.q m.d.num] 45),(5,.cells [.str z.dev,.q z.seq,.q z.kind,.str z.v.o,.str z.v.p,.q z.v.per,.q z.v.day,.q z.v.st,.q z.v.pr,.str z.v.rep,.str z.d.o,.str z.d.p,.q z.d.per,.str z.d.dev,.q z.d.num] 47)],6,[]⟩
def wn5(o p:List UInt8)(per:Int)(C R:List MG)(k:Nat)(m x y z:MG)(i:Nat):wan:=λst Q=>canonIs te 0 [1,2,3,8,10,16,17,19,20,22,72,73,74,101,102,103] st (wl0 o p per C R k m x y z i)/\Q .normal (wis o p per C R k m ⟨i,m,z⟩)
def S_r23(o p:List UInt8)(per:Int)(C R:List MG)(k:Nat)(m x y z:MG)(i:Nat)(b:Bool):St:=⟨[(1,.str o),(2,.str p),(3,.q per),(8,.ptr 0 0),(10,.view 15 C.length (waa (atM C))),(16,.ptr 1 0),(17,.ptr 2 0),(19,.ptr 3 0),(20,.ptr 4 0),(22,.ptr 5 0),(72,.view 15 R.length (waa (atM R))),(73,.q R.length),(74,.q k),(101,.view 15 C.length (waa (atM C))),(102,.q C.length),(103,.q i),(139,.bool b)],
 [(0,.cells [.str [],.str [],.q 0,.q 0,.q 0,.q 0,.str []] 43),(1,.cells [.str x.dev,.q x.seq,.q x.kind,.str x.v.o,.str x.v.p,.q x.v.per,.q x.v.day,.q x.v.st,.q x.v.pr,.str x.v.rep,.str x.d.o,.str x.d.p,.q x.d.per,.str x.d.dev,.q x.d.num] 47),(2,.cells [.str y.dev,.q y.seq,.q y.kind,.str y.v.o,.str y.v.p,.q y.v.per,.q y.v.day,.q y.v.st,.q y.v.pr,.str y.v.rep,.str y.d.o,.str y.d.p,.q y.d.per,.str y.d.dev,.q y.d.num] 47),(3,.cells [.str m.dev,.q m.seq,.q m.kind,.str m.v.o,.str m.v.p,.q m.v.per,.q m.v.day,.q m.v.st,.q m.v.pr,.str m.v.rep,.str m.d.o,.str m.d.p,.q m.d.per,.str m.d.dev,.q m.d.num] 47),(4,.cells [.str m.d.o,.str m.d.p,.q m.d.per,.str m.d.dev,.q m.d.num] 45),(5,.cells [.str z.dev,.q z.seq,.q z.kind,.str z.v.o,.str z.v.p,.q z.v.per,.q z.v.day,.q z.v.st,.q z.v.pr,.str z.v.rep,.str z.d.o,.str z.d.p,.q z.d.per,.str z.d.dev,.q z.d.num] 47)],6,[]⟩
def wn6(o p:List UInt8)(per:Int)(C R:List MG)(k:Nat)(m x y z:MG)(i:Nat):wan:=λst Q=>canonIs te 0 [1,2,3,8,10,16,17,19,20,22,72,73,74,101,102,103] st (wl0 o p per C R k m x y z i)/\Q .normal (S_r23 o p per C R k m x y z i (namF m.d z && betB x m))
end Go.Eng
namespace Go.Eng
open Go.Proofs Go.RowKit
set_option maxRecDepth 20000
theorem w0e(s:List UInt8)(R:oR7):wpFn te [] [(2,wn8 s)] 0 Tryz.f131 [.str s] [] R=(letI z0:=(s.length:Int);some (St.mk [(0,.str s),(6,.q z0),(7,.q 0)] [] 0 [])=some (St.mk [(0,.str s),(6,.q z0),(7,.q (↑0:Int))] [] 0 [])/\((∀(k:Nat),k<s.length->OKat s k)->wab (decide ((1:Int)<=z0)) (R (.bool (decide (z0<=24))) []) (R (.bool false) []))/\∀(k:Nat),k<s.length->¬OKat s k->R (.bool false) []):=by kernel_rfl
theorem w0d(s:List UInt8)(k:Nat)(P:Nat->Prop)(R:eR7):wat ⟨te,[],[],0,59,0⟩ (wau Tryz.f131 2) [0,6,7] [0] [2] (wma s) P R (wma s k)=(letI z6:=R .ret (St.mk [(2,.bool false)] [] 0 []);letI z5:=(s.length:Int);letI z3:=((0:Int)<=(k:Int)/\(k:Int)<z5:Prop);letI z2:=(↑(UInt8.toNat (List.getD s (k:Int).toNat (0:UInt8))):Int);letI z1:=(inR .i64 ((k:Int)+1)/\∃(i':Nat),some (St.mk [(0,.str s),(6,.q z5),(7,.q ((k:Int)+1))] [] 0 [])=some (St.mk [(0,.str s),(6,.q z5),(7,.q (i':Int))] [] 0 [])/\P i');letI z0:=(wab (decide ((k:Int)=0)) z6 (z3/\wab (!decide (z2=45)) (z3/\wab (!decide (z2=46)) z6 z1) z1));letI z4:=(z3/\wab (decide ((48:Int)<=z2)) (z3/\wab (!decide (z2<=57)) z0 z1) z0);wab (decide ((k:Int)<z5)) (z3/\wab (decide ((97:Int)<=z2)) (z3/\wab (decide (z2<=122)) z1 z4) z4) (R (.exit 0) (St.mk [(0,.str s)] [] 0 []))):=by kernel_rfl
theorem nf_cdR(s:List UInt8)(R:oR7):wpFn te [] [(5,wok s)] 0 Tryz.f57 [.str s] [] R=(letI z2:=R (.tuple [.q 0,.bool false]) [];letI z1:=(s.length:Int);letI z0:=(some (St.mk [(0,.str s),(4,.q 0),(16,.q z1),(17,.q 0)] [] 0 [])=some (St.mk [(0,.str s),(4,.q (wa1 s 0)),(16,.q z1),(17,.q (↑0:Int))] [] 0 [])/\s.length<=12/\wab (List.all s wbe) ((10:Int)≠(0:Int)/\inR .i64 ((10:Int) - Int.tmod (wa1 s s.length) (10:Int))/\(10:Int)≠(0:Int)/\R (.tuple [.q (Int.tmod ((10:Int) - Int.tmod (wa1 s s.length) (10:Int)) (10:Int)),.bool true]) []) z2);wab (!decide (z1=7)) (wab (!decide (z1=12)) z2 z0) z0):=by kernel_rfl
theorem w1j(s:List UInt8)(k:Nat)(P:Nat->Prop)(R:eR7):wat ⟨te,[],[],0,50,0⟩ (wau Tryz.f57 5) [0,4,16,17] [4] [2,3] (wm8 s) P R (wm8 s k)=(letI z5:=R .ret (St.mk [(2,.q 0),(3,.bool false)] [] 0 []);letI z1:=(s.length:Int);letI z2:=((0:Int)<=(k:Int)/\(k:Int)<z1:Prop);letI z0:=(↑(UInt8.toNat (List.getD s (k:Int).toNat (0:UInt8))):Int);letI z3:=(z0 - (48:Int));letI z4:=(z3 % (256:Int));wab (decide ((k:Int)<z1)) (z2/\wab (decide (z0<48)) z5 (z2/\wab (decide ((57:Int)<z0)) z5 (inR .i64 (z1 - (k:Int))/\(2:Int)≠(0:Int)/\wab (decide (Int.tmod (z1 - (k:Int)) (2:Int)=1)) (z2/\inR .i64 z4/\inR .i64 ((3:Int) * z4)/\inR .i64 (wa1 s k+3 * z4)/\inR .i64 ((k:Int)+1)/\∃(i':Nat),some (St.mk [(0,.str s),(4,.q (wa1 s k+3 * z4)),(16,.q z1),(17,.q ((k:Int)+1))] [] 0 [])=some (St.mk [(0,.str s),(4,.q (wa1 s i')),(16,.q z1),(17,.q (i':Int))] [] 0 [])/\P i') (z2/\inR .i64 z4/\inR .i64 ((1:Int) * z4)/\inR .i64 (wa1 s k+1 * z4)/\inR .i64 ((k:Int)+1)/\∃(i':Nat),some (St.mk [(0,.str s),(4,.q (wa1 s k+1 * z4)),(16,.q z1),(17,.q ((k:Int)+1))] [] 0 [])=some (St.mk [(0,.str s),(4,.q (wa1 s i')),(16,.q z1),(17,.q (i':Int))] [] 0 [])/\P i')))) (R (.exit 0) (St.mk [(4,.q (wa1 s k))] [] 0 []))):=by kernel_rfl
theorem wy0(s:List UInt8)(R:oR7):wpFn te [(57,.det wd1)] [] 0 Tryz.f152 [.str s] [] R=(letI z1:=(s.length:Int);letI z3:=(z1 - (1:Int));letI z2:=(cdF (List.take z3.toNat s));letI z0:=(inR .i64 z3/\((0:Int)<=z1 - (1:Int)/\z1 - (1:Int)<=z1)/\True/\wab z2.2 (inR .i64 z3/\((0:Int)<=z1 - (1:Int)/\z1 - (1:Int)<z1)/\inR .i64 ((48:Int)+z2.1)/\inR .u8 ((48:Int)+z2.1)/\R (.bool (decide ((↑(UInt8.toNat (List.getD s z3.toNat (0:UInt8))):Int)=48+z2.1))) []) (R (.bool false) []));wab (!decide (z1=8)) (wab (!decide (z1=13)) (R (.bool false) []) z0) z0):=by kernel_rfl
variable {C:Ctx} [C.Loose]
theorem w1v(hP:C.P=Tryz.prog)(s:List UInt8)(hm:s.length<=9223372036854775807):waf C 0 59 (wah Tryz.f131 2) (wn8 s):=by
 have _:C.Loose:=inferInstance;rintro st Q ⟨h0,hQ1,hQ2⟩;refine waf.mk (prg hP) [] 0 .nil [0,6,7] [0] [2] (wma s) (λk=>k<=s.length/\∀j,j<k->OKat s j) (λk=>s.length - k) 0 ⟨zL7 _,λj h=>by omega⟩ h0 λk ⟨hk,hall⟩=>?_;rw[w0d];refine wag (λh=>?_) (λh=>?_)
 ·have hlt:k<s.length:=by omega
  have hret:¬ OKat s k->Q .ret ⟨[(2,.bool false)],[],0,[]⟩:=hQ2 k hlt;have hgo:OKat s k->∃i':Nat,some (St.mk [(0,.str s),(6,.q (s.length:Int)),(7,.q ((k:Int)+1))] [] 0 [])=some (St.mk [(0,.str s),(6,.q (s.length:Int)),(7,.q (i':Int))] [] 0 [])/\(i'<=s.length/\∀j,j<i'->OKat s j)/\s.length - i'<s.length - k:=λhok=>
   ⟨k+1,rfl,⟨by omega,λj hj=>by
    rcases Nat.lt_succ_iff_lt_or_eq.1 hj with hj | rfl
    ·exact hall j hj
    ·exact hok⟩,by omega⟩
  unfold OKat at hret hgo;simp only[tN7,inR]
  repeat' (first | (refine wag (λ_=>?_) (λ_=>?_)) | (refine waw (λ_=>?_) (λ_=>?_)) | (refine And.intro (by omega) ?_) | fail)
  all_goals (first | exact hret (by omega) | exact hgo (by omega))
 ·exact hQ1 λj hj=>hall j (by omega)
theorem wpl(hP:C.P=Tryz.prog):wad C 131 we6:=by
 rintro args objs U Os vc h hvc;unfold we6 at h;split at h<;>cases h;rename_i s;refine wad.wpL (prg hP) [] [(2,wn8 s)] 0 .nil (hP ▸ Tryz.func131) rfl rfl rfl [(wah Tryz.f131 2,wn8 s)] (by kernel_rfl) ⟨w1v hP s hvc,trivial⟩ ?_;rw[w0e];refine⟨rfl,λhall=>wag (λh1=>⟨congrArg AV.bool ?_,rfl⟩) (λh1=>⟨congrArg AV.bool ?_,rfl⟩),λk hk hno=>⟨congrArg AV.bool ?_,rfl⟩⟩
 ·by_cases h2:s.length<=24
  ·rw[(wjo s).2 ⟨⟨by omega,h2⟩,hall⟩];exact decide_eq_true (by omega)
  ·rw[decide_eq_false (by omega)]
   cases hn:wa6 s with
   |false=>rfl
   |true=>exact absurd ((wjo s).1 hn).1.2 h2
 ·cases hn:wa6 s with
  |false=>rfl
  |true=>exact absurd ((wjo s).1 hn).1.1 (by omega)
 ·cases hn:wa6 s with
  |false=>rfl
  |true=>exact absurd (((wjo s).1 hn).2 k hk) hno
theorem w4n(hP:C.P=Tryz.prog)(s:List UInt8):waf C 0 50 (wah Tryz.f57 5) (wok s):=by
 have _:C.Loose:=inferInstance;rintro st Q ⟨h0,hlen,hQ⟩;have hQ:=wb0 hQ;refine waf.mk (prg hP) [] 0 .nil [0,4,16,17] [4] [2,3] (wm8 s) (λk=>k<=s.length/\∀j,j<k->48<=(s.getD j 0).toNat/\(s.getD j 0).toNat<=57) (λk=>s.length - k) 0 ⟨zL7 _,λj h=>by omega⟩ h0 λk ⟨hk,hall⟩=>?_;rw[w1j];have hb:=wvm k hk hall;refine wag (λh=>?_) (λh=>?_)
 ·have hlt:k<s.length:=by omega
  have hret:¬ (48<=(s.getD k 0).toNat/\(s.getD k 0).toNat<=57)->Q .ret ⟨[(2,.q 0),(3,.bool false)],[],0,[]⟩:=λhno=>hQ.2 (by
   cases ha:s.all wbe with
   |false=>rfl
   |true=>exact absurd (wj6 ha k hlt) hno)
  have e:Int.tmod (↑s.length - ↑k) 2=(↑s.length - ↑k) % 2:=Int.tmod_eq_emod_of_nonneg (by omega);have hs:wa1 s (k+1)=wa1 s k+(1+2 * ((↑s.length - ↑k) % 2)) * (↑(s.getD k 0).toNat - 48):=rfl;have hgo:(48<=(s.getD k 0).toNat/\(s.getD k 0).toNat<=57)->(k+1<=s.length/\∀j,j<k+1->48<=(s.getD j 0).toNat/\(s.getD j 0).toNat<=57)/\s.length - (k+1)<s.length - k:=λhok=>
   ⟨⟨by omega,λj hj=>by
    rcases Nat.lt_succ_iff_lt_or_eq.1 hj with hj | rfl
    ·exact hall j hj
    ·exact hok⟩,by omega⟩
  simp only[tN7,inR,e];refine⟨by omega,wag (λh1=>hret (by omega)) (λh1=>⟨by omega,wag (λh2=>hret (by omega)) (λh2=>⟨by omega,by omega,?_⟩)⟩)⟩;have hgo:=hgo (by omega);have e3:((s.getD k 0).toNat - 48:Int) % 256=(s.getD k 0).toNat - 48:=by omega
  rw[e3];refine wag (λh3=>?_) (λh3=>?_)
  ·rw[h3] at hs;exact⟨by omega,by omega,by omega,by omega,by omega,k+1,by rw[hs];rfl,hgo⟩
  ·have h3:(↑s.length - ↑k:Int) % 2=0:=by omega
   rw[h3] at hs;exact⟨by omega,by omega,by omega,by omega,by omega,k+1,by rw[hs];rfl,hgo⟩
 ·have hks:k=s.length:=by omega
  rw[hks];exact hQ.1 (w5g λj hj=>hall j (by omega))
theorem cdR_ok(hP:C.P=Tryz.prog):wad C 57 wd1:=by
 rintro args objs U Os vc h hvc;unfold wd1 at h;split at h<;>cases h;rename_i s;refine wad.wpL (prg hP) [] [(5,wok s)] 0 .nil (hP ▸ Tryz.func57) rfl rfl rfl [(wah Tryz.f57 5,wok s)] (by kernel_rfl) ⟨w4n hP s,trivial⟩ ?_;rw[nf_cdR]
 have main:(s.length=7∨s.length=12)->wab (s.all wbe) ((10:Int)≠0/\inR .i64 (10 - Int.tmod (wa1 s s.length) 10)/\(10:Int)≠0/\AV.tuple [.q (Int.tmod (10 - Int.tmod (wa1 s s.length) 10) 10),.bool true]= .tuple [.q (cdF s).1,.bool (cdF s).2]/\([]:List (Nat×AObj))=[])
   (AV.tuple [.q 0,.bool false]= .tuple [.q (cdF s).1,.bool (cdF s).2]/\([]:List (Nat×AObj))=[]):=by
  intro hl;have hd:wbj s 7 12=s.all wbe:=by
   unfold wbj
   rcases hl with h | h<;>simp[h]
  refine wal (λha=>?_) (λha=>?_)
  ·have hb:=wk4 ha s.length (lR7 _);have e:Int.tmod (wa1 s s.length) 10=wa1 s s.length % 10:=Int.tmod_eq_emod_of_nonneg (by omega);rw[e,Int.tmod_eq_emod_of_nonneg (by omega)];refine⟨by omega,by simp only[inR];omega,by omega,?_,rfl⟩;simp[cdF,hd,ha]
  ·refine⟨?_,rfl⟩;simp[cdF,hd,ha]
 refine waw (λh1=>waw (λh2=>⟨?_,rfl⟩) (λh2=>⟨rfl,by omega,main (by omega)⟩)) (λh1=>⟨rfl,by omega,main (by omega)⟩);have hd:wbj s 7 12=false:=by unfold wbj;rw[decide_eq_false h1,decide_eq_false h2];rfl
 simp[cdF,hd]
theorem wrj(hP:C.P=Tryz.prog):wad C 152 wco:=by
 rintro args objs U Os vc h hvc;unfold wco at h;split at h<;>cases h;rename_i s;refine wad.wp0 (prg hP) [(57,.det wd1)] 0 (.cons (cdR_ok hP) .nil) (hP ▸ Tryz.func152) rfl rfl rfl ?_;rw[wy0];have e1:∀h:s.length=8∨s.length=13,(↑s.length - 1:Int).toNat=s.length - 1:=by intro h;omega
 have hcd:=w4p (s.take (s.length - 1));have last:(s.length=8∨s.length=13)->(s.all wbe=((cdF (s.take (s.length - 1))).2 && wbe (s.getD (s.length - 1) 0))):=by
  intro hl;have h2:(cdF (s.take (s.length - 1))).2=(s.take (s.length - 1)).all wbe:=by
   have hd:wbj (s.take (s.length - 1)) 7 12=(s.take (s.length - 1)).all wbe:=by
    unfold wbj;have:(s.take (s.length - 1)).length=s.length - 1:=by simp
    rcases hl with h | h<;>simp[h]
   unfold cdF;rw[hd]
   cases (s.take (s.length - 1)).all wbe<;>rfl
  have hs:s=s.take (s.length - 1)++[s.getD (s.length - 1) 0]:=by
   have hlt:s.length - 1<s.length:=by omega
   have:=(List.take_append_drop (s.length - 1) s).symm;rw[List.drop_eq_getElem_cons hlt] at this;have e:s.getD (s.length - 1) 0=s[s.length - 1]:=by simp[List.getD,hlt]
   rw[e];have hd:List.drop (s.length - 1+1) s=[]:=List.drop_eq_nil_of_le (by omega);rw[hd] at this;exact this
  rw[h2]
  conv=>lhs;rw[hs]
  simp
 have hv:(s.length=8∨s.length=13)->wba s=((cdF (s.take (s.length - 1))).2 && decide ((s.getD (s.length - 1) 0).toNat=48+(cdF (s.take (s.length - 1))).1)):=by
  intro hl;have hd:wbj s 8 13=s.all wbe:=by
   unfold wbj
   rcases hl with h | h<;>simp[h]
  unfold wba;rw[hd,last hl]
  cases hc:(cdF (s.take (s.length - 1))).2 with
  |false=>rfl
  |true=>
   simp only[Bool.true_and]
   cases hi:wbe (s.getD (s.length - 1) 0) with
   |true=>
    refine decide_eq_decide.2 ?_;omega
   |false=>
    refine(decide_eq_false λhe=>?_).symm;simp only[wbe,Bool.and_eq_false_imp,decide_eq_true_eq,decide_eq_false_iff_not] at hi;omega
 have main:(s.length=8∨s.length=13)->wab (cdF (s.take (s.length - 1))).2 (inR .i64 (↑s.length - 1)/\(0<=(↑s.length - 1:Int)/\(↑s.length - 1:Int)<↑s.length)/\inR .i64 (48+(cdF (s.take (s.length - 1))).1)/\inR .u8 (48+(cdF (s.take (s.length - 1))).1)/\
   AV.bool (decide ((↑(s.getD (s.length - 1) 0).toNat:Int)=48+(cdF (s.take (s.length - 1))).1))= .bool (wba s)/\([]:List (Nat×AObj))=[]) (AV.bool false= .bool (wba s)/\([]:List (Nat×AObj))=[]):=by
  intro hl;rw[hv hl];refine wal (λhc=>?_) (λhc=>?_)
  ·simp only[inR,hc,Bool.true_and];exact⟨by omega,by omega,by omega,by omega,by simp⟩
  ·simp[hc]
 refine waw (λh1=>waw (λh2=>⟨?_,rfl⟩) (λh2=>?_)) (λh1=>?_)
 ·have hd:wbj s 8 13=false:=by unfold wbj;rw[decide_eq_false h1,decide_eq_false h2];rfl
  simp[wba,hd]
 ·have hl:s.length=8∨s.length=13:=by omega
  rw[e1 hl];exact⟨by simp only[inR];omega,by omega,trivial,main hl⟩
 ·have hl:s.length=8∨s.length=13:=by omega
  rw[e1 hl];exact⟨by simp only[inR];omega,by omega,trivial,main hl⟩
end Go.Eng
namespace Go.Eng
open Go.Proofs Go.RowKit
variable {C:Ctx} [C.Loose]
set_option maxRecDepth 20000
theorem nf_fold(n k:Int)(R:oR7):wpFn te [] [] 0 Tryz.f56 [.q n,.q k] [] R=(letI z0:=(Int.tmod (IntKind.wrap IntKind.u64 n) (IntKind.wrap IntKind.u64 (max k (1:Int))));True/\True/\IntKind.wrap IntKind.u64 (max k (1:Int))≠(0:Int)/\inR .i64 z0/\R (.q z0) []):=by kernel_rfl
theorem nf_next(n:Nat)(v:Nat->Int)(a k:Int)(R:oR7):wpFn te [] [] 0 Tryz.f30 [.ptr 0 0,.q k] [.cells [.view 1 n (waj v),.q a] 26] R=(letI z1:=([(0,.cells [.view 1 n (waj v),.q (a+1)] 26)]:oL7);letI z0:=(IntKind.wrap IntKind.u64 (max k (1:Int)));letI z3:=Int.tmod (IntKind.wrap IntKind.u64 0) z0;letI z2:=Int.tmod (IntKind.wrap IntKind.u64 (v a.toNat)) z0;wab (decide (a<(n:Int))) (((0:Int)<=a/\a<(n:Int)/\1=1)/\inR .i64 (a+1)/\True/\True/\IntKind.wrap IntKind.u64 (max k (1:Int))≠(0:Int)/\inR .i64 z2/\R (.q z2) z1) (inR .i64 (a+1)/\True/\True/\IntKind.wrap IntKind.u64 (max k (1:Int))≠(0:Int)/\inR .i64 z3/\R (.q z3) z1)):=by kernel_rfl
theorem wrb(n:Int):IntKind.wrap .u64 n=n % 18446744073709551616:=by
 show n % (2:Int) ^ 64=_;rfl
theorem wpj{k:Int}(h:1<=k/\k<=1000000)(x:Int):IntKind.wrap .u64 (max k 1)≠0/\Int.tmod (IntKind.wrap .u64 x) (IntKind.wrap .u64 (max k 1))=wdn x k:=by
 have e:IntKind.wrap .u64 (max k 1)=k:=by
  rw[wrb,Int.max_eq_left h.1];omega
 rw[e,wrb];have hx:0<=x % 18446744073709551616:=by omega
 rw[Int.tmod_eq_emod_of_nonneg hx];exact⟨by omega,rfl⟩
theorem fold_ok(hP:C.P=Tryz.prog):wad C 56 wmy:=by
 have _:C.Loose:=inferInstance;rintro args objs U Os vc h hvc;unfold wmy at h;split at h<;>cases h;rename_i n k;refine wad.wp0 (prg hP) [] 0 .nil (hP ▸ Tryz.func56) rfl rfl rfl ?_;rw[nf_fold];obtain⟨h1,h2⟩:=wpj hvc n;have h3:=wie hvc.1 n;rw[h2];exact⟨trivial,trivial,h1,by simp only[inR];omega,rfl,rfl⟩
theorem next_ok(hP:C.P=Tryz.prog):wad C 30 wmb:=by
 have _:C.Loose:=inferInstance;rintro args objs U Os vc h hvc;unfold wmb at h;split at h<;>cases h;rename_i k sz n f a t;obtain⟨rfl,rfl,hf,hk,ha⟩:=hvc;rw[hf];have hv:vInt (waj (vInt f))=vInt f:=rfl;rw[hv];generalize vInt f=v at *;refine wad.wp0 (prg hP) [] 0 .nil (hP ▸ Tryz.func30) rfl rfl rfl ?_;rw[nf_next];unfold wa9;refine wag (λh=>?_) (λh=>?_)
 ·obtain⟨h1,h2⟩:=wpj hk (v a.toNat);have h3:=wie hk.1 (v a.toNat);rw[h2,decide_eq_true h];exact⟨⟨by omega,by omega,rfl⟩,by simp only[inR];omega,trivial,trivial,h1,by simp only[inR];omega,rfl,rfl⟩
 ·obtain⟨h1,h2⟩:=wpj hk 0;have h3:=wie hk.1 0;rw[h2,decide_eq_false h];exact⟨by simp only[inR];omega,trivial,trivial,h1,by simp only[inR];omega,rfl,rfl⟩
theorem w0v(V j:Nat)(P:Nat->Prop)(R:eR7):wat ⟨te,[],[],0,39,0⟩ (wau Tryz.f27 4) [3,4,5] [4] [] (wmw V) P R (wmw V j)=(letI z0:=(↑(pw V j):Int);wab (decide ((0:Int)<=6 - (j:Int))) ((10:Int)≠(0:Int)/\inR .i64 ((48:Int)+Int.tmod z0 (10:Int))/\inR .u8 ((48:Int)+Int.tmod z0 (10:Int))/\((0:Int)<=6 - (j:Int)/\(6:Int) - (j:Int)<(↑7:Int))/\(List.length [AV.int .u8 ((48:Int)+Int.tmod z0 (10:Int))]=1/\((6:Int) - (j:Int)).toNat<7/\1=1)/\((10:Int)≠(0:Int)/\inR .i64 (Int.tdiv z0 (10:Int)))/\inR .i64 ((6:Int) - (j:Int) - (1:Int))/\∃(i':Nat),(TEq [(3,.q (Int.tdiv z0 (10:Int))),(4,.own 0 7),(5,.q ((6:Int) - (j:Int) - (1:Int)))] [(3,.q (↑(pw V i'):Int)),(4,.own 0 7),(5,.q ((6:Int) - (i':Int)))]/\wac [(0,.row 5 1 7 (λ(k:Nat)=>if k=Int.toNat ((6:Int) - (j:Int)) then [.int .u8 ((48:Int)+Int.tmod z0 (10:Int))] else [.int .u8 (bif decide (7<=k+j) then dgI V k else (0:Int))]) false)] [(0,.row 5 1 7 (λ(k:Nat)=>[.int .u8 (bif decide (7<=k+i') then dgI V k else (0:Int))]) false)])/\P i') ((∀(i:Nat),i<7->true=true)/\∃(O':oL7),wac [(0,.row 5 1 7 (λ(k:Nat)=>[.int .u8 (bif decide (7<=k+j) then dgI V k else (0:Int))]) false)] O'/\R (.exit 0) (St.mk [(4,.own 0 7)] O' 1 []))):=by kernel_rfl
theorem nf_id(n:Int)(V:Nat)(R:oR7):wpFn te [(56,.det wmy),(57,.det wd1)] [(4,L_id V)] 2 Tryz.f27 [.q n] [] R=(letI z4:=(List.flatten (List.replicate (nat_lit 0) [.int .u8 0]):List AV);letI z3:=cdF (wbc 7 (wcs V));letI z2:=((7<=7/\1=1)/\∀(i:Nat),i<7->isU8 (wcs V i)=true:Prop);letI z1:=1000000;letI z0:=(waq 1 (.int .u8 ((48:Int)+z3.1)::List.append [] z4));((1:Int)<=z1/\z1<=z1)/\inR .i64 (z1+wdn n z1)/\((0:Int)<=7/\(7:Int)<=7/\(↑1:Int) * (7:Int)<=281474976710656/\(7:Int)<=9223372036854775807)/\(TEq [(3,.q (z1+wdn n z1)),(4,.own 0 7),(5,.q 6)] [(3,.q (↑(pw V 0):Int)),(4,.own 0 7),(5,.q ((6:Int) - (↑0:Int)))]/\wac [(0,.row 5 1 7 (λ(_x:Nat)=>[.int .u8 0]) false)] [(0,.row 5 1 7 (λ(k:Nat)=>[.int .u8 (bif decide (7<=k+0) then dgI V k else (0:Int))]) false)])/\V<2000000/\z2/\True/\z2/\inR .i64 ((48:Int)+z3.1)/\inR .u8 ((48:Int)+z3.1)/\(1<=16777216/\1=1/\1<=9223372036854775807)/\((1<=1/\1=1)/\∀(i:Nat),i<1->isU8 (waq 1 (.int .u8 ((48:Int)+z3.1)::List.append [] z4) i)=true)/\(wbc 7 (wcs V)).length+(wbc 1 z0).length<=9223372036854775807/\R (.str (wbc 7 (wcs V)++wbc 1 z0)) []):=by kernel_rfl
theorem pw_step(V j:Nat):Int.tdiv (pw V j:Nat) 10=(pw V (j+1):Nat):=by
 rw[Int.tdiv_eq_ediv_of_nonneg (Int.natCast_nonneg _)];unfold pw;rw[Nat.pow_succ, ← Nat.div_div_eq_div_mul];rfl
theorem pw_le(V j:Nat):pw V j<=V:=Nat.div_le_self _ _
theorem id_loop(hP:C.P=Tryz.prog)(V:Nat):waf C 0 39 (wah Tryz.f27 4) (L_id V):=by
 have _:C.Loose:=inferInstance;rintro st Q ⟨h0,hv,hQ⟩;refine waf.mk (prg hP) [] 0 .nil [3,4,5] [4] [] (wmw V) (λj=>j<=7) (λj=>7 - j) 0 (by omega) h0 (λj hj=>?_) (λi=>⟨λ_ _=>rfl,trivial⟩);rw[w0v];have hle:=pw_le V j;have ht:Int.tmod (pw V j:Nat) 10=((pw V j % 10:Nat):Int):=by
  rw[Int.tmod_eq_emod_of_nonneg (Int.natCast_nonneg _)];rfl
 rw[ht,pw_step];have hle':=pw_le V (j+1);have hm:=Nat.mod_lt (pw V j) (show 0<10 by omega);refine wag (λh=>?_) (λh=>⟨λ_ _=>rfl,_,?_,hQ⟩)
 ·refine⟨by omega,by simp only[inR];omega,by simp only[inR];omega,⟨h,by omega⟩,⟨rfl,by omega,rfl⟩,⟨by omega,by simp only[inR];omega⟩,by simp only[inR];omega,j+1,⟨?_,⟨rfl,rfl,rfl,rfl,rfl,λk hk=>?_⟩,trivial⟩,by omega,by omega⟩
  ·rw[show (6:Int) - (j:Int) - 1=6 - ((j+1:Nat):Int) by omega];rfl
  ·dsimp only
   split
   ·rename_i e;have e':6 - k=j:=by omega
    rw[decide_eq_true (show 7<=k+(j+1) by omega)];unfold dgI;rw[e'];rfl
   ·rename_i e
    by_cases h7:7<=k+j
    ·rw[decide_eq_true h7,decide_eq_true (show 7<=k+(j+1) by omega)]
    ·rw[decide_eq_false h7,decide_eq_false (show ¬ 7<=k+(j+1) by omega)]
 ·have:j=7:=by omega
  subst this;refine⟨⟨rfl,rfl,rfl,rfl,rfl,λk hk=>?_⟩,trivial⟩;dsimp only
  rw[decide_eq_true (show 7<=k+7 by omega)];rfl
theorem id_ok(hP:C.P=Tryz.prog):wad C 27 S_id:=by
 rintro args objs U Os vc h hvc;unfold S_id at h;split at h<;>cases h;rename_i n;refine wad.wpL (prg hP) [(56,.det wmy),(57,.det wd1)] [(4,L_id (idV n))] 2 (.cons (fold_ok hP) (.cons (cdR_ok hP) .nil)) (hP ▸ Tryz.func27) rfl rfl rfl [(wah Tryz.f27 4,L_id (idV n))] (by kernel_rfl) ⟨id_loop hP _,trivial⟩ ?_;rw[nf_id];have hf:=wie (show (1:Int)<=1000000 by omega) n;have hV:((idV n:Nat):Int)=1000000+wdn n 1000000:=by unfold idV;omega
 have hl:=id7_len n;have hc:=w4o (id7 n);refine⟨⟨by omega,by omega⟩,by simp only[inR];omega,⟨by omega,by omega,by decide,by omega⟩,⟨?_,⟨rfl,rfl,rfl,rfl,rfl,λk hk=>?_⟩,trivial⟩,by omega,⟨⟨by omega,rfl⟩,λ_ _=>rfl⟩,trivial,⟨⟨by omega,rfl⟩,λ_ _=>rfl⟩,?_,?_,⟨by omega,rfl,by omega⟩,⟨⟨by omega,rfl⟩,λi hi=>?_⟩,?_,rfl,rfl⟩
 ·rw[← hV];show TEq [(3,.q ((idV n:Nat):Int)),(4,.own 0 7),(5,.q 6)] [(3,.q ((idV n / 1:Nat):Int)),(4,.own 0 7),(5,.q 6)];rw[Nat.div_one];rfl
 ·dsimp only
  rw[decide_eq_false (show ¬ 7<=k+0 by omega)];rfl
 ·show inR .i64 (48+(cdF (id7 n)).1);simp only[inR];omega
 ·show inR .u8 (48+(cdF (id7 n)).1);simp only[inR];omega
 ·obtain rfl:i=0:=by omega
  rfl
 ·show (id7 n).length+_<=_;rw[hl];simp[wbc]
theorem wz2(p:Int)(R:oR7):wpFn te [] [] 0 Tryz.f162 [.q p] [] R=(wab (decide ((0:Int)<=p)) (R (.bool (decide (p<=5999))) []) (R (.bool false) [])):=by kernel_rfl
theorem wzh(o p:List UInt8)(per:Int)(R:oR7):wpFn te [(131,.det we6),(152,.det wco),(162,.det wl3)] [] 0 Tryz.f151 [.str o,.str p,.q per] [] R=(o.length<=9223372036854775807/\wab (wa6 o) (True/\wab (wba p) (True/\R (.bool (decide ((0:Int)<=per) && decide (per<=5999))) []) (R (.bool false) [])) (R (.bool false) [])):=by kernel_rfl
theorem wyh(hP:C.P=Tryz.prog):wad C 162 wl3:=by
 have _:C.Loose:=inferInstance;rintro args objs U Os vc h hvc;unfold wl3 at h;split at h<;>cases h;refine wad.wp0 (prg hP) [] 0 .nil (hP ▸ Tryz.func162) rfl rfl rfl ?_;rw[wz2];exact wal (λh=>by rw[h];exact⟨rfl,rfl⟩) (λh=>by rw[h];exact⟨rfl,rfl⟩)
theorem wrw(hP:C.P=Tryz.prog):wad C 151 wgv:=by
 rintro args objs U Os vc h hvc;unfold wgv at h;split at h<;>cases h;rename_i o p per;refine wad.wp0 (prg hP) [(131,.det we6),(152,.det wco),(162,.det wl3)] 0 (.cons (wpl hP) (.cons (wrj hP) (.cons (wyh hP) .nil))) (hP ▸ Tryz.func151) rfl rfl rfl ?_;rw[wzh];unfold wcc;exact⟨by omega,wal (λh1=>⟨trivial,wal (λh2=>⟨trivial,by rw[h1,h2,Bool.true_and,Bool.true_and];exact⟨rfl,rfl⟩⟩) (λh2=>by rw[h1,h2];exact⟨rfl,rfl⟩)⟩) (λh1=>by rw[h1];exact⟨rfl,rfl⟩)⟩
end Go.Eng
