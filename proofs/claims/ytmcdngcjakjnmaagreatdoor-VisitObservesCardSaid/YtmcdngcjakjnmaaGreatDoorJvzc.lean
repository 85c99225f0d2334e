/- The reference of the products. -/
import Derived.Test.YtmcdngcjakjnmaaGreatDoorJvzb
namespace Go.Eng
open Go.Proofs Go.RowKit
variable {C:Ctx} [C.Loose]
set_option maxRecDepth 20000
theorem w03(g:Nat->Int)(n k:Nat)(P:Nat->Prop)(Q:eR7):wat ⟨te,[],[],1,19,0⟩ (wav Tryz.f136 2) [0,3] [3] [] (wmr g n) P Q (wmr g n k)=(letI z1:=([(0,.row 124 1 n (uRow g) false)]:oL7);letI z0:=((∀(i:Nat),i<n->true=true)/\∃(O':oL7),wac z1 O'/\Q (.exit 0) (St.mk [(3,.q (k:Int))] O' 1 []):Prop);wab (decide ((0:Int)<(k:Int))) (inR .i64 ((k:Int) - (1:Int))/\((0:Int)<=(k:Int) - (1:Int)/\(k:Int) - (1:Int)<(n:Int))/\(((k:Int) - (1:Int)).toNat<n/\1=1)/\wab (decide (g ((k:Int) - (1:Int)).toNat=0)) (inR .i64 ((k:Int) - (1:Int))/\∃(i':Nat),(TEq [(0,.own 0 n),(3,.q ((k:Int) - (1:Int)))] [(0,.own 0 n),(3,.q (i':Int))]/\wac z1 z1)/\P i') z0) z0):=by kernel_rfl
theorem nf_rlow(f:Nat->List AV)(n:Nat)(Q:AV->oL7->Prop):wpFn te [] [(2,wo6 (uOf f) n)] 0 Tryz.f136 [.own 0 n] [.row 124 1 n f false] Q=(letI z0:=([(0,.own 0 n),(3,.q (n:Int))]:tL7);(TEq z0 z0/\wac [(0,.row 124 1 n f false)] [(0,.row 124 1 n (uRow (uOf f)) false)])/\n<=1000/\(∀(i:Nat),i<n->true=true)/\∃(O':oL7),wac [(0,.row 124 1 n (uRow (uOf f)) false)] O'/\Q (.q (↑(lowI (uOf f) n):Int)) O'):=by kernel_rfl
theorem w0x(f:Nat->List AV)(n:Nat)(Q:AV->oL7->Prop):wpFn te [(136,.det wms)] [] 0 Tryz.f115 [.own 0 n] [.row 124 1 n f false] Q=(letI z2:=war 1 (List.flatten (List.replicate 0 [.int .u32 0]));letI z1:=(∀(i:Nat),i<n->nrefL (f i)=true:Prop);letI z0:=(↑(lowI (uOf f) n):Int);(0<=16777216/\1=1/\0<=9223372036854775807)/\z1/\(124=124/\false=false/\n=n/\n<=1000/\∀(i:Nat),i<n->f i=[.int .u32 (uOf f i)])/\z1/\((0:Int)<=z0/\z0<=(n:Int))/\((z0.toNat<=n/\1=1)/\0<=0/\1=1/\124=124/\1=1/\0+z0.toNat<=9223372036854775807/\(0+z0.toNat) * 4<=140737488355328)/\z1/\(∀(i:Nat),i<0+z0.toNat->nrefL (apF 0 z2 f i)=true)/\∃(O':oL7),wac [(0,.row 124 1 n f false),(1,.row 124 1 (0+z0.toNat) (apF 0 z2 f) false)] O'/\Q (.own 1 (0+z0.toNat)) O'):=by kernel_rfl
theorem w07(v:Int)(Q:AV->oL7->Prop):wpFn te [(115,.det wfh)] [] 0 Tryz.f89 [.int .u64 v] [] Q=(letI z4:=(List.flatten (List.replicate (nat_lit 0) [.int .u32 0]):List AV);letI z3:=(IntKind.wrap IntKind.u32 (v / (2:Int) ^ (32:Int).toNat));letI z2:=(IntKind.wrap IntKind.u32 (bits BinOp.and IntKind.u64 v (4294967295:Int)));letI z1:=(∀(i:Nat),i<2->nrefL (war 1 (.int .u32 z2:: .int .u32 z3::List.append [] z4) i)=true:Prop);letI z0:=(war 1 (.int .u32 z2:: .int .u32 z3::List.append [] z4));True/\True/\((0:Int)<=32/\(32:Int)<=(↑(IntKind.bits IntKind.u64):Int))/\True/\(2<=16777216/\1=1/\2<=9223372036854775807)/\z1/\(124=124/\false=false/\2=2/\2<=1000/\∀(i:Nat),i<2->war 1 (.int .u32 z2:: .int .u32 z3::List.append [] z4) i=[.int .u32 (uOf z0 i)])/\z1/\Q (.view 1 (lowI (uOf z0) 2) (uRow (uOf z0))) []):=by kernel_rfl
theorem wz5(v:Int)(Q:AV->oL7->Prop):wpFn te [(89,.det wfl)] [] 0 Tryz.f54 [.q v] [] Q=(letI z1:=18446744073709551616;letI z0:=(IntKind.wrap IntKind.u64 ((0:Int) - (v+1))+1);wab (decide (v<0)) (inR .i64 (v+1)/\inR .i64 ((0:Int) - (v+1))/\True/\((0:Int)<=z0 % z1/\z0 % z1<z1)/\Q (.view 1 (lmN (z0 % z1)) (uRow (lmF (z0 % z1)))) []) (True/\((0:Int)<=IntKind.wrap IntKind.u64 v/\IntKind.wrap IntKind.u64 v<z1)/\Q (.view 1 (lmN (IntKind.wrap IntKind.u64 v)) (uRow (lmF (IntKind.wrap IntKind.u64 v)))) [])):=by kernel_rfl
theorem w08(v:Int)(Q:AV->oL7->Prop):wpFn te [(54,.det wfd)] [] 0 Tryz.f22 [.q v] [] Q=(((0:Int)<=v/\v<9223372036854775808)/\(True/\True)/\Q (.agg [.bool (decide (v<0)),.view 1 (lmN v) (uRow (lmF v)),.nil]) []):=by kernel_rfl
theorem w0q(n:Nat)(u w:Nat->Int)(k:Nat)(P:Nat->Prop)(Q:eR7):wat ⟨te,[],[],0,26,0⟩ (wav Tryz.f53 4) [0,1,12,13] [] [4] (wml n u w) P Q (wml n u w k)=(letI z0:=((0:Int)<=(k:Int)/\(k:Int)<(n:Int)/\1=1:Prop);wab (decide ((k:Int)<(n:Int))) (z0/\z0/\wab (!decide (u (k:Int).toNat=w (k:Int).toNat)) (Q .ret (St.mk [(4,.bool false)] [] 0 [])) (inR .i64 ((k:Int)+1)/\∃(i':Nat),some (St.mk [(0,.view 1 n (uRow u)),(1,.view 1 n (uRow w)),(12,.q (n:Int)),(13,.q ((k:Int)+1))] [] 0 [])=some (St.mk [(0,.view 1 n (uRow u)),(1,.view 1 n (uRow w)),(12,.q (n:Int)),(13,.q (i':Int))] [] 0 [])/\P i')) (Q (.exit 0) (St.mk [] [] 0 []))):=by kernel_rfl
theorem w0p(P:Nat->Prop)(Q:eR7):wat ⟨te,[],[],0,26,0⟩ (wav Tryz.f53 4) [0,1,12,13] [] [4] wmk P Q (wmk 0)=(Q (.exit 0) (St.mk [] [] 0 [])):=by kernel_rfl
theorem nf_sm1(n m:Nat)(u w:Nat->Int)(Q:AV->oL7->Prop):wpFn te [] [(4,woz n u w)] 0 Tryz.f53 [.view 1 n (uRow u),.view 1 m (uRow w)] [] Q=(wab (!decide ((n:Int)=(m:Int))) (Q (.bool false) []) (some (St.mk [(0,.view 1 n (uRow u)),(1,.view 1 m (uRow w)),(12,.q (n:Int)),(13,.q 0)] [] 0 [])=some (St.mk [(0,.view 1 n (uRow u)),(1,.view 1 n (uRow w)),(12,.q (n:Int)),(13,.q (↑0:Int))] [] 0 [])/\n<=1000/\wab (decide (fstB (λ(i:Nat)=> !decide (u i=w i)) n=n)) (Q (.bool true) []) (Q (.bool false) []))):=by kernel_rfl
theorem nf_sm1n(Q:AV->oL7->Prop):wpFn te [] [(4,woy)] 0 Tryz.f53 [.nil,.nil] [] Q=(some (St.mk [(0,.nil),(1,.nil),(12,.q 0),(13,.q 0)] [] 0 [])=some (St.mk [(0,.nil),(1,.nil),(12,.q 0),(13,.q (↑0:Int))] [] 0 [])/\Q (.bool true) []):=by kernel_rfl
theorem nf_sm2(a b:Bool)(n m:Nat)(u w:Nat->Int)(Q:AV->oL7->Prop):wpFn te [(53,.det wmo)] [] 0 Tryz.f21 [.agg [.bool a,.view 1 n (uRow u),.nil],.agg [.bool b,.view 1 m (uRow w),.nil]] [] Q=(wab (decide (a=b)) ((n<=1000/\m<=1000/\uRow u=uRow (uOf (uRow u))/\uRow w=uRow (uOf (uRow w)))/\wab (wfr n (uOf (uRow u)) m (uOf (uRow w))) (True/\Q (.bool true) []) (Q (.bool false) [])) (Q (.bool false) [])):=by kernel_rfl
theorem nf_beV(a b:VT)(Q:AV->oL7->Prop):wpFn te [] [] 0 Tryz.f85 [.agg [.str a.o,.str a.p,.q a.per,.q a.day,.q a.st,.q a.pr,.str a.rep],.agg [.str b.o,.str b.p,.q b.per,.q b.day,.q b.st,.q b.pr,.str b.rep]] [] Q=(wab (!decide (a.o=b.o)) (Q (.bool (Op.bytesLess a.o b.o)) []) (wab (!decide (a.p=b.p)) (Q (.bool (Op.bytesLess a.p b.p)) []) (Q (.bool (decide (a.per<b.per))) []))):=by kernel_rfl
theorem nf_ends(a:VT)(Q:AV->oL7->Prop):wpFn te [] [] 0 Tryz.f73 [.agg [.str a.o,.str a.p,.q a.per,.q a.day,.q a.st,.q a.pr,.str a.rep]] [] Q=(wab (decide (a.st=4)) (Q (.bool true) []) (Q (.bool (decide (a.st=5))) [])):=by kernel_rfl
theorem w13(g:Nat->VT)(n k:Nat)(P:Nat->Prop)(Q:eR7):wat ⟨te,[(73,.det wn0)],[],0,17,0⟩ (wav Tryz.f46 2) [2,6,7,8] [2] [2,3] (wnf g n) P Q (wnf g n k)=(letI z1:=([(0,.cells [.str [],.str [],.q 0,.q 0,.q 0,.q 0,.str []] 43)]:oL7);letI z0:=(g (k:Int).toNat);wab (decide ((k:Int)<(n:Int))) (((0:Int)<=(k:Int)/\(k:Int)<(n:Int)/\7=7)/\True/\wab (decide (z0.st=4) || decide (z0.st=5)) (Q .ret (St.mk [(2,.ptr 0 0),(3,.bool true)] [(0,.cells [.str z0.o,.str z0.p,.q z0.per,.q z0.day,.q z0.st,.q z0.pr,.str z0.rep] 43)] 1 [])) (inR .i64 ((k:Int)+1)/\∃(i':Nat),some (St.mk [(2,.ptr 0 0),(6,.view 7 n (wam g)),(7,.q (n:Int)),(8,.q ((k:Int)+1))] z1 1 [])=some (St.mk [(2,.ptr 0 0),(6,.view 7 n (wam g)),(7,.q (n:Int)),(8,.q (i':Int))] z1 1 [])/\P i')) (Q (.exit 0) (St.mk [(2,.ptr 0 0)] z1 1 []))):=by kernel_rfl
theorem nf_last(g:Nat->VT)(n:Nat)(Q:AV->oL7->Prop):wpFn te [] [(2,L_la g n)] 0 Tryz.f46 [.view 7 n (wam g)] [] Q=(letI z1:=([.str [],.str [],.q 0,.q 0,.q 0,.q 0,.str []]:List AV);letI z0:=(g (fstB (λ(i:Nat)=>finB (g i)) n));some (St.mk [(2,.ptr 0 0),(6,.view 7 n (wam g)),(7,.q (n:Int)),(8,.q 0)] [(0,.cells z1 43)] 1 [])=some (St.mk [(2,.ptr 0 0),(6,.view 7 n (wam g)),(7,.q (n:Int)),(8,.q (↑0:Int))] [(0,.cells z1 43)] 1 [])/\n<=1000000/\wab (decide (fstB (λ(i:Nat)=>finB (g i)) n<n)) ((True/\True)/\Q (.tuple [.agg [.str z0.o,.str z0.p,.q z0.per,.q z0.day,.q z0.st,.q z0.pr,.str z0.rep],.bool true]) []) ((True/\True)/\Q (.tuple [.agg z1,.bool false]) [])):=by kernel_rfl
theorem w2f(g:Nat->VT)(v:VT)(n k:Nat)(P:Nat->Prop)(Q:eR7):wat ⟨te,[],[],0,17,0⟩ (wav Tryz.f48 2) [3,7,8,9] [] [4] (wep g v n) P Q (wep g v n k)=(letI z1:=([(0,.cells [.str v.o,.str v.p,.q v.per,.q v.day,.q v.st,.q v.pr,.str v.rep] 43)]:oL7);letI z0:=(g (k:Int).toNat);wab (decide ((k:Int)<(n:Int))) (((0:Int)<=(k:Int)/\(k:Int)<(n:Int)/\7=7)/\wab (decide (z0.o=v.o) && (decide (z0.p=v.p) && (decide (z0.per=v.per) && (decide (z0.day=v.day) && (decide (z0.st=v.st) && (decide (z0.pr=v.pr) && decide (z0.rep=v.rep))))))) (Q .ret (St.mk [(4,.bool true)] [] 0 [])) (inR .i64 ((k:Int)+1)/\∃(i':Nat),some (St.mk [(3,.ptr 0 0),(7,.view 7 n (wam g)),(8,.q (n:Int)),(9,.q ((k:Int)+1))] z1 1 [])=some (St.mk [(3,.ptr 0 0),(7,.view 7 n (wam g)),(8,.q (n:Int)),(9,.q (i':Int))] z1 1 [])/\P i')) (Q (.exit 0) (St.mk [] [] 0 []))):=by kernel_rfl
theorem nf_has(g:Nat->VT)(v:VT)(n:Nat)(Q:AV->oL7->Prop):wpFn te [] [(2,L_ha g v n)] 0 Tryz.f48 [.view 7 n (wam g),.agg [.str v.o,.str v.p,.q v.per,.q v.day,.q v.st,.q v.pr,.str v.rep]] [] Q=(letI z0:=([(0,.cells [.str v.o,.str v.p,.q v.per,.q v.day,.q v.st,.q v.pr,.str v.rep] 43)]:oL7);some (St.mk [(3,.ptr 0 0),(7,.view 7 n (wam g)),(8,.q (n:Int)),(9,.q 0)] z0 1 [])=some (St.mk [(3,.ptr 0 0),(7,.view 7 n (wam g)),(8,.q (n:Int)),(9,.q (↑0:Int))] z0 1 [])/\n<=1000000/\wab (decide (fstB (hasQ g v) n<n)) (Q (.bool true) []) (Q (.bool false) [])):=by kernel_rfl
theorem w2m(g:Nat->VT)(v:VT)(n k:Nat)(P:Nat->Prop)(Q:eR7):wat ⟨te,[],[],0,33,0⟩ (wav Tryz.f49 2) [3,7,8,9] [] [4] (wep g v n) P Q (wep g v n k)=(letI z2:=(g (k:Int).toNat);letI z1:=([(0,.cells [.str v.o,.str v.p,.q v.per,.q v.day,.q v.st,.q v.pr,.str v.rep] 43)]:oL7);letI z0:=(inR .i64 ((k:Int)+1)/\∃(i':Nat),some (St.mk [(3,.ptr 0 0),(7,.view 7 n (wam g)),(8,.q (n:Int)),(9,.q ((k:Int)+1))] z1 1 [])=some (St.mk [(3,.ptr 0 0),(7,.view 7 n (wam g)),(8,.q (n:Int)),(9,.q (i':Int))] z1 1 [])/\P i');wab (decide ((k:Int)<(n:Int))) (((0:Int)<=(k:Int)/\(k:Int)<(n:Int)/\7=7)/\wab (decide (z2.o=v.o)) (wab (decide (z2.p=v.p)) (wab (decide (z2.per<v.per)) (Q .ret (St.mk [(4,.bool true)] [] 0 [])) z0) z0) z0) (Q (.exit 0) (St.mk [] [] 0 []))):=by kernel_rfl
theorem w2n(g:Nat->VT)(v:VT)(n:Nat)(Q:AV->oL7->Prop):wpFn te [] [(2,L_en g v n)] 0 Tryz.f49 [.view 7 n (wam g),.agg [.str v.o,.str v.p,.q v.per,.q v.day,.q v.st,.q v.pr,.str v.rep]] [] Q=(letI z0:=([(0,.cells [.str v.o,.str v.p,.q v.per,.q v.day,.q v.st,.q v.pr,.str v.rep] 43)]:oL7);some (St.mk [(3,.ptr 0 0),(7,.view 7 n (wam g)),(8,.q (n:Int)),(9,.q 0)] z0 1 [])=some (St.mk [(3,.ptr 0 0),(7,.view 7 n (wam g)),(8,.q (n:Int)),(9,.q (↑0:Int))] z0 1 [])/\n<=1000000/\wab (decide (fstB (endQ g v) n<n)) (Q (.bool true) []) (Q (.bool false) [])):=by kernel_rfl
theorem w0o(g:Nat->OBS)(n k:Nat)(P:Nat->Prop)(Q:eR7):wat ⟨te,[(21,.det whj)],[],0,68,0⟩ (wav Tryz.f16 4) [0,1,12,13] [] [4] (wmj g n) P Q (wmj g n k)=(letI z2:=Q .ret (St.mk [(4,.bool false)] [] 0 []);letI z1:=(g (k:Int).toNat);letI z3:=uOf (uRow z1.u);letI z0:=((0:Int)<=(k:Int)/\(k:Int)<(n:Int)/\6=6:Prop);wab (decide ((k:Int)<(n:Int))) (z0/\z0/\wab (!decide (z1.o=z1.o)) z2 (z0/\z0/\wab (!decide (z1.p=z1.p)) z2 (z0/\z0/\wab (!decide (z1.per=z1.per)) z2 (z0/\z0/\(z1.n<=1000/\z1.n<=1000/\uRow z1.u=uRow z3/\uRow z1.u=uRow z3)/\wab (!(decide (z1.ng=z1.ng) && wfr z1.n z3 z1.n z3)) z2 (inR .i64 ((k:Int)+1)/\∃(i':Nat),some (St.mk [(0,.view 6 n (wcq g)),(1,.view 6 n (wcq g)),(12,.q (n:Int)),(13,.q ((k:Int)+1))] [] 0 [])=some (St.mk [(0,.view 6 n (wcq g)),(1,.view 6 n (wcq g)),(12,.q (n:Int)),(13,.q (i':Int))] [] 0 [])/\P i'))))) (Q (.exit 0) (St.mk [] [] 0 []))):=by kernel_rfl
theorem nf_so(g:Nat->OBS)(n:Nat)(Q:AV->oL7->Prop):wpFn te [] [(4,L_so g n)] 0 Tryz.f16 [.view 6 n (wcq g),.view 6 n (wcq g)] [] Q=(wab (!decide ((n:Int)=(n:Int))) (Q (.bool false) []) (some (St.mk [(0,.view 6 n (wcq g)),(1,.view 6 n (wcq g)),(12,.q (n:Int)),(13,.q 0)] [] 0 [])=some (St.mk [(0,.view 6 n (wcq g)),(1,.view 6 n (wcq g)),(12,.q (n:Int)),(13,.q (↑0:Int))] [] 0 [])/\n<=1000000/\(∀(i:Nat),i<n->(g i).n<=1000)/\Q (.bool true) [])):=by kernel_rfl
theorem ww6(a b:List UInt8):Op.bytesLess a b=decide (cmpS a b<0):=by
 have:= @wja a b
 cases q:Op.bytesLess a b with
 |true=>rw[decide_eq_true (this.2 q)]
 |false=>rw[decide_eq_false λh=>by rw[this.1 h] at q;cases q]
theorem ciS_dec(a b:Int):decide (a<b)=decide (cmpI a b<0):=by
 have:=wd1 a b
 by_cases h:a<b
 ·rw[decide_eq_true h,decide_eq_true (by omega)]
 ·rw[decide_eq_false h,decide_eq_false (by omega)]
theorem ordS_if(a b:SL):ordS a b=if cmpS a.o b.o=0 then (if cmpS a.p b.p=0 then cmpI a.per b.per else cmpS a.p b.p) else cmpS a.o b.o:=by
 unfold ordS;simp only[orL]
 by_cases h1:cmpS a.o b.o=0
 ·by_cases h2:cmpS a.p b.p=0
  ·by_cases h3:cmpI a.per b.per=0<;>simp[h1,h2,h3]
  ·simp[h1,h2]
 ·simp[h1]
theorem and_lim{v:Int}(h0:0<=v)(h1:v<18446744073709551616):bits .and .u64 v 4294967295=v % 4294967296:=by
 obtain⟨a,rfl⟩:=Int.eq_ofNat_of_zero_le h0;have e1:(BitVec.ofInt 64 (a:Int)).toNat=a:=by
  rw[BitVec.ofInt_natCast,BitVec.toNat_ofNat];exact Nat.mod_eq_of_lt (by omega)
 have e2:(BitVec.ofInt 64 4294967295).toNat=2 ^ 32 - 1:=by decide
 show IntKind.u64.wrap ((BitVec.ofInt 64 (a:Int) &&& BitVec.ofInt 64 4294967295).toNat:Int)=_;rw[BitVec.toNat_and,e1,e2,Nat.and_two_pow_sub_one_eq_mod];show ((a % 4294967296:Nat):Int) % 18446744073709551616=_;omega
theorem wza(hP:C.P=Tryz.prog)(g:Nat->Int)(n:Nat):wah C 1 19 (wai Tryz.f136 2) (wo6 g n):=by
 have _:C.Loose:=inferInstance;rintro st Q ⟨h0,hn,hQ⟩;refine wah.mk (prg hP) [] 0 .nil [0,3] [3] [] (wmr g n) (λk=>k<=n/\lowI g n=lowI g k) (λk=>k) n ⟨lR7 _,rfl⟩ h0 (λk hk=>?_) (λi=>⟨λ_ _=>rfl,trivial⟩);obtain⟨hkn,hz⟩:=hk;have fin:lowI g k=k->(∀i,i<n->true=true)/\∃O',wac [(0,AObj.row 124 1 n (uRow g) false)] O'/\Q (.exit 0) (St.mk [(3,.q k)] O' 1 []):=λh=>by
  rw[hz,h] at hQ;exact⟨λ_ _=>rfl,_,waz _,hQ⟩
 rw[w03];refine wag (λh1=>?_) (λh1=>fin (by rw[show k=0 by omega];rfl));obtain⟨j,rfl⟩:∃j,k=j+1:=⟨k - 1,by omega⟩;have e1:((j+1:Nat):Int) - 1=(j:Int):=by omega
 rw[e1,tN7];refine⟨by simp only[inR];omega,⟨by omega,by omega⟩,⟨by omega,rfl⟩,wag (λh2=>⟨by simp only[inR];omega,j,⟨rfl,waz _⟩,⟨by omega,?_⟩,by omega⟩) (λh2=>fin ?_)⟩
 ·rw[hz,lowI,decide_eq_true h2];rfl
 ·rw[lowI,decide_eq_false h2];rfl
theorem rlow_ok(hP:C.P=Tryz.prog):wad C 136 wms:=by
 rintro args objs U Os vc h hvc;unfold wms at h;split at h<;>cases h;rename_i n t m f fr;obtain⟨rfl,rfl,rfl,hn,hf⟩:=hvc;refine wad.wpL (prg hP) [] [(2,wo6 (uOf f) n)] 0 .nil (hP ▸ Tryz.func136) rfl rfl rfl [(wai Tryz.f136 2,wo6 (uOf f) n)] (by kernel_rfl) ⟨wza hP _ n,trivial⟩ ?_;rw[nf_rlow];have hrow:wac [(0,AObj.row 124 1 n (uRow (uOf f)) false)] [(0,.row 124 1 n f false)]:=⟨⟨rfl,rfl,rfl,rfl,rfl,λi hi=>(hf i hi).symm⟩,trivial⟩;exact⟨⟨rfl,⟨rfl,rfl,rfl,rfl,rfl,hf⟩,trivial⟩,hn,λ_ _=>rfl,_,hrow,rfl,rfl⟩
theorem wy2(hP:C.P=Tryz.prog):wad C 115 wfh:=by
 rintro args objs U Os vc h hvc;unfold wfh at h;split at h<;>cases h;rename_i n t m f fr;obtain⟨rfl,rfl,rfl,hn,hf⟩:=hvc;refine waw.frzO 1 ?_;refine wa8.wpL (prg hP) [(136,.det wms)] [] 0 (.cons (rlow_ok hP) .nil) (hP ▸ Tryz.func115) rfl rfl rfl [] (wcv _) trivial ?_;rw[w0x,tN7,Nat.zero_add];have hle:=wks (uOf f) n;have hnr:∀i,i<n->nrefL (f i)=true:=λi hi=>by rw[hf i hi];rfl
 have hap:∀i,i<lowI (uOf f) n->apF 0 (war 1 (List.flatten (List.replicate 0 [.int .u32 0]))) f i=uRow (uOf f) i:=λi hi=>by
  unfold apF;rw[if_neg (nZ7 i),Nat.sub_zero];exact hf i (by omega)
 refine⟨⟨by omega,rfl,by omega⟩,hnr,⟨rfl,rfl,rfl,hn,hf⟩,hnr,⟨by omega,by omega⟩,⟨⟨hle,rfl⟩,lR7 _,rfl,rfl,rfl,by omega,by omega⟩,hnr,λi hi=>by rw[hap i hi];rfl,[(0,.row 124 1 n f false),(1,.row 124 1 (lowI (uOf f) n) (uRow (uOf f)) false)],⟨rQ7,⟨rfl,rfl,rfl,rfl,rfl,hap⟩,trivial⟩,λ_ _=>rfl,?_⟩;generalize lowI (uOf f) n=c at *;have hb:Nat.ble c c=true:=Nat.ble_eq_true_of_le (lR7 _)
 constructor
 ·simp[frzC,frzA,frz,hb]
 ·rfl
theorem wzc(hP:C.P=Tryz.prog):wad C 89 wfl:=by
 rintro args objs U Os vc h hvc;unfold wfl at h;split at h<;>cases h;rename_i v;obtain⟨h0,h1⟩:=hvc;refine wad.wp0 (prg hP) [(115,.det wfh)] 0 (.cons (wy2 hP) .nil) (hP ▸ Tryz.func89) rfl rfl rfl ?_;rw[w07,and_lim h0 h1];have w1:IntKind.wrap .u32 (v % 4294967296)=v % 4294967296:=by
  show (v % 4294967296) % 4294967296=v % 4294967296;omega
 have w2:IntKind.wrap .u32 (v / (2:Int) ^ Int.toNat (32:Int))=v / 4294967296:=by
  show (v / 4294967296) % 4294967296=v / 4294967296;omega
 rw[w1,w2];have e:uOf (war 1 (.int .u32 (v % 4294967296):: .int .u32 (v / 4294967296)::List.append [] (List.flatten (List.replicate 0 [.int .u32 0]))))=lmF v:=by
  funext i
  match i with
  |0=>rfl
  |1=>rfl
  |i+2=>simp[uOf,war,lmF,weg,wdv]
 have two:∀ {p:Nat->Prop},p 0->p 1->∀i,i<2->p i:=λh0 h1 i hi=>by
  match i,hi with
  |0,_=>exact h0
  |1,_=>exact h1
 refine⟨trivial,trivial,⟨by decide,by decide⟩,trivial,⟨by omega,rfl,by omega⟩,two rfl rfl,⟨rfl,rfl,rfl,by omega,two rfl rfl⟩,two rfl rfl,?_,rfl⟩;show AV.view 1 (lowI (uOf _) 2) (uRow (uOf _))=_;rw[e];rfl
theorem wxt(hP:C.P=Tryz.prog):wad C 54 wfd:=by
 rintro args objs U Os vc h hvc;unfold wfd at h;split at h<;>cases h;rename_i v;obtain⟨h0,h1⟩:=hvc;refine wad.wp0 (prg hP) [(89,.det wfl)] 0 (.cons (wzc hP) .nil) (hP ▸ Tryz.func54) rfl rfl rfl ?_;rw[wz5];have w:IntKind.wrap .u64 v=v:=by
  show v % 18446744073709551616=v;omega
 rw[w];exact wag (λh=>absurd h (by omega)) (λ_=>⟨trivial,⟨h0,by omega⟩,rfl,rfl⟩)
theorem wtw(hP:C.P=Tryz.prog):wad C 22 wea:=by
 rintro args objs U Os vc h hvc;unfold wea at h;split at h<;>cases h;rename_i v;obtain⟨h0,h1⟩:=hvc;refine wad.wp0 (prg hP) [(54,.det wfd)] 0 (.cons (wxt hP) .nil) (hP ▸ Tryz.func22) rfl rfl rfl ?_;rw[w08,decide_eq_false (show ¬ v<0 by omega)];exact⟨⟨h0,h1⟩,⟨trivial,trivial⟩,rfl,rfl⟩
theorem wyl(hP:C.P=Tryz.prog)(n:Nat)(u w:Nat->Int):wah C 0 26 (wai Tryz.f53 4) (woz n u w):=by
 have _:C.Loose:=inferInstance;rintro st Q ⟨h0,hn,hQ⟩;have hR:=wbq hQ;refine wah.mk (prg hP) [] 0 .nil [0,1,12,13] [] [4] (wml n u w) (λk=>k<=n/\fstB (λi=> !decide (u i=w i)) k=k) (λk=>n - k) 0 ⟨zL7 _,rfl⟩ h0 (λk hk=>?_);obtain⟨hkn,hok⟩:=hk;rw[w0q,tN7];refine wag (λh1=>⟨⟨by omega,by omega,rfl⟩,⟨by omega,by omega,rfl⟩,wan (λh2=>hR.2 ?_) (λh2=>⟨by simp only[inR];omega,k+1,rfl,⟨by omega,wdi hok h2⟩,by omega⟩)⟩) (λh1=>hR.1 ?_)
 ·rw[wej hok h2 n (by omega),decide_eq_false];omega
 ·rw[show k=n by omega] at hok;rw[hok,decide_eq_true rfl]
theorem wyk(hP:C.P=Tryz.prog):wah C 0 26 (wai Tryz.f53 4) woy:=by
 have _:C.Loose:=inferInstance;rintro st Q ⟨h0,hQ⟩;refine wah.mk (prg hP) [] 0 .nil [0,1,12,13] [] [4] wmk (λk=>k=0) (λ_=>0) 0 rfl h0 (λk hk=>?_);subst hk;rw[w0p];exact hQ
theorem wyx(hP:C.P=Tryz.prog):wad C 53 wmo:=by
 rintro args objs U Os vc h hvc;unfold wmo at h;split at h<;>simp only[sI7,pI7,reduceCtorEq] at h
 ·rename_i n f m g;obtain⟨rfl,rfl,rfl⟩:=h;obtain⟨hn,hm,hf,hg⟩:=hvc;generalize uOf f=u at *;generalize uOf g=w at *;subst hf;subst hg;refine wad.wpL (prg hP) [] [(4,woz n u w)] 0 .nil (hP ▸ Tryz.func53) rfl rfl rfl [(wai Tryz.f53 4,woz n u w)] (by kernel_rfl) ⟨wyl hP n u w,trivial⟩ ?_;rw[nf_sm1];unfold wfr;refine wax (λh=>?_) (λh=>?_)
  ·rw[decide_eq_false (show ¬ n=m by omega)];exact⟨rfl,rfl⟩
  ·have:n=m:=by omega
   subst this;rw[decide_eq_true rfl,Bool.true_and];refine⟨rfl,hn,wan (λh=>?_) (λh=>?_)⟩
   ·rw[h];exact⟨rfl,rfl⟩
   ·rw[h];exact⟨rfl,rfl⟩
 ·obtain⟨rfl,rfl,rfl⟩:=h;refine wad.wpL (prg hP) [] [(4,woy)] 0 .nil (hP ▸ Tryz.func53) rfl rfl rfl [(wai Tryz.f53 4,woy)] (by kernel_rfl) ⟨wyk hP,trivial⟩ ?_;rw[nf_sm1n];exact⟨rfl,rfl,rfl⟩
theorem wtg(hP:C.P=Tryz.prog):wad C 21 whj:=by
 rintro args objs U Os vc h hvc;unfold whj at h;split at h<;>cases h;rename_i a n f b m g;obtain⟨hn,hm,hf,hg⟩:=hvc;generalize uOf f=u at *;generalize uOf g=w at *;subst hf;subst hg;refine wad.wp0 (prg hP) [(53,.det wmo)] 0 (.cons (wyx hP) .nil) (hP ▸ Tryz.func21) rfl rfl rfl ?_;have hu:∀u:Nat->Int,uOf (uRow u)=u:=λ_=>rfl;rw[nf_sm2,hu,hu];refine wan (λh=>⟨⟨hn,hm,rfl,rfl⟩,wan (λh2=>⟨trivial,?_,rfl⟩) (λh2=>⟨?_,rfl⟩)⟩) (λh=>⟨?_,rfl⟩)
 ·rw[h,h2];rfl
 ·rw[h,h2];rfl
 ·rw[h];rfl
theorem beV_ok(hP:C.P=Tryz.prog):wad C 85 wod:=by
 have _:C.Loose:=inferInstance;rintro args objs U Os vc h hvc;unfold wod at h;split at h<;>simp only[sI7,pI7,reduceCtorEq] at h;rename_i o p per d st pr rep o' p' per' d' st' pr' rep';obtain⟨rfl,rfl,rfl⟩:=h;have hnf:=λQ=>nf_beV ⟨o,p,per,d,st,pr,rep⟩ ⟨o',p',per',d',st',pr',rep'⟩ Q;dsimp only at hnf;refine wad.wp0 (prg hP) [] 0 .nil (hP ▸ Tryz.func85) rfl rfl rfl ?_;rw[hnf,ordS_if];refine wax (λh1=>?_) (λh1=>wax (λh2=>?_) (λh2=>?_))
 ·rw[if_neg (λq=>h1 (wdl.1 q)),ww6];exact⟨rfl,rfl⟩
 ·rw[if_pos (wdl.2 h1),if_neg (λq=>h2 (wdl.1 q)),ww6];exact⟨rfl,rfl⟩
 ·rw[if_pos (wdl.2 h1),if_pos (wdl.2 h2),ciS_dec];exact⟨rfl,rfl⟩
theorem ends_ok(hP:C.P=Tryz.prog):wad C 73 wn0:=by
 have _:C.Loose:=inferInstance;rintro args objs U Os vc h hvc;unfold wn0 at h;split at h<;>cases h;rename_i o p per d st pr rep;have hnf:=λQ=>nf_ends ⟨o,p,per,d,st,pr,rep⟩ Q;dsimp only at hnf;refine wad.wp0 (prg hP) [] 0 .nil (hP ▸ Tryz.func73) rfl rfl rfl ?_;rw[hnf];refine wan (λh1=>?_) (λh1=>?_)
 ·rw[h1];exact⟨rfl,rfl⟩
 ·rw[h1];exact⟨rfl,rfl⟩
theorem w4g(hP:C.P=Tryz.prog)(g:Nat->VT)(n:Nat):wah C 0 17 (wai Tryz.f46 2) (L_la g n):=by
 rintro st Q ⟨h0,hn,hQ⟩;have hR:=wbq hQ;refine wah.mk (prg hP) [(73,.det wn0)] 0 (.cons (ends_ok hP) .nil) [2,6,7,8] [2] [2,3] (wnf g n) (λk=>k<=n/\fstB (λi=>finB (g i)) k=k) (λk=>n - k) 0 ⟨zL7 _,rfl⟩ h0 (λk hk=>?_);obtain⟨hkn,hok⟩:=hk;rw[w13,tN7];refine wag (λh1=>⟨⟨by omega,by omega,rfl⟩,trivial,wan (λh2=>?_) (λh2=>⟨by simp only[inR];omega,k+1,rfl,⟨by omega,wdi hok h2⟩,by omega⟩)⟩) (λh1=>hR.2 ?_)
 ·have e:=wej hok h2 n (by omega);have:=hR.1 (by rw[e,decide_eq_true];omega);rw[e] at this;exact this
 ·rw[show k=n by omega] at hok;rw[hok,decide_eq_false];omega
theorem last_ok(hP:C.P=Tryz.prog):wad C 46 wne:=by
 rintro args objs U Os vc h hvc;unfold wne at h;split at h<;>cases h;rename_i n f;obtain⟨hn,hf⟩:=hvc;generalize vtOf f=g at *;subst hf;refine wad.wpL (prg hP) [] [(2,L_la g n)] 0 .nil (hP ▸ Tryz.func46) rfl rfl rfl [(wai Tryz.f46 2,L_la g n)] (by kernel_rfl) ⟨w4g hP g n,trivial⟩ ?_;rw[nf_last];refine⟨rfl,hn,wan (λh=>⟨⟨trivial,trivial⟩,?_⟩) (λh=>⟨⟨trivial,trivial⟩,?_⟩)⟩
 ·unfold lasX;rw[h];exact⟨rfl,rfl⟩
 ·unfold lasX;rw[h];exact⟨rfl,rfl⟩
theorem w44(hP:C.P=Tryz.prog)(g:Nat->VT)(v:VT)(n:Nat):wah C 0 17 (wai Tryz.f48 2) (L_ha g v n):=by
 have _:C.Loose:=inferInstance;rintro st Q ⟨h0,hn,hQ⟩;have hR:=wbq hQ;refine wah.mk (prg hP) [] 0 .nil [3,7,8,9] [] [4] (wep g v n) (λk=>k<=n/\fstB (hasQ g v) k=k) (λk=>n - k) 0 ⟨zL7 _,rfl⟩ h0 (λk hk=>?_);obtain⟨hkn,hok⟩:=hk;rw[w2f,tN7];refine wag (λh1=>⟨⟨by omega,by omega,rfl⟩,wan (λh2=>hR.1 ?_) (λh2=>⟨by simp only[inR];omega,k+1,rfl,⟨by omega,wdi hok h2⟩,by omega⟩)⟩) (λh1=>hR.2 ?_)
 ·rw[wej hok h2 n (by omega),decide_eq_true];omega
 ·rw[show k=n by omega] at hok;rw[hok,decide_eq_false];omega
theorem has_ok(hP:C.P=Tryz.prog):wad C 48 wnu:=by
 rintro args objs U Os vc h hvc;unfold wnu at h;split at h<;>cases h;rename_i n f o p per d st pr rep;obtain⟨hn,hf⟩:=hvc;generalize vtOf f=g at *;subst hf;have hnf:=λQ=>nf_has g ⟨o,p,per,d,st,pr,rep⟩ n Q;dsimp only at hnf;refine wad.wpL (prg hP) [] [(2,L_ha g ⟨o,p,per,d,st,pr,rep⟩ n)] 0 .nil (hP ▸ Tryz.func48) rfl rfl rfl [(wai Tryz.f48 2,L_ha g ⟨o,p,per,d,st,pr,rep⟩ n)] (by kernel_rfl) ⟨w44 hP g _ n,trivial⟩ ?_;rw[hnf];refine⟨rfl,hn,wan (λh=>?_) (λh=>?_)⟩
 ·rw[h];exact⟨rfl,rfl⟩
 ·rw[h];exact⟨rfl,rfl⟩
theorem w5v(hP:C.P=Tryz.prog)(g:Nat->VT)(v:VT)(n:Nat):wah C 0 33 (wai Tryz.f49 2) (L_en g v n):=by
 have _:C.Loose:=inferInstance;rintro st Q ⟨h0,hn,hQ⟩;have hR:=wbq hQ;refine wah.mk (prg hP) [] 0 .nil [3,7,8,9] [] [4] (wep g v n) (λk=>k<=n/\fstB (endQ g v) k=k) (λk=>n - k) 0 ⟨zL7 _,rfl⟩ h0 (λk hk=>?_);obtain⟨hkn,hok⟩:=hk;have hq:endQ g v k=(decide ((g k).o=v.o) && (decide ((g k).p=v.p) && decide ((g k).per<v.per))):=rfl;have skip:endQ g v k=false->k<n->inR .i64 ((k:Int)+1)/\∃i':Nat,some (St.mk [(3,.ptr 0 0),(7,.view 7 n (wam g)),(8,.q n),(9,.q ((k:Int)+1))] [(0,.cells (vtC v) 43)] 1 [])=some (wep g v n i')/\((i'<=n/\fstB (endQ g v) i'=i')/\n - i'<n - k):=λh2 h1=>⟨by simp only[inR];omega,k+1,rfl,⟨by omega,wdi hok h2⟩,by omega⟩;rw[w2m,tN7];refine wag (λh1=>⟨⟨by omega,by omega,rfl⟩,wan (λh2=>wan (λh3=>wan (λh4=>hR.1 ?_) (λh4=>skip ?_ (by omega))) (λh3=>skip ?_ (by omega))) (λh2=>skip ?_ (by omega))⟩) (λh1=>hR.2 ?_)
 ·rw[wej hok (by rw[hq,h2,h3,h4];rfl) n (by omega),decide_eq_true];omega
 ·rw[hq,h2,h3,h4];rfl
 ·rw[hq,h2,h3];rfl
 ·rw[hq,h2];rfl
 ·rw[show k=n by omega] at hok;rw[hok,decide_eq_false];omega
theorem w5u(hP:C.P=Tryz.prog):wad C 49 wn1:=by
 rintro args objs U Os vc h hvc;unfold wn1 at h;split at h<;>cases h;rename_i n f o p per d st pr rep;obtain⟨hn,hf⟩:=hvc;generalize vtOf f=g at *;subst hf;have hnf:=λQ=>w2n g ⟨o,p,per,d,st,pr,rep⟩ n Q;dsimp only at hnf;refine wad.wpL (prg hP) [] [(2,L_en g ⟨o,p,per,d,st,pr,rep⟩ n)] 0 .nil (hP ▸ Tryz.func49) rfl rfl rfl [(wai Tryz.f49 2,L_en g ⟨o,p,per,d,st,pr,rep⟩ n)] (by kernel_rfl) ⟨w5v hP g _ n,trivial⟩ ?_;rw[hnf];refine⟨rfl,hn,wan (λh=>?_) (λh=>?_)⟩
 ·rw[h];exact⟨rfl,rfl⟩
 ·rw[h];exact⟨rfl,rfl⟩
theorem wyv(n:Nat)(u:Nat->Int):wfr n u n u=true:=by
 unfold wfr;have:∀k,fstB (λi=> !decide (u i=u i)) k=k:=λk=>by
  induction k with
  |zero=>rfl
  |succ k ih=>exact wdi ih (by simp)
 rw[this];simp
theorem so_loop(hP:C.P=Tryz.prog)(g:Nat->OBS)(n:Nat):wah C 0 68 (wai Tryz.f16 4) (L_so g n):=by
 rintro st Q ⟨h0,hn,hl,hQ⟩;refine wah.mk (prg hP) [(21,.det whj)] 0 (.cons (wtg hP) .nil) [0,1,12,13] [] [4] (wmj g n) (λk=>k<=n) (λk=>n - k) 0 (zL7 _) h0 (λk hk=>?_);have hu:∀u:Nat->Int,uOf (uRow u)=u:=λ_=>rfl;rw[w0o,tN7,hu];refine wag (λh1=>?_) (λh1=>hQ);have hb:((0:Int)<=(k:Int)/\(k:Int)<(n:Int)/\6=6):=⟨by omega,by omega,rfl⟩;have hlk:=hl k (by omega);refine⟨hb,hb,wax (λh=>absurd rfl h) (λ_=>⟨hb,hb,wax (λh=>absurd rfl h) (λ_=>⟨hb,hb,wax (λh=>absurd rfl h) (λ_=>⟨hb,hb,⟨hlk,hlk,rfl,rfl⟩,wcb (λh2=>?_) (λh2=>⟨by simp only[inR];omega,k+1,rfl,by omega,by omega⟩)⟩)⟩)⟩)⟩;rw[wyv] at h2;simp at h2
theorem so_ok(hP:C.P=Tryz.prog):wad C 16 wmn:=by
 rintro args objs U Os vc h hvc;unfold wmn at h;split at h<;>cases h;rename_i n f m g;obtain⟨rfl,rfl,hn,hf,hl⟩:=hvc;generalize wik f=g at *;subst hf;refine wad.wpL (prg hP) [] [(4,L_so g n)] 0 .nil (hP ▸ Tryz.func16) rfl rfl rfl [(wai Tryz.f16 4,L_so g n)] (by kernel_rfl) ⟨so_loop hP g n,trivial⟩ ?_;rw[nf_so];exact wax (λh=>absurd rfl h) (λ_=>⟨rfl,hn,hl,rfl,rfl⟩)
end Go.Eng
namespace Go.Eng
def S_ra(g:Nat->MG)(n:Nat)(o p:List UInt8)(per:Int)(C:List MG)(k:Nat):St:=⟨[(0,.view 15 n (waa g)),(1,.str o),(2,.str p),(3,.q per),(8,.ptr 0 0),(10,.view 15 C.length (waa (atM C))),(11,.bool (agF C k)),(32,.view 15 C.length (waa (atM C))),(33,.q C.length),(34,.q k)],
 [(0,.cells [.str [],.str [],.q 0,.q 0,.q 0,.q 0,.str []] 43)],1,[]⟩
def L_ra(g:Nat->MG)(n:Nat)(o p:List UInt8)(per:Int)(C:List MG):wap:=λst Q=>canonIs te 0 [0,1,2,3,8,10,11,32,33,34] st (S_ra g n o p per C 0)/\(0<C.length/\C.length<=1000000)/\
 Q (.exit 0) ⟨[(0,.view 15 n (waa g)),(1,.str o),(2,.str p),(3,.q per),(8,.ptr 0 0),(10,.view 15 C.length (waa (atM C))),(11,.bool (agF C C.length))],
  [(0,.cells [.str [],.str [],.q 0,.q 0,.q 0,.q 0,.str []] 43)],1,[]⟩
structure RbI where
 k:Nat
 x:MG
 y:MG
def S_rb(o p:List UInt8)(per:Int)(C R:List MG)(i:RbI):St:=⟨[(1,.str o),(2,.str p),(3,.q per),(8,.ptr 0 0),(10,.view 15 C.length (waa (atM C))),(16,.ptr 1 0),(17,.ptr 2 0),(72,.view 15 R.length (waa (atM R))),(73,.q R.length),(74,.q i.k)],
 [(0,.cells [.str [],.str [],.q 0,.q 0,.q 0,.q 0,.str []] 43),(1,.cells [.str i.x.dev,.q i.x.seq,.q i.x.kind,.str i.x.v.o,.str i.x.v.p,.q i.x.v.per,.q i.x.v.day,.q i.x.v.st,.q i.x.v.pr,.str i.x.v.rep,.str i.x.d.o,.str i.x.d.p,.q i.x.d.per,.str i.x.d.dev,.q i.x.d.num] 47),(2,.cells [.str i.y.dev,.q i.y.seq,.q i.y.kind,.str i.y.v.o,.str i.y.v.p,.q i.y.v.per,.q i.y.v.day,.q i.y.v.st,.q i.y.v.pr,.str i.y.v.rep,.str i.y.d.o,.str i.y.d.p,.q i.y.d.per,.str i.y.d.dev,.q i.y.d.num] 47)],3,[]⟩
def L_rb(o p:List UInt8)(per:Int)(C R:List MG):wap:=λst Q=>canonIs te 0 [1,2,3,8,10,16,17,72,73,74] st (S_rb o p per C R ⟨0,wc1,wc1⟩)/\R.length<=1000000/\C.length<=1000000/\
 ∀x y:MG,(x,y)=bfF o p per C (atM R) R.length->Q (.exit 2) ⟨[(8,.ptr 0 0),(16,.ptr 1 0),(17,.ptr 2 0)],
 [(0,.cells [.str [],.str [],.q 0,.q 0,.q 0,.q 0,.str []] 43),(1,.cells [.str x.dev,.q x.seq,.q x.kind,.str x.v.o,.str x.v.p,.q x.v.per,.q x.v.day,.q x.v.st,.q x.v.pr,.str x.v.rep,.str x.d.o,.str x.d.p,.q x.d.per,.str x.d.dev,.q x.d.num] 47),(2,.cells [.str y.dev,.q y.seq,.q y.kind,.str y.v.o,.str y.v.p,.q y.v.per,.q y.v.day,.q y.v.st,.q y.v.pr,.str y.v.rep,.str y.d.o,.str y.d.p,.q y.d.per,.str y.d.dev,.q y.d.num] 47)],3,[]⟩
def wji(o p:List UInt8)(per:Int)(C R:List MG)(k:Nat)(m:MG)(i:RbI):St:=⟨[(1,.str o),(2,.str p),(3,.q per),(8,.ptr 0 0),(10,.view 15 C.length (waa (atM C))),(16,.ptr 1 0),(17,.ptr 2 0),(19,.ptr 3 0),(20,.ptr 4 0),(72,.view 15 R.length (waa (atM R))),(73,.q R.length),(74,.q k),(101,.view 15 C.length (waa (atM C))),(102,.q C.length),(103,.q i.k)],
 [(0,.cells [.str [],.str [],.q 0,.q 0,.q 0,.q 0,.str []] 43),(1,.cells [.str i.x.dev,.q i.x.seq,.q i.x.kind,.str i.x.v.o,.str i.x.v.p,.q i.x.v.per,.q i.x.v.day,.q i.x.v.st,.q i.x.v.pr,.str i.x.v.rep,.str i.x.d.o,.str i.x.d.p,.q i.x.d.per,.str i.x.d.dev,.q i.x.d.num] 47),(2,.cells [.str i.y.dev,.q i.y.seq,.q i.y.kind,.str i.y.v.o,.str i.y.v.p,.q i.y.v.per,.q i.y.v.day,.q i.y.v.st,.q i.y.v.pr,.str i.y.v.rep,.str i.y.d.o,.str i.y.d.p,.q i.y.d.per,.str i.y.d.dev,.q i.y.d.num] 47),(3,.cells [.str m.dev,.q m.seq,.q m.kind,.str m.v.o,.str m.v.p,.q m.v.per,.q m.v.day,.q m.v.st,.q m.v.pr,.str m.v.rep,.str m.d.o,.str m.d.p,.q m.d.per,.str m.d.dev,.q m.d.num] 47),(4,.cells [.str m.d.o,.str m.d.p,.q m.d.per,.str m.d.dev,.q m.d.num] 45)],5,[]⟩
def wo7(o p:List UInt8)(per:Int)(C R:List MG)(k:Nat)(m:MG)(x y:MG):wap:=λst Q=>canonIs te 0 [1,2,3,8,10,16,17,19,20,72,73,74,101,102,103] st (wji o p per C R k m ⟨0,x,y⟩)/\C.length<=1000000/\
 ∀x' y':MG,(x',y')=inF C m (x,y) C.length->Q (.exit 4) (S_rb o p per C R ⟨k,x',y'⟩)
def wmv(o p:List UInt8)(per:Int)(C R:List MG)(k:Nat)(m x y z:MG)(i:Nat):St:=⟨[(1,.str o),(2,.str p),(3,.q per),(8,.ptr 0 0),(10,.view 15 C.length (waa (atM C))),(16,.ptr 1 0),(17,.ptr 2 0),(19,.ptr 3 0),(20,.ptr 4 0),(22,.ptr 5 0),(72,.view 15 R.length (waa (atM R))),(73,.q R.length),(74,.q k),(101,.view 15 C.length (waa (atM C))),(102,.q C.length),(103,.q i)],
 [(0,.cells [.str [],.str [],.q 0,.q 0,.q 0,.q 0,.str []] 43),(1,.cells [.str x.dev,.q x.seq,.q x.kind,.str x.v.o,.str x.v.p,.q x.v.per,.q x.v.day,.q x.v.st,.q x.v.pr,.str x.v.rep,.str x.d.o,.str x.d.p,.q x.d.per,.str x.d.dev,.q x.d.num] 47),(2,.cells [.str y.dev,.q y.seq,.q y.kind,.str y.v.o,.str y.v.p,.q y.v.per,.q y.v.day,.q y.v.st,.q y.v.pr,.str y.v.rep,.str y.d.o,.str y.d.p,.q y.d.per,.str y.d.dev,.q y.d.num] 47),(3,.cells [.str m.dev,.q m.seq,.q m.kind,.str m.v.o,.str m.v.p,.q m.v.per,.q m.v.day,.q m.v.st,.q m.v.pr,.str m.v.rep,.str m.d.o,.str m.d.p,.q m.d.per,.str m.d.dev,.q m.d.num] 47),(4,.cells [.str m.d.o,.str m.d.p,.q m.d.per,.str m.d.dev,.q m.d.num] 45),(5,.cells [.str z.dev,.q z.seq,.q z.kind,.str z.v.o,.str z.v.p,.q z.v.per,.q z.v.day,.q z.v.st,.q z.v.pr,.str z.v.rep,.str z.d.o,.str z.d.p,.q z.d.per,.str z.d.dev,.q z.d.num] 47)],6,[]⟩
def wo8(o p:List UInt8)(per:Int)(C R:List MG)(k:Nat)(m x y z:MG)(i:Nat):wap:=λst Q=>canonIs te 0 [1,2,3,8,10,16,17,19,20,22,72,73,74,101,102,103] st (wmv o p per C R k m x y z i)/\Q .normal (wji o p per C R k m ⟨i,m,z⟩)
def S_r23(o p:List UInt8)(per:Int)(C R:List MG)(k:Nat)(m x y z:MG)(i:Nat)(b:Bool):St:=⟨[(1,.str o),(2,.str p),(3,.q per),(8,.ptr 0 0),(10,.view 15 C.length (waa (atM C))),(16,.ptr 1 0),(17,.ptr 2 0),(19,.ptr 3 0),(20,.ptr 4 0),(22,.ptr 5 0),(72,.view 15 R.length (waa (atM R))),(73,.q R.length),(74,.q k),(101,.view 15 C.length (waa (atM C))),(102,.q C.length),(103,.q i),(139,.bool b)],
 [(0,.cells [.str [],.str [],.q 0,.q 0,.q 0,.q 0,.str []] 43),(1,.cells [.str x.dev,.q x.seq,.q x.kind,.str x.v.o,.str x.v.p,.q x.v.per,.q x.v.day,.q x.v.st,.q x.v.pr,.str x.v.rep,.str x.d.o,.str x.d.p,.q x.d.per,.str x.d.dev,.q x.d.num] 47),(2,.cells [.str y.dev,.q y.seq,.q y.kind,.str y.v.o,.str y.v.p,.q y.v.per,.q y.v.day,.q y.v.st,.q y.v.pr,.str y.v.rep,.str y.d.o,.str y.d.p,.q y.d.per,.str y.d.dev,.q y.d.num] 47),(3,.cells [.str m.dev,.q m.seq,.q m.kind,.str m.v.o,.str m.v.p,.q m.v.per,.q m.v.day,.q m.v.st,.q m.v.pr,.str m.v.rep,.str m.d.o,.str m.d.p,.q m.d.per,.str m.d.dev,.q m.d.num] 47),(4,.cells [.str m.d.o,.str m.d.p,.q m.d.per,.str m.d.dev,.q m.d.num] 45),(5,.cells [.str z.dev,.q z.seq,.q z.kind,.str z.v.o,.str z.v.p,.q z.v.per,.q z.v.day,.q z.v.st,.q z.v.pr,.str z.v.rep,.str z.d.o,.str z.d.p,.q z.d.per,.str z.d.dev,.q z.d.num] 47)],6,[]⟩
def wo9(o p:List UInt8)(per:Int)(C R:List MG)(k:Nat)(m x y z:MG)(i:Nat):wap:=λst Q=>canonIs te 0 [1,2,3,8,10,16,17,19,20,22,72,73,74,101,102,103] st (wmv o p per C R k m x y z i)/\Q .normal (S_r23 o p per C R k m x y z i (namF m.d z && betB x m))
end Go.Eng
namespace Go.Eng
open Go.Proofs Go.RowKit
set_option maxRecDepth 20000
theorem w1s(s:List UInt8)(R:oR7):wpFn te [] [(2,wpb s)] 0 Tryz.f131 [.str s] [] R=(letI z0:=(s.length:Int);some (St.mk [(0,.str s),(6,.q z0),(7,.q 0)] [] 0 [])=some (St.mk [(0,.str s),(6,.q z0),(7,.q (↑0:Int))] [] 0 [])/\((∀(k:Nat),k<s.length->OKat s k)->wab (decide ((1:Int)<=z0)) (R (.bool (decide (z0<=24))) []) (R (.bool false) []))/\∀(k:Nat),k<s.length->¬OKat s k->R (.bool false) []):=by kernel_rfl
theorem w1r(s:List UInt8)(k:Nat)(P:Nat->Prop)(R:eR7):wat ⟨te,[],[],0,59,0⟩ (wav Tryz.f131 2) [0,6,7] [0] [2] (wm4 s) P R (wm4 s k)=(letI z6:=R .ret (St.mk [(2,.bool false)] [] 0 []);letI z5:=(s.length:Int);letI z3:=((0:Int)<=(k:Int)/\(k:Int)<z5:Prop);letI z2:=(↑(UInt8.toNat (List.getD s (k:Int).toNat (0:UInt8))):Int);letI z1:=(inR .i64 ((k:Int)+1)/\∃(i':Nat),some (St.mk [(0,.str s),(6,.q z5),(7,.q ((k:Int)+1))] [] 0 [])=some (St.mk [(0,.str s),(6,.q z5),(7,.q (i':Int))] [] 0 [])/\P i');letI z0:=(wab (decide ((k:Int)=0)) z6 (z3/\wab (!decide (z2=45)) (z3/\wab (!decide (z2=46)) z6 z1) z1));letI z4:=(z3/\wab (decide ((48:Int)<=z2)) (z3/\wab (!decide (z2<=57)) z0 z1) z0);wab (decide ((k:Int)<z5)) (z3/\wab (decide ((97:Int)<=z2)) (z3/\wab (decide (z2<=122)) z1 z4) z4) (R (.exit 0) (St.mk [(0,.str s)] [] 0 []))):=by kernel_rfl
theorem nf_cdR(s:List UInt8)(R:oR7):wpFn te [] [(5,wpn s)] 0 Tryz.f57 [.str s] [] R=(letI z2:=R (.tuple [.q 0,.bool false]) [];letI z1:=(s.length:Int);letI z0:=(some (St.mk [(0,.str s),(4,.q 0),(16,.q z1),(17,.q 0)] [] 0 [])=some (St.mk [(0,.str s),(4,.q (wa5 s 0)),(16,.q z1),(17,.q (↑0:Int))] [] 0 [])/\s.length<=12/\wab (List.all s wbc) ((10:Int)≠(0:Int)/\inR .i64 ((10:Int) - Int.tmod (wa5 s s.length) (10:Int))/\(10:Int)≠(0:Int)/\R (.tuple [.q (Int.tmod ((10:Int) - Int.tmod (wa5 s s.length) (10:Int)) (10:Int)),.bool true]) []) z2);wab (!decide (z1=7)) (wab (!decide (z1=12)) z2 z0) z0):=by kernel_rfl
theorem w24(s:List UInt8)(k:Nat)(P:Nat->Prop)(R:eR7):wat ⟨te,[],[],0,50,0⟩ (wav Tryz.f57 5) [0,4,16,17] [4] [2,3] (wn8 s) P R (wn8 s k)=(letI z5:=R .ret (St.mk [(2,.q 0),(3,.bool false)] [] 0 []);letI z1:=(s.length:Int);letI z2:=((0:Int)<=(k:Int)/\(k:Int)<z1:Prop);letI z0:=(↑(UInt8.toNat (List.getD s (k:Int).toNat (0:UInt8))):Int);letI z3:=(z0 - (48:Int));letI z4:=(z3 % (256:Int));wab (decide ((k:Int)<z1)) (z2/\wab (decide (z0<48)) z5 (z2/\wab (decide ((57:Int)<z0)) z5 (inR .i64 (z1 - (k:Int))/\(2:Int)≠(0:Int)/\wab (decide (Int.tmod (z1 - (k:Int)) (2:Int)=1)) (z2/\inR .i64 z4/\inR .i64 ((3:Int) * z4)/\inR .i64 (wa5 s k+3 * z4)/\inR .i64 ((k:Int)+1)/\∃(i':Nat),some (St.mk [(0,.str s),(4,.q (wa5 s k+3 * z4)),(16,.q z1),(17,.q ((k:Int)+1))] [] 0 [])=some (St.mk [(0,.str s),(4,.q (wa5 s i')),(16,.q z1),(17,.q (i':Int))] [] 0 [])/\P i') (z2/\inR .i64 z4/\inR .i64 ((1:Int) * z4)/\inR .i64 (wa5 s k+1 * z4)/\inR .i64 ((k:Int)+1)/\∃(i':Nat),some (St.mk [(0,.str s),(4,.q (wa5 s k+1 * z4)),(16,.q z1),(17,.q ((k:Int)+1))] [] 0 [])=some (St.mk [(0,.str s),(4,.q (wa5 s i')),(16,.q z1),(17,.q (i':Int))] [] 0 [])/\P i')))) (R (.exit 0) (St.mk [(4,.q (wa5 s k))] [] 0 []))):=by kernel_rfl
theorem w0a(s:List UInt8)(R:oR7):wpFn te [(57,.det web)] [] 0 Tryz.f152 [.str s] [] R=(letI z1:=(s.length:Int);letI z3:=(z1 - (1:Int));letI z2:=(cdF (List.take z3.toNat s));letI z0:=(inR .i64 z3/\((0:Int)<=z1 - (1:Int)/\z1 - (1:Int)<=z1)/\True/\wab z2.2 (inR .i64 z3/\((0:Int)<=z1 - (1:Int)/\z1 - (1:Int)<z1)/\inR .i64 ((48:Int)+z2.1)/\inR .u8 ((48:Int)+z2.1)/\R (.bool (decide ((↑(UInt8.toNat (List.getD s z3.toNat (0:UInt8))):Int)=48+z2.1))) []) (R (.bool false) []));wab (!decide (z1=8)) (wab (!decide (z1=13)) (R (.bool false) []) z0) z0):=by kernel_rfl
variable {C:Ctx} [C.Loose]
theorem w3g(hP:C.P=Tryz.prog)(s:List UInt8)(hm:s.length<=9223372036854775807):wah C 0 59 (wai Tryz.f131 2) (wpb s):=by
 have _:C.Loose:=inferInstance;rintro st Q ⟨h0,hQ1,hQ2⟩;refine wah.mk (prg hP) [] 0 .nil [0,6,7] [0] [2] (wm4 s) (λk=>k<=s.length/\∀j,j<k->OKat s j) (λk=>s.length - k) 0 ⟨zL7 _,λj h=>by omega⟩ h0 λk ⟨hk,hall⟩=>?_;rw[w1r];refine wag (λh=>?_) (λh=>?_)
 ·have hlt:k<s.length:=by omega
  have hret:¬ OKat s k->Q .ret ⟨[(2,.bool false)],[],0,[]⟩:=hQ2 k hlt;have hgo:OKat s k->∃i':Nat,some (St.mk [(0,.str s),(6,.q (s.length:Int)),(7,.q ((k:Int)+1))] [] 0 [])=some (St.mk [(0,.str s),(6,.q (s.length:Int)),(7,.q (i':Int))] [] 0 [])/\(i'<=s.length/\∀j,j<i'->OKat s j)/\s.length - i'<s.length - k:=λhok=>
   ⟨k+1,rfl,⟨by omega,λj hj=>by
    rcases Nat.lt_succ_iff_lt_or_eq.1 hj with hj | rfl
    ·exact hall j hj
    ·exact hok⟩,by omega⟩
  unfold OKat at hret hgo;simp only[tN7,inR]
  repeat' (first | (refine wag (λ_=>?_) (λ_=>?_)) | (refine wax (λ_=>?_) (λ_=>?_)) | (refine And.intro (by omega) ?_) | fail)
  all_goals (first | exact hret (by omega) | exact hgo (by omega))
 ·exact hQ1 λj hj=>hall j (by omega)
theorem wqs(hP:C.P=Tryz.prog):wad C 131 wfj:=by
 rintro args objs U Os vc h hvc;unfold wfj at h;split at h<;>cases h;rename_i s;refine wad.wpL (prg hP) [] [(2,wpb s)] 0 .nil (hP ▸ Tryz.func131) rfl rfl rfl [(wai Tryz.f131 2,wpb s)] (by kernel_rfl) ⟨w3g hP s hvc,trivial⟩ ?_;rw[w1s];refine⟨rfl,λhall=>wag (λh1=>⟨congrArg AV.bool ?_,rfl⟩) (λh1=>⟨congrArg AV.bool ?_,rfl⟩),λk hk hno=>⟨congrArg AV.bool ?_,rfl⟩⟩
 ·by_cases h2:s.length<=24
  ·rw[(wkk s).2 ⟨⟨by omega,h2⟩,hall⟩];exact decide_eq_true (by omega)
  ·rw[decide_eq_false (by omega)]
   cases hn:wa3 s with
   |false=>rfl
   |true=>exact absurd ((wkk s).1 hn).1.2 h2
 ·cases hn:wa3 s with
  |false=>rfl
  |true=>exact absurd ((wkk s).1 hn).1.1 (by omega)
 ·cases hn:wa3 s with
  |false=>rfl
  |true=>exact absurd (((wkk s).1 hn).2 k hk) hno
theorem w6l(hP:C.P=Tryz.prog)(s:List UInt8):wah C 0 50 (wai Tryz.f57 5) (wpn s):=by
 have _:C.Loose:=inferInstance;rintro st Q ⟨h0,hlen,hQ⟩;have hQ:=wbq hQ;refine wah.mk (prg hP) [] 0 .nil [0,4,16,17] [4] [2,3] (wn8 s) (λk=>k<=s.length/\∀j,j<k->48<=(s.getD j 0).toNat/\(s.getD j 0).toNat<=57) (λk=>s.length - k) 0 ⟨zL7 _,λj h=>by omega⟩ h0 λk ⟨hk,hall⟩=>?_;rw[w24];have hb:=ww0 k hk hall;refine wag (λh=>?_) (λh=>?_)
 ·have hlt:k<s.length:=by omega
  have hret:¬ (48<=(s.getD k 0).toNat/\(s.getD k 0).toNat<=57)->Q .ret ⟨[(2,.q 0),(3,.bool false)],[],0,[]⟩:=λhno=>hQ.2 (by
   cases ha:s.all wbc with
   |false=>rfl
   |true=>exact absurd (wk3 ha k hlt) hno)
  have e:Int.tmod (↑s.length - ↑k) 2=(↑s.length - ↑k) % 2:=Int.tmod_eq_emod_of_nonneg (by omega);have hs:wa5 s (k+1)=wa5 s k+(1+2 * ((↑s.length - ↑k) % 2)) * (↑(s.getD k 0).toNat - 48):=rfl;have hgo:(48<=(s.getD k 0).toNat/\(s.getD k 0).toNat<=57)->(k+1<=s.length/\∀j,j<k+1->48<=(s.getD j 0).toNat/\(s.getD j 0).toNat<=57)/\s.length - (k+1)<s.length - k:=λhok=>
   ⟨⟨by omega,λj hj=>by
    rcases Nat.lt_succ_iff_lt_or_eq.1 hj with hj | rfl
    ·exact hall j hj
    ·exact hok⟩,by omega⟩
  simp only[tN7,inR,e];refine⟨by omega,wag (λh1=>hret (by omega)) (λh1=>⟨by omega,wag (λh2=>hret (by omega)) (λh2=>⟨by omega,by omega,?_⟩)⟩)⟩;have hgo:=hgo (by omega);have e3:((s.getD k 0).toNat - 48:Int) % 256=(s.getD k 0).toNat - 48:=by omega
  rw[e3];refine wag (λh3=>?_) (λh3=>?_)
  ·rw[h3] at hs;exact⟨by omega,by omega,by omega,by omega,by omega,k+1,by rw[hs];rfl,hgo⟩
  ·have h3:(↑s.length - ↑k:Int) % 2=0:=by omega
   rw[h3] at hs;exact⟨by omega,by omega,by omega,by omega,by omega,k+1,by rw[hs];rfl,hgo⟩
 ·have hks:k=s.length:=by omega
  rw[hks];exact hQ.1 (w7d λj hj=>hall j (by omega))
theorem cdR_ok(hP:C.P=Tryz.prog):wad C 57 web:=by
 rintro args objs U Os vc h hvc;unfold web at h;split at h<;>cases h;rename_i s;refine wad.wpL (prg hP) [] [(5,wpn s)] 0 .nil (hP ▸ Tryz.func57) rfl rfl rfl [(wai Tryz.f57 5,wpn s)] (by kernel_rfl) ⟨w6l hP s,trivial⟩ ?_;rw[nf_cdR]
 have main:(s.length=7∨s.length=12)->wab (s.all wbc) ((10:Int)≠0/\inR .i64 (10 - Int.tmod (wa5 s s.length) 10)/\(10:Int)≠0/\AV.tuple [.q (Int.tmod (10 - Int.tmod (wa5 s s.length) 10) 10),.bool true]= .tuple [.q (cdF s).1,.bool (cdF s).2]/\([]:List (Nat×AObj))=[])
   (AV.tuple [.q 0,.bool false]= .tuple [.q (cdF s).1,.bool (cdF s).2]/\([]:List (Nat×AObj))=[]):=by
  intro hl;have hd:wbf s 7 12=s.all wbc:=by
   unfold wbf
   rcases hl with h | h<;>simp[h]
  refine wan (λha=>?_) (λha=>?_)
  ·have hb:=wl0 ha s.length (lR7 _);have e:Int.tmod (wa5 s s.length) 10=wa5 s s.length % 10:=Int.tmod_eq_emod_of_nonneg (by omega);rw[e,Int.tmod_eq_emod_of_nonneg (by omega)];refine⟨by omega,by simp only[inR];omega,by omega,?_,rfl⟩;simp[cdF,hd,ha]
  ·refine⟨?_,rfl⟩;simp[cdF,hd,ha]
 refine wax (λh1=>wax (λh2=>⟨?_,rfl⟩) (λh2=>⟨rfl,by omega,main (by omega)⟩)) (λh1=>⟨rfl,by omega,main (by omega)⟩);have hd:wbf s 7 12=false:=by unfold wbf;rw[decide_eq_false h1,decide_eq_false h2];rfl
 simp[cdF,hd]
theorem wsq(hP:C.P=Tryz.prog):wad C 152 wct:=by
 rintro args objs U Os vc h hvc;unfold wct at h;split at h<;>cases h;rename_i s;refine wad.wp0 (prg hP) [(57,.det web)] 0 (.cons (cdR_ok hP) .nil) (hP ▸ Tryz.func152) rfl rfl rfl ?_;rw[w0a];have e1:∀h:s.length=8∨s.length=13,(↑s.length - 1:Int).toNat=s.length - 1:=by intro h;omega
 have hcd:=w6m (s.take (s.length - 1));have last:(s.length=8∨s.length=13)->(s.all wbc=((cdF (s.take (s.length - 1))).2 && wbc (s.getD (s.length - 1) 0))):=by
  intro hl;have h2:(cdF (s.take (s.length - 1))).2=(s.take (s.length - 1)).all wbc:=by
   have hd:wbf (s.take (s.length - 1)) 7 12=(s.take (s.length - 1)).all wbc:=by
    unfold wbf;have:(s.take (s.length - 1)).length=s.length - 1:=by simp
    rcases hl with h | h<;>simp[h]
   unfold cdF;rw[hd]
   cases (s.take (s.length - 1)).all wbc<;>rfl
  have hs:s=s.take (s.length - 1)++[s.getD (s.length - 1) 0]:=by
   have hlt:s.length - 1<s.length:=by omega
   have:=(List.take_append_drop (s.length - 1) s).symm;rw[List.drop_eq_getElem_cons hlt] at this;have e:s.getD (s.length - 1) 0=s[s.length - 1]:=by simp[List.getD,hlt]
   rw[e];have hd:List.drop (s.length - 1+1) s=[]:=List.drop_eq_nil_of_le (by omega);rw[hd] at this;exact this
  rw[h2]
  conv=>lhs;rw[hs]
  simp
 have hv:(s.length=8∨s.length=13)->wba s=((cdF (s.take (s.length - 1))).2 && decide ((s.getD (s.length - 1) 0).toNat=48+(cdF (s.take (s.length - 1))).1)):=by
  intro hl;have hd:wbf s 8 13=s.all wbc:=by
   unfold wbf
   rcases hl with h | h<;>simp[h]
  unfold wba;rw[hd,last hl]
  cases hc:(cdF (s.take (s.length - 1))).2 with
  |false=>rfl
  |true=>
   simp only[Bool.true_and]
   cases hi:wbc (s.getD (s.length - 1) 0) with
   |true=>
    refine decide_eq_decide.2 ?_;omega
   |false=>
    refine(decide_eq_false λhe=>?_).symm;simp only[wbc,Bool.and_eq_false_imp,decide_eq_true_eq,decide_eq_false_iff_not] at hi;omega
 have main:(s.length=8∨s.length=13)->wab (cdF (s.take (s.length - 1))).2 (inR .i64 (↑s.length - 1)/\(0<=(↑s.length - 1:Int)/\(↑s.length - 1:Int)<↑s.length)/\inR .i64 (48+(cdF (s.take (s.length - 1))).1)/\inR .u8 (48+(cdF (s.take (s.length - 1))).1)/\
   AV.bool (decide ((↑(s.getD (s.length - 1) 0).toNat:Int)=48+(cdF (s.take (s.length - 1))).1))= .bool (wba s)/\([]:List (Nat×AObj))=[]) (AV.bool false= .bool (wba s)/\([]:List (Nat×AObj))=[]):=by
  intro hl;rw[hv hl];refine wan (λhc=>?_) (λhc=>?_)
  ·simp only[inR,hc,Bool.true_and];exact⟨by omega,by omega,by omega,by omega,by simp⟩
  ·simp[hc]
 refine wax (λh1=>wax (λh2=>⟨?_,rfl⟩) (λh2=>?_)) (λh1=>?_)
 ·have hd:wbf s 8 13=false:=by unfold wbf;rw[decide_eq_false h1,decide_eq_false h2];rfl
  simp[wba,hd]
 ·have hl:s.length=8∨s.length=13:=by omega
  rw[e1 hl];exact⟨by simp only[inR];omega,by omega,trivial,main hl⟩
 ·have hl:s.length=8∨s.length=13:=by omega
  rw[e1 hl];exact⟨by simp only[inR];omega,by omega,trivial,main hl⟩
end Go.Eng
