/- The tied card of VintageParts: its statement is 'VintagePartsCardSaid' of the given cards. -/
import Derived.Test.YtgcboligphndhaaGreatDoorWqp
import Derived.Test.YtgcboligphndhaaGreatDoorWqh
import Derived.Test.YtgcboligphndhaaGreatDoorCards
import Derived.Test.YtgcboligphndhaaGreatDoorTie
import Derived.SevenTiedAt
namespace Go.Eng
open Go.Proofs Go.RowKit
variable {C:Ctx} [C.Loose]
set_option maxRecDepth 20000
theorem nf_pm(F:Nat->FL)(n:Nat)(R:oR7):wpFn te [] [(3,wga F n),(1007,wf9)] 0 Tryz.f51 [.view 7 n (waf F)] [] R=((TEq [(3,.own 0 0),(6,.view 7 n (waf F)),(7,.q (n:Int)),(8,.q 0)] [(3,.own 0 0),(6,.view 7 n (waf F)),(7,.q (n:Int)),(8,.q (↑0:Int))]/\wai [(0,.row 40 15 0 (λ(_x:Nat)=>[]) false)] [(0,.row 40 15 0 (wad (atM (ctnM F 0))) false)])/\n<=50/\(∀(i:Nat),i<n->(F i).ms.length<=1000)/\∃(L:List MG),(TEq [(3,.own 0 (ctnM F n).length)] [(3,.own 0 L.length)]/\wai [(0,.row 40 15 (ctnM F n).length (wad (atM (ctnM F n))) false)] [(0,.row 40 15 L.length (wad (atM L)) false)])/\L.length<=100000/\(∀(m:MG),m∈L->MG.Sm m)/\R (.view 15 (mrgF L).length (wad (atM (mrgF L)))) []):=by kernel_rfl
theorem w3t(F:Nat->FL)(n k:Nat)(P:Nat->Prop)(R:eR7):wa1 ⟨te,[],[],0,19,0⟩ (wa2 Tryz.f51 3) [3,6,7,8] [3] [] (wg0 F n) P R (wg0 F n k)=(letI z2:=(ctnM F k).length;letI z1:=(F (k:Int).toNat).ms;letI z0:=((ctnM F k).length+z1.length);wab (decide ((k:Int)<(n:Int))) (((0:Int)<=(k:Int)/\(k:Int)<(n:Int)/\7=7)/\(15=15/\(ctnM F k).length<=(ctnM F k).length/\15=15/\40=40/\15=15/\(ctnM F k).length+z1.length<=9223372036854775807/\z0 * 176<=140737488355328)/\inR .i64 ((k:Int)+1)/\∃(i':Nat),(TEq [(3,.own 0 z0),(6,.view 7 n (waf F)),(7,.q (n:Int)),(8,.q ((k:Int)+1))] [(3,.own 0 (ctnM F i').length),(6,.view 7 n (waf F)),(7,.q (n:Int)),(8,.q (i':Int))]/\wai [(0,.row 40 15 z0 (apF z2 (wad (atM (ctnM F k))) (wad (atM z1))) false)] [(0,.row 40 15 (ctnM F i').length (wad (atM (ctnM F i'))) false)])/\P i') ((∀(i:Nat),i<(ctnM F k).length->true=true)/\∃(O':oL7),wai [(0,.row 40 15 z2 (wad (atM (ctnM F k))) false)] O'/\R (.exit 0) (St.mk [(3,.own 0 z2)] O' 1 []))):=by kernel_rfl
theorem nf_pm7(L:List MG)(Q:eR7):regP ⟨te,[(61,.det wf4)],[],0,19,0⟩ (regC Tryz.f51 7) [2] Q (wh3 L 0)=(letI z0:=mrgL (mgOf (wad (atM L))) L.length noM 0;(L.length<=100000/\wad (atM L)=wad (mgOf (wad (atM L)))/\∀(i:Nat),i<L.length->MG.Sm (mgOf (wad (atM L)) i))/\Q .normal (St.mk [(2,.view 15 z0.length (wad (atM z0)))] [] 0 [])):=by kernel_rfl
theorem nf_qm(F:Nat->FL)(n:Nat)(R:oR7):wpFn te [] [(3,wga F n),(1007,wf9)] 0 Tryz.f52 [.view 7 n (waf F)] [] R=((TEq [(3,.own 0 0),(6,.view 7 n (waf F)),(7,.q (n:Int)),(8,.q 0)] [(3,.own 0 0),(6,.view 7 n (waf F)),(7,.q (n:Int)),(8,.q (↑0:Int))]/\wai [(0,.row 40 15 0 (λ(_x:Nat)=>[]) false)] [(0,.row 40 15 0 (wad (atM (ctnM F 0))) false)])/\n<=50/\(∀(i:Nat),i<n->(F i).ms.length<=1000)/\∃(L:List MG),(TEq [(3,.own 0 (ctnM F n).length)] [(3,.own 0 L.length)]/\wai [(0,.row 40 15 (ctnM F n).length (wad (atM (ctnM F n))) false)] [(0,.row 40 15 L.length (wad (atM L)) false)])/\L.length<=100000/\(∀(m:MG),m∈L->MG.Sm m)/\R (.view 15 (mrgF L).length (wad (atM (mrgF L)))) []):=by kernel_rfl
theorem w3l(F:Nat->FL)(n k:Nat)(P:Nat->Prop)(R:eR7):wa1 ⟨te,[],[],0,19,0⟩ (wa2 Tryz.f52 3) [3,6,7,8] [3] [] (wg0 F n) P R (wg0 F n k)=(letI z2:=(ctnM F k).length;letI z1:=(F (k:Int).toNat).ms;letI z0:=((ctnM F k).length+z1.length);wab (decide ((k:Int)<(n:Int))) (((0:Int)<=(k:Int)/\(k:Int)<(n:Int)/\7=7)/\(15=15/\(ctnM F k).length<=(ctnM F k).length/\15=15/\40=40/\15=15/\(ctnM F k).length+z1.length<=9223372036854775807/\z0 * 176<=140737488355328)/\inR .i64 ((k:Int)+1)/\∃(i':Nat),(TEq [(3,.own 0 z0),(6,.view 7 n (waf F)),(7,.q (n:Int)),(8,.q ((k:Int)+1))] [(3,.own 0 (ctnM F i').length),(6,.view 7 n (waf F)),(7,.q (n:Int)),(8,.q (i':Int))]/\wai [(0,.row 40 15 z0 (apF z2 (wad (atM (ctnM F k))) (wad (atM z1))) false)] [(0,.row 40 15 (ctnM F i').length (wad (atM (ctnM F i'))) false)])/\P i') ((∀(i:Nat),i<(ctnM F k).length->true=true)/\∃(O':oL7),wai [(0,.row 40 15 z2 (wad (atM (ctnM F k))) false)] O'/\R (.exit 0) (St.mk [(3,.own 0 z2)] O' 1 []))):=by kernel_rfl
theorem nf_qm7(L:List MG)(Q:eR7):regP ⟨te,[(64,.det wf4)],[],0,19,0⟩ (regC Tryz.f52 7) [2] Q (wh3 L 0)=(letI z0:=mrgL (mgOf (wad (atM L))) L.length noM 0;(L.length<=100000/\wad (atM L)=wad (mgOf (wad (atM L)))/\∀(i:Nat),i<L.length->MG.Sm (mgOf (wad (atM L)) i))/\Q .normal (St.mk [(2,.view 15 z0.length (wad (atM z0)))] [] 0 [])):=by kernel_rfl
theorem nf_pr(F:Nat->FL)(n:Nat)(R:oR7):wpFn te [(106,.det wf6)] [(3,wpu F n)] 0 Tryz.f54 [.view 7 n (waf F)] [] R=(letI z0:=wae (atR (ctnR F n));letI z2:=wcl (rwOf z0) (ctnR F n).length;(TEq [(3,.own 0 0),(8,.view 7 n (waf F)),(9,.q (n:Int)),(10,.q 0)] [(3,.own 0 0),(8,.view 7 n (waf F)),(9,.q (n:Int)),(10,.q (↑0:Int))]/\wai [(0,.row 61 5 0 (λ(_x:Nat)=>[]) false)] [(0,.row 61 5 0 (wae (atR (ctnR F 0))) false)])/\n<=50/\(∀(i:Nat),i<n->(F i).rs.length<=1000/\∀(r:RW),r∈(F i).rs->r.o.length<4294967281)/\(∀(i:Nat),i<(ctnR F n).length->true=true)/\((ctnR F n).length=(ctnR F n).length/\(ctnR F n).length<=1000000/\(∀(i:Nat),letI z1:=atR (ctnR F n) i;i<(ctnR F n).length->[AV.str z1.o,.str z1.p,.q z1.per,.q z1.u,.q z1.tv]=[.str (rwOf z0 i).o,.str (rwOf z0 i).p,.q (rwOf z0 i).per,.q (rwOf z0 i).u,.q (rwOf z0 i).tv])/\∀(i:Nat),i<(ctnR F n).length->(rwOf z0 i).o.length<4294967281)/\R (.view 5 z2.length (wae (atR z2))) []):=by kernel_rfl
theorem w3s(F:Nat->FL)(n k:Nat)(P:Nat->Prop)(R:eR7):wa1 ⟨te,[],[(6,wpt)],0,37,0⟩ (wa2 Tryz.f54 3) [3,8,9,10] [3] [] (wnb F n) P R (wnb F n k)=(letI z4:=(ctnR F k).length;letI z2:=(F (k:Int).toNat).rs;letI z1:=([(0,.row 61 5 z4 (wae (atR (ctnR F k))) false)]:oL7);wab (decide ((k:Int)<(n:Int))) (((0:Int)<=(k:Int)/\(k:Int)<(n:Int)/\7=7)/\∃(F_1:Nat->FL),∃(n_1:Nat),∃(k_1:Nat),letI z0:=(F_1 k_1).rs;∃(X:List RW),letI z3:=X++flR z0 z0.length;(TEq [(3,.own 0 z4),(8,.view 7 n (waf F)),(9,.q (n:Int)),(10,.q (k:Int)),(15,.view 5 z2.length (wae (atR z2))),(16,.q (z2.length:Int)),(17,.q 0)] [(3,.own 0 (X++flR z0 0).length),(8,.view 7 n_1 (waf F_1)),(9,.q (n_1:Int)),(10,.q (k_1:Int)),(15,.view 5 z0.length (wae (atR z0))),(16,.q (z0.length:Int)),(17,.q (↑0:Int))]/\wai z1 [(0,.row 61 5 (X++flR z0 0).length (wae (atR (X++flR z0 0))) false)])/\X.length<=100000/\z0.length<=1000/\(∀(r:RW),r∈(F_1 k_1).rs->r.o.length<4294967281)/\inR .i64 ((k_1:Int)+1)/\∃(i':Nat),(TEq [(3,.own 0 z3.length),(8,.view 7 n_1 (waf F_1)),(9,.q (n_1:Int)),(10,.q ((k_1:Int)+1))] [(3,.own 0 (ctnR F i').length),(8,.view 7 n (waf F)),(9,.q (n:Int)),(10,.q (i':Int))]/\wai [(0,.row 61 5 z3.length (wae (atR z3)) false)] [(0,.row 61 5 (ctnR F i').length (wae (atR (ctnR F i'))) false)])/\P i') ((∀(i:Nat),i<(ctnR F k).length->true=true)/\∃(O':oL7),wai z1 O'/\R (.exit 0) (St.mk [(3,.own 0 z4)] O' 1 []))):=by kernel_rfl
theorem w3r(F:Nat->FL)(n k:Nat)(X:List RW)(j:Nat)(P:Nat->Prop)(R:eR7):wa1 ⟨te,[(105,.det whx)],[],0,37,0⟩ (wa2 Tryz.f54 6) [3,8,9,10,15,16,17] [3,8,9,10] [] (wna F n k X) P R (wna F n k X j)=(letI z5:=(5<=16777216/\5=5/\1<=9223372036854775807:Prop);letI z4:=wae (atR (F k).rs);letI z3:=(F k).rs.length;letI z2:=X++flR (F k).rs j;letI z7:=z2.length;letI z6:=([(0,.row 61 5 z7 (wae (atR z2)) false)]:oL7);letI z1:=(atR (F k).rs (j:Int).toNat);letI z0:=(wap 5 (.str z1.o:: .str z1.p:: .q z1.per:: .q z1.u:: .q z1.tv::List.append [] wc1));wab (decide ((j:Int)<(z3:Int))) (((0:Int)<=(j:Int)/\(j:Int)<(z3:Int)/\5=5)/\z5/\(∀(i:Nat),i<1->nrefL (wap 5 (.str z1.o:: .str z1.p:: .q z1.per:: .q z1.u:: .q z1.tv::List.append [] wc1) i)=true)/\(1=1/\1<=1000000/\(∀(i:Nat),i<1->wap 5 (.str z1.o:: .str z1.p:: .q z1.per:: .q z1.u:: .q z1.tv::List.append [] wc1) i=[.str (rwOf z0 i).o,.str (rwOf z0 i).p,.q (rwOf z0 i).per,.q (rwOf z0 i).u,.q (rwOf z0 i).tv])/\∀(i:Nat),i<1->(rwOf z0 i).o.length<4294967281)/\wab (decide (svF (rwOf z0) 1=0)) (z5/\((1<=1/\5=5)/\z2.length<=z2.length/\5=5/\61=61/\5=5/\z2.length+1<=9223372036854775807/\(z2.length+1) * 56<=140737488355328)/\inR .i64 ((j:Int)+1)/\∃(i':Nat),(TEq [(3,.own 0 (z2.length+1)),(8,.view 7 n (waf F)),(9,.q (n:Int)),(10,.q (k:Int)),(15,.view 5 z3 z4),(16,.q (z3:Int)),(17,.q ((j:Int)+1))] [(3,.own 0 (X++flR (F k).rs i').length),(8,.view 7 n (waf F)),(9,.q (n:Int)),(10,.q (k:Int)),(15,.view 5 z3 z4),(16,.q (z3:Int)),(17,.q (i':Int))]/\wai [(0,.row 61 5 (z2.length+1) (apF z7 (wae (atR z2)) z0) false)] [(0,.row 61 5 (X++flR (F k).rs i').length (wae (atR (X++flR (F k).rs i'))) false)])/\P i') (inR .i64 ((j:Int)+1)/\∃(i':Nat),(TEq [(3,.own 0 z7),(8,.view 7 n (waf F)),(9,.q (n:Int)),(10,.q (k:Int)),(15,.view 5 z3 z4),(16,.q (z3:Int)),(17,.q ((j:Int)+1))] [(3,.own 0 (X++flR (F k).rs i').length),(8,.view 7 n (waf F)),(9,.q (n:Int)),(10,.q (k:Int)),(15,.view 5 z3 z4),(16,.q (z3:Int)),(17,.q (i':Int))]/\wai z6 [(0,.row 61 5 (X++flR (F k).rs i').length (wae (atR (X++flR (F k).rs i'))) false)])/\P i')) ((∀(i:Nat),i<z2.length->true=true)/\∃(O':oL7),wai z6 O'/\R (.exit 2) (St.mk [(3,.own 0 z7),(8,.view 7 n (waf F)),(9,.q (n:Int)),(10,.q (k:Int))] O' 1 []))):=by kernel_rfl
theorem nf_qr(F:Nat->FL)(n:Nat)(R:oR7):wpFn te [(107,.det wf6)] [(3,wps F n)] 0 Tryz.f55 [.view 7 n (waf F)] [] R=(letI z0:=wae (atR (ctnR F n));letI z2:=wcl (rwOf z0) (ctnR F n).length;(TEq [(3,.own 0 0),(10,.view 7 n (waf F)),(11,.q (n:Int)),(12,.q 0)] [(3,.own 0 0),(10,.view 7 n (waf F)),(11,.q (n:Int)),(12,.q (↑0:Int))]/\wai [(0,.row 61 5 0 (λ(_x:Nat)=>[]) false)] [(0,.row 61 5 0 (wae (atR (ctnR F 0))) false)])/\n<=50/\(∀(i:Nat),i<n->(F i).rs.length<=1000/\∀(r:RW),r∈(F i).rs->r.o.length<4294967281)/\(∀(i:Nat),i<(ctnR F n).length->true=true)/\((ctnR F n).length=(ctnR F n).length/\(ctnR F n).length<=1000000/\(∀(i:Nat),letI z1:=atR (ctnR F n) i;i<(ctnR F n).length->[AV.str z1.o,.str z1.p,.q z1.per,.q z1.u,.q z1.tv]=[.str (rwOf z0 i).o,.str (rwOf z0 i).p,.q (rwOf z0 i).per,.q (rwOf z0 i).u,.q (rwOf z0 i).tv])/\∀(i:Nat),i<(ctnR F n).length->(rwOf z0 i).o.length<4294967281)/\R (.view 5 z2.length (wae (atR z2))) []):=by kernel_rfl
theorem w3k(F:Nat->FL)(n k:Nat)(P:Nat->Prop)(R:eR7):wa1 ⟨te,[],[(6,wpr)],0,37,0⟩ (wa2 Tryz.f55 3) [3,10,11,12] [3] [] (wm9 F n) P R (wm9 F n k)=(letI z4:=(ctnR F k).length;letI z2:=(F (k:Int).toNat).rs;letI z1:=([(0,.row 61 5 z4 (wae (atR (ctnR F k))) false)]:oL7);wab (decide ((k:Int)<(n:Int))) (((0:Int)<=(k:Int)/\(k:Int)<(n:Int)/\7=7)/\∃(F_1:Nat->FL),∃(n_1:Nat),∃(k_1:Nat),letI z0:=(F_1 k_1).rs;∃(X:List RW),letI z3:=X++flR z0 z0.length;(TEq [(3,.own 0 z4),(10,.view 7 n (waf F)),(11,.q (n:Int)),(12,.q (k:Int)),(17,.view 5 z2.length (wae (atR z2))),(18,.q (z2.length:Int)),(19,.q 0)] [(3,.own 0 (X++flR z0 0).length),(10,.view 7 n_1 (waf F_1)),(11,.q (n_1:Int)),(12,.q (k_1:Int)),(17,.view 5 z0.length (wae (atR z0))),(18,.q (z0.length:Int)),(19,.q (↑0:Int))]/\wai z1 [(0,.row 61 5 (X++flR z0 0).length (wae (atR (X++flR z0 0))) false)])/\X.length<=100000/\z0.length<=1000/\(∀(r:RW),r∈(F_1 k_1).rs->r.o.length<4294967281)/\inR .i64 ((k_1:Int)+1)/\∃(i':Nat),(TEq [(3,.own 0 z3.length),(10,.view 7 n_1 (waf F_1)),(11,.q (n_1:Int)),(12,.q ((k_1:Int)+1))] [(3,.own 0 (ctnR F i').length),(10,.view 7 n (waf F)),(11,.q (n:Int)),(12,.q (i':Int))]/\wai [(0,.row 61 5 z3.length (wae (atR z3)) false)] [(0,.row 61 5 (ctnR F i').length (wae (atR (ctnR F i'))) false)])/\P i') ((∀(i:Nat),i<(ctnR F k).length->true=true)/\∃(O':oL7),wai z1 O'/\R (.exit 0) (St.mk [(3,.own 0 z4)] O' 1 []))):=by kernel_rfl
theorem w3j(F:Nat->FL)(n k:Nat)(X:List RW)(j:Nat)(P:Nat->Prop)(R:eR7):wa1 ⟨te,[(77,.det wc4)],[],0,37,0⟩ (wa2 Tryz.f55 6) [3,10,11,12,17,18,19] [3,10,11,12] [] (wm8 F n k X) P R (wm8 F n k X j)=(letI z3:=wae (atR (F k).rs);letI z2:=(F k).rs.length;letI z1:=X++flR (F k).rs j;letI z5:=z1.length;letI z4:=([(0,.row 61 5 z5 (wae (atR z1)) false)]:oL7);letI z0:=(atR (F k).rs (j:Int).toNat);wab (decide ((j:Int)<(z2:Int))) (((0:Int)<=(j:Int)/\(j:Int)<(z2:Int)/\5=5)/\z0.o.length<4294967281/\wab (rowF (RW.mk z0.o z0.p z0.per z0.u z0.tv)) ((5<=16777216/\5=5/\1<=9223372036854775807)/\((1<=1/\5=5)/\z1.length<=z1.length/\5=5/\61=61/\5=5/\z1.length+1<=9223372036854775807/\(z1.length+1) * 56<=140737488355328)/\inR .i64 ((j:Int)+1)/\∃(i':Nat),(TEq [(3,.own 0 (z1.length+1)),(10,.view 7 n (waf F)),(11,.q (n:Int)),(12,.q (k:Int)),(17,.view 5 z2 z3),(18,.q (z2:Int)),(19,.q ((j:Int)+1))] [(3,.own 0 (X++flR (F k).rs i').length),(10,.view 7 n (waf F)),(11,.q (n:Int)),(12,.q (k:Int)),(17,.view 5 z2 z3),(18,.q (z2:Int)),(19,.q (i':Int))]/\wai [(0,.row 61 5 (z1.length+1) (apF z5 (wae (atR z1)) (wap 5 (.str z0.o:: .str z0.p:: .q z0.per:: .q z0.u:: .q z0.tv::List.append [] wc1))) false)] [(0,.row 61 5 (X++flR (F k).rs i').length (wae (atR (X++flR (F k).rs i'))) false)])/\P i') (inR .i64 ((j:Int)+1)/\∃(i':Nat),(TEq [(3,.own 0 z5),(10,.view 7 n (waf F)),(11,.q (n:Int)),(12,.q (k:Int)),(17,.view 5 z2 z3),(18,.q (z2:Int)),(19,.q ((j:Int)+1))] [(3,.own 0 (X++flR (F k).rs i').length),(10,.view 7 n (waf F)),(11,.q (n:Int)),(12,.q (k:Int)),(17,.view 5 z2 z3),(18,.q (z2:Int)),(19,.q (i':Int))]/\wai z4 [(0,.row 61 5 (X++flR (F k).rs i').length (wae (atR (X++flR (F k).rs i'))) false)])/\P i')) ((∀(i:Nat),i<z1.length->true=true)/\∃(O':oL7),wai z4 O'/\R (.exit 2) (St.mk [(3,.own 0 z5),(10,.view 7 n (waf F)),(11,.q (n:Int)),(12,.q (k:Int))] O' 1 []))):=by kernel_rfl
theorem wq9(g:Nat->RW):rwOf (wae g)=g:=by
 funext i;rfl
theorem wrx(g:Nat->MG):mgOf (wad g)=g:=by
 funext i;rfl
theorem wso{α:Type}(A B:List α)(d:α)(i:Nat):(A++B).getD i d=if i<A.length then A.getD i d else B.getD (i - A.length) d:=by
 rw[List.getD_eq_getElem?_getD,List.getElem?_append];split<;>rw[List.getD_eq_getElem?_getD]
theorem mg_app(A B:List MG)(i:Nat):apF A.length (wad (atM A)) (wad (atM B)) i=wad (atM (A++B)) i:=by
 unfold apF wad;rw[show atM (A++B) i=(A++B).getD i default from rfl,wso];split<;>rfl
theorem rw_app(A:List RW)(r:RW)(c:Nat->List AV)(hc:c 0=wae (λ_=>r) 0)(i:Nat)(hi:i<A.length+1):apF A.length (wae (atR A)) c i=wae (atR (A++[r])) i:=by
 unfold apF
 by_cases h:i<A.length
 .rw[if_pos h];unfold wae;rw[show atR (A++[r]) i=atR A i from(wso A [r] default i).trans (if_pos h)]
 .obtain rfl:i=A.length:=by omega
  rw[if_neg h,Nat.sub_self,hc];unfold wae;rw[show atR (A++[r]) A.length=r from(wso A [r] default A.length).trans ((if_neg h).trans (by rw[Nat.sub_self];rfl))]
theorem whq{F:Nat->FL}{n:Nat}(h:∀i,i<n->(F i).ms.length<=1000):∀k,k<=n->(ctnM F k).length<=1000 * k
 |0,_=>lR7 _
 |k+1,hk=>by
  have a:=whq h k (by omega);have b:=h k (by omega);show (ctnM F k++(F k).ms).length<=_;rw[lA7];omega
theorem ws5{F:Nat->FL}{m:MG}:∀ {k},m∈ctnM F k->∃i,i<k/\m∈(F i).ms
 |0,h=>by cases h
 |k+1,h=>by
  rcases List.mem_append.1 h with h | h
  .obtain⟨i,hi,r⟩:=ws5 h;exact⟨i,by omega,r⟩
  .exact⟨k,by omega,h⟩
theorem wln(rs:List RW):∀j,(flR rs j).length<=j
 |0=>lR7 _
 |j+1=>by
  have:=wln rs j;show (bif rowF (atR rs j) then flR rs j++[atR rs j] else flR rs j).length<=_
  cases rowF (atR rs j) with
  |true=>rw[cond_true,lA7,List.length_singleton];omega
  |false=>rw[cond_false];omega
theorem wsu{rs:List RW}{r:RW}:∀ {j},j<=rs.length->r∈flR rs j->r∈rs
 |0,_,h=>by cases h
 |j+1,hj,h=>by
  have h:r∈(bif rowF (atR rs j) then flR rs j++[atR rs j] else flR rs j):=h
  cases q:rowF (atR rs j) with
  |true=>
   rw[q,cond_true] at h
   rcases List.mem_append.1 h with h | h
   .exact wsu (by omega) h
   .rw[List.mem_singleton] at h;rw[h];exact wjz (by omega)
  |false=>
   rw[q,cond_false] at h;exact wsu (by omega) h
theorem whp{F:Nat->FL}{n:Nat}(h:∀i,i<n->(F i).rs.length<=1000):∀k,k<=n->(ctnR F k).length<=1000 * k
 |0,_=>lR7 _
 |k+1,hk=>by
  have a:=whp h k (by omega);have b:=h k (by omega);have c:=wln (F k).rs (F k).rs.length;show (ctnR F k++flR (F k).rs (F k).rs.length).length<=_;rw[lA7];omega
theorem ws4{F:Nat->FL}{r:RW}:∀ {k},r∈ctnR F k->∃i,i<k/\r∈(F i).rs
 |0,h=>by cases h
 |k+1,h=>by
  rcases List.mem_append.1 h with h | h
  .obtain⟨i,hi,r⟩:=ws4 h;exact⟨i,by omega,r⟩
  .exact⟨k,by omega,wsu (lR7 _) h⟩
theorem svF_row(g:Nat->RW)(r:RW)(h:g 0=r):decide (svF g 1=0)=rowF r:=by
 unfold svF;rw[decide_eq_false (show ¬ 24000<1 by omega)];simp only[cond_false,wb5,Bool.true_and,h]
 cases rowF r<;>rfl
theorem pm_frz(L:List MG):frzX 0 [] (S_pm7 L)=wh3 L 1:=by
 have b1:Nat.ble L.length L.length=true:=Nat.ble_eq_true_of_le (lR7 _);have c1:Nat.beq 0 0=true:=rfl;simp[S_pm7,wh3,frzX,lk,frzT,frzC,frzA,frz,rm,mapO,b1]
theorem w78(hP:C.P=Tryz.prog)(hL:∀w,C.laid w->LaidW w):wah C 106 wf6:=by
 rintro args objs U Os vc h hvc;unfold wf6 at h;split at h<;>cases h;rename_i n t m f fr;obtain⟨rfl,hn,hf,hs⟩:=hvc;refine wal.rowEq 0 (f':=wae (rwOf f)) rfl (λi hi=>(hf i hi).symm) ?_;have hb:Nat.ble n n=true:=Nat.ble_eq_true_of_le (lR7 _);exact ADet.give (comb_ok hP hL [.view 5 n (wae (rwOf f))] [] _ _ _ rfl ⟨hn,rfl,hs⟩) (by simp[frzC,frzA,frz,hb]) rfl rfl (λ_ _=>rfl)
theorem w1d(hP:C.P=Tryz.prog):wah C 107 wf6:=by
 rintro args objs U Os vc h hvc;unfold wf6 at h;split at h<;>cases h;rename_i n t m f fr;obtain⟨rfl,hn,hf,hs⟩:=hvc;refine wal.rowEq 0 (f':=wae (rwOf f)) rfl (λi hi=>(hf i hi).symm) ?_;have hb:Nat.ble n n=true:=Nat.ble_eq_true_of_le (lR7 _);exact ADet.give (w1c hP [.view 5 n (wae (rwOf f))] [] _ _ _ rfl ⟨hn,rfl,hs⟩) (by simp[frzC,frzA,frz,hb]) rfl rfl (λ_ _=>rfl)
theorem pm7_reg(hP:C.P=Tryz.prog)(hL:∀w,C.laid w->LaidW w):waj C 0 19 (regC Tryz.f51 7) wf9:=by
 rintro st Q ⟨L,h0,hl,hs,hQ⟩;refine AWP.canonIs (te:=te) [3] h0 (AWP.frzX 0 [] (λ_ _=>rfl) ?_) ⟨λ_ _=>rfl,trivial⟩;rw[pm_frz];refine waj.reg (S:=wh3 L 0) (prg hP) [(61,.det wf4)] 0 (.cons (w5u hP hL) .nil) [3] [2] (show _=_ from rfl) ?_ trivial;rw[nf_pm7,wrx];refine⟨⟨hl,rfl,λi hi=>hs _ (wj0 hi)⟩,?_⟩;rw[mrgL_L,show lst noM 0=[] from rfl,List.append_nil];exact hQ
theorem w1w(hP:C.P=Tryz.prog)(F:Nat->FL)(n:Nat):waj C 0 19 (wam Tryz.f51 3) (wga F n):=by
 have _:C.Loose:=inferInstance;rintro st Q ⟨h0,hn,hm,hQ⟩;refine AWP.ownNil 3 40 15 ?_;refine waj.mk (prg hP) [] 0 .nil [3,6,7,8] [3] [] (wg0 F n) (λk=>k<=n) (λk=>n - k) 0 (zL7 _) h0 (λk hk=>?_) (λi=>⟨λ_ _=>rfl,trivial⟩);rw[w3t,tN7];refine wak (λq=>?_) (λq=>?_)
 .have a:=whq hm k hk;have b:=hm k (by omega);have e:(ctnM F k).length+(F k).ms.length=(ctnM F (k+1)).length:=List.length_append.symm;refine⟨⟨by omega,by omega,rfl⟩,⟨rfl,lR7 _,rfl,rfl,rfl,by omega,?_⟩,by simp only[inR];omega,k+1,⟨by rw[e];rfl,⟨rfl,rfl,rfl,e,rfl,λi _=>mg_app _ _ _⟩,trivial⟩,by omega,by omega⟩;show _ * 176<=_;omega
 .obtain rfl:k=n:=by omega
  exact⟨λ_ _=>rfl,_,wau _,hQ⟩
theorem pm_ok(hP:C.P=Tryz.prog)(hL:∀w,C.laid w->LaidW w):wah C 51 wf3:=by
 rintro args objs U Os vc h hvc;unfold wf3 at h;split at h<;>cases h;rename_i n f;obtain⟨hn,hf,hg⟩:=hvc;generalize flOf f=F at *;subst hf;refine wah.wpL (prg hP) [] [(3,wga F n),(1007,wf9)] 0 .nil (hP ▸ Tryz.func51) rfl rfl rfl [(wam Tryz.f51 3,wga F n),(regC Tryz.f51 7,wf9)] (by kernel_rfl) ⟨w1w hP F n,pm7_reg hP hL,trivial⟩ ?_;rw[nf_pm];have a:=whq (n:=n) (λi hi=>(hg i hi).sm.m.1) n (lR7 n);exact⟨⟨rfl,⟨rfl,rfl,rfl,rfl,rfl,λi hi=>absurd hi (nZ7 i)⟩,trivial⟩,hn,λi hi=>(hg i hi).sm.m.1,ctnM F n,⟨rfl,rQ7,trivial⟩,by omega,λm hm=>by
  obtain⟨i,hi,r⟩:=ws5 hm;exact(hg i hi).sm.m.2 m r,rfl,rfl⟩
theorem qm7_reg(hP:C.P=Tryz.prog):waj C 0 19 (regC Tryz.f52 7) wf9:=by
 rintro st Q ⟨L,h0,hl,hs,hQ⟩;refine AWP.canonIs (te:=te) [3] h0 (AWP.frzX 0 [] (λ_ _=>rfl) ?_) ⟨λ_ _=>rfl,trivial⟩;rw[pm_frz];refine waj.reg (S:=wh3 L 0) (prg hP) [(64,.det wf4)] 0 (.cons (w5v hP) .nil) [3] [2] (show _=_ from rfl) ?_ trivial;rw[nf_qm7,wrx];refine⟨⟨hl,rfl,λi hi=>hs _ (wj0 hi)⟩,?_⟩;rw[mrgL_L,show lst noM 0=[] from rfl,List.append_nil];exact hQ
theorem w1q(hP:C.P=Tryz.prog)(F:Nat->FL)(n:Nat):waj C 0 19 (wam Tryz.f52 3) (wga F n):=by
 have _:C.Loose:=inferInstance;rintro st Q ⟨h0,hn,hm,hQ⟩;refine AWP.ownNil 3 40 15 ?_;refine waj.mk (prg hP) [] 0 .nil [3,6,7,8] [3] [] (wg0 F n) (λk=>k<=n) (λk=>n - k) 0 (zL7 _) h0 (λk hk=>?_) (λi=>⟨λ_ _=>rfl,trivial⟩);rw[w3l,tN7];refine wak (λq=>?_) (λq=>?_)
 .have a:=whq hm k hk;have b:=hm k (by omega);have e:(ctnM F k).length+(F k).ms.length=(ctnM F (k+1)).length:=List.length_append.symm;refine⟨⟨by omega,by omega,rfl⟩,⟨rfl,lR7 _,rfl,rfl,rfl,by omega,?_⟩,by simp only[inR];omega,k+1,⟨by rw[e];rfl,⟨rfl,rfl,rfl,e,rfl,λi _=>mg_app _ _ _⟩,trivial⟩,by omega,by omega⟩;show _ * 176<=_;omega
 .obtain rfl:k=n:=by omega
  exact⟨λ_ _=>rfl,_,wau _,hQ⟩
theorem qm_ok(hP:C.P=Tryz.prog):wah C 52 wf3:=by
 rintro args objs U Os vc h hvc;unfold wf3 at h;split at h<;>cases h;rename_i n f;obtain⟨hn,hf,hg⟩:=hvc;generalize flOf f=F at *;subst hf;refine wah.wpL (prg hP) [] [(3,wga F n),(1007,wf9)] 0 .nil (hP ▸ Tryz.func52) rfl rfl rfl [(wam Tryz.f52 3,wga F n),(regC Tryz.f52 7,wf9)] (by kernel_rfl) ⟨w1q hP F n,qm7_reg hP,trivial⟩ ?_;rw[nf_qm];have a:=whq (n:=n) (λi hi=>(hg i hi).sm.m.1) n (lR7 n);exact⟨⟨rfl,⟨rfl,rfl,rfl,rfl,rfl,λi hi=>absurd hi (nZ7 i)⟩,trivial⟩,hn,λi hi=>(hg i hi).sm.m.1,ctnM F n,⟨rfl,rQ7,trivial⟩,by omega,λm hm=>by
  obtain⟨i,hi,r⟩:=ws5 hm;exact(hg i hi).sm.m.2 m r,rfl,rfl⟩
theorem w1u(hP:C.P=Tryz.prog)(hL:∀w,C.laid w->LaidW w):waj C 0 37 (wam Tryz.f54 6) wpt:=by
 rintro st Q ⟨F,n,k,X,h0,hX,hr,hs,hQ⟩;refine waj.mk (prg hP) [(105,.det whx)] 0 (.cons (wuh hP hL) .nil) [3,8,9,10,15,16,17] [3,8,9,10] [] (wna F n k X) (λj=>j<=(F k).rs.length) (λj=>(F k).rs.length - j) 0 (zL7 _) h0 (λj hj=>?_) (λi=>⟨λ_ _=>rfl,trivial⟩);rw[w3r,tN7];have one:∀ {p:Nat->Prop},p 0->∀i,i<1->p i:=λh0 i hi=>by
  match i,hi with
  |0,_=>exact h0
 have fl:=wln (F k).rs j;have xl:(X++flR (F k).rs j).length<=101000:=by rw[lA7];omega
 refine wak (λq=>?_) (λq=>?_)
 .have hj2:j<(F k).rs.length:=by omega
  refine⟨⟨by omega,by omega,rfl⟩,⟨by omega,rfl,by omega⟩,one rfl,⟨rfl,by omega,one rfl,one (hs _ (wjz hj2))⟩,?_⟩;rw[svF_row _ (atR (F k).rs j) rfl];refine waw (λz=>?_) (λz=>?_)
  .have e:X++flR (F k).rs (j+1)=(X++flR (F k).rs j)++[atR (F k).rs j]:=by
    rw[show flR (F k).rs (j+1)=(bif rowF (atR (F k).rs j) then flR (F k).rs j++[atR (F k).rs j] else flR (F k).rs j) from rfl,z,cond_true,List.append_assoc]
   have el:(X++flR (F k).rs j).length+1=(X++flR (F k).rs (j+1)).length:=by rw[e,lA7 (bs:=[_])];rfl
   refine⟨⟨by omega,rfl,by omega⟩,⟨⟨by omega,rfl⟩,lR7 _,rfl,rfl,rfl,by omega,?_⟩,by simp only[inR];omega,j+1,⟨by rw[el];rfl,⟨rfl,rfl,rfl,el,rfl,λi hi=>by rw[e];exact rw_app (X++flR (F k).rs j) (atR (F k).rs j) _ (by rfl) i hi⟩,trivial⟩,by omega,by omega⟩;show _ * 56<=_;omega
  .have e:flR (F k).rs (j+1)=flR (F k).rs j:=by
    rw[show flR (F k).rs (j+1)=(bif rowF (atR (F k).rs j) then flR (F k).rs j++[atR (F k).rs j] else flR (F k).rs j) from rfl,z,cond_false]
   exact⟨by simp only[inR];omega,j+1,⟨by rw[e];rfl,⟨rfl,rfl,rfl,by rw[e],rfl,λi hi=>by rw[e]⟩,trivial⟩,by omega,by omega⟩
 .obtain rfl:j=(F k).rs.length:=by omega
  exact⟨λ_ _=>rfl,_,wau _,hQ⟩
theorem w1v(hP:C.P=Tryz.prog)(hL:∀w,C.laid w->LaidW w)(F:Nat->FL)(n:Nat):waj C 0 37 (wam Tryz.f54 3) (wpu F n):=by
 rintro st Q ⟨h0,hn,hr,hQ⟩;refine AWP.ownNil 3 61 5 ?_;refine waj.mkL (prg hP) [] [(6,wpt)] 0 .nil [(wam Tryz.f54 6,wpt)] (by kernel_rfl) ⟨w1u hP hL,trivial⟩ [3,8,9,10] [3] [] (wnb F n) (λk=>k<=n) (λk=>n - k) 0 (zL7 _) h0 (λk hk=>?_) (λi=>⟨λ_ _=>rfl,trivial⟩);rw[w3s,tN7];have al:=whp (λi hi=>(hr i hi).1) k hk;have e0:ctnR F k++flR (F k).rs 0=ctnR F k:=List.append_nil _;refine wak (λq=>⟨⟨by omega,by omega,rfl⟩,F,n,k,ctnR F k,⟨by rw[e0];rfl,⟨rfl,rfl,rfl,by rw[e0],rfl,λi _=>by rw[e0]⟩,trivial⟩,by omega,(hr k (by omega)).1,(hr k (by omega)).2,by simp only[inR];omega,k+1,⟨rfl,rQ7,trivial⟩,by omega,by omega⟩) (λq=>?_);obtain rfl:k=n:=by omega
 exact⟨λ_ _=>rfl,_,wau _,hQ⟩
theorem pr_ok(hP:C.P=Tryz.prog)(hL:∀w,C.laid w->LaidW w):wah C 54 wfz:=by
 rintro args objs U Os vc h hvc;unfold wfz at h;split at h<;>cases h;rename_i n f;obtain⟨hn,hf,hg⟩:=hvc;generalize flOf f=F at *;subst hf;refine wah.wpL (prg hP) [(106,.det wf6)] [(3,wpu F n)] 0 (.cons (w78 hP hL) .nil) (hP ▸ Tryz.func54) rfl rfl rfl [(wam Tryz.f54 3,wpu F n)] (by kernel_rfl) ⟨w1v hP hL F n,trivial⟩ ?_;rw[nf_pr,wq9];have a:=whp (n:=n) (λi hi=>(hg i hi).sm.r.1) n (lR7 n);exact⟨⟨rfl,⟨rfl,rfl,rfl,rfl,rfl,λi hi=>absurd hi (nZ7 i)⟩,trivial⟩,hn,λi hi=>(hg i hi).sm.r,λ_ _=>rfl,⟨rfl,by omega,λ_ _=>rfl,λi hi=>by
  obtain⟨k,hk,r⟩:=ws4 (wjz hi);exact(hg k hk).sm.r.2 _ r⟩,rfl,rfl⟩
theorem w1o(hP:C.P=Tryz.prog):waj C 0 37 (wam Tryz.f55 6) wpr:=by
 rintro st Q ⟨F,n,k,X,h0,hX,hr,hs,hQ⟩;refine waj.mk (prg hP) [(77,.det wc4)] 0 (.cons (wrc hP) .nil) [3,10,11,12,17,18,19] [3,10,11,12] [] (wm8 F n k X) (λj=>j<=(F k).rs.length) (λj=>(F k).rs.length - j) 0 (zL7 _) h0 (λj hj=>?_) (λi=>⟨λ_ _=>rfl,trivial⟩);rw[w3j,tN7];have one:∀ {p:Nat->Prop},p 0->∀i,i<1->p i:=λh0 i hi=>by
  match i,hi with
  |0,_=>exact h0
 have fl:=wln (F k).rs j;have xl:(X++flR (F k).rs j).length<=101000:=by rw[lA7];omega
 refine wak (λq=>?_) (λq=>?_)
 .have hj2:j<(F k).rs.length:=by omega
  refine⟨⟨by omega,by omega,rfl⟩,hs _ (wjz hj2),?_⟩;show wab (rowF (atR (F k).rs j)) _ _;refine waw (λz=>?_) (λz=>?_)
  .have e:X++flR (F k).rs (j+1)=(X++flR (F k).rs j)++[atR (F k).rs j]:=by
    rw[show flR (F k).rs (j+1)=(bif rowF (atR (F k).rs j) then flR (F k).rs j++[atR (F k).rs j] else flR (F k).rs j) from rfl,z,cond_true,List.append_assoc]
   have el:(X++flR (F k).rs j).length+1=(X++flR (F k).rs (j+1)).length:=by rw[e,lA7 (bs:=[_])];rfl
   refine⟨⟨by omega,rfl,by omega⟩,⟨⟨by omega,rfl⟩,lR7 _,rfl,rfl,rfl,by omega,?_⟩,by simp only[inR];omega,j+1,⟨by rw[el];rfl,⟨rfl,rfl,rfl,el,rfl,λi hi=>by rw[e];exact rw_app (X++flR (F k).rs j) (atR (F k).rs j) _ (by rfl) i hi⟩,trivial⟩,by omega,by omega⟩;show _ * 56<=_;omega
  .have e:flR (F k).rs (j+1)=flR (F k).rs j:=by
    rw[show flR (F k).rs (j+1)=(bif rowF (atR (F k).rs j) then flR (F k).rs j++[atR (F k).rs j] else flR (F k).rs j) from rfl,z,cond_false]
   exact⟨by simp only[inR];omega,j+1,⟨by rw[e];rfl,⟨rfl,rfl,rfl,by rw[e],rfl,λi hi=>by rw[e]⟩,trivial⟩,by omega,by omega⟩
 .obtain rfl:j=(F k).rs.length:=by omega
  exact⟨λ_ _=>rfl,_,wau _,hQ⟩
theorem w1p(hP:C.P=Tryz.prog)(F:Nat->FL)(n:Nat):waj C 0 37 (wam Tryz.f55 3) (wps F n):=by
 rintro st Q ⟨h0,hn,hr,hQ⟩;refine AWP.ownNil 3 61 5 ?_;refine waj.mkL (prg hP) [] [(6,wpr)] 0 .nil [(wam Tryz.f55 6,wpr)] (by kernel_rfl) ⟨w1o hP,trivial⟩ [3,10,11,12] [3] [] (wm9 F n) (λk=>k<=n) (λk=>n - k) 0 (zL7 _) h0 (λk hk=>?_) (λi=>⟨λ_ _=>rfl,trivial⟩);rw[w3k,tN7];have al:=whp (λi hi=>(hr i hi).1) k hk;have e0:ctnR F k++flR (F k).rs 0=ctnR F k:=List.append_nil _;refine wak (λq=>⟨⟨by omega,by omega,rfl⟩,F,n,k,ctnR F k,⟨by rw[e0];rfl,⟨rfl,rfl,rfl,by rw[e0],rfl,λi _=>by rw[e0]⟩,trivial⟩,by omega,(hr k (by omega)).1,(hr k (by omega)).2,by simp only[inR];omega,k+1,⟨rfl,rQ7,trivial⟩,by omega,by omega⟩) (λq=>?_);obtain rfl:k=n:=by omega
 exact⟨λ_ _=>rfl,_,wau _,hQ⟩
theorem qr_ok(hP:C.P=Tryz.prog)(_hL:∀w,C.laid w->LaidW w):wah C 55 wfz:=by
 rintro args objs U Os vc h hvc;unfold wfz at h;split at h<;>cases h;rename_i n f;obtain⟨hn,hf,hg⟩:=hvc;generalize flOf f=F at *;subst hf;refine wah.wpL (prg hP) [(107,.det wf6)] [(3,wps F n)] 0 (.cons (w1d hP) .nil) (hP ▸ Tryz.func55) rfl rfl rfl [(wam Tryz.f55 3,wps F n)] (by kernel_rfl) ⟨w1p hP F n,trivial⟩ ?_;rw[nf_qr,wq9];have a:=whp (n:=n) (λi hi=>(hg i hi).sm.r.1) n (lR7 n);exact⟨⟨rfl,⟨rfl,rfl,rfl,rfl,rfl,λi hi=>absurd hi (nZ7 i)⟩,trivial⟩,hn,λi hi=>(hg i hi).sm.r,λ_ _=>rfl,⟨rfl,by omega,λ_ _=>rfl,λi hi=>by
  obtain⟨k,hk,r⟩:=ws4 (wjz hi);exact(hg k hk).sm.r.2 _ r⟩,rfl,rfl⟩
end Go.Eng
namespace Go.Eng
def sttT:List RT->RT->List RT
 |[],y=>[y]
 |r::L,y=>bif sameT r y then y::L else r::sttT L y
def hasS(M:List RT)(x:RT):Bool:=M.any λs=>sameT s x
def laI(ts:List RT)(V:List RT):Nat->List RT×List RT
 |0=>(V,[])
 |j+1=>bif rtOK (atT ts j) && !hasS (laI ts V j).2 (atT ts j) then (sttT (laI ts V j).1 (atT ts j),(laI ts V j).2++[atT ts j]) else laI ts V j
def laF(F:Nat->FL):Nat->List RT
 |0=>[]
 |k+1=>(laI (F k).ts (laF F k) (F k).ts.length).1
def wcz(V:List RT):Prop:=V.Pairwise λa b=>sameT a b=false
theorem wg8{a b:RT}:sameT a b=sameT b a:=by
 rw[Bool.eq_iff_iff];exact⟨wq5,wq5⟩
theorem w0w{a b c:RT}(h:sameT a b=true):sameT a c=sameT b c:=by
 rw[wg8 (a:=a),wg8 (a:=b)];exact wu1 h
theorem wul{y:RT}:∀ {V:List RT} {x:RT},x∈sttT V y->x=y∨x∈V
 |[],x,h=>by
  have h:x∈[y]:=h;exact .inl (List.mem_singleton.1 h)
 |r::L,x,h=>by
  have h:x∈(bif sameT r y then y::L else r::sttT L y):=h
  cases q:sameT r y with
  |true=>
   rw[q,cond_true] at h
   rcases List.mem_cons.1 h with h | h
   .exact .inl h
   .exact .inr (List.mem_cons_of_mem _ h)
  |false=>
   rw[q,cond_false] at h
   rcases List.mem_cons.1 h with h | h
   .exact .inr (h ▸ List.mem_cons_self)
   .exact(wul h).imp id (List.mem_cons_of_mem _)
theorem wqx{y:RT}:∀ {V:List RT},wcz V->wcz (sttT V y)/\∀x,x∈sttT V y↔x=y∨(x∈V/\sameT x y=false)
 |[],_=>⟨List.pairwise_singleton _ _,λx=>by show x∈[y]↔_;rw[List.mem_singleton];simp⟩
 |r::L,h=>by
  obtain⟨h1,h2⟩:=List.pairwise_cons.1 h;obtain⟨k1,k2⟩:=wqx (y:=y) h2;have e:sttT (r::L) y=(bif sameT r y then y::L else r::sttT L y):=rfl
  cases q:sameT r y with
  |true=>
   rw[e,q,cond_true];have no:∀b∈L,sameT y b=false:=λb hb=>by rw[← w0w q];exact h1 b hb
   refine⟨List.pairwise_cons.2 ⟨no,h2⟩,λx=>?_⟩;rw[List.mem_cons,List.mem_cons]
   constructor
   .rintro(h | h)
    .exact .inl h
    .exact .inr ⟨.inr h,by rw[wg8];exact no x h⟩
   .rintro(h | ⟨h | h,h'⟩)
    .exact .inl h
    .rw[h,q] at h';cases h'
    .exact .inr h
  |false=>
   rw[e,q,cond_false];refine⟨List.pairwise_cons.2 ⟨λb hb=>?_,k1⟩,λx=>?_⟩
   .rcases wul hb with rfl | hb
    .exact q
    .exact h1 b hb
   .rw[List.mem_cons,List.mem_cons,k2]
    constructor
    .rintro(h | h | h)
     .exact .inr ⟨.inl h,h ▸ q⟩
     .exact .inl h
     .exact .inr ⟨.inr h.1,h.2⟩
    .rintro(h | ⟨h | h,h'⟩)
     .exact .inr (.inl h)
     .exact .inl h
     .exact .inr (.inr ⟨h,h'⟩)
theorem wum(y:RT):∀V:List RT,(sttT V y).length<=V.length+1
 |[]=>lR7 _
 |r::L=>by
  have:=wum y L;show (bif sameT r y then y::L else r::sttT L y).length<=_
  cases sameT r y with
  |true=>rw[cond_true,List.length_cons,List.length_cons];omega
  |false=>rw[cond_false,List.length_cons,List.length_cons];omega
theorem wjm{M:List RT}{x:RT}:hasS M x=true↔∃s∈M,sameT s x=true:=List.any_eq_true
theorem wxq(ts:List RT)(x:RT)(j:Nat):fstT ts x (j+1)=(match fstT ts x j with
  |some r=>some r
  |none=>bif rtOK (atT ts j) && sameT (atT ts j) x then some (atT ts j) else none):=rfl
def curT(F:Nat->FL)(k:Nat)(x:RT)(j:Nat):Option RT:=match fstT (F k).ts x j with
 |some r=>some r
 |none=>wd3 F x k
theorem wwz(F:Nat->FL)(k:Nat){V:List RT}(hd:wcz V)(hv:∀x,x∈V↔wd3 F x k=some x):∀j,wcz (laI (F k).ts V j).1/\(∀x,x∈(laI (F k).ts V j).1↔curT F k x j=some x)/\
  (∀x,hasS (laI (F k).ts V j).2 x=true↔fstT (F k).ts x j≠none)/\wcz (laI (F k).ts V j).2
 |0=>by
  refine⟨hd,hv,λx=>?_,List.Pairwise.nil⟩
  constructor
  .intro h;cases h
  .intro h;exact absurd rfl h
 |j+1=>by
  obtain⟨h1,h2,h3,h4⟩:=wwz F k hd hv j;have e:laI (F k).ts V (j+1)=(bif rtOK (atT (F k).ts j) && !hasS (laI (F k).ts V j).2 (atT (F k).ts j) then (sttT (laI (F k).ts V j).1 (atT (F k).ts j),(laI (F k).ts V j).2++[atT (F k).ts j]) else laI (F k).ts V j):=rfl
  have same:(∀x,fstT (F k).ts x (j+1)=fstT (F k).ts x j)->laI (F k).ts V (j+1)=laI (F k).ts V j->wcz (laI (F k).ts V (j+1)).1/\(∀x,x∈(laI (F k).ts V (j+1)).1↔curT F k x (j+1)=some x)/\
    (∀x,hasS (laI (F k).ts V (j+1)).2 x=true↔fstT (F k).ts x (j+1)≠none)/\wcz (laI (F k).ts V (j+1)).2:=λa b=>by
   rw[b];exact⟨h1,λx=>by unfold curT;rw[a x];exact h2 x,λx=>by rw[a x];exact h3 x,h4⟩
  have fs:∀x,fstT (F k).ts x (j+1)=(match fstT (F k).ts x j with
   |some y=>some y
   |none=>bif rtOK (atT (F k).ts j) && sameT (atT (F k).ts j) x then some (atT (F k).ts j) else none):=λx=>wxq _ x j
  generalize hV:laI (F k).ts V j=P at *;generalize atT (F k).ts j=r at *
  cases q1:rtOK r with
  |false=>
   rw[q1,Bool.false_and,cond_false] at e;refine same (λx=>?_) e;rw[fs x,q1,Bool.false_and,cond_false]
   cases fstT (F k).ts x j<;>rfl
  |true=>
   cases q2:hasS P.2 r with
   |true=>
    rw[q1,q2,Bool.not_true,Bool.and_false,cond_false] at e;refine same (λx=>?_) e;rw[fs x,q1,Bool.true_and]
    cases z:fstT (F k).ts x j with
    |some y=>rfl
    |none=>
     cases w:sameT r x with
     |false=>rfl
     |true=>
      have:=(h3 r).1 q2;rw[whj w,z] at this;exact absurd rfl this
   |false=>
    rw[q1,q2,Bool.not_false,Bool.and_true,cond_true] at e;have none_r:fstT (F k).ts r j=none:=by
     cases z:fstT (F k).ts r j with
     |none=>rfl
     |some y=>
      have:=(h3 r).2 (by rw[z];exact λh=>by cases h);rw[q2] at this;cases this
    have f1:∀x,sameT r x=true->fstT (F k).ts x j=none/\fstT (F k).ts x (j+1)=some r:=λx w=>by
     have a:fstT (F k).ts x j=none:=by rw[← whj w];exact none_r
     refine⟨a,?_⟩;rw[fs x,a,q1,w];rfl
    have f2:∀x,sameT r x=false->fstT (F k).ts x (j+1)=fstT (F k).ts x j:=λx w=>by
     rw[fs x,w,Bool.and_false,cond_false]
     cases fstT (F k).ts x j<;>rfl
    obtain⟨s1,s2⟩:=wqx (y:=r) h1;rw[e];refine⟨s1,λx=>?_,λx=>?_,?_⟩
    .rw[s2 x];unfold curT
     cases w:sameT r x with
     |true=>
      rw[(f1 x w).2]
      constructor
      .rintro(h | ⟨_,h⟩)
       .rw[h]
       .rw[wg8,w] at h;cases h
      .intro h;exact .inl (oJ7 h).symm
     |false=>
      rw[f2 x w,h2 x];unfold curT
      constructor
      .rintro(h | ⟨h,_⟩)
       .rw[h,wq6] at w;cases w
       .exact h
      .intro h;exact .inr ⟨h,by rw[wg8];exact w⟩
    .rw[wjm]
     constructor
     .rintro⟨s,hs,w⟩
      rcases List.mem_append.1 hs with hs | hs
      .have a:=(h3 x).1 (wjm.2 ⟨s,hs,w⟩)
       cases w2:sameT r x with
       |true=>rw[(f1 x w2).2];exact λh=>by cases h
       |false=>rw[f2 x w2];exact a
      .rw[List.mem_singleton] at hs;rw[hs] at w;rw[(f1 x w).2];exact λh=>by cases h
     .intro h
      cases w:sameT r x with
      |true=>exact⟨r,List.mem_append_right _ (List.mem_singleton.2 rfl),w⟩
      |false=>
       rw[f2 x w] at h;obtain⟨s,hs,w2⟩:=wjm.1 ((h3 x).2 h);exact⟨s,List.mem_append_left _ hs,w2⟩
    .refine List.pairwise_append.2 ⟨h4,List.pairwise_singleton _ _,λa ha b hb=>?_⟩;rw[List.mem_singleton] at hb;rw[hb]
     cases w:sameT a r with
     |false=>rfl
     |true=>
      have:=wjm.2 ⟨a,ha,w⟩;rw[q2] at this;cases this
theorem wjf(F:Nat->FL):∀k,wcz (laF F k)/\∀x,x∈laF F k↔wd3 F x k=some x
 |0=>by
  refine⟨List.Pairwise.nil,λx=>?_⟩
  constructor
  .intro h;cases h
  .intro h;cases h
 |k+1=>by
  obtain⟨h1,h2⟩:=wjf F k;obtain⟨k1,k2,_,_⟩:=wwz F k h1 h2 (F k).ts.length;exact⟨k1,λx=>k2 x⟩
theorem ww0(ts V:List RT):∀j,(laI ts V j).1.length<=V.length+j/\(laI ts V j).2.length<=j
 |0=>⟨lR7 _,lR7 _⟩
 |j+1=>by
  obtain⟨h1,h2⟩:=ww0 ts V j;have e:laI ts V (j+1)=(bif rtOK (atT ts j) && !hasS (laI ts V j).2 (atT ts j) then (sttT (laI ts V j).1 (atT ts j),(laI ts V j).2++[atT ts j]) else laI ts V j):=rfl
  rw[e];have:=wum (atT ts j) (laI ts V j).1
  cases rtOK (atT ts j) && !hasS (laI ts V j).2 (atT ts j) with
  |true=>
   rw[cond_true];refine⟨by show (sttT _ _).length<=_;omega,?_⟩;show (_++[_]).length<=_;rw[lA7,List.length_singleton];omega
  |false=>rw[cond_false];omega
theorem wr8{F:Nat->FL}{n:Nat}(h:∀i,i<n->(F i).ts.length<=1000):∀k,k<=n->(laF F k).length<=1000 * k
 |0,_=>lR7 _
 |k+1,hk=>by
  have a:=wr8 h k (by omega);have b:=h k (by omega);have c:=(ww0 (F k).ts (laF F k) (F k).ts.length).1;show (laI _ _ _).1.length<=_;omega
theorem w6j{F:Nat->FL}{n:Nat}{L:List RT}(hp:L.Perm (laF F n))(hs:L.Pairwise λa b=>¬ wbb b a<0):L=rfT F n n:=by
 obtain⟨h1,h2⟩:=wjf F n;have hd:L.Pairwise λa b=>sameT a b=false:=(hp.symm.pairwise_iff (λ{a b} h=>by rw[wg8];exact h)).1 h1;refine Asc.uniq wge ?_ (wrf F n n).1 λx=>?_
 .refine(hd.and hs).imp λ{a b} h=>?_;have n1:=wge.neg a b;have ne:wbb a b≠0:=λq=>by
   have:=wq7.2 q;rw[h.1] at this;cases this
  have:=h.2;omega
 .rw[hp.mem_iff,h2 x,wvi]
def keyT(r:RT):AV:=.agg [.str r.o,.str r.p,.q r.per]
def valT(r:RT):AV:=.agg [.str r.o,.str r.p,.q r.per,.q r.st,.view 2 r.bs.length (wan (atB r.bs))]
def entL(V:List RT):List (AV×AV):=V.map λr=>(keyT r,valT r)
def entS(M:List RT):List (AV×AV):=M.map λs=>(keyT s,.bool true)
def wm4(F:Nat->FL)(n k:Nat):St:=⟨[(3,.map 0),(14,.view 7 n (waf F)),(15,.q n),(16,.q k)],[(0,.amap (entL (laF F k)))],1,[]⟩
def wpm(F:Nat->FL)(n:Nat):war:=λs Q=>canonIs te 0 [3,14,15,16] s (wm4 F n 0)/\n<=50/\(∀i,i<n->(F i).Gd)/\Q (.exit 0) ⟨[(3,.map 0)],[(0,.amap (entL (laF F n)))],1,[]⟩
def wh1(F:Nat->FL)(n k:Nat)(V:List RT)(j:Nat):St:=⟨[(3,.map 0),(6,.map 1),(14,.view 7 n (waf F)),(15,.q n),(16,.q k),(22,.view 5 (F k).ts.length (wag (atT (F k).ts))),(23,.q (F k).ts.length),(24,.q j)],
 [(0,.amap (entL (laI (F k).ts V j).1)),(1,.amap (entS (laI (F k).ts V j).2))],2,[]⟩
def wpl:war:=λs Q=>∃(F:Nat->FL) (n k:Nat) (V:List RT),canonIs te 0 [3,6,14,15,16,22,23,24] s (wh1 F n k V 0)/\V.length<=100000/\wcz V/\(F k).Gd/\
 Q (.exit 2) ⟨[(3,.map 0),(14,.view 7 n (waf F)),(15,.q n),(16,.q k)],[(0,.amap (entL (laI (F k).ts V (F k).ts.length).1))],1,[]⟩
structure RtI where
 c:Nat
 h:Nat->RT
 c0:Nat
 left:List Nat
def wm5(V:List RT)(i:RtI):St:=⟨[(10,.own 0 i.c),(51,.ptr 1 0)],[(0,.row 97 5 i.c (wag i.h) false),(1,.miter 2 (entL V).length (139::i.c0::i.left)),(2,.amap (entL V))],3,[]⟩
def wpn(V:List RT):war:=λst Q=>canonIs te 0 [10,51] (ownNil 10 97 5 st) (wm5 V ⟨0,λ_=>wdf,(entL V).length,List.range (entL V).length⟩)/\V.length<=100000/\(∀r∈V,r.bs.length<=1000)/\
 ∀h:Nat->RT,(lst h V.length).Perm V->Q (.exit 4) ⟨[(10,.own 0 V.length)],[(0,.row 97 5 V.length (wag h) false)],1,[]⟩
def wor:wbp
 |[.own 0 n,.func 111 []],[.row t 5 m f fr],R=>t=97/\fr=false/\n=m/\n<=1000000/\f=wag (rtOf f)/\
   ∀h:Nat->RT,(lst h n).Perm (lst (rtOf f) n)->(∀i j,i<j->j<n->¬ wbb (h j) (h i)<0)->R (.tuple []) [(0,.row 97 5 n (wag h) false)]
 |_,_,_=>False
def isVw2(u:AV):Prop:=∃(n:Nat) (f:Nat->List AV),u= .view 2 n f/\n<=100000/\∀i,i<n->nrefL (f i)=true
def wod:Spec
 |[u],[]=>some (u,[],isVw2 u)
 |_,_=>none
def wf0:Spec
 |[.view 7 n f],[]=>some (.view 5 (rfT (flOf f) n n).length (wag (atT (rfT (flOf f) n n))),[],n<=50/\f=waf (flOf f)/\∀i,i<n->(flOf f i).Gd)
 |_,_=>none
def rtC(r:RT):List AV:=[.str r.o,.str r.p,.q r.per,.q r.st,.view 2 r.bs.length (wan (atB r.bs))]
def isRt(u:AV)(r:RT):Prop:=u= .agg (rtC r)
def wh9:Spec
 |[.agg [.str o,.str p,.int .i64 per,.int .i64 st,.view a b c],.agg [.str o',.str p',.int .i64 per',.int .i64 st',.view a' b' c']],[]=>some (.bool (decide (wbb ⟨o,p,per,st,[]⟩ ⟨o',p',per',st',[]⟩<0)),[],∃x y,isRt (.agg [.str o,.str p,.q per,.q st,.view a b c]) x/\isRt (.agg [.str o',.str p',.q per',.q st',.view a' b' c']) y)
 |_,_=>none
def wm2(F:Nat->FL)(n m:Nat):St:=⟨[(0,.view 7 n (waf F)),(3,.own 0 (rfT F n m).length),(4,.q ((n:Int) - 1 - m))],[(0,.row 97 5 (rfT F n m).length (wag (atT (rfT F n m))) false)],1,[]⟩
def wpj(F:Nat->FL)(n:Nat):war:=λs Q=>canonIs te 0 [0,3,4] (ownNil 3 97 5 s) (wm2 F n 0)/\n<=50/\(∀i,i<n->(F i).Gd)/\
 Q (.exit 0) ⟨[(3,.own 0 (rfT F n n).length)],[(0,.row 97 5 (rfT F n n).length (wag (atT (rfT F n n))) false)],1,[]⟩
def wm1(F:Nat->FL)(n:Nat)(c:Int)(ts L:List RT)(j:Nat):St:=⟨[(0,.view 7 n (waf F)),(3,.own 0 (rfI ts L j).length),(4,.q c),(20,.view 5 ts.length (wag (atT ts))),(21,.q ts.length),(22,.q j)],
 [(0,.row 97 5 (rfI ts L j).length (wag (atT (rfI ts L j))) false)],1,[]⟩
def wpi:war:=λs Q=>∃(F:Nat->FL) (n:Nat) (c:Int) (ts L:List RT),canonIs te 0 [0,3,4,20,21,22] s (wm1 F n c ts L 0)/\L.length<=100000/\ts.length<=1000/\(∀t∈ts,t.Sm)/\
 Q (.exit 2) ⟨[(0,.view 7 n (waf F)),(3,.own 0 (rfI ts L ts.length).length),(4,.q c)],[(0,.row 97 5 (rfI ts L ts.length).length (wag (atT (rfI ts L ts.length))) false)],1,[]⟩
def wh0(F:Nat->FL)(n:Nat)(c:Int)(ts L:List RT)(r:RT)(j a:Nat):St:=⟨[(0,.view 7 n (waf F)),(3,.own 0 L.length),(4,.q c),(6,.ptr 1 0),(7,.q a),(20,.view 5 ts.length (wag (atT ts))),(21,.q ts.length),(22,.q j)],
 [(0,.row 97 5 L.length (wag (atT L)) false),(1,.cells [.str r.o,.str r.p,.q r.per,.q r.st,.view 2 r.bs.length (wan (atB r.bs))] 97)],2,[]⟩
def wpk:war:=λs Q=>∃(F:Nat->FL) (n:Nat) (c:Int) (ts L:List RT) (r:RT) (j:Nat),canonIs te 0 [0,3,4,6,7,20,21,22] s (wh0 F n c ts L r j 0)/\L.length<=200000/\
 Q (.exit 4) (wh0 F n c ts L r j (plT L r))
end Go.Eng
namespace Go.Eng
open Go.Proofs Go.RowKit Go.Sort
variable {C:Ctx}
set_option maxRecDepth 20000
theorem nf_tcmp(a b:RT)(R:oR7):wpFn te [(94,.det wel),(95,.det wc5),(93,.det S_or)] [] 0 Tryz.f111 [.agg [.str a.o,.str a.p,.q a.per,.q a.st,.view 2 a.bs.length (wan (atB a.bs))],.agg [.str b.o,.str b.p,.q b.per,.q b.st,.view 2 b.bs.length (wan (atB b.bs))]] [] R=(letI z0:=wap 1 (.q (cmpS a.o b.o):: .q (cmpS a.p b.p):: .q (cmpI a.per b.per)::List.append [] wb6);True/\True/\True/\(3<=16777216/\1=1/\3<=9223372036854775807)/\(∀(i:Nat),i<3->true=true)/\(3=3/\false=false/\3=3/\3<=100/\∀(i:Nat),i<3->[AV.q (List.getD [cmpS a.o b.o,cmpS a.p b.p,cmpI a.per b.per] i (0:Int))]=[.q (vInt z0 i)])/\(∀(i:Nat),i<3->true=true)/\R (.q (orN (vInt z0) 3)) []):=by kernel_rfl
theorem tcmp_ok(hP:C.P=Tryz.prog)(a b:RT):ADet C 111 [.agg [.str a.o,.str a.p,.q a.per,.q a.st,.view 2 a.bs.length (wan (atB a.bs))],.agg [.str b.o,.str b.p,.q b.per,.q b.st,.view 2 b.bs.length (wan (atB b.bs))]] [] (.q (wbb a b)) []:=by
 refine wah.wp0 (prg hP) [(94,.det wel),(95,.det wc5),(93,.det S_or)] 0 (.cons (wkk hP) (.cons (wlh hP) (.cons (wkt hP) .nil))) (hP ▸ Tryz.func111) rfl rfl rfl ?_;rw[nf_tcmp,wi7];have three:∀ {p:Nat->Prop},p 0->p 1->p 2->∀i,i<3->p i:=λh0 h1 h2 i hi=>by
  match i,hi with
  |0,_=>exact h0
  |1,_=>exact h1
  |2,_=>exact h2
 exact⟨trivial,trivial,trivial,⟨by omega,rfl,by omega⟩,three rfl rfl rfl,⟨rfl,rfl,rfl,by omega,three rfl rfl rfl⟩,three rfl rfl rfl,rfl,rfl⟩
end Go.Eng
namespace Go.Eng
open Go.Proofs Go.RowKit Go.Sort
variable {C:Ctx} [C.Loose]
set_option maxRecDepth 20000
theorem nf_ra(F:Nat->FL)(n:Nat)(R:oR7):wpFn te [(110,.rel wor)] [(3,wpm F n),(16,wpn (laF F n))] 0 Tryz.f57 [.view 7 n (waf F)] [] R=(letI z4:=entL (laF F n);letI z3:=(laF F n).length;letI z1:=(∀(i:Nat),i<(laF F n).length->true=true:Prop);letI z0:=z4.length;letI z2:=(RtI.mk 0 (λ(_x:Nat)=>wdf) z0 (List.range z0));some (St.mk [(3,.map 0),(14,.view 7 n (waf F)),(15,.q (n:Int)),(16,.q 0)] [(0,.amap (List.map (λ(p:AV×AV)=>(AV.rn (ren 0 [(0,0)]) p.1,AV.rn (ren 0 [(0,0)]) p.2)) []))] 1 [])=some (St.mk [(3,.map 0),(14,.view 7 n (waf F)),(15,.q (n:Int)),(16,.q (↑0:Int))] [(0,.amap (entL (laF F 0)))] 1 [])/\n<=50/\(∀(i:Nat),i<n->FL.Gd (F i))/\(TEq [(10,.own 0 0),(51,.ptr 1 0)] [(10,.own 0 0),(51,.ptr 1 0)]/\wai [(0,.row 97 5 0 (λ(_x:Nat)=>[]) false),(1,.miter 2 z0 (139::z4.length::List.range z0)),(2,.amap (List.map (λ(p:AV×AV)=>(AV.rn (ren 0 [(2,0),(1,1),(0,2)]) p.1,AV.rn (ren 0 [(2,0),(1,1),(0,2)]) p.2)) z4))] [(0,.row 97 5 0 (wag (RtI.h z2)) false),(1,.miter 2 z0 (139::RtI.c0 z2::RtI.left z2)),(2,.amap z4)])/\(laF F n).length<=100000/\(∀(r:RT),r∈laF F n->r.bs.length<=1000)/\∀(h:Nat->RT),List.Perm (lst h z3) (laF F n)->z1/\97=97/\false=false/\(laF F n).length=(laF F n).length/\(laF F n).length<=1000000/\wag h=wag (rtOf (wag h))/\∀(h_1:Nat->RT),List.Perm (lst h_1 z3) (lst (rtOf (wag h)) z3)->(∀(i j:Nat),i<j->j<(laF F n).length->¬wbb (h_1 j) (h_1 i)<0)->z1/\z1/\∃(O':oL7),wai [(0,.row 97 5 z3 (wag h_1) false)] O'/\R (.own 0 z3) O'):=by kernel_rfl
theorem w3g(F:Nat->FL)(n k:Nat)(P:Nat->Prop)(R:eR7):wa1 ⟨te,[],[(7,wpl)],0,69,0⟩ (wa2 Tryz.f57 3) [3,14,15,16] [3] [] (wm4 F n) P R (wm4 F n k)=(letI z3:=ren 0 [(0,0)];letI z2:=ren 0 [(0,0),(3,1)];letI z1:=(F (k:Int).toNat).ts;wab (decide ((k:Int)<(n:Int))) (((0:Int)<=(k:Int)/\(k:Int)<(n:Int)/\7=7)/\∃(F_1:Nat->FL),∃(n_1:Nat),∃(k_1:Nat),letI z0:=(F_1 k_1).ts;∃(V:List RT),some (St.mk [(3,.map 0),(6,.map 1),(14,.view 7 n (waf F)),(15,.q (n:Int)),(16,.q (k:Int)),(22,.view 5 z1.length (wag (atT z1))),(23,.q (z1.length:Int)),(24,.q 0)] [(0,.amap (List.map (λ(p:AV×AV)=>(AV.rn z2 p.1,AV.rn z2 p.2)) (entL (laF F k)))),(1,.amap (List.map (λ(p:AV×AV)=>(AV.rn z2 p.1,AV.rn z2 p.2)) []))] 2 [])=some (St.mk [(3,.map 0),(6,.map 1),(14,.view 7 n_1 (waf F_1)),(15,.q (n_1:Int)),(16,.q (k_1:Int)),(22,.view 5 z0.length (wag (atT z0))),(23,.q (z0.length:Int)),(24,.q (↑0:Int))] [(0,.amap (entL (laI z0 V 0).1)),(1,.amap (entS (laI z0 V 0).2))] 2 [])/\V.length<=100000/\wcz V/\FL.Gd (F_1 k_1)/\inR .i64 ((k_1:Int)+1)/\∃(i':Nat),some (St.mk [(3,.map 0),(14,.view 7 n_1 (waf F_1)),(15,.q (n_1:Int)),(16,.q ((k_1:Int)+1))] [(0,.amap (List.map (λ(p:AV×AV)=>(AV.rn z3 p.1,AV.rn z3 p.2)) (entL (laI z0 V z0.length).1)))] 1 [])=some (St.mk [(3,.map 0),(14,.view 7 n (waf F)),(15,.q (n:Int)),(16,.q (i':Int))] [(0,.amap (entL (laF F i')))] 1 [])/\P i') (R (.exit 0) (St.mk [(3,.map 0)] [(0,.amap (List.map (λ(p:AV×AV)=>(AV.rn z3 p.1,AV.rn z3 p.2)) (entL (laF F k))))] 1 []))):=by kernel_rfl
theorem w3f(F:Nat->FL)(n k:Nat)(V:List RT)(j:Nat)(P:Nat->Prop)(R:eR7):wa1 ⟨te,[(108,.det wem)],[],0,69,0⟩ (wa2 Tryz.f57 7) [3,6,14,15,16,22,23,24] [3,14,15,16] [] (wh1 F n k V) P R (wh1 F n k V j)=(letI z10:=wag (atT (F k).ts);letI z7:=entL (laI (F k).ts V j).1;letI z6:=ren 0 [(0,0),(1,1)];letI z5:=(F k).ts.length;letI z3:=entS (laI (F k).ts V j).2;letI z2:=([(3,.map 0),(6,.map 1),(14,.view 7 n (waf F)),(15,.q (n:Int)),(16,.q (k:Int)),(22,.view 5 z5 z10),(23,.q (z5:Int)),(24,.q ((j:Int)+1))]:tL7);letI z1:=(inR .i64 ((j:Int)+1)/\∃(i':Nat),some (St.mk z2 [(0,.amap (List.map (λ(p:AV×AV)=>(AV.rn z6 p.1,AV.rn z6 p.2)) z7)),(1,.amap (List.map (λ(p:AV×AV)=>(AV.rn z6 p.1,AV.rn z6 p.2)) z3))] 2 [])=some (St.mk [(3,.map 0),(6,.map 1),(14,.view 7 n (waf F)),(15,.q (n:Int)),(16,.q (k:Int)),(22,.view 5 z5 z10),(23,.q (z5:Int)),(24,.q (i':Int))] [(0,.amap (entL (laI (F k).ts V i').1)),(1,.amap (entS (laI (F k).ts V i').2))] 2 [])/\P i');letI z0:=(atT (F k).ts (j:Int).toNat);letI z8:=lst (bkOf (wan (atB z0.bs))) z0.bs.length;letI z4:=([.str z0.o,.str z0.p,.q z0.per]:List AV);letI z9:=Option.getD (mget z3 (.agg z4)) (zvA (.bool false));wab (decide ((j:Int)<(z5:Int))) (((0:Int)<=(j:Int)/\(j:Int)<(z5:Int)/\5=5)/\(z0.o.length<4294967281/\wan (atB z0.bs)=wan (atB z8))/\wab (rtOK (RT.mk z0.o z0.p z0.per z0.st z8)) ((wbu te 142 z3/\.bool (wfq z9)=Option.getD (mget z3 (.agg z4)) (zvA (.bool false)))/\wab (!wfq z9) (wbu te 142 z3/\wbu te 142 z7/\inR .i64 ((j:Int)+1)/\∃(i':Nat),some (St.mk z2 [(0,.amap (List.map (λ(p:AV×AV)=>(AV.rn z6 p.1,AV.rn z6 p.2)) (mset z7 (.agg z4) (.agg [.str z0.o,.str z0.p,.q z0.per,.q z0.st,.view 2 z0.bs.length (wan (atB z0.bs))])))),(1,.amap (List.map (λ(p:AV×AV)=>(AV.rn z6 p.1,AV.rn z6 p.2)) (mset z3 (.agg z4) (.bool true))))] 2 [])=some (St.mk [(3,.map 0),(6,.map 1),(14,.view 7 n (waf F)),(15,.q (n:Int)),(16,.q (k:Int)),(22,.view 5 z5 z10),(23,.q (z5:Int)),(24,.q (i':Int))] [(0,.amap (entL (laI (F k).ts V i').1)),(1,.amap (entS (laI (F k).ts V i').2))] 2 [])/\P i') z1) z1) (R (.exit 2) (St.mk [(3,.map 0),(14,.view 7 n (waf F)),(15,.q (n:Int)),(16,.q (k:Int))] [(0,.amap (List.map (λ(p:AV×AV)=>(AV.rn (ren 0 [(0,0)]) p.1,AV.rn (ren 0 [(0,0)]) p.2)) z7))] 1 []))):=by kernel_rfl
theorem w3h(V:List RT)(i:RtI)(P:RtI->Prop)(R:eR7):wa1 ⟨te,[(109,.det wod)],[],0,69,0⟩ (wa2 Tryz.f57 16) [10,51] [10] [] (wm5 V) P R (wm5 V i)=((entL V).length=(entL V).length/\(RtI.left i=[]->(∀(i_1:Nat),i_1<RtI.c i->true=true)/\∃(O':oL7),wai [(0,.row 97 5 (RtI.c i) (wag (RtI.h i)) false)] O'/\R (.exit 4) (St.mk [(10,.own 0 (RtI.c i))] O' 1 []))/\∀(i_1:Nat),letI z2:=List.getD (entL V) i_1 (.any,.any);letI z0:=z2.2;letI z1:=was z0 (0+1+1+1+1);i_1∈RtI.left i->((entL V).length=(entL V).length/\i_1<(entL V).length/\.agg [.str (wbh (was z2.1 0)),.str (wbh (was z2.1 (0+1))),.q (wao (was z2.1 (0+1+1)))]=z2.1/\.agg [.str (wbh (was z0 0)),.str (wbh (was z0 (0+1))),.q (wao (was z0 (0+1+1))),.q (wao (was z0 (0+1+1+1))),.view (vwS z1) (vwN z1) (vwF z1)]=z2.2)/\isVw2 (.view (vwS z1) (vwN z1) (vwF z1))/\(5<=16777216/\5=5/\1<=9223372036854775807)/\((1<=1/\5=5)/\RtI.c i<=RtI.c i/\5=5/\97=97/\5=5/\RtI.c i+1<=9223372036854775807/\(RtI.c i+1) * 72<=140737488355328)/\∃(i':RtI),(TEq [(10,.own 0 (RtI.c i+1)),(51,.ptr 1 0)] [(10,.own 0 (RtI.c i')),(51,.ptr 1 0)]/\wai [(0,.row 97 5 (RtI.c i+1) (apF (RtI.c i) (wag (RtI.h i)) (wap 5 (.str (wbh (was z0 0)):: .str (wbh (was z0 (0+1))):: .q (wao (was z0 (0+1+1))):: .q (wao (was z0 (0+1+1+1))):: .view (vwS z1) (vwN z1) (vwF z1)::List.append [] (List.flatten (List.replicate (nat_lit 0) [.str ([]),.str ([]),.q 0,.q 0,.nil]))))) false),(1,.miter 2 (entL V).length (139::i_1::List.erase (RtI.left i) i_1)),(2,.amap (List.map (λ(p:AV×AV)=>(AV.rn (ren 0 [(39,0),(1,1),(2,2)]) p.1,AV.rn (ren 0 [(39,0),(1,1),(2,2)]) p.2)) (entL V)))] [(0,.row 97 5 (RtI.c i') (wag (RtI.h i')) false),(1,.miter 2 (entL V).length (139::RtI.c0 i'::RtI.left i')),(2,.amap (entL V))])/\P i'):=by kernel_rfl
theorem clU_ok(hP:C.P=Tryz.prog):wah C 109 wod:=by
 rintro args objs U Os vc h hvc;unfold wod at h;split at h<;>cases h;obtain⟨n,f,rfl,hn,hf⟩:=hvc;exact wy4 hP [.view 2 n f] [] _ _ _ rfl ⟨hn,hf⟩
theorem wjg(a b:RT):keq (keyT a) (keyT b)=sameT a b:=by simp[keyT,keq,keqL,keq0,sameT]
theorem wfo(σ:Nat->Option Nat)(V:List RT):(entL V).map (λp=>(AV.rn σ p.1,AV.rn σ p.2))=entL V:=by
 unfold entL;rw[List.map_map];rfl
theorem wym(σ:Nat->Option Nat)(V:List RT):(entS V).map (λp=>(AV.rn σ p.1,AV.rn σ p.2))=entS V:=by
 unfold entS;rw[List.map_map];rfl
theorem wlv(V:List RT):(entL V).length=V.length:=by simp[entL]
theorem entL_at{V:List RT}{i:Nat}(h:i<V.length):(entL V).getD i (.any,.any)=(keyT (atT V i),valT (atT V i)):=by
 simp[entL,atT,h]
theorem wwh(x:RT):∀M:List RT,(mget (entS M) (keyT x)).getD (.bool false)= .bool (hasS M x)
 |[]=>rfl
 |s::M=>by
  have ih:=wwh x M;show (match keq (keyT s) (keyT x) with | true=>some (AV.bool true) | false=>mget (entS M) (keyT x)).getD (.bool false)= .bool (sameT s x || hasS M x)
  rw[wjg]
  cases sameT s x with
  |true=>rfl
  |false=>exact ih
theorem wv8(y:RT):∀M:List RT,hasS M y=false->mset (entS M) (keyT y) (.bool true)=entS (M++[y])
 |[],_=>rfl
 |s::M,h=>by
  have h:(sameT s y || hasS M y)=false:=h;rw[Bool.or_eq_false_iff] at h;show (match keq (keyT s) (keyT y) with | true=>(keyT y,AV.bool true)::entS M | false=>(keyT s,AV.bool true)::mset (entS M) (keyT y) (.bool true))=_
  rw[wjg,h.1,wv8 y M h.2];rfl
theorem wv9(y:RT):∀V:List RT,mset (entL V) (keyT y) (valT y)=entL (sttT V y)
 |[]=>rfl
 |r::V=>by
  show (match keq (keyT r) (keyT y) with | true=>(keyT y,valT y)::entL V | false=>(keyT r,valT r)::mset (entL V) (keyT y) (valT y))=entL (bif sameT r y then y::V else r::sttT V y)
  rw[wjg,wv9 y V]
  cases sameT r y<;>rfl
theorem ww3{a b:RT}(h:keyT a=keyT b):sameT a b=true:=by
 have:=wjg a b;rw[← this,h,wjg];exact wq6 b
theorem ww4(a b:List UInt8)(c:Int):keyA te 142 (.agg [.str a,.str b,.q c])=true:=by kernel_rfl
theorem w7o{V:List RT}(h:wcz V):wbu te 142 (entL V):=by
 refine⟨List.all_eq_true.2 λp hp=>?_,?_⟩
 .obtain⟨r,_,rfl⟩:=List.mem_map.1 hp;exact ww4 _ _ _
 .unfold entL;rw[List.map_map];refine List.pairwise_map.2 (List.Pairwise.imp (λ{a b} hab he=>?_) h);rw[ww3 (a:=a) (b:=b) he] at hab;cases hab
theorem wyn{V:List RT}(h:wcz V):wbu te 142 (entS V):=by
 refine⟨List.all_eq_true.2 λp hp=>?_,?_⟩
 .obtain⟨r,_,rfl⟩:=List.mem_map.1 hp;exact ww4 _ _ _
 .unfold entS;rw[List.map_map];refine List.pairwise_map.2 (List.Pairwise.imp (λ{a b} hab he=>?_) h);rw[ww3 (a:=a) (b:=b) he] at hab;cases hab
theorem ww1(ts:List RT){V:List RT}(h:wcz V):∀j,wcz (laI ts V j).1/\wcz (laI ts V j).2
 |0=>⟨h,List.Pairwise.nil⟩
 |j+1=>by
  obtain⟨h1,h2⟩:=ww1 ts h j;have e:laI ts V (j+1)=(bif rtOK (atT ts j) && !hasS (laI ts V j).2 (atT ts j) then (sttT (laI ts V j).1 (atT ts j),(laI ts V j).2++[atT ts j]) else laI ts V j):=rfl
  rw[e]
  cases q:rtOK (atT ts j) && !hasS (laI ts V j).2 (atT ts j) with
  |false=>exact⟨h1,h2⟩
  |true=>
   rw[bA7,Bool.not_eq_true'] at q;refine⟨(wqx h1).1,List.pairwise_append.2 ⟨h2,List.pairwise_singleton _ _,λa ha b hb=>?_⟩⟩;rw[List.mem_singleton] at hb;rw[hb]
   cases w:sameT a (atT ts j) with
   |false=>rfl
   |true=>
    have:=wjm.2 ⟨a,ha,w⟩;rw[q.2] at this;cases this
theorem w1j(hP:C.P=Tryz.prog)(hL:∀w,C.laid w->LaidW w):waj C 0 69 (wam Tryz.f57 7) wpl:=by
 rintro st Q ⟨F,n,k,V,h0,hV,hd,hg,hQ⟩;refine waj.mk (prg hP) [(108,.det wem)] 0 (.cons (wvm hP hL) .nil) [3,6,14,15,16,22,23,24] [3,14,15,16] [] (wh1 F n k V) (λj=>j<=(F k).ts.length) (λj=>(F k).ts.length - j) 0 (zL7 _) h0 (λj hj=>?_);obtain⟨d1,d2⟩:=ww1 (F k).ts hd j;have e:laI (F k).ts V (j+1)=(bif rtOK (atT (F k).ts j) && !hasS (laI (F k).ts V j).2 (atT (F k).ts j) then (sttT (laI (F k).ts V j).1 (atT (F k).ts j),(laI (F k).ts V j).2++[atT (F k).ts j]) else laI (F k).ts V j):=rfl
 have htl:=hg.sm.t.1;have z0:zvA (.bool false)= .bool false:=rfl;rw[w3f,tN7,wgw,z0];refine wak (λq=>?_) (λq=>?_)
 .have hj2:j<(F k).ts.length:=by omega
  have rj:inR .i64 ((j:Int)+1):=by simp only[inR];omega
  refine⟨⟨by omega,by omega,rfl⟩,⟨(hg.sm.t.2 _ (wfs hj2)).o,rfl⟩,?_⟩;have hm:(mget (entS (laI (F k).ts V j).2) (.agg [.str (atT (F k).ts j).o,.str (atT (F k).ts j).p,.q (atT (F k).ts j).per])).getD (.bool false)= .bool (hasS (laI (F k).ts V j).2 (atT (F k).ts j)):=wwh _ _;rw[hm];show wab (rtOK (atT (F k).ts j)) _ _
  have same:laI (F k).ts V (j+1)=laI (F k).ts V j->inR .i64 ((j:Int)+1)/\∃(i':Nat),some (St.mk [(3,.map 0),(6,.map 1),(14,.view 7 n (waf F)),(15,.q (n:Int)),(16,.q (k:Int)),(22,.view 5 (F k).ts.length (wag (atT (F k).ts))),(23,.q ((F k).ts.length:Int)),(24,.q ((j:Int)+1))] [(0,.amap ((entL (laI (F k).ts V j).1).map λp=>(AV.rn (ren 0 [(0,0),(1,1)]) p.1,AV.rn (ren 0 [(0,0),(1,1)]) p.2))),(1,.amap ((entS (laI (F k).ts V j).2).map λp=>(AV.rn (ren 0 [(0,0),(1,1)]) p.1,AV.rn (ren 0 [(0,0),(1,1)]) p.2)))] 2 [])=
    some (wh1 F n k V i')/\i'<=(F k).ts.length/\(F k).ts.length - i'<(F k).ts.length - j:=λz=>
   ⟨rj,j+1,by rw[wfo,wym];unfold wh1;rw[z];rfl,by omega,by omega⟩
  refine waw (λh1=>⟨⟨wyn d2,rfl⟩,waw (λh2=>?_) (λh2=>?_)⟩) (λh1=>?_)
  .have h2:(!hasS (laI (F k).ts V j).2 (atT (F k).ts j))=true:=h2;have z:laI (F k).ts V (j+1)=(sttT (laI (F k).ts V j).1 (atT (F k).ts j),(laI (F k).ts V j).2++[atT (F k).ts j]):=by rw[e,h1,h2];rfl
   rw[Bool.not_eq_true'] at h2;have m1:mset (entL (laI (F k).ts V j).1) (.agg [.str (atT (F k).ts j).o,.str (atT (F k).ts j).p,.q (atT (F k).ts j).per]) (.agg [.str (atT (F k).ts j).o,.str (atT (F k).ts j).p,.q (atT (F k).ts j).per,.q (atT (F k).ts j).st,.view 2 (atT (F k).ts j).bs.length (wan (atB (atT (F k).ts j).bs))])=entL (sttT (laI (F k).ts V j).1 (atT (F k).ts j)):=wv9 _ _;have m2:mset (entS (laI (F k).ts V j).2) (.agg [.str (atT (F k).ts j).o,.str (atT (F k).ts j).p,.q (atT (F k).ts j).per]) (.bool true)=entS ((laI (F k).ts V j).2++[atT (F k).ts j]):=wv8 _ _ h2;refine⟨wyn d2,w7o d1,rj,j+1,?_,by omega,by omega⟩;rw[m1,m2,wfo,wym,z];rfl
  .have h2:(!hasS (laI (F k).ts V j).2 (atT (F k).ts j))=false:=h2;exact same (by rw[e,h1,h2];rfl)
  .exact same (by rw[e,h1];rfl)
 .obtain rfl:j=(F k).ts.length:=by omega
  rw[wfo];exact hQ
theorem w1k(hP:C.P=Tryz.prog)(hL:∀w,C.laid w->LaidW w)(F:Nat->FL)(n:Nat):waj C 0 69 (wam Tryz.f57 3) (wpm F n):=by
 rintro st Q ⟨h0,hn,hg,hQ⟩;refine waj.mkL (prg hP) [] [(7,wpl)] 0 .nil [(wam Tryz.f57 7,wpl)] (by kernel_rfl) ⟨w1j hP hL,trivial⟩ [3,14,15,16] [3] [] (wm4 F n) (λk=>k<=n) (λk=>n - k) 0 (zL7 _) h0 (λk hk=>?_);rw[w3g,tN7,wfo];have hl:=wr8 (n:=n) (λi hi=>(hg i hi).sm.t.1) k hk;refine wak (λq=>⟨⟨by omega,by omega,rfl⟩,F,n,k,laF F k,rfl,by omega,(wjf F k).1,hg k (by omega),by simp only[inR];omega,k+1,by rw[wfo];rfl,by omega,by omega⟩) (λq=>?_);obtain rfl:k=n:=by omega
 rw[wfo];exact hQ
theorem w1l(hP:C.P=Tryz.prog)(V:List RT):waj C 0 69 (wam Tryz.f57 16) (wpn V):=by
 rintro st Q ⟨h0,hn,hb,hQ⟩;refine AWP.ownNil 10 97 5 ?_;refine waj.mk (prg hP) [(109,.det wod)] 0 (.cons (clU_ok hP) .nil) [10,51] [10] [] (wm5 V) (λi=>(lst i.h i.c++i.left.map (atT V)).Perm V/\∀x∈i.left,x<V.length) (λi=>i.left.length) ⟨0,λ_=>wdf,(entL V).length,List.range (entL V).length⟩ ⟨?_,?_⟩ h0 (λi hi=>?_) (λi=>⟨λ_ _=>rfl,trivial⟩)
 .rw[wlv];show ((List.range V.length).map (atT V)).Perm V;rw[show (List.range V.length).map (atT V)=V from wgj V wdf]
 .intro x hx;have hx:x∈List.range (entL V).length:=hx;rw[wlv] at hx;exact List.mem_range.1 hx
 obtain⟨hp,hlt⟩:=hi;have hlen:i.c+i.left.length=V.length:=by
  have:=hp.length_eq;simpa[lst] using this
 rw[w3h];refine⟨rfl,λhnil=>⟨λ_ _=>rfl,_,wau _,?_⟩,λj hj=>?_⟩
 .rw[hnil] at hp hlen;have hc:i.c=V.length:=by simpa using hlen
  rw[hc] at hp ⊢;exact hQ i.h (by simpa using hp)
 .have hjl:=hlt j hj;rw[entL_at hjl,wfo,wlv];have herase:(i.left.erase j).length+1=i.left.length:=by
   rw[List.length_erase_of_mem hj];have:=List.length_pos_of_mem hj;omega
  refine⟨⟨rfl,hjl,rfl,rfl⟩,⟨_,_,rfl,?_,λ_ _=>rfl⟩,⟨by omega,rfl,by omega⟩,⟨⟨lR7 _,rfl⟩,lR7 _,rfl,rfl,rfl,by omega,?_⟩,⟨i.c+1,λk=>if k<i.c then i.h k else atT V j,j,i.left.erase j⟩,⟨rfl,⟨rfl,rfl,rfl,rfl,rfl,λk hk=>?_⟩,?_,rfl,trivial⟩,⟨?_,λx hx=>hlt x (List.mem_of_mem_erase hx)⟩,?_⟩
  .have:=hb _ (wfs hjl);show (atT V j).bs.length<=100000;omega
  .show (i.c+1) * 72<=_;omega
  .have hk:k<i.c+1:=hk;unfold apF wag
   by_cases h:k<i.c
   .simp only[h,if_true]
   .have:k=i.c:=by omega
    subst this;simp only[Nat.lt_irrefl,if_false,Nat.sub_self];rfl
  .rfl
  .show (lst (λk=>if k<i.c then i.h k else atT V j) (i.c+1)++(i.left.erase j).map (atT V)).Perm V
   rw[wwr];have e1:lst (λk=>if k<i.c then i.h k else atT V j) i.c=lst i.h i.c:=List.map_congr_left λk hk=>by
    rw[if_pos (List.mem_range.1 hk)]
   rw[e1,if_neg (Nat.lt_irrefl _),List.append_assoc,List.singleton_append, ← List.map_cons];exact((List.perm_cons_erase hj).map (atT V)).symm.append_left _ |>.trans hp
  .show (i.left.erase j).length<i.left.length;omega
theorem w0l(hP:C.P=Tryz.prog):wa4 C 110 wor:=by
 have _:C.Loose:=inferInstance;rintro args objs R h;unfold wor at h;split at h
 .rename_i n t m f fr;obtain⟨rfl,rfl,rfl,hn,hf,hR⟩:=h;generalize rtOf f=g at *;subst hf
  have hS:=wal.sortV (C:=C) (λr:RT=>[.str r.o,.str r.p,.q r.per,.q r.st,.view 2 r.bs.length (wan (atB r.bs))]) 5 (λ_=>rfl) (λ_=>rfl) wbb (t:=97) (fS:=110) (g:=111)
   ⟨_,hP ▸ Tryz.func110,rfl,by decide⟩
   (λα _ ev pr hk ho blk cap d w h1 h2 h3 h4=>by
    rw[hP] at h1 ⊢;exact AnyQ.slices_SortFunc Tryz.sort110 5 Tryz.isAgg97 Tryz.sizeOf97 ev hk ho (λa b=>wbb (pr a) (pr b)) (wkd (wge.comap pr)) 111 #[] blk 0 cap d w (enters_of Tryz.func111 (by kernel_rfl) rfl) h1 h2 h3 h4)
   (λp cap fv w=>by
    rw[hP];exact AnyF.slices_SortFunc_none Tryz.sort110 p cap fv w)
   (λx y=>tcmp_ok (C:=Ctx.bare C.P C.mixed) hP x y) (n:=n) g (by omega)
  refine hS.mono ?_;rintro u O ⟨rfl,f',hp,hs,rfl⟩;exact hR f' hp hs
 .exact h.elim
theorem ww2{F:Nat->FL}{r:RT}{n:Nat}(h:r∈laF F n):∃i,i<n/\r∈(F i).ts:=by
 have h:=((wjf F n).2 r).1 h;have key:∀ {ts:List RT} {s:RT} {j:Nat},j<=ts.length->fstT ts s j=some r->r∈ts:=λ{ts s j}=>by
  induction j with
  |zero=>intro _ h;cases h
  |succ j ih=>
   intro hj h;rw[wxq] at h
   cases q:fstT ts s j with
   |some y=>rw[q] at h;exact ih (by omega) (q.trans h)
   |none=>
    rw[q] at h;dsimp only at h
    cases z:rtOK (atT ts j) && sameT (atT ts j) s with
    |false=>rw[z] at h;cases h
    |true=>
     rw[z] at h;obtain rfl:=oJ7 h;exact wfs (by omega)
 have key2:∀n,wd3 F r n=some r->∃i,i<n/\r∈(F i).ts:=λn=>by
  induction n with
  |zero=>intro h;cases h
  |succ n ih=>
   intro h;rw[wd3] at h
   cases q:fstT (F n).ts r (F n).ts.length with
   |some y=>
    rw[q] at h;exact⟨n,by omega,key (lR7 _) (q.trans h)⟩
   |none=>
    rw[q] at h;obtain⟨i,hi,r⟩:=ih h;exact⟨i,by omega,r⟩
 exact key2 n h
theorem raV_ok(hP:C.P=Tryz.prog)(hL:∀w,C.laid w->LaidW w):wah C 57 wf0:=by
 rintro args objs U Os vc h hvc;unfold wf0 at h;split at h<;>cases h;rename_i n f;obtain⟨hn,hf,hg⟩:=hvc;generalize flOf f=F at *;subst hf;refine wal.frzO 0 ?_
 refine wa4.wpL (prg hP) [(110,.rel wor)] [(3,wpm F n),(16,wpn (laF F n))] 0 (.cons (w0l hP) .nil) (hP ▸ Tryz.func57) rfl rfl rfl
  [(wam Tryz.f57 3,wpm F n),(wam Tryz.f57 16,wpn (laF F n))] (by kernel_rfl) ⟨w1k hP hL F n,w1l hP _,trivial⟩ ?_
 rw[nf_ra,wfo,wlv];have hl:=wr8 (n:=n) (λi hi=>(hg i hi).sm.t.1) n (lR7 n);refine⟨rfl,hn,hg,⟨rfl,⟨rfl,rfl,rfl,rfl,rfl,λi hi=>absurd hi (nZ7 i)⟩,rfl,rfl,trivial⟩,by omega,λr hr=>?_,λh hp=>⟨λ_ _=>rfl,rfl,rfl,rfl,by omega,by rw[wfb],λh1 hp1 hs1=>?_⟩⟩
 .obtain⟨i,hi,q⟩:=ww2 hr;exact((hg i hi).rg.t r q).n
 .rw[wfb] at hp1;have e:lst h1 (laF F n).length=rfT F n n:=w6j (hp1.trans hp) (wvr λi j hij hj=>hs1 i j hij hj);have el:(laF F n).length=(rfT F n n).length:=by rw[← e];simp[lst]
  refine⟨λ_ _=>rfl,λ_ _=>rfl,[(0,.row 97 5 (laF F n).length (wag (atT (rfT F n n))) false)],⟨⟨rfl,rfl,rfl,rfl,rfl,λi hi=>?_⟩,trivial⟩,?_⟩
  .unfold wag;rw[(lst_at e wdf).2 i hi];rfl
  .rw[el];have hb:Nat.ble (rfT F n n).length (rfT F n n).length=true:=Nat.ble_eq_true_of_le (lR7 _);refine⟨λ_ _=>rfl,?_,rfl⟩;simp[frzC,frzA,frz,hb]
end Go.Eng
namespace Go.Eng
open Go.Proofs Go.RowKit
variable {C:Ctx} [C.Loose]
set_option maxRecDepth 20000
theorem nf_earl(a b:RT)(R:oR7):wpFn te [] [] 0 Tryz.f112 [.agg [.str a.o,.str a.p,.q a.per,.q a.st,.view 2 a.bs.length (wan (atB a.bs))],.agg [.str b.o,.str b.p,.q b.per,.q b.st,.view 2 b.bs.length (wan (atB b.bs))]] [] R=(wab (!decide (a.o=b.o)) (R (.bool (Op.bytesLess a.o b.o)) []) (wab (!decide (a.p=b.p)) (R (.bool (Op.bytesLess a.p b.p)) []) (R (.bool (decide (a.per<b.per))) []))):=by kernel_rfl
theorem nf_rb(F:Nat->FL)(n:Nat)(R:oR7):wpFn te [] [(3,wpj F n)] 0 Tryz.f58 [.view 7 n (waf F)] [] R=(inR .i64 ((n:Int) - (1:Int))/\(TEq [(0,.view 7 n (waf F)),(3,.own 0 0),(4,.q ((n:Int) - (1:Int)))] [(0,.view 7 n (waf F)),(3,.own 0 0),(4,.q ((n:Int) - (1:Int) - (↑0:Int)))]/\wai [(0,.row 97 5 0 (λ(_x:Nat)=>[]) false)] [(0,.row 97 5 0 (wag (atT (rfT F n 0))) false)])/\n<=50/\(∀(i:Nat),i<n->FL.Gd (F i))/\(∀(i:Nat),i<(rfT F n n).length->true=true)/\∃(O':oL7),wai [(0,.row 97 5 (rfT F n n).length (wag (atT (rfT F n n))) false)] O'/\R (.own 0 (rfT F n n).length) O'):=by kernel_rfl
theorem w3a(F:Nat->FL)(n m:Nat)(P:Nat->Prop)(R:eR7):wa1 ⟨te,[],[(6,wpi)],0,71,0⟩ (wa2 Tryz.f58 3) [0,3,4] [3] [] (wm2 F n) P R (wm2 F n m)=(letI z3:=(rfT F n m).length;letI z1:=([(0,.row 97 5 z3 (wag (atT (rfT F n m))) false)]:oL7);letI z0:=(F ((n:Int) - (1:Int) - (m:Int)).toNat).ts;wab (decide ((0:Int)<=(n:Int) - (1:Int) - (m:Int))) (((0:Int)<=(n:Int) - (1:Int) - (m:Int)/\(n:Int) - (1:Int) - (m:Int)<(n:Int)/\7=7)/\∃(F_1:Nat->FL),∃(n_1:Nat),∃(c:Int),∃(ts:List RT),letI z2:=ts.length;∃(L:List RT),(TEq [(0,.view 7 n (waf F)),(3,.own 0 z3),(4,.q ((n:Int) - (1:Int) - (m:Int))),(20,.view 5 z0.length (wag (atT z0))),(21,.q (z0.length:Int)),(22,.q 0)] [(0,.view 7 n_1 (waf F_1)),(3,.own 0 (rfI ts L 0).length),(4,.q c),(20,.view 5 z2 (wag (atT ts))),(21,.q (z2:Int)),(22,.q (↑0:Int))]/\wai z1 [(0,.row 97 5 (rfI ts L 0).length (wag (atT (rfI ts L 0))) false)])/\L.length<=100000/\ts.length<=1000/\(∀(t:RT),t∈ts->RT.Sm t)/\inR .i64 (c - (1:Int))/\∃(i':Nat),(TEq [(0,.view 7 n_1 (waf F_1)),(3,.own 0 (rfI ts L z2).length),(4,.q (c - (1:Int)))] [(0,.view 7 n (waf F)),(3,.own 0 (rfT F n i').length),(4,.q ((n:Int) - (1:Int) - (i':Int)))]/\wai [(0,.row 97 5 (rfI ts L z2).length (wag (atT (rfI ts L z2))) false)] [(0,.row 97 5 (rfT F n i').length (wag (atT (rfT F n i'))) false)])/\P i') ((∀(i:Nat),i<(rfT F n m).length->true=true)/\∃(O':oL7),wai z1 O'/\R (.exit 0) (St.mk [(3,.own 0 z3)] O' 1 []))):=by kernel_rfl
theorem w29(F:Nat->FL)(n:Nat)(c:Int)(ts L:List RT)(j:Nat)(P:Nat->Prop)(R:eR7):wa1 ⟨te,[(78,.det wem),(112,.det wh9)],[(10,wpk)],0,71,0⟩ (wa2 Tryz.f58 6) [0,3,4,20,21,22] [0,3,4] [] (wm1 F n c ts L) P R (wm1 F n c ts L j)=(letI z14:=([.str ([]),.str ([]),.q 0,.q 0,.nil]:List AV);letI z13:=wag (atT ts);letI z11:=ts.length;letI z8:=(rfI ts L j).length;letI z15:=([(0,.row 97 5 z8 (wag (atT (rfI ts L j))) false)]:oL7);letI z4:=(z11:Int);letI z2:=(atT ts (j:Int).toNat);letI z12:=lst (bkOf (wan (atB z2.bs))) z2.bs.length;wab (decide ((j:Int)<z4)) (((0:Int)<=(j:Int)/\(j:Int)<z4/\5=5)/\(z2.o.length<4294967281/\wan (atB z2.bs)=wan (atB z12))/\wab (!rtOK (RT.mk z2.o z2.p z2.per z2.st z12)) (inR .i64 ((j:Int)+1)/\∃(i':Nat),(TEq [(0,.view 7 n (waf F)),(3,.own 0 z8),(4,.q c),(20,.view 5 z11 z13),(21,.q z4),(22,.q ((j:Int)+1))] [(0,.view 7 n (waf F)),(3,.own 0 (rfI ts L i').length),(4,.q c),(20,.view 5 z11 z13),(21,.q z4),(22,.q (i':Int))]/\wai z15 [(0,.row 97 5 (rfI ts L i').length (wag (atT (rfI ts L i'))) false)])/\P i') (∃(F_1:Nat->FL),∃(n_1:Nat),∃(c_1:Int),∃(ts_1:List RT),letI z10:=ts_1.length;∃(L_1:List RT),letI z9:=L_1.length;∃(r:RT),letI z5:=([.str r.o,.str r.p,.q r.per,.q r.st,.view 2 r.bs.length (wan (atB r.bs))]:List AV);letI z1:=(↑(plT L_1 r):Int);letI z16:=((0:Int)<=z1/\z1<=(z9:Int):Prop);letI z7:=L_1.length - z1.toNat;letI z3:=atT L_1 z1.toNat;∃(j_1:Nat),letI z0:=((0<=16777216/\5=5/\0<=9223372036854775807)/\z16/\((z1.toNat<=L_1.length/\5=5)/\0<=0/\5=5/\97=97/\5=5/\0+z1.toNat<=9223372036854775807/\(0+z1.toNat) * 72<=140737488355328)/\(5<=16777216/\5=5/\1<=9223372036854775807)/\((1<=1/\5=5)/\0+z1.toNat<=0+z1.toNat/\5=5/\97=97/\5=5/\0+z1.toNat+1<=9223372036854775807/\(0+z1.toNat+1) * 72<=140737488355328)/\z16/\((z1.toNat+z7<=L_1.length/\5=5/\5=5)/\0+z1.toNat+1<=0+z1.toNat+1/\5=5/\97=97/\5=5/\0+z1.toNat+1+z7<=9223372036854775807/\(0+z1.toNat+1+z7) * 72<=140737488355328)/\inR .i64 ((j_1:Int)+1)/\∃(i':Nat),(TEq [(0,.view 7 n_1 (waf F_1)),(3,.own 0 (0+z1.toNat+1+z7)),(4,.q c_1),(20,.view 5 z10 (wag (atT ts_1))),(21,.q (z10:Int)),(22,.q ((j_1:Int)+1))] [(0,.view 7 n (waf F)),(3,.own 0 (rfI ts L i').length),(4,.q c),(20,.view 5 z11 z13),(21,.q z4),(22,.q (i':Int))]/\wai [(0,.row 97 5 (0+z1.toNat+1+z7) (apF (0+z1.toNat+1) (apF (0+z1.toNat) (apF 0 (wap 5 (List.flatten (List.replicate 0 z14))) (wag (atT L_1))) (wap 5 (.str r.o:: .str r.p:: .q r.per:: .q r.st:: .view 2 r.bs.length (wan (atB r.bs))::List.append [] (List.flatten (List.replicate (nat_lit 0) z14))))) λ(i:Nat)=>letI z6:=atT L_1 (z1.toNat+i);[.str z6.o,.str z6.p,.q z6.per,.q z6.st,.view 2 z6.bs.length (wan (atB z6.bs))]) false)] [(0,.row 97 5 (rfI ts L i').length (wag (atT (rfI ts L i'))) false)])/\P i':Prop);(TEq [(0,.view 7 n (waf F)),(3,.own 0 z8),(4,.q c),(6,.ptr 1 0),(7,.q 0),(20,.view 5 z11 z13),(21,.q z4),(22,.q (j:Int))] [(0,.view 7 n_1 (waf F_1)),(3,.own 0 z9),(4,.q c_1),(6,.ptr 1 0),(7,.q (↑0:Int)),(20,.view 5 z10 (wag (atT ts_1))),(21,.q (z10:Int)),(22,.q (j_1:Int))]/\wai [(0,.row 97 5 z8 (wag (atT (rfI ts L j))) false),(1,.cells [.str z2.o,.str z2.p,.q z2.per,.q z2.st,.view 2 z2.bs.length (wan (atB z2.bs))] 97)] [(0,.row 97 5 z9 (wag (atT L_1)) false),(1,.cells z5 97)])/\L_1.length<=200000/\wab (decide (z1<(z9:Int))) (((0:Int)<=z1/\z1<(z9:Int))/\(z1.toNat<L_1.length/\5=5)/\(∃(x:RT),∃(y:RT),isRt (.agg z5) x/\isRt (.agg [.str z3.o,.str z3.p,.q z3.per,.q z3.st,.view 2 z3.bs.length (wan (atB z3.bs))]) y)/\wab (!decide (wbb (RT.mk r.o r.p r.per r.st []) (RT.mk z3.o z3.p z3.per z3.st [])<0)) (inR .i64 ((j_1:Int)+1)/\∃(i':Nat),(TEq [(0,.view 7 n_1 (waf F_1)),(3,.own 0 z9),(4,.q c_1),(20,.view 5 z10 (wag (atT ts_1))),(21,.q (z10:Int)),(22,.q ((j_1:Int)+1))] [(0,.view 7 n (waf F)),(3,.own 0 (rfI ts L i').length),(4,.q c),(20,.view 5 z11 z13),(21,.q z4),(22,.q (i':Int))]/\wai [(0,.row 97 5 z9 (wag (atT L_1)) false)] [(0,.row 97 5 (rfI ts L i').length (wag (atT (rfI ts L i'))) false)])/\P i') z0) z0)) ((∀(i:Nat),i<(rfI ts L j).length->true=true)/\∃(O':oL7),wai z15 O'/\R (.exit 2) (St.mk [(0,.view 7 n (waf F)),(3,.own 0 z8),(4,.q c)] O' 1 []))):=by kernel_rfl
theorem w3b(F:Nat->FL)(n:Nat)(c:Int)(ts L:List RT)(r:RT)(j a:Nat)(P:Nat->Prop)(R:eR7):wa1 ⟨te,[(112,.det wh9)],[],0,71,0⟩ (wa2 Tryz.f58 10) [0,3,4,6,7,20,21,22] [0,3,4,6,7,20,21,22] [] (wh0 F n c ts L r j) P R (wh0 F n c ts L r j a)=(letI z5:=L.length;letI z4:=ts.length;letI z3:=([.str r.o,.str r.p,.q r.per,.q r.st,.view 2 r.bs.length (wan (atB r.bs))]:List AV);letI z2:=(atT L (a:Int).toNat);letI z0:=([(0,.row 97 5 z5 (wag (atT L)) false),(1,.cells z3 97)]:oL7);letI z1:=((∀(i:Nat),i<L.length->true=true)/\∃(O':oL7),wai z0 O'/\R (.exit 4) (St.mk [(0,.view 7 n (waf F)),(3,.own 0 z5),(4,.q c),(6,.ptr 1 0),(7,.q (a:Int)),(20,.view 5 z4 (wag (atT ts))),(21,.q (z4:Int)),(22,.q (j:Int))] O' 2 []):Prop);wab (decide ((a:Int)<(z5:Int))) (((0:Int)<=(a:Int)/\(a:Int)<(z5:Int))/\((a:Int).toNat<L.length/\5=5)/\(∃(x:RT),∃(y:RT),isRt (.agg [.str z2.o,.str z2.p,.q z2.per,.q z2.st,.view 2 z2.bs.length (wan (atB z2.bs))]) x/\isRt (.agg z3) y)/\wab (decide (wbb (RT.mk z2.o z2.p z2.per z2.st []) (RT.mk r.o r.p r.per r.st [])<0)) (inR .i64 ((a:Int)+1)/\∃(i':Nat),(TEq [(0,.view 7 n (waf F)),(3,.own 0 z5),(4,.q c),(6,.ptr 1 0),(7,.q ((a:Int)+1)),(20,.view 5 z4 (wag (atT ts))),(21,.q (z4:Int)),(22,.q (j:Int))] [(0,.view 7 n (waf F)),(3,.own 0 z5),(4,.q c),(6,.ptr 1 0),(7,.q (i':Int)),(20,.view 5 z4 (wag (atT ts))),(21,.q (z4:Int)),(22,.q (j:Int))]/\wai z0 z0)/\P i') z1) z1):=by kernel_rfl
theorem earl_at(hP:C.P=Tryz.prog)(a b:RT):ADet C 112 [.agg [.str a.o,.str a.p,.q a.per,.q a.st,.view 2 a.bs.length (wan (atB a.bs))],.agg [.str b.o,.str b.p,.q b.per,.q b.st,.view 2 b.bs.length (wan (atB b.bs))]] [] (.bool (decide (wbb a b<0))) []:=by
 have _:C.Loose:=inferInstance;refine wah.wp0 (prg hP) [] 0 .nil (hP ▸ Tryz.func112) rfl rfl rfl ?_;rw[nf_earl];have e:wbb a b=if cmpS a.o b.o=0 then (if cmpS a.p b.p=0 then cmpI a.per b.per else cmpS a.p b.p) else cmpS a.o b.o:=by
  unfold wbb;simp only[orL]
  by_cases h1:cmpS a.o b.o=0
  .by_cases h2:cmpS a.p b.p=0
   .by_cases h3:cmpI a.per b.per=0<;>simp[h1,h2,h3]
   .simp[h1,h2]
  .simp[h1]
 rw[e];refine wa7 (λh1=>?_) (λh1=>wa7 (λh2=>?_) (λh2=>?_))
 .rw[if_neg (λq=>h1 (wcx.1 q))];refine⟨?_,rfl⟩;have:= @wgt a.o b.o
  cases q:Op.bytesLess a.o b.o with
  |true=>rw[decide_eq_true (this.2 q)]
  |false=>rw[decide_eq_false (λk=>by rw[this.1 k] at q;cases q)]
 .rw[if_pos (wcx.2 h1),if_neg (λq=>h2 (wcx.1 q))];refine⟨?_,rfl⟩;have:= @wgt a.p b.p
  cases q:Op.bytesLess a.p b.p with
  |true=>rw[decide_eq_true (this.2 q)]
  |false=>rw[decide_eq_false (λk=>by rw[this.1 k] at q;cases q)]
 .rw[if_pos (wcx.2 h1),if_pos (wcx.2 h2)];refine⟨?_,rfl⟩;have:=we4 a.per b.per
  by_cases q:a.per<b.per
  .rw[decide_eq_true q,decide_eq_true (show cmpI a.per b.per<0 by omega)]
  .rw[decide_eq_false q,decide_eq_false (show ¬ cmpI a.per b.per<0 by omega)]
theorem w7a{α:Type}(A B:List α)(d:α)(i:Nat):(A++B).getD i d=if i<A.length then A.getD i d else B.getD (i - A.length) d:=by
 rw[List.getD_eq_getElem?_getD,List.getElem?_append];split<;>rw[List.getD_eq_getElem?_getD]
theorem atT_ins{L:List RT}{r:RT}{p:Nat}(hp:p<=L.length)(i:Nat):atT (L.take p++r::L.drop p) i=if i<p then atT L i else if i=p then r else atT L (i - 1):=by
 have hl:(L.take p).length=p:=by rw[List.length_take];omega
 unfold atT;rw[w7a,hl]
 by_cases h:i<p
 .rw[if_pos h,if_pos h];simp[List.getD_eq_getElem?_getD,h]
 .rw[if_neg h,if_neg h]
  by_cases e:i=p
  .subst e;rw[if_pos rfl,Nat.sub_self];rfl
  .rw[if_neg e];obtain⟨k,hk⟩:∃k,i - p=k+1:=⟨i - p - 1,by omega⟩;rw[hk,List.getD_cons_succ,List.getD_eq_getElem?_getD,List.getElem?_drop,List.getD_eq_getElem?_getD,show p+k=i - 1 by omega]
theorem ww8{L:List RT}{r:RT}{p:Nat}(hp:p<=L.length){c d e:Nat->List AV}(hd:d 0=rtC r)(he:∀i,e i=rtC (atT L (p+i)))(i:Nat):
  apF (0+p+1) (apF (0+p) (apF 0 c (wag (atT L))) d) e i=wag (atT (L.take p++r::L.drop p)) i∨0+p+1+(L.length - p)<=i:=by
 refine .inl ?_;show _=rtC (atT (L.take p++r::L.drop p) i);rw[atT_ins hp];unfold apF
 by_cases h:i<p
 .rw[if_pos (by omega),if_pos (by omega),if_neg (nZ7 _),if_pos h];rfl
 .by_cases h2:i=p
  .rw[if_pos (by omega),if_neg (by omega),if_neg h,if_pos h2,show i - (0+p)=0 by omega];exact hd
  .rw[if_neg (by omega),if_neg h,if_neg h2,he,show p+(i - (0+p+1))=i - 1 by omega]
theorem w6v(L:List RT)(r:RT):(insT L r).length<=L.length+1:=by
 unfold insT
 cases decide (plT L r<L.length) && !decide (wbb r (atT L (plT L r))<0) with
 |true=>rw[cond_true];omega
 |false=>rw[cond_false,lA7,List.length_cons,List.length_take,List.length_drop];omega
theorem wrh(ts L:List RT):∀j,(rfI ts L j).length<=L.length+j
 |0=>lR7 _
 |j+1=>by
  have a:=wrh ts L j;have b:=w6v (rfI ts L j) (atT ts j);show (bif rtOK (atT ts j) then insT (rfI ts L j) (atT ts j) else rfI ts L j).length<=_
  cases rtOK (atT ts j) with
  |true=>rw[cond_true];omega
  |false=>rw[cond_false];omega
theorem wrg{F:Nat->FL}{n:Nat}(h:∀i,i<n->(F i).ts.length<=1000):∀m,m<=n->(rfT F n m).length<=1000 * m
 |0,_=>lR7 _
 |m+1,hm=>by
  have a:=wrg h m (by omega);have b:=h (n - 1 - m) (by omega);have c:=wrh (F (n - 1 - m)).ts (rfT F n m) (F (n - 1 - m)).ts.length;show (rfI _ _ _).length<=_;omega
theorem wyq(hP:C.P=Tryz.prog):wah C 112 wh9:=by
 rintro args objs U Os vc h hvc;unfold wh9 at h;split at h<;>cases h;rename_i a b;obtain⟨x,y,hx,hy⟩:=hvc;unfold isRt rtC at hx hy
 cases hx;cases hy;exact earl_at hP x y
theorem w1g(hP:C.P=Tryz.prog):waj C 0 71 (wam Tryz.f58 10) wpk:=by
 rintro st Q ⟨F,n,c,ts,L,r,j,h0,hn,hQ⟩;obtain⟨p1,p2,p3⟩:=wrn L r;refine waj.mk (prg hP) [(112,.det wh9)] 0 (.cons (wyq hP) .nil) [0,3,4,6,7,20,21,22] [0,3,4,6,7,20,21,22] [] (wh0 F n c ts L r j) (λa=>a<=plT L r) (λa=>L.length - a) 0 (zL7 _) h0 (λa ha=>?_) (λi=>⟨λ_ _=>rfl,trivial⟩);rw[w3b,tN7];have stop:¬ a<plT L r->Q (.exit 4) (wh0 F n c ts L r j a):=λh=>by
  have:a=plT L r:=by omega
  rw[this];exact hQ
 refine wak (λh1=>⟨⟨by omega,by omega⟩,⟨by omega,rfl⟩,⟨atT L a,r,rfl,rfl⟩,?_⟩) (λh1=>⟨λ_ _=>rfl,_,wau _,stop (by omega)⟩)
 show wab (decide (wbb (atT L a) r<0)) _ _;refine wak (λh2=>⟨by simp only[inR];omega,a+1,⟨rfl,wau _⟩,?_,by omega⟩) (λh2=>⟨λ_ _=>rfl,_,wau _,stop λq=>h2 (p2 a q)⟩)
 by_cases q:a=plT L r
 .exact absurd h2 (by rw[q];exact p3 (by omega))
 .omega
theorem w1e(hP:C.P=Tryz.prog)(_hL:∀w,C.laid w->LaidW w):waj C 0 71 (wam Tryz.f58 6) wpi:=by
 rintro st Q ⟨F,n,c,ts,L,h0,hl,ht,hs,hQ⟩;refine waj.mkL (prg hP) [(78,.det wem),(112,.det wh9)] [(10,wpk)] 0 (.cons (w1i hP) (.cons (wyq hP) .nil)) [(wam Tryz.f58 10,wpk)] (by kernel_rfl) ⟨w1g hP,trivial⟩ [0,3,4,20,21,22] [0,3,4] [] (wm1 F n c ts L) (λj=>j<=ts.length) (λj=>ts.length - j) 0 (zL7 _) h0 (λj hj=>?_) (λi=>⟨λ_ _=>rfl,trivial⟩);rw[w29,tN7,wgw];have rl:=wrh ts L j;refine wak (λq=>?_) (λq=>?_)
 .have hj2:j<ts.length:=by omega
  have rj:inR .i64 ((j:Int)+1):=by simp only[inR];omega
  refine⟨⟨by omega,by omega,rfl⟩,⟨(hs _ (wfs hj2)).o,rfl⟩,?_⟩;show wab (!rtOK (atT ts j)) _ _;have e:rfI ts L (j+1)=(bif rtOK (atT ts j) then insT (rfI ts L j) (atT ts j) else rfI ts L j):=rfl
  generalize hG:rfI ts L j=G at *;generalize hr:atT ts j=r at *;refine waw (λz=>?_) (λz=>?_)
  .rw[Bool.not_eq_true'] at z;rw[z,cond_false] at e;exact⟨rj,j+1,⟨by rw[e];rfl,⟨rfl,rfl,rfl,by rw[e],rfl,λi hi=>by rw[e]⟩,trivial⟩,by omega,by omega⟩
  .rw[Bool.not_eq_false'] at z;rw[z,cond_true] at e;refine⟨F,n,c,ts,G,r,j,⟨rfl,rQ7,rfl,trivial⟩,by omega,?_⟩;obtain⟨p1,p2,p3⟩:=wrn G r;unfold insT at e;generalize plT G r=p at *;rw[tN7];have put:∀ {X:Prop},rfI ts L (j+1)=G.take p++r::G.drop p->((rfI ts L (j+1)).length=0+p+1+(G.length - p)->X)->X:=λ{X} e h=>h (by
    rw[e,lA7,List.length_cons,List.length_take,List.length_drop];omega)
   refine wak (λh1=>⟨⟨by omega,by omega⟩,⟨by omega,rfl⟩,⟨r,atT G p,rfl,rfl⟩,?_⟩) (λh1=>?_)
   .show wab (!decide (wbb r (atT G p)<0)) _ _;rw[decide_eq_true (show p<G.length by omega),Bool.true_and] at e;refine wa7 (λh2=>?_) (λh2=>?_)
    .rw[decide_eq_false h2,Bool.not_false,cond_true] at e;exact⟨rj,j+1,⟨by rw[e];rfl,⟨rfl,rfl,rfl,by rw[e],rfl,λi hi=>by rw[e]⟩,trivial⟩,by omega,by omega⟩
    .rw[decide_eq_true h2,Bool.not_true,cond_false] at e;refine put e λel=>⟨⟨by omega,rfl,by omega⟩,⟨by omega,by omega⟩,⟨⟨by omega,rfl⟩,lR7 _,rfl,rfl,rfl,by omega,?_⟩,⟨by omega,rfl,by omega⟩,⟨⟨by omega,rfl⟩,lR7 _,rfl,rfl,rfl,by omega,?_⟩,⟨by omega,by omega⟩,⟨⟨by omega,rfl,rfl⟩,lR7 _,rfl,rfl,rfl,by omega,?_⟩,rj,j+1,⟨by rw[el];rfl,⟨rfl,rfl,rfl,el.symm,rfl,λi hi=>?_⟩,trivial⟩,by omega,by omega⟩
     .show _ * 72<=_;omega
     .show _ * 72<=_;omega
     .show _ * 72<=_;omega
     .rw[e];exact(ww8 p1 (by rfl) (λ_=>rfl) i).elim id (λh=>absurd hi (by omega))
   .rw[decide_eq_false (show ¬ p<G.length by omega),Bool.false_and,cond_false] at e;refine put e λel=>⟨⟨by omega,rfl,by omega⟩,⟨by omega,by omega⟩,⟨⟨by omega,rfl⟩,lR7 _,rfl,rfl,rfl,by omega,?_⟩,⟨by omega,rfl,by omega⟩,⟨⟨by omega,rfl⟩,lR7 _,rfl,rfl,rfl,by omega,?_⟩,⟨by omega,by omega⟩,⟨⟨by omega,rfl,rfl⟩,lR7 _,rfl,rfl,rfl,by omega,?_⟩,rj,j+1,⟨by rw[el];rfl,⟨rfl,rfl,rfl,el.symm,rfl,λi hi=>?_⟩,trivial⟩,by omega,by omega⟩
    .show _ * 72<=_;omega
    .show _ * 72<=_;omega
    .show _ * 72<=_;omega
    .rw[e];exact(ww8 p1 (by rfl) (λ_=>rfl) i).elim id (λh=>absurd hi (by omega))
 .obtain rfl:j=ts.length:=by omega
  exact⟨λ_ _=>rfl,_,wau _,hQ⟩
theorem w1f(hP:C.P=Tryz.prog)(hL:∀w,C.laid w->LaidW w)(F:Nat->FL)(n:Nat):waj C 0 71 (wam Tryz.f58 3) (wpj F n):=by
 rintro st Q ⟨h0,hn,hg,hQ⟩;refine AWP.ownNil 3 97 5 ?_;refine waj.mkL (prg hP) [] [(6,wpi)] 0 .nil [(wam Tryz.f58 6,wpi)] (by kernel_rfl) ⟨w1e hP hL,trivial⟩ [0,3,4] [3] [] (wm2 F n) (λm=>m<=n) (λm=>n - m) 0 (zL7 _) h0 (λm hm=>?_) (λi=>⟨λ_ _=>rfl,trivial⟩);have al:=wrg (n:=n) (λi hi=>(hg i hi).sm.t.1) m hm;rw[w3a];refine wak (λq=>?_) (λq=>?_)
 .have et:((n:Int) - 1 - (m:Int)).toNat=n - 1 - m:=by omega
  have ec:(n:Int) - 1 - (m:Int) - 1=(n:Int) - 1 - ((m+1:Nat):Int):=by omega
  have hG:=hg (n - 1 - m) (by omega);rw[et];exact⟨⟨by omega,by omega,rfl⟩,F,n,_,(F (n - 1 - m)).ts,rfT F n m,⟨rfl,rQ7,trivial⟩,by omega,hG.sm.t.1,hG.sm.t.2,by simp only[inR];omega,m+1,⟨by rw[ec];rfl,rQ7,trivial⟩,by omega,by omega⟩
 .obtain rfl:m=n:=by omega
  exact⟨λ_ _=>rfl,_,wau _,hQ⟩
theorem rbV_ok(hP:C.P=Tryz.prog)(hL:∀w,C.laid w->LaidW w):wah C 58 wf0:=by
 rintro args objs U Os vc h hvc;unfold wf0 at h;split at h<;>cases h;rename_i n f;obtain⟨hn,hf,hg⟩:=hvc;generalize flOf f=F at *;subst hf;refine wal.frzO 0 ?_;refine wa4.wpL (prg hP) [] [(3,wpj F n)] 0 .nil (hP ▸ Tryz.func58) rfl rfl rfl [(wam Tryz.f58 3,wpj F n)] (by kernel_rfl) ⟨w1f hP hL F n,trivial⟩ ?_;rw[nf_rb,Int.sub_zero];refine⟨by simp only[inR];omega,⟨rfl,⟨rfl,rfl,rfl,rfl,rfl,λi hi=>absurd hi (nZ7 i)⟩,trivial⟩,hn,hg,λ_ _=>rfl,_,wau _,?_⟩;have hb:Nat.ble (rfT F n n).length (rfT F n n).length=true:=Nat.ble_eq_true_of_le (lR7 _);refine⟨λ_ _=>rfl,?_,rfl⟩;simp[frzC,frzA,frz,hb]
end Go.Eng
namespace Go.Eng
def flT(t:RT):FL:=⟨[],0,0,0,[],[],[t]⟩
def eqTs(g h:Nat->RT):Nat->Bool
 |0=>true
 |k+1=>eqTs g h k && decide (encF (flT (g k))=encF (flT (h k)))
def wkn(f:Nat->List AV)(n:Nat):Prop:=∀i,i<n->f i=wag (rtOf f) i
def wn6:Spec
 |[.agg [.str id,.int .i64 ver,.int .i64 day,.int .i64 kind,.nil,.nil,.view 5 nt ft]],[]=>some (.str (encF ⟨id,ver,day,kind,[],[],lst (rtOf ft) nt⟩),[],wkn ft nt/\FL.Rg ⟨id,ver,day,kind,[],[],lst (rtOf ft) nt⟩)
 |_,_=>none
def S_st(g h:Nat->RT)(n k:Nat):St:=⟨[(0,.view 5 n (wag g)),(1,.view 5 n (wag h)),(12,.q n),(13,.q k)],[],0,[]⟩
def L_st(g h:Nat->RT)(n:Nat):war:=λst Q=>canonIs te 0 [0,1,12,13] st (S_st g h n 0)/\n<=1000000/\(∀i,i<n->(flT (g i)).Rg)/\(∀i,i<n->(flT (h i)).Rg)/\
 wab (eqTs g h n) (Q (.exit 0) ⟨[],[],0,[]⟩) (Q .ret ⟨[(4,.bool false)],[],0,[]⟩)
def wmu:Spec
 |[.view 5 n f,.view 5 m h],[]=>some (.bool (decide (n=m) && eqTs (rtOf f) (rtOf h) n),[],n<=1000000/\f=wag (rtOf f)/\h=wag (rtOf h)/\(∀i,i<n->(flT (rtOf f i)).Rg)/\∀i,i<m->(flT (rtOf h i)).Rg)
 |_,_=>none
def Up1(u u':AV):Prop:=u'=u∨(u= .nil/\∃(sz:Nat) (g:Nat->List AV),u'= .view sz 0 g)
theorem V.up1{w:World}{M:Nat->Prop}{bs:Nat->Option Hd}{v:Value}{u u':AV}(h:V w M bs v u)(e:Up1 u u'):V w M bs v u':=by
 rcases e with rfl | ⟨rfl,sz,g,rfl⟩
 .exact h
 .exact V.nilv (sz:=sz) (f:=g) h
def Up2(u u':AV):Prop:=Up1 u u'∨∃(sz n:Nat) (f f':Nat->List AV),u= .view sz n f/\u'= .view sz n f'/\∀i,i<n->f' i=f i
def Up2L:List AV->List AV->Prop
 |[],[]=>True
 |a::l,b::m=>Up2 a b/\Up2L l m
 |_,_=>False
theorem Up2L.len:∀ {l m:List AV},Up2L l m->m.length=l.length
 |[],[],_=>rfl
 |_::l,_::m,h=>by rw[List.length_cons,List.length_cons,Up2L.len h.2]
 |[],_::_,h=>h.elim
 |_::_,[],h=>h.elim
theorem Up2L.at:∀ {l m:List AV},Up2L l m->∀ {j:Nat} {u':AV},m[j]?=some u'->∃u,l[j]?=some u/\Up2 u u'
 |[],[],_,j,u',h=>by simp at h
 |a::l,b::m,hu,0,u',h=>by
  simp only[List.getElem?_cons_zero,sI7] at h;subst h;exact⟨a,rfl,hu.1⟩
 |a::l,b::m,hu,j+1,u',h=>by
  rw[List.getElem?_cons_succ] at h ⊢;exact Up2L.at hu.2 h
 |[],_::_,hu,_,_,_=>hu.elim
 |_::_,[],hu,_,_,_=>hu.elim
theorem V.viewEq{w:World}{M:Nat->Prop}{bs:Nat->Option Hd}{v:Value}{sz n:Nat}{f f':Nat->List AV}(h:V w M bs v (.view sz n f))(hf:∀i,i<n->f' i=f i):V w M bs v (.view sz n f'):=by
 cases h with
 |view ad cv hn hcm hA hl hc h1 hv=>exact .view ad cv hn hcm hA (λi hi=>by rw[hf i hi];exact hl i hi) hc h1 (λi hi j u hu=>hv i hi j u (by rw[← hf i hi];exact hu))
theorem V.up2{w:World}{M:Nat->Prop}{bs:Nat->Option Hd}{v:Value}{u u':AV}(h:V w M bs v u)(e:Up2 u u'):V w M bs v u':=by
 rcases e with e | ⟨sz,n,f,f',rfl,rfl,hf⟩
 .exact h.up1 e
 .exact h.viewEq hf
theorem wal.upAgg{C:Ctx}{g:FuncId}{cs ds:List AV}{objs:List AObj}{R:AV->List (Nat×AObj)->Prop}(hu:Up2L cs ds)(h:wal C g [.agg ds] objs R):wal C g [.agg cs] objs R:=by
 refine⟨h.1,λE bs w cargs h1 h2 h3 h4 h5 h6 h7=>?_⟩;refine h.2 E bs w cargs h1 h2 h3 h4 h5 h6 λj v u hv hj=>?_
 cases j with
 |succ j=>simp at hj
 |zero=>
  simp only[List.getElem?_cons_zero,sI7] at hj;subst hj;have q:=h7 0 v _ hv rfl
  cases q with
  |agg hl h1 hv=>
   refine .agg (hl.trans hu.len.symm) h1 λj v u hj hu'=>?_;obtain⟨u0,a,b⟩:=hu.at hu';exact(hv j v u0 hj a).up2 b
end Go.Eng
namespace Go.Eng
open Go.Proofs Go.RowKit
variable {C:Ctx} [C.Loose]
set_option maxRecDepth 20000
theorem nf_stF(g h:Nat->RT)(n m:Nat)(R:oR7):wpFn te [] [(4,L_st g h n)] 0 Tryz.f56 [.view 5 n (wag g),.view 5 m (wag h)] [] R=(wab (!decide ((n:Int)=(m:Int))) (R (.bool false) []) (some (St.mk [(0,.view 5 n (wag g)),(1,.view 5 m (wag h)),(12,.q (n:Int)),(13,.q 0)] [] 0 [])=some (St.mk [(0,.view 5 n (wag g)),(1,.view 5 n (wag h)),(12,.q (n:Int)),(13,.q (↑0:Int))] [] 0 [])/\n<=1000000/\(∀(i:Nat),i<n->FL.Rg (flT (g i)))/\(∀(i:Nat),i<n->FL.Rg (flT (h i)))/\wab (eqTs g h n) (R (.bool true) []) (R (.bool false) []))):=by kernel_rfl
theorem w2t(g h:Nat->RT)(n k:Nat)(P:Nat->Prop)(R:eR7):wa1 ⟨te,[(34,.det wn6)],[],0,32,0⟩ (wa2 Tryz.f56 4) [0,1,12,13] [] [4] (S_st g h n) P R (S_st g h n k)=(letI z3:=((0:Int)<=(k:Int)/\(k:Int)<=(k:Int)+1/\(k:Int)+1<=(n:Int)/\5=5:Prop);letI z2:=(((k:Int)+1).toNat - (k:Int).toNat);letI z1:=(FL.mk [] (0:Int) (0:Int) (0:Int) [] [] (lst (rtOf λ(i:Nat)=>[.str (h ((k:Int).toNat+i)).o,.str (h ((k:Int).toNat+i)).p,.q (h ((k:Int).toNat+i)).per,.q (h ((k:Int).toNat+i)).st,.view 2 (h ((k:Int).toNat+i)).bs.length (wan (atB (h ((k:Int).toNat+i)).bs))]) z2));letI z0:=(FL.mk [] (0:Int) (0:Int) (0:Int) [] [] (lst (rtOf λ(i:Nat)=>[.str (g ((k:Int).toNat+i)).o,.str (g ((k:Int).toNat+i)).p,.q (g ((k:Int).toNat+i)).per,.q (g ((k:Int).toNat+i)).st,.view 2 (g ((k:Int).toNat+i)).bs.length (wan (atB (g ((k:Int).toNat+i)).bs))]) z2));wab (decide ((k:Int)<(n:Int))) (inR .i64 ((k:Int)+1)/\z3/\(wkn (λ(i:Nat)=>[.str (g ((k:Int).toNat+i)).o,.str (g ((k:Int).toNat+i)).p,.q (g ((k:Int).toNat+i)).per,.q (g ((k:Int).toNat+i)).st,.view 2 (g ((k:Int).toNat+i)).bs.length (wan (atB (g ((k:Int).toNat+i)).bs))]) z2/\FL.Rg z0)/\inR .i64 ((k:Int)+1)/\z3/\(wkn (λ(i:Nat)=>[.str (h ((k:Int).toNat+i)).o,.str (h ((k:Int).toNat+i)).p,.q (h ((k:Int).toNat+i)).per,.q (h ((k:Int).toNat+i)).st,.view 2 (h ((k:Int).toNat+i)).bs.length (wan (atB (h ((k:Int).toNat+i)).bs))]) z2/\FL.Rg z1)/\wab (!decide (encF z0=encF z1)) (R .ret (St.mk [(4,.bool false)] [] 0 [])) (inR .i64 ((k:Int)+1)/\∃(i':Nat),some (St.mk [(0,.view 5 n (wag g)),(1,.view 5 n (wag h)),(12,.q (n:Int)),(13,.q ((k:Int)+1))] [] 0 [])=some (St.mk [(0,.view 5 n (wag g)),(1,.view 5 n (wag h)),(12,.q (n:Int)),(13,.q (i':Int))] [] 0 [])/\P i')) (R (.exit 0) (St.mk [] [] 0 []))):=by kernel_rfl
theorem encN_ok(hP:C.P=Tryz.prog):wah C 34 wn6:=by
 rintro args objs U Os vc h hvc;unfold wn6 at h;split at h<;>cases h;rename_i id ver day kind nt ft;obtain⟨hf,hr⟩:=hvc;have hl:(lst (rtOf ft) nt).length=nt:=by simp[lst]
 have hg:∀i,i<nt->wag (atT (lst (rtOf ft) nt)) i=ft i:=λi hi=>by
  rw[hf i hi];unfold wag;rw[show atT (lst (rtOf ft) nt) i=rtOf ft i by simp[atT,lst,hi]]
 generalize lst (rtOf ft) nt=K at *;have q:=encR_ok hP [.agg [.str id,.q ver,.q day,.q kind,.view 15 0 (wad (atM [])),.view 5 0 (wae (atR [])),.view 5 K.length (wag (atT K))]] [] _ _ _ rfl ⟨whm ⟨id,ver,day,kind,[],[],K⟩,by
  have e:=wgp ⟨id,ver,day,kind,[],[],K⟩;rw[show flV id ver day kind 0 (wad (atM [])) 0 (wae (atR [])) K.length (wag (atT K))=⟨id,ver,day,kind,[],[],K⟩ from e];exact hr⟩
 rw[show flV id ver day kind 0 (wad (atM [])) 0 (wae (atR [])) K.length (wag (atT K))=⟨id,ver,day,kind,[],[],K⟩ from wgp ⟨id,ver,day,kind,[],[],K⟩,hl] at q;exact wal.upAgg (ds:=[.str id,.q ver,.q day,.q kind,.view 15 0 (wad (atM [])),.view 5 0 (wae (atR [])),.view 5 nt (wag (atT K))]) ⟨.inl (.inl rfl),.inl (.inl rfl),.inl (.inl rfl),.inl (.inl rfl),.inl (.inr ⟨rfl,_,_,rfl⟩),.inl (.inr ⟨rfl,_,_,rfl⟩),.inr ⟨_,_,_,_,rfl,rfl,hg⟩,trivial⟩ q
theorem st_of(g:Nat->RT)(k:Nat):(rtOf λi=>[.str (g (k+i)).o,.str (g (k+i)).p,.q (g (k+i)).per,.q (g (k+i)).st,.view 2 (g (k+i)).bs.length (wan (atB (g (k+i)).bs))])=λi=>g (k+i):=wfb λi=>g (k+i)
theorem st_lst(g:Nat->RT)(k:Nat):lst (rtOf λi=>[.str (g (k+i)).o,.str (g (k+i)).p,.q (g (k+i)).per,.q (g (k+i)).st,.view 2 (g (k+i)).bs.length (wan (atB (g (k+i)).bs))]) (((k:Int)+1).toNat - k)=[g k]:=by
 rw[st_of,show ((k:Int)+1).toNat - k=1 by omega];rfl
theorem st_okF(g:Nat->RT)(k n:Nat):wkn (λi=>[.str (g (k+i)).o,.str (g (k+i)).p,.q (g (k+i)).per,.q (g (k+i)).st,.view 2 (g (k+i)).bs.length (wan (atB (g (k+i)).bs))]) n:=λi _=>by
 rw[st_of];rfl
theorem wx7{g h:Nat->RT}{j:Nat}(e:(eqTs g h j && decide (encF (flT (g j))=encF (flT (h j))))=false):∀n,j<n->eqTs g h n=false
 |0,hn=>by omega
 |n+1,hn=>by
  by_cases q:j=n
  .subst q;exact e
  .show (eqTs g h n && _)=false;rw[wx7 e n (by omega)];rfl
theorem wx8(g:Nat->RT):∀n,eqTs g g n=true
 |0=>rfl
 |n+1=>by
  show (eqTs g g n && decide (encF (flT (g n))=encF (flT (g n))))=true;rw[wx8 g n,decide_eq_true rfl];rfl
theorem st_loop(hP:C.P=Tryz.prog)(g h:Nat->RT)(n:Nat):waj C 0 32 (wam Tryz.f56 4) (L_st g h n):=by
 rintro st Q ⟨h0,hn,hg,hh,hQ⟩;have hR:=wbv hQ;refine waj.mk (prg hP) [(34,.det wn6)] 0 (.cons (encN_ok hP) .nil) [0,1,12,13] [] [4] (S_st g h n) (λk=>k<=n/\eqTs g h k=true) (λk=>n - k) 0 ⟨zL7 _,rfl⟩ h0 (λk hk=>?_);obtain⟨hkn,hok⟩:=hk;rw[w2t,tN7,st_lst,st_lst];refine wak (λq=>?_) (λq=>?_)
 .have rk:inR .i64 ((k:Int)+1):=by simp only[inR];omega
  refine⟨rk,⟨by omega,by omega,by omega,rfl⟩,⟨st_okF g k _,hg k (by omega)⟩,rk,⟨by omega,by omega,by omega,rfl⟩,⟨st_okF h k _,hh k (by omega)⟩,?_⟩;show wab (!decide (encF (flT (g k))=encF (flT (h k)))) _ _;refine wa7 (λz=>?_) (λz=>⟨rk,k+1,rfl,⟨by omega,?_⟩,by omega⟩)
  .exact hR.2 (wx7 (j:=k) (by rw[hok,decide_eq_false z];rfl) n (by omega))
  .show (eqTs g h k && decide (encF (flT (g k))=encF (flT (h k))))=true;rw[hok,decide_eq_true z];rfl
 .have:k=n:=by omega
  subst this;exact hR.1 hok
theorem w0v(hP:C.P=Tryz.prog):wah C 56 wmu:=by
 rintro args objs U Os vc hh hvc;unfold wmu at hh;split at hh<;>simp only[sI7,pI7,reduceCtorEq] at hh;rename_i n f m h;obtain⟨rfl,rfl,rfl⟩:=hh;obtain⟨hn,hf,hh,hg,hj⟩:=hvc;generalize rtOf f=g at *;generalize rtOf h=g' at *;subst hf hh;refine wah.wpL (prg hP) [] [(4,L_st g g' n)] 0 .nil (hP ▸ Tryz.func56) rfl rfl rfl [(wam Tryz.f56 4,L_st g g' n)] (by kernel_rfl) ⟨st_loop hP g g' n,trivial⟩ ?_;rw[nf_stF];refine wa7 (λq=>?_) (λq=>?_)
 .rw[decide_eq_false (show ¬ n=m by omega)];exact⟨rfl,rfl⟩
 .obtain rfl:n=m:=by omega
  refine⟨rfl,hn,hg,hj,?_⟩;rw[decide_eq_true rfl,Bool.true_and]
  cases eqTs g g' n<;>exact⟨rfl,rfl⟩
theorem nf_pl(g:Nat->FL)(m n:Nat)(v:Nat->Int)(R:oR7):wpFn te [(38,.rel woz),(28,.det wm3),(51,.det wf3),(52,.det wf3),(25,.det wmv),(54,.det wfz),(55,.det wfz),(53,.det wmw),(57,.det wf0),(58,.det wf0),(56,.det wmu),(31,.det wok)] [] 3 Tryz.f14 [.view 7 m (waf g),.view 1 n (wac v)] [] R=(letI z17:=cutG (flOf (waf g));letI z11:=R (.bool false) [];letI z0:=flOf (waf z17);letI z7:=cbR (ctnR z0 (min m 6));letI z14:=rwOf (wae (atR z7));letI z6:=mrgF (ctnM z0 (min m 6));letI z13:=mgOf (wad (atM z6));letI z5:=rfT z0 (min m 6) (min m 6);letI z12:=wag (atT z5);letI z2:=(min m 6<=50/\waf z17=waf z0/\∀(i:Nat),i<min m 6->FL.Gd (flOf (waf z17) i));waf g=waf (flOf (waf g))/\27=27/\1=1/\wac v=wac (vInt (wac v))/\((0:Int)<=0/\(0:Int)<=4611686018427300000)/\∀(L:List FL) (a':Int),letI z4:=L.length;letI z1:=flOf (waf (atF L));letI z10:=wag (atT (rfT z1 z4 z4));letI z9:=cbR (ctnR z1 z4);letI z16:=rwOf (wae (atR z9));letI z8:=mrgF (ctnM z1 z4);letI z15:=mgOf (wad (atM z8));letI z3:=(L.length<=50/\waf (atF L)=waf z1/\∀(i:Nat),i<L.length->FL.Gd (flOf (waf (atF L)) i));L.length<=8->(0:Int)<=a'/\a'<=0+25000->(∀(F:FL),F∈L->FL.Tn F)->(2<=16777216/\1=1/\2<=9223372036854775807)/\((0:Int)<=0/\(0:Int)<(↑2:Int))/\(0<2/\1=1)/\z2/\z2/\(z6.length<=1000000/\wad (atM z6)=wad z13/\wad (atM z6)=wad z13)/\wab (!(decide (z6.length=z6.length) && eqMs z13 z13 z6.length)) z11 (z2/\z2/\(z7.length<=1000000/\wae (atR z7)=wae z14/\wae (atR z7)=wae z14)/\wab (!(decide (z7.length=z7.length) && wcv z14 z14 z7.length)) z11 (z2/\z2/\(z5.length<=1000000/\wag (atT z5)=wag (rtOf z12)/\wag (atT z5)=wag (rtOf z12)/\(∀(i:Nat),i<z5.length->FL.Rg (flT (rtOf z12 i)))/\∀(i:Nat),i<z5.length->FL.Rg (flT (rtOf z12 i)))/\wab (!(decide (z5.length=z5.length) && eqTs (rtOf z12) (rtOf z12) z5.length)) z11 (inR .i64 ((0:Int)+1)/\((0:Int)<=0+1/\(0:Int)+1<(↑2:Int))/\(1<2/\1=1)/\z3/\z3/\(z8.length<=1000000/\wad (atM z8)=wad z15/\wad (atM z8)=wad z15)/\wab (!(decide (z8.length=z8.length) && eqMs z15 z15 z8.length)) z11 (z3/\z3/\(z9.length<=1000000/\wae (atR z9)=wae z16/\wae (atR z9)=wae z16)/\wab (!(decide (z9.length=z9.length) && wcv z16 z16 z9.length)) z11 (z3/\z3/\((rfT z1 z4 z4).length<=1000000/\wag (atT (rfT z1 z4 z4))=wag (rtOf z10)/\wag (atT (rfT z1 z4 z4))=wag (rtOf z10)/\(∀(i:Nat),i<(rfT z1 z4 z4).length->FL.Rg (flT (rtOf z10 i)))/\∀(i:Nat),i<(rfT z1 z4 z4).length->FL.Rg (flT (rtOf z10 i)))/\wab (!(decide ((rfT z1 z4 z4).length=(rfT z1 z4 z4).length) && eqTs (rtOf z10) (rtOf z10) (rfT z1 z4 z4).length)) z11 (inR .i64 ((0:Int)+1+1)/\True/\R (.bool true) []))))))):=by kernel_rfl
theorem pl_m(F:Nat->FL)(n:Nat):(!(decide ((mrgF (ctnM F n)).length=(mrgF (ctnM F n)).length) && eqMs (atM (mrgF (ctnM F n))) (atM (mrgF (ctnM F n))) (mrgF (ctnM F n)).length))=false:=by rw[wyc,decide_eq_true rfl];rfl
theorem pl_r(L:List RW):(!(decide ((cbR L).length=(cbR L).length) && wcv (atR (cbR L)) (atR (cbR L)) (cbR L).length))=false:=by rw[wya,decide_eq_true rfl];rfl
theorem pl_t(L:List RT):(!(decide (L.length=L.length) && eqTs (atT L) (atT L) L.length))=false:=by rw[wx8,decide_eq_true rfl];rfl
theorem cbR_len(L:List RW):(cbR L).length<=L.length:=by
 unfold cbR wcl
 cases decide (svF (atR L) L.length=0) with
 |false=>exact zL7 _
 |true=>
  rw[cond_true,show (srtR (wa3 (atR L) L.length)).length=(wa3 (atR L) L.length).length from(List.mergeSort_perm _ _).length_eq];exact wqr _ _
theorem flT_rg{t:RT}(h:t.Tn):(flT t).Rg:=by
 have:(flT t).Tn:=⟨zL7 _,by show inR .i64 0;simp only[inR];omega,by show inR .i64 0;simp only[inR];omega,⟨zL7 _,λm hm=>by cases hm⟩,⟨zL7 _,λm hm=>by cases hm⟩,⟨by show 1<=1000;omega,λx hx=>by
  have hx:x∈[t]:=hx;rw[List.mem_singleton] at hx;rw[hx];exact h⟩⟩
 exact this.gd.rg
structure PlF (F:Nat->FL) (n:Nat):Prop where
 hn:n<=50
 gd:∀i,i<n->(F i).Gd
 m:(mrgF (ctnM F n)).length<=1000000
 r:(cbR (ctnR F n)).length<=1000000
 t:(rfT F n n).length<=1000000
 rg:∀i,i<(rfT F n n).length->(flT (atT (rfT F n n) i)).Rg
theorem plF{F:Nat->FL}{n:Nat}(hn:n<=8)(h:∀i,i<n->(F i).Tn):PlF F n:=by
 have gd:∀i,i<n->(F i).Gd:=λi hi=>(h i hi).gd;have a:=whq (n:=n) (λi hi=>(gd i hi).sm.m.1) n (lR7 n);have b:=whp (n:=n) (λi hi=>(gd i hi).sm.r.1) n (lR7 n);have c:=wrg (n:=n) (λi hi=>(gd i hi).sm.t.1) n (lR7 n);have d:=wwb (ctnM F n);have e:=cbR_len (ctnR F n);refine⟨by omega,gd,by omega,by omega,by omega,λi hi=>?_⟩;have hm:=wfs hi;generalize atT (rfT F n n) i=x at *;obtain⟨k,hk,hx⟩:=ww2 (((wjf F n).2 x).2 (wvi.1 hm));exact flT_rg ((h k hk).t.2 x hx)
theorem pl_ok(hP:C.P=Tryz.prog)(hL:∀w,C.laid w->LaidW w)(m:Nat)(g:Nat->FL)(hR:∀i,i<m->(g i).Ri)(n:Nat)(v:Nat->Int):ADet C 14 [.view 7 m (waf g),.view 1 n (wac v)] [] (.bool true) []:=by
 refine wah.wp0 (prg hP) [(38,.rel woz),(28,.det wm3),(51,.det wf3),(52,.det wf3),(25,.det wmv),(54,.det wfz),(55,.det wfz),(53,.det wmw),(57,.det wf0),(58,.det wf0),(56,.det wmu),(31,.det wok)] 3 (.cons (w6a hP) (.cons (w1h hP) (.cons (pm_ok hP hL) (.cons (qm_ok hP) (.cons (w0x hP) (.cons (pr_ok hP hL) (.cons (qr_ok hP hL) (.cons (w0z hP) (.cons (raV_ok hP hL) (.cons (rbV_ok hP hL) (.cons (w0v hP) (.cons (w8x hP hL) .nil)))))))))))) (hP ▸ Tryz.func14) rfl rfl rfl ?_;rw[nf_pl];refine⟨by rw[wxx],rfl,rfl,rfl,⟨by omega,by omega⟩,λL a hl ha hT=>?_⟩
 repeat rw[wxx]
 repeat rw[wrx]
 repeat rw[wq9]
 repeat rw[wfb]
 have A:=plF (F:=cutG g) (n:=min m 6) (by omega) (λi hi=>cutF_tn (hR i (by omega)));have B:=plF (F:=atF L) (n:=L.length) hl (λi hi=>hT _ (wte hi))
 repeat rw[pl_m]
 repeat rw[pl_r]
 repeat rw[pl_t]
 repeat rw[condP_false]
 exact⟨⟨by omega,rfl,by omega⟩,⟨by omega,by omega⟩,⟨by omega,rfl⟩,⟨A.hn,rfl,A.gd⟩,⟨A.hn,rfl,A.gd⟩,⟨A.m,rfl,rfl⟩,⟨A.hn,rfl,A.gd⟩,⟨A.hn,rfl,A.gd⟩,⟨A.r,rfl,rfl⟩,⟨A.hn,rfl,A.gd⟩,⟨A.hn,rfl,A.gd⟩,⟨A.t,rfl,rfl,A.rg,A.rg⟩,by simp only[inR];omega,⟨by omega,by omega⟩,⟨by omega,rfl⟩,
  ⟨B.hn,rfl,B.gd⟩,⟨B.hn,rfl,B.gd⟩,⟨B.m,rfl,rfl⟩,⟨B.hn,rfl,B.gd⟩,⟨B.hn,rfl,B.gd⟩,⟨B.r,rfl,rfl⟩,⟨B.hn,rfl,B.gd⟩,⟨B.hn,rfl,B.gd⟩,⟨B.t,rfl,rfl,B.rg,B.rg⟩,by simp only[inR];omega,trivial,rfl,rfl⟩
end Go.Eng
namespace Go.Eng
open Go.Proofs Go.RowKit Go.ChangeShapes Go.WideShapes Go.ChangeAt
theorem params_Pp:Tryz.f14.params=#[51,23]:=by kernel_rfl
set_option maxRecDepth 100000 in
theorem w6c(os:Os)(started:os.Started)(H:Type)(enc:TypeId×Value->H):
  ReturnsInHanded {} Tryz.checked os 14 .any (λw args=>(Go.Proofs.YtgcboligphndhaaGreatDoor.Rows.vintagePartsSpec.pre enc Tryz.prog Tryz.f14 [] false w args/\laidMetH Tryz.prog Go.Proofs.YtgcboligphndhaaGreatDoor.Rows.vintagePartsRow.laid w)/\sizedMet enc Tryz.prog Tryz.f14 (OpenSpec.ofChange Go.Proofs.YtgcboligphndhaaGreatDoor.Rows.vintagePartsSpec) false w args)
   (Go.Proofs.YtgcboligphndhaaGreatDoor.Rows.vintagePartsSpec.post enc Tryz.prog Tryz.f14 false true false false):=by
 refine w66 (C:=Tryz.checked) (X:=λw _=>laidMetH Tryz.prog Go.Proofs.YtgcboligphndhaaGreatDoor.Rows.vintagePartsRow.laid w) (λ_ _ _ hh h=>h.of_heap hh) ownK started (by kernel_rfl) Tryz.func14
  (ChangeSpec.witness_at (enc:=enc) (C:=Tryz.checked) (os:=os) (X:=λw _=>laidMetH Tryz.prog Go.Proofs.YtgcboligphndhaaGreatDoor.Rows.vintagePartsRow.laid w) false (wwy os) #[.slice none 0 0,.slice none 0 0] 8 rfl (by kernel_rfl) (by kernel_rfl) (by kernel_rfl) (by kernel_rfl) (by kernel_rfl) (w6h os _)) ?_
 intro W base args ds gs before hval0 hW hL hsh;have hval:∀(j:Nat) t v,Tryz.f14.params[j]?=some t->args[j]?=some v->Value.okWide Tryz.prog W .any base t v:=hval0;have hW':=hW;obtain⟨p,q,hA0,hV,rfl,hfz,hnd⟩:=hW;have hA:DataW.TrodAll enc Tryz.prog W 0 (λ_=>true) true Tryz.f14.params.toList args.toList ds p:=hA0;rw[params_Pp] at hA hval;obtain⟨v0,vs0,d0,ds0,p0,q0,hargs,rfl,rfl,h0,r0⟩:=trodAll_cons hA;obtain⟨v1,vs1,d1,ds1,p1,q1,rfl,rfl,rfl,h1,r1⟩:=trodAll_cons r0;obtain⟨rfl,rfl,rfl⟩:=trodAll_nil r1;obtain rfl:args=#[v0,v1]:=by cases args;simp_all
 obtain⟨rfl,rfl⟩:=trodVars_none hV;obtain⟨a0,len0,cap0,rfl⟩:=okWide_slice undFls (hval 0 51 v0 rfl rfl);obtain⟨a1,len1,cap1,rfl⟩:=okWide_slice undIs (hval 1 23 v1 rfl rfl);have k0:=h0;have k1:=h1;have lt0:∀x∈p0,x.block<W.heap.size:=by obtain⟨m,hm⟩:=k0;exact DataW.trod_lt m _ _ _ hm
 have lt1:∀x∈p1,x.block<W.heap.size:=by obtain⟨m,hm⟩:=k1;exact DataW.trod_lt m _ _ _ hm
 obtain⟨m0,hm0⟩:=h0;obtain⟨m1,hm1⟩:=h1;obtain⟨A0,n0,c0,g0,e0,V0,R0⟩:=w1b hm0;have e0:[Value.slice a0 len0 cap0]=[Value.slice A0 n0 c0]:=e0;simp only[List.cons.injEq,and_true] at e0;rw[← e0] at V0;obtain⟨A1,n1,c1,w1,e1,V1⟩:=w1a hm1;have e1:[Value.slice a1 len1 cap1]=[Value.slice A1 n1 c1]:=e1;simp only[List.cons.injEq,and_true] at e1;rw[← e1] at V1;have lw:=w6i hL hsh;refine(ADet.top (C:=cx) (pl_ok rfl (λ_ h=>h) n0 g0 R0 n1 w1) lw (gsz_le lw) (cargs:=[.slice a0 len0 cap0,.slice a1 len1 cap1]) rfl (λj x u hx hu=>?_)).mono λe W' ⟨he,bel⟩=>?_
 .match j with
  |0=>obtain rfl:=Option.some.inj hx;obtain rfl:=Option.some.inj hu;exact V0
  |1=>obtain rfl:=Option.some.inj hx;obtain rfl:=Option.some.inj hu;exact V1
  |j+2=>simp at hx
 .subst he;exact⟨_,rfl,_,_,_,[],_,[],hW',trodAll_mk1 (shut_bool (show Tryz.prog.underlying 4=some .bool by kernel_rfl) _),(trodAll_cons_mk (Below.trod wr7 (by kernel_rfl) (of_decide_eq_true (by kernel_rfl)) k0 bel lt0) (trodAll_cons_mk (Below.trod wr7 (by kernel_rfl) (of_decide_eq_true (by kernel_rfl)) k1 bel lt1) trodAll_mk0)),rfl,bel.frame _,λh=>by cases h⟩
set_option maxRecDepth 100000 in
theorem over_Pp:Go.Proofs.YtgcboligphndhaaGreatDoor.Rows.vintagePartsRow.holds Go.Proofs.YtgcboligphndhaaGreatDoor.Tryz.pinned (OpenSpec.ofChange Go.Proofs.YtgcboligphndhaaGreatDoor.Rows.vintagePartsSpec):=
 OpenClaim.holds_of_wide 14 Tryz.f14 rfl rfl rfl rfl rfl rfl rfl ⟨rfl,rfl,rfl,rfl,rfl⟩ rfl rfl rfl rfl rfl (by kernel_rfl) Tryz.func14 w8c
  inst_Pp (by unfold Func.isWrapper;rw[if_neg (of_decide_eq_false (by kernel_rfl))];exact⟨rfl,rfl⟩)
  (λos started H enc _=>w6c os started H enc)
end Go.Eng
namespace Go.Proofs.YtgcboligphndhaaGreatDoor
open Go
def harB : Bool × String := (true, "40fb3bd35b79f194dc6e91eb15eecf1db62dc7e1bded180275d4dc3755fccfaf")
set_option maxRecDepth 100000 in
theorem mainB:Tryz.prog.mainIs=some (harB.1,harB.2.toList):=by kernel_rfl
set_option maxRecDepth 100000 in
theorem looksB:true=Tryz.prog.looks []:=by kernel_rfl
end Go.Proofs.YtgcboligphndhaaGreatDoor
namespace Go.Proofs.YtgcboligphndhaaGreatDoor
open Go
set_option maxRecDepth 100000 in
theorem wf_Pp:Rows.vintagePartsRow.wfByText (OpenSpec.ofChange Rows.vintagePartsSpec)=true:=by kernel_rfl
set_option maxRecDepth 100000 in
theorem goes_Pp:false=Rows.vintagePartsRow.goesBy Tryz.prog:=by kernel_rfl
theorem w5j : Tryz.prog.funcNamed "priceoffice/priceofficelaw15.VintageParts" = some 14 := by kernel_rfl
theorem w0g:Tryz.prog.wantsStandIn 51=false:=by kernel_rfl
theorem w0f:Tryz.prog.wantsStandIn 23=false:=by kernel_rfl
theorem card_Pp:Rows.VintagePartsCardSaid:=
 Claim7.holds_tied_plain_at .later [] [.data,.data,.data,.data,.sentinel,.sentinel,.pinned] true harB true
  Go.Eng.over_Pp (λ_ h=>by cases h) wf_Pp (λ_ h=>by cases h) vintageParts_row_tie rfl ⟨rfl,rfl⟩ mainB rfl
  (λf fn hf hfn=>by
   obtain rfl:f=14:=Option.some.inj (w5j.symm.trans hf) |>.symm;obtain rfl:fn=Tryz.f14:=(Option.some.inj (Tryz.func14.symm.trans hfn)).symm;exact⟨looksB,λj t ht=>by
    rw[Go.Eng.params_Pp] at ht;have h3:t=51∨t=23:=by
     rcases j with _ | _ | j
     .exact .inl (by simpa using ht.symm)
     .exact .inr ((by simpa using ht.symm))
     .simp at ht
    rcases h3 with rfl | rfl
    .exact w0g
    .exact w0f⟩)
  goes_Pp
end Go.Proofs.YtgcboligphndhaaGreatDoor
