/- The reference: slots, series, states, disputes. -/
import Derived.Test.YtmcdngcjakjnmaaGreatDoorJvze
namespace Go.Eng
open Go.Proofs Go.RowKit
variable {C:Ctx} [C.Loose]
set_option maxRecDepth 20000
theorem w1e(V:List SL)(s:SL)(i:Nat)(P:Nat->Prop)(Q:eR7):wat ⟨te,[(85,.det wod)],[],0,56,0⟩ (wav Tryz.f47 3) [0,9,10] [0,9,10] [] (who V s) P Q (who V s i)=(letI z2:=(atS V ((i:Int) - (1:Int)).toNat);letI z0:=([(0,.cells [.str (SL.o s),.str (SL.p s),.q (SL.per s),.q 0,.q 0,.q 0,.str []] 43)]:oL7);letI z1:=(Q (.exit 0) (St.mk [(0,.view 7 V.length (waj V)),(9,.ptr 0 0),(10,.q (i:Int))] z0 1 []));wab (decide ((0:Int)<(i:Int))) (inR .i64 ((i:Int) - (1:Int))/\((0:Int)<=(i:Int) - (1:Int)/\(i:Int) - (1:Int)<(V.length:Int)/\7=7)/\True/\wab (decide (ordS (SL.mk (SL.o s) (SL.p s) (SL.per s)) (SL.mk (SL.o z2) (SL.p z2) (SL.per z2))<0)) (inR .i64 ((i:Int) - (1:Int))/\∃(i':Nat),some (St.mk [(0,.view 7 V.length (waj V)),(9,.ptr 0 0),(10,.q ((i:Int) - (1:Int)))] z0 1 [])=some (St.mk [(0,.view 7 V.length (waj V)),(9,.ptr 0 0),(10,.q (i':Int))] z0 1 [])/\P i') z1) z1):=by kernel_rfl
theorem nf_put(V:List SL)(s:SL)(Q:AV->oL7->Prop):wpFn te [] [(3,L_pt V s)] 0 Tryz.f47 [.view 7 V.length (waj V),.str s.o,.str s.p,.q s.per] [] Q=(letI z7:=((0:Int)=0:Prop);letI z5:=V.length;letI z3:=(St.mk [(0,.view 7 z5 (waj V)),(9,.ptr 0 0),(10,.q (z5:Int))] [(0,.cells [.str (SL.o s),.str (SL.p s),.q (SL.per s),.q 0,.q 0,.q 0,.str []] 43)] 1 []);letI z1:=(↑(posS V s z5):Int);letI z6:=(atS V (z1 - (1:Int)).toNat);letI z4:=V.length - z1.toNat;letI z2:=apF (0+z1.toNat) (apF 0 (war 7 (List.flatten (List.replicate 0 [.str ([]),.str ([]),.q 0,.q 0,.q 0,.q 0,.str ([])]))) (waj V)) (war 7 (.str (SL.o s):: .str (SL.p s):: .q (SL.per s):: .q 0:: .q 0:: .q 0:: .str []::List.append [] wgn));letI z0:=((0<=16777216/\7=7/\0<=9223372036854775807)/\((0:Int)<=z1/\z1<=(z5:Int))/\(7=7/\0<=0/\7=7/\43=43/\7=7/\0+z1.toNat<=9223372036854775807/\(0+z1.toNat) * 80<=140737488355328)/\(7<=16777216/\7=7/\1<=9223372036854775807)/\((1<=1/\7=7)/\0+z1.toNat<=0+z1.toNat/\7=7/\43=43/\7=7/\0+z1.toNat+1<=9223372036854775807/\(0+z1.toNat+1) * 80<=140737488355328)/\((0:Int)<=z1/\z1<=(z5:Int)/\7=7)/\(7=7/\0+z1.toNat+1<=0+z1.toNat+1/\7=7/\43=43/\7=7/\0+z1.toNat+1+z4<=9223372036854775807/\(0+z1.toNat+1+z4) * 80<=140737488355328)/\(∀(i:Nat),i<0+z1.toNat+1+z4->nrefL (apF (0+z1.toNat+1) z2 (λ(i:Nat)=>[.str (SL.o (atS V (z1.toNat+i))),.str (SL.p (atS V (z1.toNat+i))),.q (SL.per (atS V (z1.toNat+i))),.q 0,.q 0,.q 0,.str []]) i)=true)/\∃(O':oL7),wac [(0,.row 43 7 (0+z1.toNat+1+z4) (apF (0+z1.toNat+1) z2 λ(i:Nat)=>[.str (SL.o (atS V (z1.toNat+i))),.str (SL.p (atS V (z1.toNat+i))),.q (SL.per (atS V (z1.toNat+i))),.q 0,.q 0,.q 0,.str []]) false)] O'/\Q (.own 0 (0+z1.toNat+1+z4)) O':Prop);some z3=some z3/\V.length<=200000/\wab (decide ((0:Int)<z1)) (inR .i64 (z1 - (1:Int))/\((0:Int)<=z1 - (1:Int)/\z1 - (1:Int)<(z5:Int)/\7=7)/\wab (decide (SL.o z6=SL.o s) && (decide (SL.p z6=SL.p s) && (decide (SL.per z6=SL.per s) && (decide z7 && (decide z7 && (decide z7 && decide (([]:List UInt8)=[]))))))) (Q (.view 7 z5 (waj V)) []) z0) z0):=by kernel_rfl
theorem w0t(R:List MG)(k:Nat)(P:Nat->Prop)(Q:eR7):wat ⟨te,[(47,.det whn)],[],0,29,0⟩ (wav Tryz.f45 3) [3,7,8,9] [3] [] (wmm R) P Q (wmm R k)=(letI z5:=(slK R k).length;letI z4:=R.length;letI z3:=(atM R (k:Int).toNat);letI z2:=(z4:Int);letI z1:=slL (waj (slK R k)) z5;letI z0:=(insS z1 (SL.mk z3.v.o z3.v.p z3.v.per));wab (decide ((k:Int)<z2)) (((0:Int)<=(k:Int)/\(k:Int)<z2/\15=15)/\wab (decide (z3.kind=1)) (((slK R k).length<=200000/\waj (slK R k)=waj z1/\(slK R k).length=z1.length/\Asc ordS z1)/\inR .i64 ((k:Int)+1)/\∃(i':Nat),some (St.mk [(3,.view 7 z0.length (waj z0)),(7,.view 15 z4 (waa (atM R))),(8,.q z2),(9,.q ((k:Int)+1))] [] 0 [])=some (St.mk [(3,.view 7 (slK R i').length (waj (slK R i'))),(7,.view 15 z4 (waa (atM R))),(8,.q z2),(9,.q (i':Int))] [] 0 [])/\P i') (inR .i64 ((k:Int)+1)/\∃(i':Nat),some (St.mk [(3,.view 7 z5 (waj (slK R k))),(7,.view 15 z4 (waa (atM R))),(8,.q z2),(9,.q ((k:Int)+1))] [] 0 [])=some (St.mk [(3,.view 7 (slK R i').length (waj (slK R i'))),(7,.view 15 z4 (waa (atM R))),(8,.q z2),(9,.q (i':Int))] [] 0 [])/\P i')) (Q (.exit 0) (St.mk [(3,.view 7 z5 (waj (slK R k)))] [] 0 []))):=by kernel_rfl
theorem w0r(g:Nat->MG)(n:Nat)(R:List MG)(Q:AV->oL7->Prop):wpFn te [(52,.det wda)] [(3,wo0 R)] 0 Tryz.f45 [.view 15 n (waa g)] [] Q=(letI z0:=wae (mgOf (waa g)) n;(n<=100000/\waa g=waa (mgOf (waa g))/\∀(i:Nat),i<n->MG.Sm (mgOf (waa g) i))/\some (St.mk [(3,.view 7 0 (waj [])),(7,.view 15 z0.length (waa (atM z0))),(8,.q (z0.length:Int)),(9,.q 0)] [] 0 [])=some (St.mk [(3,.view 7 0 (waj (slK R 0))),(7,.view 15 R.length (waa (atM R))),(8,.q (R.length:Int)),(9,.q (↑0:Int))] [] 0 [])/\R.length<=100000/\Q (.view 7 (visL R).length (waj (visL R))) []):=by kernel_rfl
theorem w0y(g:Nat->MG)(n:Nat)(o p:List UInt8)(k:Nat)(P:Nat->Prop)(Q:eR7):wat ⟨te,[(20,.det wff)],[],0,46,0⟩ (wav Tryz.f28 3) [0,1,2,7,13,14,15] [7] [] (wgf g n o p) P Q (wgf g n o p k)=(letI z1:=visL (wae g n);letI z7:=z1.length;letI z5:=(atS z1 (k:Int).toNat);letI z4:=(z7:Int);letI z3:=serK (wae g n) o p z1 k;letI z8:=z3.length;letI z6:=([(0,.row 43 7 z8 (wam (atX z3)) false)]:oL7);letI z2:=(resF (mgOf (waa g)) n o p (SL.per z5));letI z0:=(inR .i64 ((k:Int)+1)/\∃(i':Nat),(TEq [(0,.view 15 n (waa g)),(1,.str o),(2,.str p),(7,.own 0 z8),(13,.view 7 z7 (waj z1)),(14,.q z4),(15,.q ((k:Int)+1))] [(0,.view 15 n (waa g)),(1,.str o),(2,.str p),(7,.own 0 (serK (wae g n) o p z1 i').length),(13,.view 7 z7 (waj z1)),(14,.q z4),(15,.q (i':Int))]/\wac z6 [(0,.row 43 7 (serK (wae g n) o p z1 i').length (wam (atX (serK (wae g n) o p z1 i'))) false)])/\P i');wab (decide ((k:Int)<z4)) (((0:Int)<=(k:Int)/\(k:Int)<z4/\7=7)/\wab (!decide (SL.o z5=o)) z0 (wab (!decide (SL.p z5=p)) z0 ((n<=100000/\waa g=waa (mgOf (waa g))/\∀(i:Nat),i<n->MG.Sm (mgOf (waa g) i))/\wab (decide (z2.2=1)) ((7<=16777216/\7=7/\1<=9223372036854775807)/\((1<=1/\7=7)/\z3.length<=z3.length/\7=7/\43=43/\7=7/\z3.length+1<=9223372036854775807/\(z3.length+1) * 80<=140737488355328)/\inR .i64 ((k:Int)+1)/\∃(i':Nat),(TEq [(0,.view 15 n (waa g)),(1,.str o),(2,.str p),(7,.own 0 (z3.length+1)),(13,.view 7 z7 (waj z1)),(14,.q z4),(15,.q ((k:Int)+1))] [(0,.view 15 n (waa g)),(1,.str o),(2,.str p),(7,.own 0 (serK (wae g n) o p z1 i').length),(13,.view 7 z7 (waj z1)),(14,.q z4),(15,.q (i':Int))]/\wac [(0,.row 43 7 (z3.length+1) (apF z8 (wam (atX z3)) (war 7 (.str z2.1.o:: .str z2.1.p:: .q z2.1.per:: .q z2.1.day:: .q z2.1.st:: .q z2.1.pr:: .str z2.1.rep::List.append [] wgn))) false)] [(0,.row 43 7 (serK (wae g n) o p z1 i').length (wam (atX (serK (wae g n) o p z1 i'))) false)])/\P i') z0))) ((∀(i:Nat),i<z3.length->true=true)/\∃(O':oL7),wac z6 O'/\Q (.exit 0) (St.mk [(7,.own 0 z8)] O' 1 []))):=by kernel_rfl
theorem nf_rsr(g:Nat->MG)(n:Nat)(o p:List UInt8)(Q:AV->oL7->Prop):wpFn te [(45,.det whd)] [(3,wo2 g n o p)] 0 Tryz.f28 [.view 15 n (waa g),.str o,.str p] [] Q=(letI z2:=visL (wae g n);letI z1:=serL (wae g n) o p;letI z0:=visL (wae (mgOf (waa g)) n);(n<=100000/\waa g=waa (mgOf (waa g))/\∀(i:Nat),i<n->MG.Sm (mgOf (waa g) i))/\(TEq [(0,.view 15 n (waa g)),(1,.str o),(2,.str p),(7,.own 0 0),(13,.view 7 z0.length (waj z0)),(14,.q (z0.length:Int)),(15,.q 0)] [(0,.view 15 n (waa g)),(1,.str o),(2,.str p),(7,.own 0 0),(13,.view 7 z2.length (waj z2)),(14,.q (z2.length:Int)),(15,.q (↑0:Int))]/\wac [(0,.row 43 7 0 (λ(_x:Nat)=>[]) false)] [(0,.row 43 7 0 (wam (atX (serK (wae g n) o p z2 0))) false)])/\n<=100000/\(∀(i:Nat),i<n->MG.Sm (g i))/\(∀(i:Nat),i<z1.length->true=true)/\∃(O':oL7),wac [(0,.row 43 7 z1.length (wam (atX z1)) false)] O'/\Q (.own 0 z1.length) O'):=by kernel_rfl
theorem w4v{V:List SL}(h:Asc ordS V){s:SL}(hs:s∈V):insS V s=V:=
 Asc.uniq wb0 (wk4 s h) h λx=>by
  rw[wix];exact⟨λq=>q.elim (λe=>e ▸ hs) id,.inr⟩
theorem wvg(s:SL):∀(A B:List SL),(∀x∈A,ordS x s<0)->(∀x∈B,ordS s x<0)->insS (A++B) s=A++s::B
 |[],[],_,_=>rfl
 |[],x::B,_,h=>by
  rw[List.nil_append,insS,decide_eq_true (h x List.mem_cons_self)];rfl
 |x::A,B,h1,h2=>by
  have h:=h1 x List.mem_cons_self;have hn:=wb0.neg s x;rw[List.cons_append,insS,decide_eq_false (by omega),cond_false,decide_eq_false (by omega),cond_false,wvg s A B (λy hy=>h1 y (List.mem_cons_of_mem _ hy)) h2,List.cons_append]
theorem wqf(V:List SL)(s:SL):∀i,posS V s i<=i/\(∀j,posS V s i<=j->j<i->ordS s (atS V j)<0)/\(0<posS V s i->¬ ordS s (atS V (posS V s i - 1))<0)
 |0=>⟨lR7 _,λj _ h=>absurd h (nZ7 j),λh=>absurd h (Nat.lt_irrefl 0)⟩
 |i+1=>by
  obtain⟨h1,h2,h3⟩:=wqf V s i;rw[posS]
  by_cases q:ordS s (atS V i)<0
  ·rw[decide_eq_true q,cond_true];refine⟨by omega,λj hj hji=>?_,h3⟩
   rcases Nat.lt_or_ge j i with w | w
   ·exact h2 j hj w
   ·rw[show j=i by omega];exact q
  ·rw[decide_eq_false q,cond_false];exact⟨lR7 _,λj hj hji=>absurd hji (by omega),λ_=>q⟩
theorem put_at{V:List SL}(h:Asc ordS V)(s:SL):(0<posS V s V.length->atS V (posS V s V.length - 1)=s->insS V s=V)/\
  ((0<posS V s V.length->atS V (posS V s V.length - 1)≠s)->insS V s=V.take (posS V s V.length)++s::V.drop (posS V s V.length)):=by
 obtain⟨h1,h2,h3⟩:=wqf V s V.length;generalize posS V s V.length=p at *;refine⟨λh0 he=>w4v h (by rw[← he];exact wfa (by omega)),λhne=>?_⟩;have:=wvg s (V.take p) (V.drop p) (λx hx=>?_) (λx hx=>?_)
 ·rwa [List.take_append_drop] at this
 ·obtain⟨i,hi,rfl⟩:=List.getElem_of_mem hx;have hi':i<p/\i<V.length:=by simp at hi;omega
  have e:(V.take p)[i]=atS V i:=by rw[List.getElem_take,wga hi'.2]
  have w3:=h3 (by omega);have w4:=hne (by omega);have hl:ordS (atS V (p - 1)) s<0:=by
   have a1:=wb0.neg s (atS V (p - 1));have a2:ordS s (atS V (p - 1))≠0:=λq=>w4 (wij.1 q).symm;omega
  rw[e]
  rcases Nat.lt_or_ge i (p - 1) with w | w
  ·exact wb0.lt_trans (whc h w (by omega)) hl
  ·rw[show i=p - 1 by omega];exact hl
 ·obtain⟨i,hi,rfl⟩:=List.getElem_of_mem hx;have hi':p+i<V.length:=by simp at hi;omega
  have e:(V.drop p)[i]=atS V (p+i):=by rw[List.getElem_drop,wga hi']
  rw[e];exact h2 (p+i) (by omega) hi'
theorem atS_ins{V:List SL}{p:Nat}(hp:p<=V.length)(s:SL)(i:Nat):atS (V.take p++s::V.drop p) i=if i<p then atS V i else if i=p then s else atS V (i - 1):=by
 unfold atS
 by_cases h:i<p
 ·rw[if_pos h];have:i<(V.take p).length:=by simp;omega
  simp[List.getElem?_append_left this,h]
 ·rw[if_neg h];have hl:(V.take p).length=p:=by simp;omega
  by_cases h':i=p
  ·rw[if_pos h'];subst h';simp[hl]
  ·rw[if_neg h'];obtain⟨j,rfl⟩:∃j,i=p+(j+1):=⟨i - p - 1,by omega⟩;rw[List.getD_eq_getElem?_getD,List.getElem?_append_right (by omega),hl,show p+(j+1) - p=j+1 by omega,List.getElem?_cons_succ,List.getElem?_drop,List.getD_eq_getElem?_getD];rfl
theorem pt_loop(hP:C.P=Tryz.prog)(V:List SL)(s:SL):wah C 0 56 (wai Tryz.f47 3) (L_pt V s):=by
 rintro st Q ⟨h0,hn,hQ⟩;refine wah.mk (prg hP) [(85,.det wod)] 0 (.cons (beV_ok hP) .nil) [0,9,10] [0,9,10] [] (who V s) (λi=>i<=V.length/\posS V s V.length=posS V s i) (λi=>i) V.length ⟨lR7 _,rfl⟩ h0 (λi hi=>?_);obtain⟨hi,he⟩:=hi;have fin:posS V s i=i->Q (.exit 0) (who V s i):=λe=>by
  rw[he,e] at hQ;exact hQ
 rw[w1e];refine wag (λh1=>?_) (λh1=>fin (by rw[show i=0 by omega];rfl));obtain⟨k,rfl⟩:∃k,i=k+1:=⟨i - 1,by omega⟩;have e1:((k+1:Nat):Int) - 1=(k:Int):=by omega
 rw[e1,tN7];refine⟨by simp only[inR];omega,⟨by omega,by omega,rfl⟩,trivial,wag (λh2=>⟨by simp only[inR];omega,k,rfl,⟨by omega,?_⟩,by omega⟩) (λh2=>fin ?_)⟩
 ·rw[he,posS,decide_eq_true h2];rfl
 ·rw[posS,decide_eq_false h2];rfl
theorem put_ok(hP:C.P=Tryz.prog):wad C 47 whn:=by
 rintro args objs U Os vc h hvc;unfold whn at h;split at h<;>cases h;rename_i n f o p per;obtain⟨hn,hf,hl,ha⟩:=hvc;generalize slL f n=V at *;subst hf;subst hl;have hnf:=λQ=>nf_put V ⟨o,p,per⟩ Q;dsimp only at hnf;refine waw.frzO 0 ?_;refine wa8.wpL (prg hP) [] [(3,L_pt V ⟨o,p,per⟩)] 0 .nil (hP ▸ Tryz.func47) rfl rfl rfl [(wai Tryz.f47 3,L_pt V ⟨o,p,per⟩)] (by kernel_rfl) ⟨pt_loop hP V _,trivial⟩ ?_;rw[hnf];obtain⟨hle, -, -⟩:=wqf V ⟨o,p,per⟩ V.length;obtain⟨hq1,hq2⟩:=put_at ha ⟨o,p,per⟩;generalize posS V ⟨o,p,per⟩ V.length=q at *;rw[tN7,Nat.zero_add];refine⟨rfl,hn,?_⟩;have new:insS V ⟨o,p,per⟩=V.take q++⟨o,p,per⟩::V.drop q->∀i,i<q+1+(V.length - q)->apF (q+1) (apF q (apF 0 (war 7 (List.flatten (List.replicate 0 [.str ([]),.str ([]),.q 0,.q 0,.q 0,.q 0,.str ([])]))) (waj V)) (war 7 (.str o:: .str p:: .q per:: .q 0:: .q 0:: .q 0:: .str []::List.append [] wgn))) (λ(i:Nat)=>[.str (SL.o (atS V (q+i))),.str (SL.p (atS V (q+i))),.q (SL.per (atS V (q+i))),.q 0,.q 0,.q 0,.str []]) i=waj (insS V ⟨o,p,per⟩) i:=λe i hi=>by
  rw[e];unfold waj;rw[atS_ins hle];unfold apF
  by_cases h1:i<q
  ·rw[if_pos (show i<q+1 by omega),if_pos h1,if_neg (nZ7 i),if_pos h1];rfl
  ·by_cases h2:i=q
   ·subst h2;rw[if_pos (Nat.lt_succ_self _),if_neg (Nat.lt_irrefl _),if_neg (Nat.lt_irrefl _),if_pos rfl,Nat.sub_self];rfl
   ·rw[if_neg (show ¬ i<q+1 by omega),if_neg h1,if_neg h2];show [AV.str (SL.o (atS V (q+(i - (q+1))))),.str (SL.p (atS V (q+(i - (q+1))))),.q (SL.per (atS V (q+(i - (q+1))))),.q 0,.q 0,.q 0,.str []]=_;rw[show q+(i - (q+1))=i - 1 by omega]
 have hlen:insS V ⟨o,p,per⟩=V.take q++⟨o,p,per⟩::V.drop q->q+1+(V.length - q)=(insS V ⟨o,p,per⟩).length:=λe=>by
  rw[e];simp;omega
 have e1:∀h0:0<q,(q:Int) - 1=((q - 1:Nat):Int):=λh0=>by omega
 have heq:0<q->(decide (SL.o (atS V (q - 1))=o) && (decide (SL.p (atS V (q - 1))=p) && (decide (SL.per (atS V (q - 1))=per) && (decide ((0:Int)=(0:Int)) && (decide ((0:Int)=(0:Int)) && (decide ((0:Int)=(0:Int)) && decide (([]:List UInt8)=[])))))))=decide (atS V (q - 1)=⟨o,p,per⟩):=λ_=>by
  rw[Bool.eq_iff_iff];generalize atS V (q - 1)=y
  cases y;simp
 have hjoin:(0<q->atS V (q - 1)≠⟨o,p,per⟩)->insS V ⟨o,p,per⟩=V.take q++⟨o,p,per⟩::V.drop q:=hq2;refine wag (λh0=>?_) (λh0=>?_)
 ·have h0:0<q:=by omega
  rw[e1 h0,tN7,heq h0];refine⟨by simp only[inR];omega,⟨by omega,by omega,rfl⟩,wag (λhe=>?_) (λhe=>?_)⟩
  ·have e:=hq1 h0 he;rw[e];exact⟨rfl,rfl⟩
  ·have e:=hjoin λ_=>he;have hw:=new e;have hln:=hlen e;refine⟨⟨by omega,rfl,by omega⟩,⟨by omega,by omega⟩,⟨rfl,lR7 _,rfl,rfl,rfl,by omega,by omega⟩,⟨by omega,rfl,by omega⟩,⟨⟨lR7 _,rfl⟩,lR7 _,rfl,rfl,rfl,by omega,by omega⟩,⟨by omega,by omega,rfl⟩,⟨rfl,lR7 _,rfl,rfl,rfl,by omega,by omega⟩,λi hi=>by rw[hw i hi];rfl,[(0,.row 43 7 (insS V ⟨o,p,per⟩).length (waj (insS V ⟨o,p,per⟩)) false)],⟨⟨rfl,rfl,rfl,hln,rfl,hw⟩,trivial⟩,λ_ _=>rfl,?_⟩;have hb:Nat.ble (insS V ⟨o,p,per⟩).length (insS V ⟨o,p,per⟩).length=true:=Nat.ble_eq_true_of_le (lR7 _);rw[hln]
   constructor
   ·simp[frzC,frzA,frz,hb]
   ·rfl
 ·have e:=hjoin λh=>absurd h (by omega);have hw:=new e;have hln:=hlen e;refine⟨⟨by omega,rfl,by omega⟩,⟨by omega,by omega⟩,⟨rfl,lR7 _,rfl,rfl,rfl,by omega,by omega⟩,⟨by omega,rfl,by omega⟩,⟨⟨lR7 _,rfl⟩,lR7 _,rfl,rfl,rfl,by omega,by omega⟩,⟨by omega,by omega,rfl⟩,⟨rfl,lR7 _,rfl,rfl,rfl,by omega,by omega⟩,λi hi=>by rw[hw i hi];rfl,[(0,.row 43 7 (insS V ⟨o,p,per⟩).length (waj (insS V ⟨o,p,per⟩)) false)],⟨⟨rfl,rfl,rfl,hln,rfl,hw⟩,trivial⟩,λ_ _=>rfl,?_⟩;have hb:Nat.ble (insS V ⟨o,p,per⟩).length (insS V ⟨o,p,per⟩).length=true:=Nat.ble_eq_true_of_le (lR7 _);rw[hln]
  constructor
  ·simp[frzC,frzA,frz,hb]
  ·rfl
theorem slL_sv(V:List SL):slL (waj V) V.length=V:=wgv V
theorem wyp(R:List MG)(k:Nat):slK R (k+1)=bif isV (atM R k) then insS (slK R k) (vsl (atM R k).v) else slK R k:=by
 unfold slK;rw[we2,List.filter_append]
 cases h:isV (atM R k)<;>simp[h]
theorem slK_asc(R:List MG)(k:Nat):Asc ordS (slK R k):=(wg4 _ [] .nil).1
theorem slK_len(R:List MG)(k:Nat):(slK R k).length<=k:=by
 have h1:=wlf (((lst (atM R) k).filter isV).map λm=>vsl m.v) [];have h2:=List.length_filter_le isV (lst (atM R) k);simp[lst] at h1 h2;unfold slK;simp[lst];omega
theorem w36(R:List MG):lst (atM R) R.length=R:=by
 unfold lst atM;apply List.ext_getElem
 ·simp
 ·intro i h1 h2;simp at h1 ⊢;simp[h1]
theorem wyn(hP:C.P=Tryz.prog)(R:List MG):wah C 0 29 (wai Tryz.f45 3) (wo0 R):=by
 rintro st Q ⟨h0,hn,hQ⟩;refine AWP.nilS 3 7 (waj []) ?_;refine wah.mk (prg hP) [(47,.det whn)] 0 (.cons (put_ok hP) .nil) [3,7,8,9] [3] [] (wmm R) (λk=>k<=R.length) (λk=>R.length - k) 0 (zL7 _) h0 (λk hk=>?_);have hl:=slK_len R k;have hs:=wyp R k;have hv:isV (atM R k)=decide ((atM R k).kind=1):=rfl;rw[w0t,tN7,slL_sv];refine wag (λh1=>⟨⟨by omega,by omega,rfl⟩,wan (λh2=>⟨⟨by omega,rfl,rfl,slK_asc R k⟩,by simp only[inR];omega,k+1,?_,by omega,by omega⟩) (λh2=>⟨by simp only[inR];omega,k+1,?_,by omega,by omega⟩)⟩) (λh1=>?_)
 ·rw[hs,hv,h2];rfl
 ·rw[hs,hv,h2];rfl
 ·have:k=R.length:=by omega
  subst this;have e:slK R R.length=visL R:=by
   unfold slK;rw[w36];rfl
  rw[e];exact hQ
theorem ws3(hP:C.P=Tryz.prog):wad C 45 whd:=by
 rintro args objs U Os vc h hvc;unfold whd at h;split at h<;>cases h;rename_i n f;obtain⟨hn,hf,hs⟩:=hvc;generalize mgOf f=g at *;subst hf;refine wad.wpL (prg hP) [(52,.det wda)] [(3,wo0 (wae g n))] 0 (.cons (wr5 hP) .nil) (hP ▸ Tryz.func45) rfl rfl rfl [(wai Tryz.f45 3,wo0 (wae g n))] (by kernel_rfl) ⟨wyn hP _,trivial⟩ ?_;rw[w0r];have hrl:=wdn g n;exact⟨⟨hn,rfl,hs⟩,rfl,by omega,rfl,rfl⟩
theorem wy3(hP:C.P=Tryz.prog)(g:Nat->MG)(n:Nat)(o p:List UInt8):wah C 0 46 (wai Tryz.f28 3) (wo2 g n o p):=by
 rintro st Q ⟨h0,hn,hs,hQ⟩;refine AWP.ownNil 7 43 7 ?_;have hvl:(visL (wae g n)).length<=100000:=Nat.le_trans (wdm _) (Nat.le_trans (wdn g n) hn);refine wah.mk (prg hP) [(20,.det wff)] 0 (.cons (wtx hP) .nil) [0,1,2,7,13,14,15] [7] [] (wgf g n o p) (λk=>k<=(visL (wae g n)).length) (λk=>(visL (wae g n)).length - k) 0 (zL7 _) h0 (λk hk=>?_) (λi=>⟨λ_ _=>rfl,trivial⟩);have hsl:=wp8 (wae g n) o p (visL (wae g n)) k;have hst:serK (wae g n) o p (visL (wae g n)) (k+1)=bif slkB (wae g n) o p (atS (visL (wae g n)) k) then serK (wae g n) o p (visL (wae g n)) k++[(resB (wae g n) (atS (visL (wae g n)) k)).1] else serK (wae g n) o p (visL (wae g n)) k:=rfl
 have hkb:slkB (wae g n) o p (atS (visL (wae g n)) k)=(decide ((atS (visL (wae g n)) k).o=o) && decide ((atS (visL (wae g n)) k).p=p) && decide ((resB (wae g n) (atS (visL (wae g n)) k)).2=1)):=rfl;rw[w0y,tN7];refine wag (λh1=>?_) (λh1=>?_)
 · have skip:slkB (wae g n) o p (atS (visL (wae g n)) k)=false->inR .i64 ((k:Int)+1)/\∃i':Nat,(TEq [(0,.view 15 n (waa g)),(1,.str o),(2,.str p),(7,.own 0 (serK (wae g n) o p (visL (wae g n)) k).length),(13,.view 7 (visL (wae g n)).length (waj (visL (wae g n)))),(14,.q (visL (wae g n)).length),(15,.q ((k:Int)+1))] (wgf g n o p i').T/\
       wac [(0,.row 43 7 (serK (wae g n) o p (visL (wae g n)) k).length (wam (atX (serK (wae g n) o p (visL (wae g n)) k))) false)] (wgf g n o p i').O)/\(i'<=(visL (wae g n)).length/\(visL (wae g n)).length - i'<(visL (wae g n)).length - k):=λh=>by
     refine⟨by simp only[inR];omega,k+1,?_,by omega,by omega⟩;unfold wgf;rw[hst,h];exact⟨rfl,rQ7,trivial⟩
   refine⟨⟨by omega,by omega,rfl⟩,wax (λh2=>skip ?_) (λh2=>wax (λh3=>skip ?_) (λh3=>⟨⟨hn,rfl,hs⟩,?_⟩))⟩
   · rw[hkb,decide_eq_false h2];rfl
   · rw[hkb,decide_eq_false h3,Bool.and_false];rfl
   · have er:resF (mgOf (waa g)) n o p (atS (visL (wae g n)) k).per=resB (wae g n) (atS (visL (wae g n)) k):=by
       rw[← h2, ← h3];rfl
     rw[er];refine wag (λh4=>?_) (λh4=>skip ?_)
     · rw[hkb,decide_eq_true h2,decide_eq_true h3,decide_eq_true h4] at hst;have hst:serK (wae g n) o p (visL (wae g n)) (k+1)=serK (wae g n) o p (visL (wae g n)) k++[(resB (wae g n) (atS (visL (wae g n)) k)).1]:=hst;refine⟨⟨by omega,rfl,by omega⟩,⟨⟨lR7 _,rfl⟩,lR7 _,rfl,rfl,rfl,by omega,by omega⟩,by simp only[inR];omega,k+1,?_,by omega,by omega⟩;rw[hst,lA7];exact⟨rfl,⟨rfl,rfl,rfl,rfl,rfl,λj hj=>wgm vtC default _ _ _ rfl j hj⟩,trivial⟩
     · rw[hkb,decide_eq_false h4,Bool.and_false]
 · have:k=(visL (wae g n)).length:=by omega
   subst this;exact⟨λ_ _=>rfl,_,waz _,hQ⟩
theorem rSer_ok(hP:C.P=Tryz.prog):wad C 28 S_Ser:=by
 rintro args objs U Os vc h hvc;unfold S_Ser at h;split at h<;>cases h;rename_i n f o p;obtain⟨hn,hf,hs⟩:=hvc;generalize mgOf f=g at *;subst hf;refine waw.frzO 0 ?_;refine wa8.wpL (prg hP) [(45,.det whd)] [(3,wo2 g n o p)] 0 (.cons (ws3 hP) .nil) (hP ▸ Tryz.func28) rfl rfl rfl [(wai Tryz.f28 3,wo2 g n o p)] (by kernel_rfl) ⟨wy3 hP g n o p,trivial⟩ ?_;rw[nf_rsr];refine⟨⟨hn,rfl,hs⟩,⟨rfl,⟨rfl,rfl,rfl,rfl,rfl,λi hi=>absurd hi (nZ7 i)⟩,trivial⟩,hn,hs,λ_ _=>rfl,_,waz _,λ_ _=>rfl,?_⟩;generalize serL (wae g n) o p=L at *;have hb:Nat.ble L.length L.length=true:=Nat.ble_eq_true_of_le (lR7 _)
 constructor
 ·simp[frzC,frzA,frz,hb]
 ·rfl
end Go.Eng
