/- The laws of messages: their helpers. -/
import Derived.Test.YtmcdngcjakjnmaaGreatDoorJyze
namespace Go.Eng
open Go.Proofs Go.RowKit
variable {C:Ctx} [C.Loose]
set_option maxRecDepth 20000
theorem w0z(V:List SL)(s:SL)(i:Nat)(P:Nat->Prop)(Q:eR7):waq ⟨te,[(85,.det wnt)],[],0,56,0⟩ (wav Tryz.f47 3) [0,9,10] [0,9,10] [] (wg8 V s) P Q (wg8 V s i)=(letI z2:=(atS V ((i:Int) - (1:Int)).toNat);letI z0:=([(0,.cells [.str (SL.o s),.str (SL.p s),.q (SL.per s),.q 0,.q 0,.q 0,.str []] 43)]:oL7);letI z1:=(Q (.exit 0) (St.mk [(0,.view 7 V.length (wa5 V)),(9,.ptr 0 0),(10,.q (i:Int))] z0 1 []));wab (decide ((0:Int)<(i:Int))) (inR .i64 ((i:Int) - (1:Int))/\((0:Int)<=(i:Int) - (1:Int)/\(i:Int) - (1:Int)<(V.length:Int)/\7=7)/\True/\wab (decide (ordS (SL.mk (SL.o s) (SL.p s) (SL.per s)) (SL.mk (SL.o z2) (SL.p z2) (SL.per z2))<0)) (inR .i64 ((i:Int) - (1:Int))/\∃(i':Nat),some (St.mk [(0,.view 7 V.length (wa5 V)),(9,.ptr 0 0),(10,.q ((i:Int) - (1:Int)))] z0 1 [])=some (St.mk [(0,.view 7 V.length (wa5 V)),(9,.ptr 0 0),(10,.q (i':Int))] z0 1 [])/\P i') z1) z1):=by kernel_rfl
theorem nf_put(V:List SL)(s:SL)(Q:AV->oL7->Prop):wpFn te [] [(3,L_pt V s)] 0 Tryz.f47 [.view 7 V.length (wa5 V),.str s.o,.str s.p,.q s.per] [] Q=(letI z8:=((0:Int)=0:Prop);letI z6:=V.length;letI z5:=([.str ([]),.str ([]),.q 0,.q 0,.q 0,.q 0,.str ([])]:List AV);letI z3:=(St.mk [(0,.view 7 z6 (wa5 V)),(9,.ptr 0 0),(10,.q (z6:Int))] [(0,.cells [.str (SL.o s),.str (SL.p s),.q (SL.per s),.q 0,.q 0,.q 0,.str []] 43)] 1 []);letI z1:=(↑(posS V s z6):Int);letI z7:=(atS V (z1 - (1:Int)).toNat);letI z4:=V.length - z1.toNat;letI z2:=apF (0+z1.toNat) (apF 0 (wap 7 (List.flatten (List.replicate 0 z5))) (wa5 V)) (wap 7 (.str (SL.o s):: .str (SL.p s):: .q (SL.per s):: .q 0:: .q 0:: .q 0:: .str []::List.append [] (List.flatten (List.replicate (nat_lit 0) z5))));letI z0:=((0<=16777216/\7=7/\0<=9223372036854775807)/\((0:Int)<=z1/\z1<=(z6:Int))/\(7=7/\0<=0/\7=7/\43=43/\7=7/\0+z1.toNat<=9223372036854775807/\(0+z1.toNat) * 80<=140737488355328)/\(7<=16777216/\7=7/\1<=9223372036854775807)/\((1<=1/\7=7)/\0+z1.toNat<=0+z1.toNat/\7=7/\43=43/\7=7/\0+z1.toNat+1<=9223372036854775807/\(0+z1.toNat+1) * 80<=140737488355328)/\((0:Int)<=z1/\z1<=(z6:Int)/\7=7)/\(7=7/\0+z1.toNat+1<=0+z1.toNat+1/\7=7/\43=43/\7=7/\0+z1.toNat+1+z4<=9223372036854775807/\(0+z1.toNat+1+z4) * 80<=140737488355328)/\(∀(i:Nat),i<0+z1.toNat+1+z4->nrefL (apF (0+z1.toNat+1) z2 (λ(i:Nat)=>[.str (SL.o (atS V (z1.toNat+i))),.str (SL.p (atS V (z1.toNat+i))),.q (SL.per (atS V (z1.toNat+i))),.q 0,.q 0,.q 0,.str []]) i)=true)/\∃(O':oL7),wac [(0,.row 43 7 (0+z1.toNat+1+z4) (apF (0+z1.toNat+1) z2 λ(i:Nat)=>[.str (SL.o (atS V (z1.toNat+i))),.str (SL.p (atS V (z1.toNat+i))),.q (SL.per (atS V (z1.toNat+i))),.q 0,.q 0,.q 0,.str []]) false)] O'/\Q (.own 0 (0+z1.toNat+1+z4)) O':Prop);some z3=some z3/\V.length<=200000/\wab (decide ((0:Int)<z1)) (inR .i64 (z1 - (1:Int))/\((0:Int)<=z1 - (1:Int)/\z1 - (1:Int)<(z6:Int)/\7=7)/\wab (decide (SL.o z7=SL.o s) && (decide (SL.p z7=SL.p s) && (decide (SL.per z7=SL.per s) && (decide z8 && (decide z8 && (decide z8 && decide (([]:List UInt8)=[]))))))) (Q (.view 7 z6 (wa5 V)) []) z0) z0):=by kernel_rfl
theorem w0e(R:List MG)(k:Nat)(P:Nat->Prop)(Q:eR7):waq ⟨te,[(47,.det wmd)],[],0,29,0⟩ (wav Tryz.f45 3) [3,7,8,9] [3] [] (wl0 R) P Q (wl0 R k)=(letI z5:=(slK R k).length;letI z4:=R.length;letI z3:=(atM R (k:Int).toNat);letI z2:=(z4:Int);letI z1:=slL (wa5 (slK R k)) z5;letI z0:=(insS z1 (SL.mk z3.v.o z3.v.p z3.v.per));wab (decide ((k:Int)<z2)) (((0:Int)<=(k:Int)/\(k:Int)<z2/\15=15)/\wab (decide (z3.kind=1)) (((slK R k).length<=200000/\wa5 (slK R k)=wa5 z1/\(slK R k).length=z1.length/\Asc ordS z1)/\inR .i64 ((k:Int)+1)/\∃(i':Nat),some (St.mk [(3,.view 7 z0.length (wa5 z0)),(7,.view 15 z4 (waa (atM R))),(8,.q z2),(9,.q ((k:Int)+1))] [] 0 [])=some (St.mk [(3,.view 7 (slK R i').length (wa5 (slK R i'))),(7,.view 15 z4 (waa (atM R))),(8,.q z2),(9,.q (i':Int))] [] 0 [])/\P i') (inR .i64 ((k:Int)+1)/\∃(i':Nat),some (St.mk [(3,.view 7 z5 (wa5 (slK R k))),(7,.view 15 z4 (waa (atM R))),(8,.q z2),(9,.q ((k:Int)+1))] [] 0 [])=some (St.mk [(3,.view 7 (slK R i').length (wa5 (slK R i'))),(7,.view 15 z4 (waa (atM R))),(8,.q z2),(9,.q (i':Int))] [] 0 [])/\P i')) (Q (.exit 0) (St.mk [(3,.view 7 z5 (wa5 (slK R k)))] [] 0 []))):=by kernel_rfl
theorem w0c(g:Nat->MG)(n:Nat)(R:List MG)(Q:AV->oL7->Prop):wpFn te [(52,.det wc4)] [(3,wog R)] 0 Tryz.f45 [.view 15 n (waa g)] [] Q=(letI z0:=wad (mgOf (waa g)) n;(n<=100000/\waa g=waa (mgOf (waa g))/\∀(i:Nat),i<n->MG.Sm (mgOf (waa g) i))/\some (St.mk [(3,.view 7 0 (wa5 [])),(7,.view 15 z0.length (waa (atM z0))),(8,.q (z0.length:Int)),(9,.q 0)] [] 0 [])=some (St.mk [(3,.view 7 0 (wa5 (slK R 0))),(7,.view 15 R.length (waa (atM R))),(8,.q (R.length:Int)),(9,.q (↑0:Int))] [] 0 [])/\R.length<=100000/\Q (.view 7 (visL R).length (wa5 (visL R))) []):=by kernel_rfl
theorem w0j(g:Nat->MG)(n:Nat)(o p:List UInt8)(k:Nat)(P:Nat->Prop)(Q:eR7):waq ⟨te,[(20,.det we6)],[],0,46,0⟩ (wav Tryz.f28 3) [0,1,2,7,13,14,15] [7] [] (wf7 g n o p) P Q (wf7 g n o p k)=(letI z1:=visL (wad g n);letI z7:=z1.length;letI z5:=(atS z1 (k:Int).toNat);letI z4:=(z7:Int);letI z3:=serK (wad g n) o p z1 k;letI z8:=z3.length;letI z6:=([(0,.row 43 7 z8 (waw (atX z3)) false)]:oL7);letI z2:=(resF (mgOf (waa g)) n o p (SL.per z5));letI z0:=(inR .i64 ((k:Int)+1)/\∃(i':Nat),(TEq [(0,.view 15 n (waa g)),(1,.str o),(2,.str p),(7,.own 0 z8),(13,.view 7 z7 (wa5 z1)),(14,.q z4),(15,.q ((k:Int)+1))] [(0,.view 15 n (waa g)),(1,.str o),(2,.str p),(7,.own 0 (serK (wad g n) o p z1 i').length),(13,.view 7 z7 (wa5 z1)),(14,.q z4),(15,.q (i':Int))]/\wac z6 [(0,.row 43 7 (serK (wad g n) o p z1 i').length (waw (atX (serK (wad g n) o p z1 i'))) false)])/\P i');wab (decide ((k:Int)<z4)) (((0:Int)<=(k:Int)/\(k:Int)<z4/\7=7)/\wab (!decide (SL.o z5=o)) z0 (wab (!decide (SL.p z5=p)) z0 ((n<=100000/\waa g=waa (mgOf (waa g))/\∀(i:Nat),i<n->MG.Sm (mgOf (waa g) i))/\wab (decide (z2.2=1)) ((7<=16777216/\7=7/\1<=9223372036854775807)/\((1<=1/\7=7)/\z3.length<=z3.length/\7=7/\43=43/\7=7/\z3.length+1<=9223372036854775807/\(z3.length+1) * 80<=140737488355328)/\inR .i64 ((k:Int)+1)/\∃(i':Nat),(TEq [(0,.view 15 n (waa g)),(1,.str o),(2,.str p),(7,.own 0 (z3.length+1)),(13,.view 7 z7 (wa5 z1)),(14,.q z4),(15,.q ((k:Int)+1))] [(0,.view 15 n (waa g)),(1,.str o),(2,.str p),(7,.own 0 (serK (wad g n) o p z1 i').length),(13,.view 7 z7 (wa5 z1)),(14,.q z4),(15,.q (i':Int))]/\wac [(0,.row 43 7 (z3.length+1) (apF z8 (waw (atX z3)) (wap 7 (.str z2.1.o:: .str z2.1.p:: .q z2.1.per:: .q z2.1.day:: .q z2.1.st:: .q z2.1.pr:: .str z2.1.rep::List.append [] (List.flatten (List.replicate (nat_lit 0) [.str ([]),.str ([]),.q 0,.q 0,.q 0,.q 0,.str ([])]))))) false)] [(0,.row 43 7 (serK (wad g n) o p z1 i').length (waw (atX (serK (wad g n) o p z1 i'))) false)])/\P i') z0))) ((∀(i:Nat),i<z3.length->true=true)/\∃(O':oL7),wac z6 O'/\Q (.exit 0) (St.mk [(7,.own 0 z8)] O' 1 []))):=by kernel_rfl
theorem nf_rsr(g:Nat->MG)(n:Nat)(o p:List UInt8)(Q:AV->oL7->Prop):wpFn te [(45,.det wlz)] [(3,woi g n o p)] 0 Tryz.f28 [.view 15 n (waa g),.str o,.str p] [] Q=(letI z2:=visL (wad g n);letI z1:=serL (wad g n) o p;letI z0:=visL (wad (mgOf (waa g)) n);(n<=100000/\waa g=waa (mgOf (waa g))/\∀(i:Nat),i<n->MG.Sm (mgOf (waa g) i))/\(TEq [(0,.view 15 n (waa g)),(1,.str o),(2,.str p),(7,.own 0 0),(13,.view 7 z0.length (wa5 z0)),(14,.q (z0.length:Int)),(15,.q 0)] [(0,.view 15 n (waa g)),(1,.str o),(2,.str p),(7,.own 0 0),(13,.view 7 z2.length (wa5 z2)),(14,.q (z2.length:Int)),(15,.q (↑0:Int))]/\wac [(0,.row 43 7 0 (λ(_x:Nat)=>[]) false)] [(0,.row 43 7 0 (waw (atX (serK (wad g n) o p z2 0))) false)])/\n<=100000/\(∀(i:Nat),i<n->MG.Sm (g i))/\(∀(i:Nat),i<z1.length->true=true)/\∃(O':oL7),wac [(0,.row 43 7 z1.length (waw (atX z1)) false)] O'/\Q (.own 0 z1.length) O'):=by kernel_rfl
theorem w34{V:List SL}(h:Asc ordS V){s:SL}(hs:s∈V):insS V s=V:=
 Asc.uniq wb0 (wqw s h) h λx=>by
  rw[wkj];exact⟨λq=>q.elim (λe=>e ▸ hs) id,.inr⟩
theorem wus(s:SL):∀(A B:List SL),(∀x∈A,ordS x s<0)->(∀x∈B,ordS s x<0)->insS (A++B) s=A++s::B
 |[],[],_,_=>rfl
 |[],x::B,_,h=>by
  rw[List.nil_append,insS,decide_eq_true (h x List.mem_cons_self)];rfl
 |x::A,B,h1,h2=>by
  have h:=h1 x List.mem_cons_self;have hn:=wb0.neg s x;rw[List.cons_append,insS,decide_eq_false (by omega),cond_false,decide_eq_false (by omega),cond_false,wus s A B (λy hy=>h1 y (List.mem_cons_of_mem _ hy)) h2,List.cons_append]
theorem wpw(V:List SL)(s:SL):∀i,posS V s i<=i/\(∀j,posS V s i<=j->j<i->ordS s (atS V j)<0)/\(0<posS V s i->¬ ordS s (atS V (posS V s i - 1))<0)
 |0=>⟨lR7 _,λj _ h=>absurd h (nZ7 j),λh=>absurd h (Nat.lt_irrefl 0)⟩
 |i+1=>by
  obtain⟨h1,h2,h3⟩:=wpw V s i;rw[posS]
  by_cases q:ordS s (atS V i)<0
  ·rw[decide_eq_true q,cond_true];refine⟨by omega,λj hj hji=>?_,h3⟩
   rcases Nat.lt_or_ge j i with w | w
   ·exact h2 j hj w
   ·rw[show j=i by omega];exact q
  ·rw[decide_eq_false q,cond_false];exact⟨lR7 _,λj hj hji=>absurd hji (by omega),λ_=>q⟩
theorem put_at{V:List SL}(h:Asc ordS V)(s:SL):(0<posS V s V.length->atS V (posS V s V.length - 1)=s->insS V s=V)/\
  ((0<posS V s V.length->atS V (posS V s V.length - 1)≠s)->insS V s=V.take (posS V s V.length)++s::V.drop (posS V s V.length)):=by
 obtain⟨h1,h2,h3⟩:=wpw V s V.length;generalize posS V s V.length=p at *;refine⟨λh0 he=>w34 h (by rw[← he];exact we1 (by omega)),λhne=>?_⟩;have:=wus s (V.take p) (V.drop p) (λx hx=>?_) (λx hx=>?_)
 ·rwa [List.take_append_drop] at this
 ·obtain⟨i,hi,rfl⟩:=List.getElem_of_mem hx;have hi':i<p/\i<V.length:=by simp at hi;omega
  have e:(V.take p)[i]=atS V i:=by rw[List.getElem_take,wf2 hi'.2]
  have w3:=h3 (by omega);have w4:=hne (by omega);have hl:ordS (atS V (p - 1)) s<0:=by
   have a1:=wb0.neg s (atS V (p - 1));have a2:ordS s (atS V (p - 1))≠0:=λq=>w4 (whz.1 q).symm;omega
  rw[e]
  rcases Nat.lt_or_ge i (p - 1) with w | w
  ·exact wb0.lt_trans (wgx h w (by omega)) hl
  ·rw[show i=p - 1 by omega];exact hl
 ·obtain⟨i,hi,rfl⟩:=List.getElem_of_mem hx;have hi':p+i<V.length:=by simp at hi;omega
  have e:(V.drop p)[i]=atS V (p+i):=by rw[List.getElem_drop,wf2 hi']
  rw[e];exact h2 (p+i) (by omega) hi'
theorem atS_ins{V:List SL}{p:Nat}(hp:p<=V.length)(s:SL)(i:Nat):atS (V.take p++s::V.drop p) i=if i<p then atS V i else if i=p then s else atS V (i - 1):=by
 unfold atS
 by_cases h:i<p
 ·rw[if_pos h];have:i<(V.take p).length:=by simp;omega
  simp[List.getElem?_append_left this,h]
 ·rw[if_neg h];have hl:(V.take p).length=p:=by simp;omega
  by_cases h':i=p
  ·rw[if_pos h'];subst h';simp[hl]
  ·rw[if_neg h'];obtain⟨j,rfl⟩:∃j,i=p+(j+1):=⟨i - p - 1,by omega⟩;rw[List.getD_eq_getElem?_getD,List.getElem?_append_right (by omega),hl,show p+(j+1) - p=j+1 by omega,List.getElem?_cons_succ,List.getElem?_drop,List.getD_eq_getElem?_getD];rfl
theorem pt_loop(hP:C.P=Tryz.prog)(V:List SL)(s:SL):waf C 0 56 (wah Tryz.f47 3) (L_pt V s):=by
 rintro st Q ⟨h0,hn,hQ⟩;refine waf.mk (prg hP) [(85,.det wnt)] 0 (.cons (beV_ok hP) .nil) [0,9,10] [0,9,10] [] (wg8 V s) (λi=>i<=V.length/\posS V s V.length=posS V s i) (λi=>i) V.length ⟨lR7 _,rfl⟩ h0 (λi hi=>?_);obtain⟨hi,he⟩:=hi;have fin:posS V s i=i->Q (.exit 0) (wg8 V s i):=λe=>by
  rw[he,e] at hQ;exact hQ
 rw[w0z];refine wag (λh1=>?_) (λh1=>fin (by rw[show i=0 by omega];rfl));obtain⟨k,rfl⟩:∃k,i=k+1:=⟨i - 1,by omega⟩;have e1:((k+1:Nat):Int) - 1=(k:Int):=by omega
 rw[e1,tN7];refine⟨by simp only[inR];omega,⟨by omega,by omega,rfl⟩,trivial,wag (λh2=>⟨by simp only[inR];omega,k,rfl,⟨by omega,?_⟩,by omega⟩) (λh2=>fin ?_)⟩
 ·rw[he,posS,decide_eq_true h2];rfl
 ·rw[posS,decide_eq_false h2];rfl
theorem put_ok(hP:C.P=Tryz.prog):wae C 47 wmd:=by
 rintro args objs U Os vc h hvc;unfold wmd at h;split at h<;>cases h;rename_i n f o p per;obtain⟨hn,hf,hl,ha⟩:=hvc;generalize slL f n=V at *;subst hf;subst hl;have hnf:=λQ=>nf_put V ⟨o,p,per⟩ Q;dsimp only at hnf;refine wat.frzO 0 ?_;refine wa9.wpL (prg hP) [] [(3,L_pt V ⟨o,p,per⟩)] 0 .nil (hP ▸ Tryz.func47) rfl rfl rfl [(wah Tryz.f47 3,L_pt V ⟨o,p,per⟩)] (by kernel_rfl) ⟨pt_loop hP V _,trivial⟩ ?_;rw[hnf];obtain⟨hle, -, -⟩:=wpw V ⟨o,p,per⟩ V.length;obtain⟨hq1,hq2⟩:=put_at ha ⟨o,p,per⟩;generalize posS V ⟨o,p,per⟩ V.length=q at *;rw[tN7,Nat.zero_add];refine⟨rfl,hn,?_⟩;have new:insS V ⟨o,p,per⟩=V.take q++⟨o,p,per⟩::V.drop q->∀i,i<q+1+(V.length - q)->apF (q+1) (apF q (apF 0 (wap 7 (List.flatten (List.replicate 0 [.str ([]),.str ([]),.q 0,.q 0,.q 0,.q 0,.str ([])]))) (wa5 V)) (wap 7 (.str o:: .str p:: .q per:: .q 0:: .q 0:: .q 0:: .str []::List.append [] (List.flatten (List.replicate (nat_lit 0) [.str ([]),.str ([]),.q 0,.q 0,.q 0,.q 0,.str ([])]))))) (λ(i:Nat)=>[.str (SL.o (atS V (q+i))),.str (SL.p (atS V (q+i))),.q (SL.per (atS V (q+i))),.q 0,.q 0,.q 0,.str []]) i=wa5 (insS V ⟨o,p,per⟩) i:=λe i hi=>by
  rw[e];unfold wa5;rw[atS_ins hle];unfold apF
  by_cases h1:i<q
  ·rw[if_pos (show i<q+1 by omega),if_pos h1,if_neg (nZ7 i),if_pos h1];rfl
  ·by_cases h2:i=q
   ·subst h2;rw[if_pos (Nat.lt_succ_self _),if_neg (Nat.lt_irrefl _),if_neg (Nat.lt_irrefl _),if_pos rfl,Nat.sub_self];rfl
   ·rw[if_neg (show ¬ i<q+1 by omega),if_neg h1,if_neg h2];show [AV.str (SL.o (atS V (q+(i - (q+1))))),.str (SL.p (atS V (q+(i - (q+1))))),.q (SL.per (atS V (q+(i - (q+1))))),.q 0,.q 0,.q 0,.str []]=_;rw[show q+(i - (q+1))=i - 1 by omega]
 have hlen:insS V ⟨o,p,per⟩=V.take q++⟨o,p,per⟩::V.drop q->q+1+(V.length - q)=(insS V ⟨o,p,per⟩).length:=λe=>by
  rw[e];simp;omega
 have e1:∀h0:0<q,(q:Int) - 1=((q - 1:Nat):Int):=λh0=>by omega
 have heq:0<q->(decide (SL.o (atS V (q - 1))=o) && (decide (SL.p (atS V (q - 1))=p) && (decide (SL.per (atS V (q - 1))=per) && (decide ((0:Int)=(0:Int)) && (decide ((0:Int)=(0:Int)) && (decide ((0:Int)=(0:Int)) && decide (([]:List UInt8)=[])))))))=decide (atS V (q - 1)=⟨o,p,per⟩):=λ_=>by
  rw[Bool.eq_iff_iff];generalize atS V (q - 1)=y
  cases y;simp
 have hjoin:(0<q->atS V (q - 1)≠⟨o,p,per⟩)->insS V ⟨o,p,per⟩=V.take q++⟨o,p,per⟩::V.drop q:=hq2;refine wag (λh0=>?_) (λh0=>?_)
 ·have h0:0<q:=by omega
  rw[e1 h0,tN7,heq h0];refine⟨by simp only[inR];omega,⟨by omega,by omega,rfl⟩,wag (λhe=>?_) (λhe=>?_)⟩
  ·have e:=hq1 h0 he;rw[e];exact⟨rfl,rfl⟩
  ·have e:=hjoin λ_=>he;have hw:=new e;have hln:=hlen e;refine⟨⟨by omega,rfl,by omega⟩,⟨by omega,by omega⟩,⟨rfl,lR7 _,rfl,rfl,rfl,by omega,by omega⟩,⟨by omega,rfl,by omega⟩,⟨⟨lR7 _,rfl⟩,lR7 _,rfl,rfl,rfl,by omega,by omega⟩,⟨by omega,by omega,rfl⟩,⟨rfl,lR7 _,rfl,rfl,rfl,by omega,by omega⟩,λi hi=>by rw[hw i hi];rfl,[(0,.row 43 7 (insS V ⟨o,p,per⟩).length (wa5 (insS V ⟨o,p,per⟩)) false)],⟨⟨rfl,rfl,rfl,hln,rfl,hw⟩,trivial⟩,λ_ _=>rfl,?_⟩;have hb:Nat.ble (insS V ⟨o,p,per⟩).length (insS V ⟨o,p,per⟩).length=true:=Nat.ble_eq_true_of_le (lR7 _);rw[hln]
   constructor
   ·simp[frzC,frzA,frz,hb]
   ·rfl
 ·have e:=hjoin λh=>absurd h (by omega);have hw:=new e;have hln:=hlen e;refine⟨⟨by omega,rfl,by omega⟩,⟨by omega,by omega⟩,⟨rfl,lR7 _,rfl,rfl,rfl,by omega,by omega⟩,⟨by omega,rfl,by omega⟩,⟨⟨lR7 _,rfl⟩,lR7 _,rfl,rfl,rfl,by omega,by omega⟩,⟨by omega,by omega,rfl⟩,⟨rfl,lR7 _,rfl,rfl,rfl,by omega,by omega⟩,λi hi=>by rw[hw i hi];rfl,[(0,.row 43 7 (insS V ⟨o,p,per⟩).length (wa5 (insS V ⟨o,p,per⟩)) false)],⟨⟨rfl,rfl,rfl,hln,rfl,hw⟩,trivial⟩,λ_ _=>rfl,?_⟩;have hb:Nat.ble (insS V ⟨o,p,per⟩).length (insS V ⟨o,p,per⟩).length=true:=Nat.ble_eq_true_of_le (lR7 _);rw[hln]
  constructor
  ·simp[frzC,frzA,frz,hb]
  ·rfl
theorem slL_sv(V:List SL):slL (wa5 V) V.length=V:=wh8 V
theorem wx4(R:List MG)(k:Nat):slK R (k+1)=bif isV (atM R k) then insS (slK R k) (vsl (atM R k).v) else slK R k:=by
 unfold slK;rw[wgj,List.filter_append]
 cases h:isV (atM R k)<;>simp[h]
theorem slK_asc(R:List MG)(k:Nat):Asc ordS (slK R k):=(wgp _ [] .nil).1
theorem slK_len(R:List MG)(k:Nat):(slK R k).length<=k:=by
 have h1:=wq6 (((lst (atM R) k).filter isV).map λm=>vsl m.v) [];have h2:=List.length_filter_le isV (lst (atM R) k);simp[lst] at h1 h2;unfold slK;simp[lst];omega
theorem w3e(R:List MG):lst (atM R) R.length=R:=by
 unfold lst atM;apply List.ext_getElem
 ·simp
 ·intro i h1 h2;simp at h1 ⊢;simp[h1]
theorem wx2(hP:C.P=Tryz.prog)(R:List MG):waf C 0 29 (wah Tryz.f45 3) (wog R):=by
 rintro st Q ⟨h0,hn,hQ⟩;refine AWP.nilS 3 7 (wa5 []) ?_;refine waf.mk (prg hP) [(47,.det wmd)] 0 (.cons (put_ok hP) .nil) [3,7,8,9] [3] [] (wl0 R) (λk=>k<=R.length) (λk=>R.length - k) 0 (zL7 _) h0 (λk hk=>?_);have hl:=slK_len R k;have hs:=wx4 R k;have hv:isV (atM R k)=decide ((atM R k).kind=1):=rfl;rw[w0e,tN7,slL_sv];refine wag (λh1=>⟨⟨by omega,by omega,rfl⟩,waj (λh2=>⟨⟨by omega,rfl,rfl,slK_asc R k⟩,by simp only[inR];omega,k+1,?_,by omega,by omega⟩) (λh2=>⟨by simp only[inR];omega,k+1,?_,by omega,by omega⟩)⟩) (λh1=>?_)
 ·rw[hs,hv,h2];rfl
 ·rw[hs,hv,h2];rfl
 ·have:k=R.length:=by omega
  subst this;have e:slK R R.length=visL R:=by
   unfold slK;rw[w3e];rfl
  rw[e];exact hQ
theorem wx1(hP:C.P=Tryz.prog):wae C 45 wlz:=by
 rintro args objs U Os vc h hvc;unfold wlz at h;split at h<;>cases h;rename_i n f;obtain⟨hn,hf,hs⟩:=hvc;generalize mgOf f=g at *;subst hf;refine wae.wpL (prg hP) [(52,.det wc4)] [(3,wog (wad g n))] 0 (.cons (wrk hP) .nil) (hP ▸ Tryz.func45) rfl rfl rfl [(wah Tryz.f45 3,wog (wad g n))] (by kernel_rfl) ⟨wx2 hP _,trivial⟩ ?_;rw[w0c];have hrl:=wea g n;exact⟨⟨hn,rfl,hs⟩,rfl,by omega,rfl,rfl⟩
theorem wyh(hP:C.P=Tryz.prog)(g:Nat->MG)(n:Nat)(o p:List UInt8):waf C 0 46 (wah Tryz.f28 3) (woi g n o p):=by
 rintro st Q ⟨h0,hn,hs,hQ⟩;refine AWP.ownNil 7 43 7 ?_;have hvl:(visL (wad g n)).length<=100000:=Nat.le_trans (wfi _) (Nat.le_trans (wea g n) hn);refine waf.mk (prg hP) [(20,.det we6)] 0 (.cons (resR_ok hP) .nil) [0,1,2,7,13,14,15] [7] [] (wf7 g n o p) (λk=>k<=(visL (wad g n)).length) (λk=>(visL (wad g n)).length - k) 0 (zL7 _) h0 (λk hk=>?_) (λi=>⟨λ_ _=>rfl,trivial⟩);have hsl:=wjd (wad g n) o p (visL (wad g n)) k;have hst:serK (wad g n) o p (visL (wad g n)) (k+1)=bif slkB (wad g n) o p (atS (visL (wad g n)) k) then serK (wad g n) o p (visL (wad g n)) k++[(resB (wad g n) (atS (visL (wad g n)) k)).1] else serK (wad g n) o p (visL (wad g n)) k:=rfl
 have hkb:slkB (wad g n) o p (atS (visL (wad g n)) k)=(decide ((atS (visL (wad g n)) k).o=o) && decide ((atS (visL (wad g n)) k).p=p) && decide ((resB (wad g n) (atS (visL (wad g n)) k)).2=1)):=rfl;rw[w0j,tN7];refine wag (λh1=>?_) (λh1=>?_)
 · have skip:slkB (wad g n) o p (atS (visL (wad g n)) k)=false->inR .i64 ((k:Int)+1)/\∃i':Nat,(TEq [(0,.view 15 n (waa g)),(1,.str o),(2,.str p),(7,.own 0 (serK (wad g n) o p (visL (wad g n)) k).length),(13,.view 7 (visL (wad g n)).length (wa5 (visL (wad g n)))),(14,.q (visL (wad g n)).length),(15,.q ((k:Int)+1))] (wf7 g n o p i').T/\
       wac [(0,.row 43 7 (serK (wad g n) o p (visL (wad g n)) k).length (waw (atX (serK (wad g n) o p (visL (wad g n)) k))) false)] (wf7 g n o p i').O)/\(i'<=(visL (wad g n)).length/\(visL (wad g n)).length - i'<(visL (wad g n)).length - k):=λh=>by
     refine⟨by simp only[inR];omega,k+1,?_,by omega,by omega⟩;unfold wf7;rw[hst,h];exact⟨rfl,rQ7,trivial⟩
   refine⟨⟨by omega,by omega,rfl⟩,wax (λh2=>skip ?_) (λh2=>wax (λh3=>skip ?_) (λh3=>⟨⟨hn,rfl,hs⟩,?_⟩))⟩
   · rw[hkb,decide_eq_false h2];rfl
   · rw[hkb,decide_eq_false h3,Bool.and_false];rfl
   · have er:resF (mgOf (waa g)) n o p (atS (visL (wad g n)) k).per=resB (wad g n) (atS (visL (wad g n)) k):=by
       rw[← h2, ← h3];rfl
     rw[er];refine wag (λh4=>?_) (λh4=>skip ?_)
     · rw[hkb,decide_eq_true h2,decide_eq_true h3,decide_eq_true h4] at hst;have hst:serK (wad g n) o p (visL (wad g n)) (k+1)=serK (wad g n) o p (visL (wad g n)) k++[(resB (wad g n) (atS (visL (wad g n)) k)).1]:=hst;refine⟨⟨by omega,rfl,by omega⟩,⟨⟨lR7 _,rfl⟩,lR7 _,rfl,rfl,rfl,by omega,by omega⟩,by simp only[inR];omega,k+1,?_,by omega,by omega⟩;rw[hst,lA7];exact⟨rfl,⟨rfl,rfl,rfl,rfl,rfl,λj hj=>snocE vtC default _ _ _ rfl j hj⟩,trivial⟩
     · rw[hkb,decide_eq_false h4,Bool.and_false]
 · have:k=(visL (wad g n)).length:=by omega
   subst this;exact⟨λ_ _=>rfl,_,was _,hQ⟩
theorem rSer_ok(hP:C.P=Tryz.prog):wae C 28 S_Ser:=by
 rintro args objs U Os vc h hvc;unfold S_Ser at h;split at h<;>cases h;rename_i n f o p;obtain⟨hn,hf,hs⟩:=hvc;generalize mgOf f=g at *;subst hf;refine wat.frzO 0 ?_;refine wa9.wpL (prg hP) [(45,.det wlz)] [(3,woi g n o p)] 0 (.cons (wx1 hP) .nil) (hP ▸ Tryz.func28) rfl rfl rfl [(wah Tryz.f28 3,woi g n o p)] (by kernel_rfl) ⟨wyh hP g n o p,trivial⟩ ?_;rw[nf_rsr];refine⟨⟨hn,rfl,hs⟩,⟨rfl,⟨rfl,rfl,rfl,rfl,rfl,λi hi=>absurd hi (nZ7 i)⟩,trivial⟩,hn,hs,λ_ _=>rfl,_,was _,λ_ _=>rfl,?_⟩;generalize serL (wad g n) o p=L at *;have hb:Nat.ble L.length L.length=true:=Nat.ble_eq_true_of_le (lR7 _)
 constructor
 ·simp[frzC,frzA,frz,hb]
 ·rfl
theorem w0k(g:Nat->MG)(n:Nat)(o:List UInt8)(out:List (List UInt8))(v:VT)(k:Nat)(P:Nat->Prop)(Q:eR7):waq ⟨te,[],[],0,52,0⟩ (wav Tryz.f33 6) [0,1,7,8,35,36,37] [0,1,7,8] [6] (wl5 g n o out v) P Q (wl5 g n o out v k)=(letI z2:=(∀(i:Nat),i<out.length->true=true:Prop);letI z1:=out.length;letI z0:=([(0,.row 9 1 z1 (wau (atG out)) false),(1,.cells [.str v.o,.str v.p,.q v.per,.q v.day,.q v.st,.q v.pr,.str v.rep] 43)]:oL7);wab (decide ((k:Int)<(z1:Int))) (((0:Int)<=(k:Int)/\(k:Int)<(z1:Int))/\((k:Int).toNat<out.length/\1=1)/\wab (decide (atG out (k:Int).toNat=v.rep)) (z2/\∃(O':oL7),wac [(0,.row 9 1 z1 (wau (atG out)) false)] O'/\Q .ret (St.mk [(6,.own 0 z1)] O' 1 [])) (inR .i64 ((k:Int)+1)/\∃(i':Nat),(TEq [(0,.view 15 n (waa g)),(1,.str o),(7,.own 0 z1),(8,.ptr 1 0),(35,.own 0 z1),(36,.q (z1:Int)),(37,.q ((k:Int)+1))] [(0,.view 15 n (waa g)),(1,.str o),(7,.own 0 z1),(8,.ptr 1 0),(35,.own 0 z1),(36,.q (z1:Int)),(37,.q (i':Int))]/\wac z0 z0)/\P i')) (z2/\∃(O':oL7),wac z0 O'/\Q (.exit 2) (St.mk [(0,.view 15 n (waa g)),(1,.str o),(7,.own 0 z1),(8,.ptr 1 0)] O' 2 []))):=by kernel_rfl
theorem w0l(g:Nat->MG)(n:Nat)(R:List MG)(o:List UInt8)(out:List (List UInt8))(v:VT)(P:List (List UInt8)->Prop)(Q:eR7):waq ⟨te,[(28,.det (wnw R)),(46,.det wmu)],[(6,woj g n o out v)],0,52,0⟩ (wav Tryz.f33 2) [0,1,7] [] [6] (wl6 g n o) P Q (wl6 g n o out)=(letI z5:=wau (atG out);letI z4:=TI.mk TypeDesc.string 1 16 (Value.string (ByteArray.mk #[])) false;letI z3:=out.length;letI z1:=((∀(i:Nat),i<out.length->true=true)/\∃(O':oL7),wac [(0,.row 9 1 z3 z5 false)] O'/\Q .ret (St.mk [(6,.own 0 z3)] O' 1 []):Prop);letI z0:=(serL R o (atG out ((z3:Int) - (1:Int)).toNat));letI z2:=lasX (vtOf (waw (atX z0))) z0.length;inR .i64 ((z3:Int) - (1:Int))/\((0:Int)<=(z3:Int) - (1:Int)/\(z3:Int) - (1:Int)<(z3:Int))/\(((z3:Int) - (1:Int)).toNat<out.length/\1=1)/\(R=wad (mgOf (waa g)) n/\n<=100000/\waa g=waa (mgOf (waa g))/\∀(i:Nat),i<n->MG.Sm (mgOf (waa g) i))/\(z0.length<=1000000/\waw (atX z0)=waw (vtOf (waw (atX z0))))/\wab (!decide (fstB (λ(i:Nat)=>finB (vtOf (waw (atX z0)) i)) z0.length<z0.length)) z1 (wab (!decide (z2.st=5)) z1 ((TEq [(0,.view 15 n (waa g)),(1,.str o),(7,.own 0 z3),(8,.ptr 1 0),(35,.own 0 z3),(36,.q (z3:Int)),(37,.q 0)] [(0,.view 15 n (waa g)),(1,.str o),(7,.own 0 z3),(8,.ptr 1 0),(35,.own 0 z3),(36,.q (z3:Int)),(37,.q (↑0:Int))]/\wac [(0,.row 9 1 z3 z5 false),(1,.cells [.str z2.o,.str z2.p,.q z2.per,.q z2.day,.q z2.st,.q z2.pr,.str z2.rep] 43)] [(0,.row 9 1 z3 z5 false),(1,.cells [.str v.o,.str v.p,.q v.per,.q v.day,.q v.st,.q v.pr,.str v.rep] 43)])/\out.length<=200000/\wab (decide (v.rep∈out)) z1 ((1<=16777216/\1=1/\1<=9223372036854775807)/\((1<=1/\1=1)/\out.length<=out.length/\1=1/\9=9/\1=1/\out.length+1<=9223372036854775807/\(out.length+1) * TI.bytes z4<=140737488355328)/\∃(i':List (List UInt8)),(TEq [(0,.view 15 n (waa g)),(1,.str o),(7,.own 0 (out.length+1))] [(0,.view 15 n (waa g)),(1,.str o),(7,.own 0 i'.length)]/\wac [(0,.row 9 1 (out.length+1) (apF z3 z5 (wap (TI.sz z4) (.str v.rep::List.append [] (List.flatten (List.replicate (nat_lit 0) [.str ([])]))))) false)] [(0,.row 9 1 i'.length (wau (atG i')) false)])/\P i')))):=by kernel_rfl
theorem nf_rrp(g:Nat->MG)(n:Nat)(o p:List UInt8)(Q:AV->oL7->Prop):wpFn te [] [(2,wok g n o p)] 0 Tryz.f33 [.view 15 n (waa g),.str o,.str p] [] Q=(letI z1:=([(0,.view 15 n (waa g)),(1,.str o),(7,.own 0 1)]:tL7);letI z0:=rplL (wad g n) o p;(1<=16777216/\1=1/\1<=9223372036854775807)/\(TEq z1 z1/\wac [(0,.row 9 1 1 (wap (TI.sz (TI.mk TypeDesc.string 1 16 (Value.string (ByteArray.mk #[])) false)) (.str p::List.append [] (List.flatten (List.replicate (nat_lit 0) [.str ([])])))) false)] [(0,.row 9 1 1 (wau (atG [p])) false)])/\n<=100000/\(∀(i:Nat),i<n->MG.Sm (g i))/\(∀(i:Nat),i<z0.length->true=true)/\∃(O':oL7),wac [(0,.row 9 1 z0.length (wau (atG z0)) false)] O'/\Q (.own 0 z0.length) O'):=by kernel_rfl
theorem SerR_ok(hP:C.P=Tryz.prog)(R:List MG):wae C 28 (wnw R):=by
 rintro args objs U Os vc h hvc;unfold wnw at h;split at h<;>cases h;rename_i n f o p;obtain⟨rfl,hn,hf,hs⟩:=hvc;exact rSer_ok hP _ _ _ _ _ rfl ⟨hn,hf,hs⟩
theorem wyi(hP:C.P=Tryz.prog)(g:Nat->MG)(n:Nat)(o:List UInt8)(out:List (List UInt8))(v:VT):waf C 0 52 (wah Tryz.f33 6) (woj g n o out v):=by
 have _:C.Loose:=inferInstance;rintro st Q ⟨h0,hn,hQ⟩;have hR:=wbo hQ;refine waf.mk (prg hP) [] 0 .nil [0,1,7,8,35,36,37] [0,1,7,8] [6] (wl5 g n o out v) (λk=>k<=out.length/\∀i,i<k->atG out i≠v.rep) (λk=>out.length - k) 0 ⟨zL7 _,λi hi=>absurd hi (nZ7 i)⟩ h0 (λk hk=>?_) (λi=>⟨λ_ _=>rfl,trivial⟩);obtain⟨hk,hne⟩:=hk;rw[w0k,tN7];refine wag (λh1=>⟨⟨by omega,by omega⟩,⟨by omega,rfl⟩,wag (λh2=>⟨λ_ _=>rfl,_,was _,hR.1 ?_⟩) (λh2=>⟨by simp only[inR];omega,k+1,⟨rfl,rQ7,rfl,trivial⟩,⟨by omega,λi hi=>?_⟩,by omega⟩)⟩) (λh1=>⟨λ_ _=>rfl,_,was _,hR.2 ?_⟩)
 ·rw[decide_eq_true_eq, ← h2,wrs (show k<out.length by omega)];exact List.getElem_mem _
 ·by_cases q:i=k
  ·rw[q];exact h2
  ·exact hne i (by omega)
 ·rw[decide_eq_false_iff_not];intro hm;obtain⟨i,hi,e⟩:=List.getElem_of_mem hm;exact hne i (by omega) (by rw[wrs hi];exact e)
theorem wyj(hP:C.P=Tryz.prog)(g:Nat->MG)(n:Nat)(o p:List UInt8):waf C 0 52 (wah Tryz.f33 2) (wok g n o p):=by
 rintro st Q ⟨h0,hn,hs,hQ⟩;have hrl:=wea g n;generalize hR:wad g n=R at *;refine waf.mkI (prg hP) [(28,.det (wnw R)),(46,.det wmu)] (λout=>[(6,woj g n o out (lasX (atX (serL R o (lstS out))) (serL R o (lstS out)).length))]) 0 (.cons (SerR_ok hP R) (.cons (last_ok hP) .nil)) (λout=>[(wah Tryz.f33 6,woj g n o out (lasX (atX (serL R o (lstS out))) (serL R o (lstS out)).length))]) (λout=>by kernel_rfl) (λout=>⟨wyi hP g n o out _,trivial⟩) [0,1,7] [] [6] (wl6 g n o) (λout=>∃k,k<=R.length/\out=rpK R o p k) (λout=>R.length+2 - out.length) [p] ⟨0,zL7 _,rfl⟩ h0 (λout hI=>?_) (λi=>⟨λ_ _=>rfl,trivial⟩);obtain⟨k,hk,hout⟩:=hI;rw[w0l];have hlt:= @rpK_lt R o p k;have hgl:=wpq R o p k;have hend:= @ws3 R o p k hk;have hok:=wfk R o p k;have hlen:=hok.len;have hst:rpK R o p (k+1)=bif goR R o (rpK R o p k) then rpK R o p k++[(repV R o (rpK R o p k)).rep] else rpK R o p k:=rfl
 have hpos:0<(rpK R o p k).length:=by
  obtain⟨tl,e,_⟩:=hok.hd;rw[e];simp
 rw[← hout] at *;have e1:(out.length:Int) - 1=((out.length - 1:Nat):Int):=by omega
 have hg:∀g:Nat->VT,vtOf (waw g)=g:=λ_=>rfl;have e2:atG out (out.length - 1)=lstS out:=rfl;have hsl:=wsn R o (lstS out);have hgo:goR R o out=(decide (lasF (serL R o (lstS out))<(serL R o (lstS out)).length) && (decide ((atX (serL R o (lstS out)) (lasF (serL R o (lstS out)))).st=5) && !decide ((atX (serL R o (lstS out)) (lasF (serL R o (lstS out)))).rep∈out))):=rfl;have hrv:repV R o out=atX (serL R o (lstS out)) (lasF (serL R o (lstS out))):=rfl;have hlx:lasX (atX (serL R o (lstS out))) (serL R o (lstS out)).length=bif decide (lasF (serL R o (lstS out))<(serL R o (lstS out)).length) then atX (serL R o (lstS out)) (lasF (serL R o (lstS out))) else ⟨[],[],0,0,0,0,[]⟩:=rfl
 have hfs:fstB (λi=>finB (atX (serL R o (lstS out)) i)) (serL R o (lstS out)).length=lasF (serL R o (lstS out)):=rfl;rw[e1,tN7,e2];simp only[hg,hfs];have fin:goR R o out=false->(∀(i:Nat),i<out.length->True)/\∃O',wac [(0,AObj.row 9 1 out.length (wau (atG out)) false)] O'/\Q .ret (St.mk [(6,.own 0 out.length)] O' 1 []):=λh=>by
  have:=hend h;rw[← this] at hQ;exact⟨λ_ _=>trivial,_,was _,hQ⟩
 have hRg:R=wad (mgOf (waa g)) n:=hR.symm;refine⟨by simp only[inR];omega,⟨by omega,by omega⟩,⟨by omega,by trivial⟩,⟨hRg,hn,by trivial,hs⟩,⟨by omega,by trivial⟩,wax (λhj=>fin ?_) (λhj=>?_)⟩
 ·rw[hgo,decide_eq_false hj];rfl
 rw[decide_eq_true hj,cond_true] at hlx;rw[decide_eq_true hj,Bool.true_and] at hgo;rw[hlx];generalize atX (serL R o (lstS out)) (lasF (serL R o (lstS out)))=x at *;refine wax (λh2=>fin ?_) (λh2=>⟨⟨rfl,rQ7,rfl,trivial⟩,by omega,waj (λh3=>fin ?_) (λh3=>?_)⟩)
 ·rw[hgo,decide_eq_false h2];rfl
 ·rw[hgo,decide_eq_true h2,h3];rfl
 ·rw[decide_eq_true h2,h3] at hgo;have hgo:goR R o out=true:=hgo;rw[hgo,cond_true,hrv] at hst;have hk1:=hlt hgo;have hol:=hgl hgo;refine⟨⟨by omega,by trivial,by omega⟩,⟨⟨lR7 _,by trivial⟩,lR7 _,by trivial,by trivial,by trivial,by omega,?_⟩,out++[x.rep],?_,⟨k+1,hk1,hst.symm⟩,?_⟩
  ·show _ * 16<=_;omega
  ·rw[lA7];refine⟨rfl,⟨rfl,rfl,rfl,rfl,rfl,λi hi=>?_⟩,trivial⟩;have hi:i<out.length+1:=hi;show apF out.length (wau (atG out)) _ i=[.str (atG (out++[x.rep]) i)];rw[wwm _ _ _ hi];unfold apF
   by_cases h:i<out.length
   ·rw[if_pos h,if_pos h];rfl
   ·have:i=out.length:=by omega
    subst this;rw[if_neg h,if_neg h,Nat.sub_self];rfl
  ·rw[lA7];show R.length+2 - (out.length+1)<R.length+2 - out.length;omega
theorem rrp_ok(hP:C.P=Tryz.prog):wae C 33 wc5:=by
 rintro args objs U Os vc h hvc;unfold wc5 at h;split at h<;>cases h;rename_i n f o p;obtain⟨hn,hf,hs⟩:=hvc;generalize mgOf f=g at *;subst hf;refine wat.frzO 0 ?_;refine wa9.wpL (prg hP) [] [(2,wok g n o p)] 0 .nil (hP ▸ Tryz.func33) rfl rfl rfl [(wah Tryz.f33 2,wok g n o p)] (by kernel_rfl) ⟨wyj hP g n o p,trivial⟩ ?_;rw[nf_rrp];have hb:Nat.ble (rplL (wad g n) o p).length (rplL (wad g n) o p).length=true:=Nat.ble_eq_true_of_le (lR7 _);refine⟨⟨by omega,by trivial,by omega⟩,⟨rfl,⟨rfl,rfl,rfl,rfl,rfl,λi hi=>?_⟩,trivial⟩,hn,hs,λ_ _=>rfl,_,was _,λ_ _=>rfl,?_⟩
 ·have:i=0:=by omega
  subst this;rfl
 ·constructor
  ·simp[frzC,frzA,frz,hb]
  ·rfl
theorem wt4(g:Nat->MG)(k:Nat)(r:MG)(ch:Nat->List AV)(hch:ch 0=mgC r)(j:Nat)(_hj:j<k+1):apF k (waa g) ch j=waa (MG.put g k r) j:=by
 unfold apF waa MG.put
 by_cases h:j<k
 ·rw[if_pos h,if_pos h]
 ·have:j=k:=by omega
  rw[if_neg h,if_neg h,this,Nat.sub_self,hch];rfl
def awM:MG:=⟨[97],1,1,⟨[111,49],[57,54,51,56,53,48,55,52],5,160,1,100,[]⟩,⟨[],[],0,[],0⟩⟩
end Go.Eng
