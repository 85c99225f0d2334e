/- Series and states: plain lists. -/
import Derived.Test.YtmcdngcjakjnmaaGreatDoorJqs
namespace Go.Eng
open Go.Proofs Go.RowKit
variable {C:Ctx} [C.Loose]
set_option maxRecDepth 20000
theorem nf_mrg(g:Nat->MG)(n:Nat)(h:Nat->MG)(m:Nat)(R:oR7):letI z4:=sumN (nn2 n m) 2;letI z3:=(List.flatten (List.replicate (nat_lit 0) [.nil]):List AV);letI z2:=catG (nn2 n m) (gg2 g h) 2;letI z0:=flL z2 z4;letI z1:=(∀(i:Nat),i<z0.length->true=true:Prop);wpFn te [(95,.rel wmv),(96,.det wgo),(97,.rel wmr),(99,.rel wmw)] [(3,L_mg z2 z4)] 0 Tryz.f76 [.view 15 n (waa g),.view 15 m (waa h)] [] R=((2<=16777216/\1=1/\2<=9223372036854775807)/\(∀(i:Nat),i<2->nrefL (waw 1 (.view 15 n (waa g):: .view 15 m (waa h)::List.append [] z3) i)=true)/\∃(nn:Nat->Nat),∃(gg:Nat->Nat->MG),22=22/\false=false/\2=2/\2<=1000/\(∀(i:Nat),i<2->[AV.view 15 (nn i) (waa (gg i))]=waw 1 (.view 15 n (waa g):: .view 15 m (waa h)::List.append [] z3) i)/\sumN nn 2<=1000000/\(∀(i:Nat),i<2->true=true)/\(TEq [(5,.own 0 0),(11,.view 15 (sumN nn 2) (waa (catG nn gg 2))),(12,.q (↑(sumN nn 2):Int)),(13,.q 0)] [(5,.own 0 0),(11,.view 15 z4 (waa z2)),(12,.q (z4:Int)),(13,.q (↑0:Int))]/\wad [(0,.row 47 15 0 (λ(_x:Nat)=>[]) false)] [(0,.row 47 15 0 (waa (atM (flL z2 0))) false)])/\sumN (nn2 n m) 2<=200000/\(∀(i:Nat),i<sumN (nn2 n m) 2->MG.Sm (catG (nn2 n m) (gg2 g h) 2 i))/\z1/\47=47/\false=false/\z0.length=z0.length/\z0.length<=1000000/\waa (atM z0)=waa (mgOf (waa (atM z0)))/\∀(h_1:Nat->MG),List.Perm (lst h_1 z0.length) (lst (mgOf (waa (atM z0))) z0.length)->(∀(i j:Nat),i<j->j<z0.length->¬ordM (h_1 j) (h_1 i)<0)->z1/\z1/\47=47/\false=false/\z0.length=z0.length/\z0.length<=1000000/\waa h_1=waa (mgOf (waa h_1))/\∀(k:Nat) (h_2:Nat->MG),lst h_2 k=ddL (mgOf (waa h_1)) z0.length->(∀(i:Nat),i<k->true=true)/\(∀(i:Nat),i<k->true=true)/\∃(O':oL7),wad [(0,.row 47 15 k (waa h_2) false)] O'/\R (.own 0 k) O'):=by kernel_rfl
theorem wyn(g:Nat->MG)(n k:Nat)(P:Nat->Prop)(R:eR7):wav ⟨te,[(96,.det wgo)],[],0,29,0⟩ (wax Tryz.f76 3) [5,11,12,13] [5] [] (S_mg g n) P R (S_mg g n k)=(letI z2:=(flL g k).length+1;letI z1:=(flL g k).length;letI z3:=([(0,.row 47 15 z1 (waa (atM (flL g k))) false)]:oL7);letI z0:=(g (k:Int).toNat);wab (decide ((k:Int)<(n:Int))) (((0:Int)<=(k:Int)/\(k:Int)<(n:Int)/\15=15)/\(z0.dev.length<9223372036854775808/\z0.v.o.length<9223372036854775808/\z0.d.o.length<9223372036854775808/\z0.d.dev.length<9223372036854775808)/\wab (decide (msgF (MG.mk z0.dev z0.seq z0.kind (VT.mk z0.v.o z0.v.p z0.v.per z0.v.day z0.v.st z0.v.pr z0.v.rep) (DT.mk z0.d.o z0.d.p z0.d.per z0.d.dev z0.d.num))=0)) ((15<=16777216/\15=15/\1<=9223372036854775807)/\((1<=1/\15=15)/\(flL g k).length<=(flL g k).length/\15=15/\47=47/\15=15/\(flL g k).length+1<=9223372036854775807/\z2 * 176<=140737488355328)/\inR .i64 ((k:Int)+1)/\∃(i':Nat),(TEq [(5,.own 0 z2),(11,.view 15 n (waa g)),(12,.q (n:Int)),(13,.q ((k:Int)+1))] [(5,.own 0 (flL g i').length),(11,.view 15 n (waa g)),(12,.q (n:Int)),(13,.q (i':Int))]/\wad [(0,.row 47 15 z2 (apF z1 (waa (atM (flL g k))) (waw 15 (.str z0.dev:: .q z0.seq:: .q z0.kind:: .str z0.v.o:: .str z0.v.p:: .q z0.v.per:: .q z0.v.day:: .q z0.v.st:: .q z0.v.pr:: .str z0.v.rep:: .str z0.d.o:: .str z0.d.p:: .q z0.d.per:: .str z0.d.dev:: .q z0.d.num::List.append [] wfs))) false)] [(0,.row 47 15 (flL g i').length (waa (atM (flL g i'))) false)])/\P i') (inR .i64 ((k:Int)+1)/\∃(i':Nat),(TEq [(5,.own 0 z1),(11,.view 15 n (waa g)),(12,.q (n:Int)),(13,.q ((k:Int)+1))] [(5,.own 0 (flL g i').length),(11,.view 15 n (waa g)),(12,.q (n:Int)),(13,.q (i':Int))]/\wad z3 [(0,.row 47 15 (flL g i').length (waa (atM (flL g i'))) false)])/\P i')) ((∀(i:Nat),i<(flL g k).length->true=true)/\∃(O':oL7),wad z3 O'/\R (.exit 0) (St.mk [(5,.own 0 z1)] O' 1 []))):=by kernel_rfl
theorem w2g{h:Nat->MG}{n:Nat}(hs:∀i j,i<j->j<n->¬ ordM (h j) (h i)<0):Asc ordM (ddL h n)/\∀x,x∈ddL h n↔x∈lst h n:=by
 have le:∀i j,i<j->j<n->ordM (h i) (h j)<=0:=λi j hij hj=>by
  have:=hs i j hij hj;rw[we1.neg] at this;omega
 have nk:∀j,0<j->wca h j=true->h j≠h (j - 1):=λj hj hk e=>by
  rw[wjl hj,wt2.2 e] at hk;cases hk
 refine⟨?_,λx=>⟨λhx=>?_,λhx=>?_⟩⟩
 ·unfold Asc ddL;refine List.pairwise_map.2 ((List.pairwise_lt_range.filter _).imp_of_mem λ{i j} hi hj hij=>?_);obtain⟨hjn,hjk⟩:=List.mem_filter.1 hj;have hjn:=List.mem_range.1 hjn;have l1:=le i j hij hjn
  rcases Int.lt_or_eq_of_le l1 with h0 | h0
  ·exact h0
  ·exfalso;have e:=wob.1 h0;refine nk j (by omega) hjk ?_
   by_cases q:i=j - 1
   ·rw[← q,e]
   ·have l2:=le i (j - 1) (by omega) (by omega);have l3:=le (j - 1) j (by omega) hjn;rw[e] at l2;have:=we1.neg (h (j - 1)) (h j);exact wob.1 (by omega)
 ·unfold ddL at hx;obtain⟨i,hi,rfl⟩:=List.mem_map.1 hx;exact List.mem_map.2 ⟨i,(List.mem_filter.1 hi).1,rfl⟩
 ·obtain⟨i,hi,rfl⟩:=List.mem_map.1 hx;have key:∀i,i<n->h i∈ddL h n:=λi=>by
   induction i with
   |zero=>intro hi;exact List.mem_map.2 ⟨0,List.mem_filter.2 ⟨List.mem_range.2 hi,rfl⟩,rfl⟩
   |succ i ih=>
    intro hi
    cases q:wca h (i+1) with
    |true=>exact List.mem_map.2 ⟨i+1,List.mem_filter.2 ⟨List.mem_range.2 hi,q⟩,rfl⟩
    |false=>
     rw[wjl (Nat.succ_pos i)] at q;have e:eqM (h (i+1)) (h i)=true:=by
      have:i+1 - 1=i:=rfl;rw[this] at q
      cases r:eqM (h (i+1)) (h i) with
      |true=>rfl
      |false=>rw[r] at q;cases q
     rw[wt2.1 e];exact ih (by omega)
  exact key i (List.mem_range.1 hi)
theorem wc2(L:List MG):lst (atM L) L.length=L:=by
 apply List.ext_getElem
 ·simp[lst]
 ·intro i h1 h2;simp[lst,atM,h2]
theorem wso{g:Nat->MG}{L:List MG}{n:Nat}(h:lst g n=L):n=L.length/\∀i,i<n->g i=atM L i:=by
 subst h;refine⟨by simp[lst],λi hi=>?_⟩;simp[lst,atM,hi]
theorem w11(g:Nat->MG)(k:Nat):flL g (k+1)=flL g k++bif okM (g k) then [g k] else []:=by
 unfold flL;rw[wdt,List.filter_append]
 cases h:okM (g k)<;>simp[h]
theorem wtv(g:Nat->MG)(k:Nat):(flL g k).length<=k:=by
 have:=List.length_filter_le okM (lst g k);have e:(lst g k).length=k:=by simp[lst]
 unfold flL;omega
theorem cat2(g:Nat->MG)(n:Nat)(h:Nat->MG)(m:Nat):sumN (nn2 n m) 2=n+m/\lst (catG (nn2 n m) (gg2 g h) 2) (n+m)=lst g n++lst h m/\∀i,i<n+m->(i<n/\catG (nn2 n m) (gg2 g h) 2 i=g i)∨(i - n<m/\n<=i/\catG (nn2 n m) (gg2 g h) 2 i=h (i - n)):=by
 have s1:sumN (nn2 n m) 1=n:=by simp[sumN,nn2]
 have at1:∀i,i<n+m->(i<n/\catG (nn2 n m) (gg2 g h) 2 i=g i)∨(i - n<m/\n<=i/\catG (nn2 n m) (gg2 g h) 2 i=h (i - n)):=λi hi=>by
  by_cases q:i<n
  ·refine .inl ⟨q,?_⟩;rw[catG,s1,if_pos q,catG];have:sumN (nn2 n m) 0=0:=rfl;rw[this,if_neg (by omega)];rfl
  ·refine .inr ⟨by omega,by omega,?_⟩;rw[catG,s1,if_neg q];rfl
 refine⟨by rw[sumN,s1];rfl,?_,at1⟩;apply List.ext_getElem
 ·simp[lst]
 ·intro i h1 h2;have hi:i<n+m:=by simpa[lst] using h1
  rcases at1 i hi with⟨q,e⟩ | ⟨q1,q2,e⟩
  ·rw[List.getElem_append_left (by simp[lst,q])];simp[lst,e]
  ·rw[List.getElem_append_right (by simp[lst,q2])];simp[lst,e]
theorem mg_loop(hP:C.P=Tryz.prog)(hL:∀w,C.laid w->LaidW w)(g:Nat->MG)(n:Nat):wah C 0 29 (waj Tryz.f76 3) (L_mg g n):=by
 rintro st Q ⟨h0,hn,hs,hQ⟩;refine AWP.ownNil 5 47 15 ?_;refine wah.mk (prg hP) [(96,.det wgo)] 0 (.cons (msg_ok hP hL) .nil) [5,11,12,13] [5] [] (S_mg g n) (λk=>k<=n) (λk=>n - k) 0 (zL7 _) h0 (λk hk=>?_) (λi=>⟨λ_ _=>rfl,trivial⟩);rw[wyn,tN7];have hlen:=wtv g k;have hsu:=w11 g k;refine wae (λh1=>?_) (λh1=>?_)
 ·have hk:=hs k (by omega);refine⟨⟨by omega,by omega,rfl⟩,⟨hk.a,hk.b,hk.c,hk.d⟩,wae (λq=>?_) (λq=>?_)⟩
  ·have q:msgF (g k)=0:=q;have e:flL g (k+1)=flL g k++[g k]:=by rw[hsu,show okM (g k)=true from decide_eq_true q];rfl
   refine⟨⟨by omega,rfl,by omega⟩,⟨⟨lR7 _,rfl⟩,lR7 _,rfl,rfl,rfl,by omega,?_⟩,by simp only[inR];omega,k+1,?_,by omega,by omega⟩
   ·show ((flL g k).length+1) * 176<=_;omega
   ·rw[e,lA7];refine⟨rfl,⟨rfl,rfl,rfl,rfl,rfl,λj hj=>?_⟩,trivial⟩;generalize flL g k=L at *;unfold apF
    by_cases h:j<L.length
    ·rw[if_pos h];have:atM (L++[g k]) j=atM L j:=by simp[atM,List.getD_eq_getElem?_getD,List.getElem?_append_left h]
     unfold waa;rw[this]
    ·have hj:j=L.length:=by omega
     subst hj;rw[if_neg h,Nat.sub_self];have:atM (L++[g k]) L.length=g k:=by simp[atM]
     unfold waa;rw[this];rfl
  ·have q:¬ msgF (g k)=0:=q;have e:flL g (k+1)=flL g k:=by rw[hsu,show okM (g k)=false from decide_eq_false q];simp
   refine⟨by simp only[inR];omega,k+1,?_,by omega,by omega⟩;rw[e];exact⟨rfl,rQ7,trivial⟩
 ·have:k=n:=by omega
  subst this;exact⟨λ_ _=>rfl,_,wa0 _,hQ⟩
theorem mrg_ok(hP:C.P=Tryz.prog)(hL:∀w,C.laid w->LaidW w):wac C 76 S_mrg:=by
 rintro args objs U Os vc hh hvc;unfold S_mrg at hh;split at hh<;>simp only[sI7,pI7,reduceCtorEq] at hh;rename_i n f m h;obtain⟨rfl,rfl,rfl⟩:=hh;obtain⟨hn,hm,hf,hh,s1,s2⟩:=hvc;generalize mgOf f=g at *;generalize mgOf h=j at *;subst hf;subst hh;refine wac.wpL (prg hP) [(95,.rel wmv),(96,.det wgo),(97,.rel wmr),(99,.rel wmw)] [(3,L_mg (catG (nn2 n m) (gg2 g j) 2) (sumN (nn2 n m) 2))] 0 (.cons (w2k hP) (.cons (msg_ok hP hL) (.cons (wv5 hP) (.cons (w2o hP) .nil)))) (hP ▸ Tryz.func76) rfl rfl rfl [(waj Tryz.f76 3,L_mg (catG (nn2 n m) (gg2 g j) 2) (sumN (nn2 n m) 2))] (by kernel_rfl) ⟨mg_loop hP hL _ _,trivial⟩ ?_;rw[nf_mrg];obtain⟨c1,c2,c3⟩:=cat2 g n j m;have two:∀ {p:Nat->Prop},p 0->p 1->∀i,i<2->p i:=λh0 h1 i hi=>by
  match i,hi with
  |0,_=>exact h0
  |1,_=>exact h1
 have sm:∀i,i<n+m->(catG (nn2 n m) (gg2 g j) 2 i).Sm:=λi hi=>by
  rcases c3 i hi with⟨q,e⟩ | ⟨q1,q2,e⟩
  ·rw[e];exact s1 i q
  ·rw[e];exact s2 _ q1
 refine⟨⟨by omega,rfl,by omega⟩,two rfl rfl,nn2 n m,gg2 g j,rfl,rfl,rfl,by omega,two rfl rfl,by rw[c1];omega,two rfl rfl,⟨rfl,⟨rfl,rfl,rfl,rfl,rfl,λi hi=>absurd hi (nZ7 i)⟩,trivial⟩,?_⟩;have hfl:flL (catG (nn2 n m) (gg2 g j) 2) (n+m)=(lst g n++lst j m).filter okM:=by unfold flL;rw[c2]
 have hlen:=wtv (catG (nn2 n m) (gg2 g j) 2) (n+m);have hLd:mrgL g n j m=mrgF (lst g n++lst j m):=rfl;rw[c1];generalize catG (nn2 n m) (gg2 g j) 2=cc at *;generalize hF:flL cc (n+m)=Fl at *;refine⟨by omega,sm,λ_ _=>rfl,rfl,rfl,rfl,by omega,rfl,λh1 hp hs=>⟨λ_ _=>rfl,λ_ _=>rfl,rfl,rfl,rfl,by omega,rfl,λk h2 hd=>?_⟩⟩;have hp:(lst h1 Fl.length).Perm (lst (atM Fl) Fl.length):=hp;have hd:lst h2 k=ddL h1 Fl.length:=hd;rw[wc2] at hp;obtain⟨a1,a2⟩:=w2g hs;have hM:ddL h1 Fl.length=mrgL g n j m:=by
  refine wsc a1 λx=>?_;rw[a2,hp.mem_iff,hfl,List.mem_filter];unfold okM;rw[decide_eq_true_eq]
 rw[hM] at hd;show _/\_/\∃O',wad _ O'/\AV.own 0 k= .own 0 (mrgL g n j m).length/\O'=[(0,.row 47 15 (mrgL g n j m).length (waa (atM (mrgL g n j m))) false)];generalize mrgL g n j m=M at *;obtain⟨rfl,hat⟩:=wso hd;refine⟨λ_ _=>rfl,λ_ _=>rfl,[(0,.row 47 15 M.length (waa (atM M)) false)],⟨⟨rfl,rfl,rfl,rfl,rfl,λi hi=>?_⟩,trivial⟩,rfl,rfl⟩;unfold waa;rw[hat i hi]
end Go.Eng
namespace Go.Eng
def wds(a b:MG):Int:=orL [cmpS a.dev b.dev,cmpI a.seq b.seq]
theorem woo:PreC wds:=(wda.comap MG.dev).or ((wdb.comap MG.seq).or .nil)
theorem wjb{a b:MG}:wds a b=0↔mk2 a=mk2 b:=by
 simp only[wds,wod,wh0,wpy,show orL []=0 from rfl,and_true,mk2,pI7]
theorem orL_two{x y:Int}{l:List Int}(h:orL (x::y::l)<0):orL [x,y]<=0:=by
 by_cases q:x=0
 ·by_cases q':y=0
  ·simp[orL,q,q']
  ·simp only[orL,q,q',decide_true,decide_false,cond_true,cond_false] at h ⊢;omega
 ·simp only[orL,q,decide_false,cond_false] at h ⊢;omega
theorem w0e{a b:MG}(h:ordM a b<0):wds a b<=0:=orL_two h
theorem wkn{L:List MG}{i:Nat}(h:i<L.length):atM L i=L[i]:=by simp[atM,h]
theorem wkm{L:List MG}{i:Nat}(h:i<L.length):atM L i∈L:=by rw[wkn h];exact List.getElem_mem h
theorem mem_atM{L:List MG}{x:MG}(h:x∈L):∃i,i<L.length/\atM L i=x:=by
 obtain⟨i,hi,e⟩:=List.mem_iff_getElem.1 h;exact⟨i,hi,by rw[wkn hi,e]⟩
theorem wuz{c:MG->MG->Int}{L:List MG}(h:Asc c L){i j:Nat}(hij:i<j)(hj:j<L.length):c (atM L i) (atM L j)<0:=by
 rw[wkn (show i<L.length by omega),wkn hj];exact List.pairwise_iff_getElem.1 h i j (by omega) hj hij
theorem won{L:List MG}(h:Asc ordM L){i j:Nat}(hij:i<=j)(hj:j<L.length):wds (atM L i) (atM L j)<=0:=by
 rcases Nat.lt_or_eq_of_le hij with q | q
 ·exact w0e (wuz h q hj)
 ·subst q;rw[woo.self];exact Int.le_refl 0
theorem wsl{L:List MG}(h:Asc ordM L){i j k:Nat}(hij:i<=j)(hjk:j<=k)(hk:k<L.length)(e:mk2 (atM L i)=mk2 (atM L k)):mk2 (atM L j)=mk2 (atM L i):=by
 have a:=won h hij (by omega);have b:=won h hjk hk;have c:wds (atM L k) (atM L i)<=0:=by rw[wjb.2 e.symm];exact Int.le_refl 0
 have d:=woo.trans _ _ _ b c;have n:=woo.neg (atM L j) (atM L i);have:wds (atM L i) (atM L j)=0:=by omega
 exact(wjb.1 this).symm
theorem wr4(g:Nat->MG)(p:List UInt8×Int):∀n,0<numC g p n↔∃i,i<n/\mk2 (g i)=p
 |0=>by simp[numC]
 |n+1=>by
  have ih:=wr4 g p n;have nn:=(woh g p n).1;rw[numC]
  cases q:decide ((mk2 (g n)).1=p.1) && decide ((mk2 (g n)).2=p.2) with
  |true=>
   have e:=wd3.1 q;simp only[cond_true];exact⟨λ_=>⟨n,by omega,e⟩,λ_=>by omega⟩
  |false=>
   have ne:mk2 (g n)≠p:=λe=>by rw[e] at q;simp at q
   simp only[cond_false]
   constructor
   ·intro h;obtain⟨i,hi,e⟩:=ih.1 (by omega);exact⟨i,by omega,e⟩
   ·rintro⟨i,hi,e⟩;have:i≠n:=λq=>ne (q ▸ e);have:=ih.2 ⟨i,by omega,e⟩;omega
theorem whe(g:Nat->MG)(p:List UInt8×Int):∀n,1<numC g p n↔∃i j,i<j/\j<n/\mk2 (g i)=p/\mk2 (g j)=p
 |0=>by simp[numC]
 |n+1=>by
  have ih:=whe g p n;have ip:=wr4 g p n;rw[numC]
  cases q:decide ((mk2 (g n)).1=p.1) && decide ((mk2 (g n)).2=p.2) with
  |true=>
   have e:=wd3.1 q;simp only[cond_true]
   constructor
   ·intro h;obtain⟨i,hi,e'⟩:=ip.1 (by omega);exact⟨i,n,hi,by omega,e',e⟩
   ·rintro⟨i,j,hij,hj,e1,e2⟩;have:=ip.2 ⟨i,by omega,e1⟩;omega
  |false=>
   have ne:mk2 (g n)≠p:=λe=>by rw[e] at q;simp at q
   simp only[cond_false]
   constructor
   ·intro h;obtain⟨i,j,hij,hj,e⟩:=ih.1 (by omega);exact⟨i,j,hij,by omega,e⟩
   ·rintro⟨i,j,hij,hj,e1,e2⟩;have:j≠n:=λq=>ne (q ▸ e2);have:=ih.2 ⟨i,j,hij,by omega,e1,e2⟩;omega
def wim(a b:MG):Bool:=decide (a.dev=b.dev) && decide (a.seq=b.seq)
theorem wwf{a b:MG}:wim a b=true↔mk2 a=mk2 b:=by simp[wim,mk2]
def clnB(L:List MG)(i:Nat):Bool:= !((decide (0<i) && wim (atM L (i - 1)) (atM L i)) || (decide (i+1<L.length) && wim (atM L (i+1)) (atM L i)))
def clnK(L:List MG)(k:Nat):List MG:=((List.range k).filter (clnB L)).map (atM L)
theorem wun{L:List MG}(h:Asc ordM L){i:Nat}(hi:i<L.length):clnB L i= !decide (1<numC (atM L) (mk2 (atM L i)) L.length):=by
 have key:1<numC (atM L) (mk2 (atM L i)) L.length↔(0<i/\mk2 (atM L (i - 1))=mk2 (atM L i))∨(i+1<L.length/\mk2 (atM L (i+1))=mk2 (atM L i)):=by
  rw[whe]
  constructor
  ·rintro⟨a,b,hab,hb,ea,eb⟩
   by_cases q:a<i
   ·exact .inl ⟨by omega,(wsl h (i:=a) (j:=i - 1) (k:=i) (by omega) (by omega) hi ea).trans ea⟩
   ·exact .inr ⟨by omega,wsl h (i:=i) (j:=i+1) (k:=b) (by omega) (by omega) hb eb.symm⟩
  ·rintro(⟨h0,e⟩ | ⟨h0,e⟩)
   ·exact⟨i - 1,i,by omega,hi,e,rfl⟩
   ·exact⟨i,i+1,by omega,h0,rfl,e⟩
 unfold clnB;congr 1;rw[Bool.eq_iff_iff,decide_eq_true_eq,key];simp[wwf]
theorem w2s(g:Nat->MG)(n:Nat):clnK (mrgL g n noM 0) (mrgL g n noM 0).length=wak g n:=by
 have h:Asc ordM (mrgL g n noM 0):=wi6 _;unfold wak;generalize mrgL g n noM 0=L at *;unfold clnK;have e:∀q:MG->Bool,L.filter q=((List.range L.length).map (atM L)).filter q:=λq=>by rw[show (List.range L.length).map (atM L)=L from wc2 L]
 rw[e,List.filter_map];congr 1;exact List.filter_congr λi hi=>wun h (List.mem_range.1 hi)
theorem wwr(g:Nat->MG)(n:Nat):Asc wds (wak g n):=by
 have h:Asc ordM (mrgL g n noM 0):=wi6 _;rw[← w2s];generalize mrgL g n noM 0=L at *;unfold clnK Asc;rw[List.pairwise_map];refine(List.pairwise_lt_range.filter _).imp_of_mem ?_;intro i j hi hj hij;obtain⟨hi1,hi2⟩:=List.mem_filter.1 hi;have hj1:=List.mem_range.1 (List.mem_filter.1 hj).1;have hi1:=List.mem_range.1 hi1;have le:=won h (Nat.le_of_lt hij) hj1
 rcases Int.lt_or_eq_of_le le with q | q
 ·exact q
 ·have e:=wjb.1 q;rw[wun h hi1,Bool.not_eq_true',decide_eq_false_iff_not] at hi2;exact absurd ((whe _ _ _).2 ⟨i,j,hij,hj1,rfl,e.symm⟩) hi2
theorem wwt{g:Nat->MG}{n:Nat}{m:MG}(h:m∈wak g n):msgF m=0:=(wol.1 (List.mem_filter.1 h).1).2
theorem lst_atL(L:List MG):lst (atM L) L.length++lst noM 0=L:=by rw[wc2];simp[lst]
def t30(nm:Nat->List UInt8)(i:Nat):List UInt8:=(nm i).take 30
def wc7(n k:Int):Int:=n % 18446744073709551616 % k
def wl9:Spec
 |[.int .i64 n,.int .i64 k],[]=>some (.q (wc7 n k),[],1<=k/\k<=1000000)
 |_,_=>none
def was(n:Nat)(v:Nat->Int)(a k:Int):Int:=wc7 (bif decide (a<n) then v a.toNat else 0) k
def wdh:Spec
 |[.ptr 0 0,.int .i64 k],[.cells [.view sz n f,.int .i64 a] t]=>some (.q (was n (vInt f) a k),[(0,.cells [.view 1 n f,.q (a+1)] 26)],t=26/\sz=1/\f=waf (vInt f)/\(1<=k/\k<=1000000)/\(0<=a/\a<=4611686018427387904))
 |_,_=>none
def pw(V j:Nat):Nat:=V / 10 ^ j
def dgI(V k:Nat):Int:=48+((V / 10 ^ (6 - k) % 10:Nat):Int)
def wa8(V:Nat)(k:Nat):List AV:=[.int .u8 (dgI V k)]
def idV(n:Int):Nat:=1000000+(wc7 n 1000000).toNat
def id7(n:Int):List UInt8:=wa7 7 (wa8 (idV n))
def idF(n:Int):List UInt8:=id7 n++[UInt8.ofNat (48+(cdF (id7 n)).1).toNat]
def S_id:Spec
 |[.int .i64 n],[]=>some (.str (idF n),[],True)
 |_,_=>none
def wl5(V:Nat)(j:Nat):St:=⟨[(3,.q (pw V j:Nat)),(4,.own 0 7),(5,.q (6 - (j:Int)))],[(0,.row 5 1 7 (λk=>[.int .u8 (bif decide (7<=k+j) then dgI V k else 0)]) false)],1,[]⟩
def L_id(V:Nat):waq:=λst Q=>canonIs te 0 [3,4,5] st (wl5 V 0)/\V<2000000/\
 Q (.exit 0) ⟨[(4,.own 0 7)],[(0,.row 5 1 7 (wa8 V) false)],1,[]⟩
theorem wht{k:Int}(h:1<=k)(n:Int):0<=wc7 n k/\wc7 n k<k:=by
 unfold wc7;exact⟨Int.emod_nonneg _ (by omega),Int.emod_lt_of_pos _ (by omega)⟩
theorem web{k:Int}(h:1<=k)(n:Nat)(v:Nat->Int)(a:Int):0<=was n v a k/\was n v a k<k:=wht h _
theorem wuq(s:List UInt8):0<=(cdF s).1/\(cdF s).1<=9:=by
 unfold cdF;split
 ·show 0<=(10 - wa3 s s.length % 10) % 10/\(10 - wa3 s s.length % 10) % 10<=9;omega
 ·exact⟨by decide,by decide⟩
theorem who(n:Int):(id7 n).length=7:=by simp[id7,wa7]
theorem ws9(n:Int):(idF n).length=8:=by rw[idF,lA7,who];rfl
theorem w2e(V k:Nat):48<=dgI V k/\dgI V k<=57:=by
 unfold dgI;have:=Nat.mod_lt (V / 10 ^ (6 - k)) (show 0<10 by omega);omega
theorem u8_to{n:Int}(h0:0<=n)(h1:n<256):((UInt8.ofNat n.toNat).toNat:Int)=n:=by
 rw[UInt8.toNat_ofNat'];have:n.toNat % 2 ^ 8=n.toNat:=Nat.mod_eq_of_lt (by omega);omega
theorem id7_dig(n:Int):(id7 n).all wbo=true:=by
 unfold id7 wa7;rw[List.all_map,List.all_eq_true];intro k _;have h:=w2e (idV n) k;have e:=u8_to (n:=dgI (idV n) k) (by omega) (by omega);show wbo (UInt8.ofNat (dgI (idV n) k).toNat)=true;unfold wbo;rw[bA7,decide_eq_true_eq,decide_eq_true_eq];omega
theorem wpg(n:Int):wbm (idF n)=true:=by
 have hc:=wuq (id7 n);have e:=u8_to (n:=48+(cdF (id7 n)).1) (by omega) (by omega);have hd:wbs (idF n) 8 13=true:=by
  unfold wbs;rw[ws9,bA7];refine⟨rfl,?_⟩;unfold idF;rw[List.all_append,id7_dig,List.all_cons];unfold wbo;rw[Bool.true_and,List.all_nil,Bool.and_true,bA7,decide_eq_true_eq,decide_eq_true_eq];omega
 have ht:(idF n).take 7=id7 n:=by unfold idF;rw[← who n];exact List.take_left
 have hg:(idF n).getD 7 0=UInt8.ofNat (48+(cdF (id7 n)).1).toNat:=by
  unfold idF;rw[List.getD_eq_getElem?_getD,List.getElem?_append_right (by rw[who];exact lR7 _),who];rfl
 unfold wbm;rw[hd,ws9];show decide ((cdF ((idF n).take 7)).1=(((idF n).getD 7 0).toNat:Int) - 48)=true;rw[ht,hg,e,decide_eq_true_eq];omega
def outF(i:Int):List UInt8:=List.getD [[111,49],[111,50],[112]] i.toNat []
def wlc:Spec
 |[.ptr 0 0],[.cells [.view sz n f,.int .i64 a] t]=>some (.str (outF (was n (vInt f) a 3)),[(0,.cells [.view 1 n f,.q (a+1)] 26)],t=26/\sz=1/\f=waf (vInt f)/\(0<=a/\a<=4611686018427387000))
 |_,_=>none
def wla:Spec
 |[.ptr 0 0],[.cells [.view sz n f,.int .i64 a] t]=>some (.str (idF (was n (vInt f) a 4)),[(0,.cells [.view 1 n f,.q (a+1)] 26)],t=26/\sz=1/\f=waf (vInt f)/\(0<=a/\a<=4611686018427387000))
 |_,_=>none
structure VT.Made (x:VT):Prop where
 ok:visF x=true
 o:x.o.length<=2
def wmq:wdk
 |[.ptr 0 0],[.cells [.view sz n f,.int .i64 a] t],R=>t=26/\sz=1/\f=waf (vInt f)/\(0<=a/\a<=4611686018427386000)/\
   ∀(x:VT) (a':Int),x.Made->(a<=a'/\a'<=a+7)->
   R (.agg [.str x.o,.str x.p,.q x.per,.q x.day,.q x.st,.q x.pr,.str x.rep]) [(0,.cells [.view 1 n f,.q a'] 26)]
 |_,_,_=>False
theorem idF4:∀i,i<4->¬ idF 4=idF (i:Nat):=by decide+kernel
structure RM (f:Nat->List AV) (n:Nat):Prop where
 eq:∀i,i<n->f i=waa (mgOf f) i
 sm:∀i,i<n->(mgOf f i).Sm
def wb8(g:Nat->List UInt8×Int)(i:Nat):List AV:=[.str (g i).1,.q (g i).2]
def atK(L:List (List UInt8×Int))(i:Nat):List UInt8×Int:=L.getD i ([],0)
def smK(x y:List UInt8×Int):Bool:=decide (x.1=y.1) && decide (x.2=y.2)
theorem smK_iff{x y:List UInt8×Int}:smK x y=true↔x=y:=by
 obtain⟨a,b⟩:=x;obtain⟨c,d⟩:=y;simp[smK]
def clnP(M:List MG):Nat->List (List UInt8×Int)
 |0=>[]
 |k+1=>bif decide (1<numC (atM M) (mk2 (atM M k)) M.length) && (decide ((clnP M k).length=0) || !smK (atK (clnP M k) ((clnP M k).length - 1)) (mk2 (atM M k))) then clnP M k++[mk2 (atM M k)] else clnP M k
theorem wuw{L:List (List UInt8×Int)}{i:Nat}(h:i<L.length):atK L i∈L:=by
 unfold atK;simp only[List.getD_eq_getElem?_getD,List.getElem?_eq_getElem h,Option.getD_some];exact List.getElem_mem h
theorem w3e(L:List (List UInt8×Int))(x:List UInt8×Int):atK (L++[x]) ((L++[x]).length - 1)=x:=by
 unfold atK;simp
theorem w2r{M:List MG}{k:Nat}(h:1<numC (atM M) (mk2 (atM M k)) M.length):0<(clnP M (k+1)).length/\atK (clnP M (k+1)) ((clnP M (k+1)).length - 1)=mk2 (atM M k):=by
 rw[clnP,decide_eq_true h,Bool.true_and]
 cases q:decide ((clnP M k).length=0) || !smK (atK (clnP M k) ((clnP M k).length - 1)) (mk2 (atM M k)) with
 |true=>exact⟨by simp,w3e _ _⟩
 |false=>
  rw[Bool.or_eq_false_iff,decide_eq_false_iff_not,Bool.not_eq_false'] at q;exact⟨by simp only[cond_false];omega,smK_iff.1 q.2⟩
def wb4(g:Nat->MG)(n:Nat):List (List UInt8×Int):=clnP (mrgL g n noM 0) (mrgL g n noM 0).length
theorem wkc(M:List MG):∀k,(clnP M k).length<=k
 |0=>lR7 _
 |k+1=>by
  have ih:=wkc M k;rw[clnP]
  cases decide (1<numC (atM M) (mk2 (atM M k)) M.length) && (decide ((clnP M k).length=0) || !smK (atK (clnP M k) ((clnP M k).length - 1)) (mk2 (atM M k))) with
  |true=>rw[cond_true,lA7];show _+1<=_;omega
  |false=>rw[cond_false];omega
structure SL where
 o:List UInt8
 p:List UInt8
 per:Int
 deriving DecidableEq,Inhabited
def ordS(a b:SL):Int:=orL [cmpS a.o b.o,cmpS a.p b.p,cmpI a.per b.per]
theorem wcg:PreC ordS:=(wda.comap SL.o).or ((wda.comap SL.p).or ((wdb.comap SL.per).or .nil))
theorem wiv{a b:SL}:ordS a b=0↔a=b:=by
 simp only[ordS,wod,wh0,wpy,show orL []=0 from rfl,and_true]
 constructor
 ·rintro⟨h1,h2,h3⟩
  cases a;cases b;simp only at h1 h2 h3;subst h1;subst h2;subst h3;rfl
 ·rintro rfl;simp
def whr(m:MG):SL:=bif decide (m.kind=2) then ⟨m.d.o,m.d.p,m.d.per⟩ else ⟨m.v.o,m.v.p,m.v.per⟩
def vsl(v:VT):SL:=⟨v.o,v.p,v.per⟩
theorem wg4{α:Type}{p:List α->Prop}(l:List α)(nil:p [])(snoc:∀(l:List α) (a:α),p l->p (l++[a])):p l:=by
 have:∀(r:List α),p r.reverse:=λr=>by
  induction r with
  |nil=>exact nil
  |cons a r ih=>rw[List.reverse_cons];exact snoc _ a ih
 have h:=this l.reverse
 rwa [List.reverse_reverse] at h
def putB:List (SL×List MG)->SL->MG->List (SL×List MG)
 |[],s,m=>[(s,[m])]
 |x::B,s,m=>bif decide (x.1=s) then (x.1,x.2++[m])::B else x::putB B s m
def wai(l:List MG):List (SL×List MG):=l.foldl (λB m=>putB B (whr m) m) []
def getB:List (SL×List MG)->SL->List MG
 |[],_=>[]
 |x::B,s=>bif decide (x.1=s) then x.2 else getB B s
theorem w1p(B:List (SL×List MG))(s t:SL)(m:MG):getB (putB B s m) t=bif decide (s=t) then getB B t++[m] else getB B t:=by
 induction B with
 |nil=>
  by_cases h:s=t
  ·subst h;simp[putB,getB]
  ·simp[putB,getB,h]
 |cons x B ih=>
  rw[putB]
  by_cases h:x.1=s
  ·rw[decide_eq_true h]
   by_cases h':s=t
   ·simp[getB,h,h']
   ·have:¬ x.1=t:=λq=>h' (h ▸ q);simp[getB,this,h']
  ·rw[decide_eq_false h]
   by_cases h':x.1=t
   ·have:¬ s=t:=λq=>h (h'.trans q.symm);simp[getB,h',this]
   ·simp[getB,h',ih]
theorem wo4(B:List (SL×List MG))(s:SL)(m:MG):(putB B s m).map Prod.fst=bif decide (s∈B.map Prod.fst) then B.map Prod.fst else B.map Prod.fst++[s]:=by
 induction B with
 |nil=>simp[putB]
 |cons x B ih=>
  rw[putB]
  by_cases h:x.1=s
  ·rw[decide_eq_true h];simp[h]
  ·rw[decide_eq_false h,cond_false,List.map_cons,ih];have h':¬ s=x.1:=λq=>h q.symm
   by_cases q:s∈B.map Prod.fst
   ·have q2:s∈(x::B).map Prod.fst:=List.mem_cons_of_mem _ q;rw[decide_eq_true q,decide_eq_true q2];rfl
   ·have q2:s ∉ (x::B).map Prod.fst:=by
     rw[List.map_cons,List.mem_cons];exact λe=>e.elim h' q
    rw[decide_eq_false q,decide_eq_false q2];rfl
theorem wh5(l:List MG)(m:MG):wai (l++[m])=putB (wai l) (whr m) m:=by simp[wai]
theorem wjs(s:SL)(l:List MG):getB (wai l) s=l.filter λm=>decide (whr m=s):=by
 induction l using wg4 with
 |nil=>rfl
 |snoc l m ih=>
  rw[wh5,w1p,ih,List.filter_append]
  by_cases h:whr m=s
  ·simp[h]
  ·simp[h]
theorem wo5(s:SL)(l:List MG):s∈(wai l).map Prod.fst↔∃m∈l,whr m=s:=by
 induction l using wg4 with
 |nil=>simp[wai]
 |snoc l m ih=>
  rw[wh5,wo4]
  by_cases h:whr m∈(wai l).map Prod.fst
  ·rw[decide_eq_true h,cond_true,ih]
   constructor
   ·rintro⟨x,hx,e⟩;exact⟨x,List.mem_append_left _ hx,e⟩
   ·rintro⟨x,hx,e⟩
    rcases List.mem_append.1 hx with hx | hx
    ·exact⟨x,hx,e⟩
    ·rw[List.mem_singleton.1 hx] at e;exact ih.1 (e ▸ h)
  ·rw[decide_eq_false h,cond_false,List.mem_append,ih,List.mem_singleton]
   constructor
   ·rintro(⟨x,hx,e⟩ | e)
    ·exact⟨x,List.mem_append_left _ hx,e⟩
    ·exact⟨m,List.mem_append_right _ (List.mem_singleton.2 rfl),e.symm⟩
   ·rintro⟨x,hx,e⟩
    rcases List.mem_append.1 hx with hx | hx
    ·exact .inl ⟨x,hx,e⟩
    ·exact .inr (by rw[← e,List.mem_singleton.1 hx])
theorem wi0(l:List MG):((wai l).map Prod.fst).Nodup:=by
 induction l using wg4 with
 |nil=>simp[wai]
 |snoc l m ih=>
  rw[wh5,wo4]
  by_cases h:whr m∈(wai l).map Prod.fst
  ·rw[decide_eq_true h];exact ih
  ·rw[decide_eq_false h,cond_false,List.nodup_append];refine⟨ih,by simp,λa ha b hb e=>h ?_⟩;rw[List.mem_singleton.1 hb] at e;exact e ▸ ha
theorem getB_at{B:List (SL×List MG)}(hn:(B.map Prod.fst).Nodup){x:SL×List MG}(h:x∈B):getB B x.1=x.2:=by
 induction B with
 |nil=>cases h
 |cons y B ih=>
  rw[List.map_cons,List.nodup_cons] at hn
  rcases List.mem_cons.1 h with rfl | h
  ·simp[getB]
  ·have:¬ y.1=x.1:=λq=>hn.1 (q ▸ List.mem_map_of_mem h);rw[getB,decide_eq_false this];exact ih hn.2 h
theorem wuu{l:List MG}{x:SL×List MG}(h:x∈wai l):x.2=l.filter λm=>decide (whr m=x.1):=by rw[← wjs,getB_at (wi0 l) h]
theorem wut(l:List MG):(wai l).length<=l.length:=by
 induction l using wg4 with
 |nil=>simp[wai]
 |snoc l m ih=>
  have h:=congrArg List.length (wo4 (wai l) (whr m) m);rw[List.length_map] at h;rw[wh5,lA7,h]
  cases decide (whr m∈(wai l).map Prod.fst) with
  |true=>rw[cond_true,List.length_map];simp;omega
  |false=>rw[cond_false,lA7,List.length_map];simpa using ih
def insS:List SL->SL->List SL
 |[],m=>[m]
 |x::l,m=>bif decide (ordS m x<0) then m::x::l else bif decide (ordS m x=0) then x::l else x::insS l m
theorem wpb:∀ {l:List SL} {m y:SL},y∈insS l m↔y=m∨y∈l
 |[],m,y=>by simp[insS]
 |x::l,m,y=>by
  rw[insS]
  by_cases h:ordS m x<0
  ·rw[decide_eq_true h];simp
  ·rw[decide_eq_false h]
   by_cases h':ordS m x=0
   ·rw[decide_eq_true h'];have:=wiv.1 h';subst this;simp
   ·rw[decide_eq_false h'];simp only[cond_false,List.mem_cons,wpb (l:=l)];grind
theorem ws3:∀ {l:List SL} (m:SL),Asc ordS l->Asc ordS (insS l m)
 |[],m,_=>by simp[insS,Asc]
 |x::l,m,h=>by
  obtain⟨h1,h2⟩:=List.pairwise_cons.1 h;rw[insS]
  by_cases q:ordS m x<0
  ·rw[decide_eq_true q];refine List.pairwise_cons.2 ⟨λy hy=>?_,h⟩
   rcases List.mem_cons.1 hy with rfl | hy
   ·exact q
   ·exact wcg.lt_trans q (h1 y hy)
  ·rw[decide_eq_false q]
   by_cases q':ordS m x=0
   ·rw[decide_eq_true q'];exact h
   ·rw[decide_eq_false q'];refine List.pairwise_cons.2 ⟨λy hy=>?_,ws3 m h2⟩
    rcases wpb.1 hy with rfl | hy
    ·have:=wcg.neg x y;have:=wcg.neg y x;omega
    ·exact h1 y hy
theorem ws2:∀(l:List SL) (m:SL),(insS l m).length<=l.length+1
 |[],m=>by simp[insS]
 |x::l,m=>by
  rw[insS]
  cases decide (ordS m x<0) with
  |true=>simp
  |false=>
   cases decide (ordS m x=0) with
   |true=>simp
   |false=>have:=ws2 l m;simpa using this
theorem whu:∀(l acc:List SL),Asc ordS acc->Asc ordS (l.foldl insS acc)/\∀y,y∈l.foldl insS acc↔y∈acc∨y∈l
 |[],acc,h=>⟨h,λy=>by simp⟩
 |x::l,acc,h=>by
  obtain⟨h1,h2⟩:=whu l (insS acc x) (ws3 x h);refine⟨h1,λy=>?_⟩;rw[List.foldl_cons,h2,wpb,List.mem_cons];grind
theorem wtr:∀(l acc:List SL),(l.foldl insS acc).length<=acc.length+l.length
 |[],acc=>by simp
 |x::l,acc=>by
  rw[List.foldl_cons,List.length_cons];have:=wtr l (insS acc x);have:=ws2 acc x;omega
def isV(m:MG):Bool:=decide (m.kind=1)
def visL(R:List MG):List SL:=((R.filter isV).map λm=>vsl m.v).foldl insS []
theorem wdo(R:List MG):Asc ordS (visL R):=(whu _ [] .nil).1
theorem wfq{R:List MG}{s:SL}:s∈visL R↔∃m∈R,m.kind=1/\vsl m.v=s:=by
 unfold visL;rw[(whu _ [] .nil).2];simp[isV,and_assoc]
theorem wie(R:List MG):(visL R).length<=R.length:=by
 have:=wtr ((R.filter isV).map λm=>vsl m.v) [];have h2:=List.length_filter_le isV R;unfold visL;simp at this;omega
theorem wvi{R:List MG}{L:List SL}(h:Asc ordS L)(hm:∀s,s∈L↔∃m∈R,m.kind=1/\vsl m.v=s):L=visL R:=
 Asc.uniq wcg h (wdo R) λs=>by rw[hm,wfq]
def hasV(l:List MG):Bool:=l.any isV
theorem wtc{R:List MG}{x:SL×List MG}(h:x∈wai R):hasV x.2=true↔x.1∈visL R:=by
 rw[wfq,hasV,List.any_eq_true,wuu h]
 constructor
 ·rintro⟨m,hm,hk⟩;obtain⟨h1,h2⟩:=List.mem_filter.1 hm;have hk:m.kind=1:=of_decide_eq_true hk;have h2:whr m=x.1:=of_decide_eq_true h2;refine⟨m,h1,hk,?_⟩;rw[← h2,whr,decide_eq_false (by omega)];rfl
 ·rintro⟨m,h1,hk,h2⟩;refine⟨m,List.mem_filter.2 ⟨h1,decide_eq_true ?_⟩,decide_eq_true hk⟩;rw[← h2,whr,decide_eq_false (by omega)];rfl
theorem wvj{R:List MG}{L:List SL}{E:List (SL×List MG)}(hE:E.Perm (wai R))(hL:L.Perm ((E.filter λx=>hasV x.2).map Prod.fst))(hs:L.Pairwise λx y=>¬ ordS y x<0):L=visL R:=by
 have hn:L.Nodup:=by
  rw[hL.nodup_iff];have:(E.map Prod.fst).Nodup:=by rw[(hE.map _).nodup_iff];exact wi0 R
  exact this.sublist ((List.filter_sublist).map _)
 refine wvi (Asc.of_sorted hs wcg (hn.imp λh q=>h (wiv.1 q))) λs=>?_;rw[hL.mem_iff,List.mem_map]
 constructor
 ·rintro⟨x,hx,rfl⟩;obtain⟨h1,h2⟩:=List.mem_filter.1 hx;exact wfq.1 ((wtc (hE.mem_iff.1 h1)).1 h2)
 ·intro h;have hk:s∈(wai R).map Prod.fst:=by
   obtain⟨m,hm,hk,e⟩:=h;refine(wo5 s R).2 ⟨m,hm,?_⟩;rw[← e,whr,decide_eq_false (by omega)];rfl
  obtain⟨x,hx,rfl⟩:=List.mem_map.1 hk;exact⟨x,List.mem_filter.2 ⟨hE.mem_iff.2 hx,(wtc hx).2 (wfq.2 h)⟩,rfl⟩
def resB(R:List MG)(s:SL):VT×Int:=resR s.o s.p s.per R (canL s.o s.p s.per (atM R) R.length)
theorem res_all(g:Nat->MG)(n:Nat)(s:SL):resF g n s.o s.p s.per=resB (wak g n) s:=rfl
def canS(o p:List UInt8)(per:Int)(L:List MG):List MG:=(L.filter (selF o p per)).foldl stpC []
theorem wp4(o p:List UInt8)(per:Int)(g:Nat->MG):∀n,canL o p per g n=canS o p per (lst g n)
 |0=>rfl
 |n+1=>by
  unfold canS;rw[canL,wdt,List.filter_append,List.foldl_append,wp4 o p per g n]
  cases h:selF o p per (g n) with
  |true=>simp[h,canS]
  |false=>simp[h,canS]
def dcS(o p:List UInt8)(per:Int)(C:List MG)(L:List MG):VT×Int:=
 L.foldl (λq m=>bif wch o p per q.2 m && decide (fstB (λi=>namF m.d (atM C i)) C.length<C.length) then ((atM C (fstB (λi=>namF m.d (atM C i)) C.length)).v,m.seq) else q) (wez, -1)
theorem wpx(o p:List UInt8)(per:Int)(C:List MG)(g:Nat->MG):∀n,dcF o p per C g n=dcS o p per C (lst g n)
 |0=>rfl
 |n+1=>by
  unfold dcS;rw[dcF,wdt,List.foldl_append,wpx o p per C g n];rfl
theorem w1y{α β:Type}(f:β->α->β)(q:α->Bool)(l:List α):∀b,(∀b x,x∈l->q x=false->f b x=b)->(l.filter q).foldl f b=l.foldl f b:=by
 induction l with
 |nil=>intro b _;rfl
 |cons x l ih=>
  intro b h
  cases hq:q x with
  |true=>
   rw[List.filter_cons_of_pos hq,List.foldl_cons,List.foldl_cons];exact ih _ λb y hy=>h b y (List.mem_cons_of_mem _ hy)
  |false=>
   rw[List.filter_cons_of_neg (by simp[hq]),List.foldl_cons,h b x (List.mem_cons_self) hq];exact ih _ λb y hy=>h b y (List.mem_cons_of_mem _ hy)
theorem wq3{s:SL}{m:MG}(h:selF s.o s.p s.per m=true):whr m=s/\vsl m.v=s/\m.kind=1:=by
 simp only[selF,bA7,decide_eq_true_eq] at h;obtain⟨h1,h2,h3,h4⟩:=h;have:vsl m.v=s:=by rw[vsl,h2,h3,h4]
 refine⟨?_,this,h1⟩;rw[whr,decide_eq_false (by omega)];exact this
theorem w2f{s:SL}{q:Int}{m:MG}(h:wch s.o s.p s.per q m=true):whr m=s:=by
 simp only[wch,bA7,decide_eq_true_eq] at h;obtain⟨h1,h2,h3,h4,_⟩:=h;rw[whr,decide_eq_true h1,h2,h3,h4];rfl
theorem ww0(R:List MG)(s:SL):resB (R.filter λm=>decide (whr m=s)) s=resB R s:=by
 unfold resB;have hc:canL s.o s.p s.per (atM (R.filter λm=>decide (whr m=s))) (R.filter λm=>decide (whr m=s)).length=canL s.o s.p s.per (atM R) R.length:=by
  rw[wp4,wp4,wc2,wc2,canS,canS,List.filter_filter];congr 1;refine List.filter_congr λm _=>?_
  cases h:selF s.o s.p s.per m with
  |true=>rw[Bool.true_and,decide_eq_true (wq3 h).1]
  |false=>rfl
 rw[hc];unfold resR;have hd:∀C,dcF s.o s.p s.per C (atM (R.filter λm=>decide (whr m=s))) (R.filter λm=>decide (whr m=s)).length=dcF s.o s.p s.per C (atM R) R.length:=λC=>by
  rw[wpx,wpx,wc2,wc2,dcS,dcS];refine w1y _ _ _ _ λb m _ h=>?_;have:wch s.o s.p s.per b.2 m=false:=by
   cases h':wch s.o s.p s.per b.2 m with
   |false=>rfl
   |true=>rw[decide_eq_true (w2f h')] at h;cases h
  rw[this];rfl
 rw[hd]
structure RightL (R:List MG):Prop where
 mark:Asc wds R
 ord:Asc ordM R
 ok:∀m∈R,msgF m=0
theorem wws(g:Nat->MG)(n:Nat):RightL (wak g n):=
 ⟨wwr g n,(wi6 _).filter _,λ_ h=>wwt h⟩
theorem RightL.filter{R:List MG}(h:RightL R)(q:MG->Bool):RightL (R.filter q):=⟨h.mark.filter q,h.ord.filter q,λm hm=>h.ok m (List.mem_filter.1 hm).1⟩
theorem RightL.self{R:List MG}(h:RightL R):wak (atM R) R.length=R:=by
 have e:mrgL (atM R) R.length noM 0=R:=by
  unfold mrgL;rw[lst_atL];refine(wsc h.ord λm=>?_).symm;exact⟨λhm=>⟨hm,h.ok m hm⟩,λhm=>hm.1⟩
 unfold wak;rw[e];refine List.filter_eq_self.2 λm _=>?_;rw[Bool.not_eq_true',decide_eq_false_iff_not,whe];rintro⟨i,j,hij,hj,e1,e2⟩;have h1:=wuz h.mark hij hj;have h2:=wjb.2 (e1.trans e2.symm);omega
theorem wwy{R:List MG}(h:RightL R)(s:SL):resF (atM (getB (wai R) s)) (getB (wai R) s).length s.o s.p s.per=resB R s:=by
 rw[wjs,res_all,(h.filter _).self,ww0]
theorem wh4{o p:List UInt8}{per:Int}{g:Nat->MG}{m:MG}:∀ {n:Nat},m∈canL o p per g n->selF o p per m=true/\m∈lst g n
 |0,h=>by simp[canL] at h
 |n+1,h=>by
  rw[canL] at h;rw[wdt]
  cases q:selF o p per (g n) with
  |false=>
   rw[q,cond_false] at h;exact⟨(wh4 h).1,List.mem_append_left _ (wh4 h).2⟩
  |true=>
   rw[q,cond_true] at h;have:m∈canL o p per g n∨m=g n:=by
    unfold stpC at h
    cases q2:decide (0<(canL o p per g n).length) && decide ((atM (canL o p per g n) ((canL o p per g n).length - 1)).dev=(g n).dev) with
    |true=>
     rw[q2,cond_true,List.mem_append,List.mem_singleton] at h;exact h.imp (λh=>List.mem_of_mem_take h) id
    |false=>
     rw[q2,cond_false,List.mem_append,List.mem_singleton] at h;exact h
   rcases this with h | rfl
   ·exact⟨(wh4 h).1,List.mem_append_left _ (wh4 h).2⟩
   ·exact⟨q,List.mem_append_right _ (List.mem_singleton.2 rfl)⟩
theorem wwz(o p:List UInt8)(per:Int)(R C:List MG):(resR o p per R C).2=0/\C=[]/\(resR o p per R C).1=wez∨(resR o p per R C).2=1/\C≠[]/\(∃m∈C,(resR o p per R C).1=m.v)∨(resR o p per R C).2=2/\C≠[]:=by
 unfold resR
 by_cases h:C.length=0
 ·rw[decide_eq_true h];exact .inl ⟨rfl,List.length_eq_zero_iff.1 h,rfl⟩
 ·have hne:C≠[]:=λe=>h (by rw[e];rfl);have h0:atM C 0∈C:=wkm (by omega);rw[decide_eq_false h]
  by_cases h2:0<=ixB (λi=>difF (atM C 0).v (atM C i)) C.length
  ·rw[decide_eq_true h2]
   by_cases h3:(dcF o p per C (atM R) R.length).2<0
   ·rw[decide_eq_true h3];exact .inr (.inr ⟨rfl,hne⟩)
   ·rw[decide_eq_false h3];refine .inr (.inl ⟨rfl,hne,?_⟩);have key:∀k,(dcF o p per C (atM R) k).2<0∨∃m∈C,(dcF o p per C (atM R) k).1=m.v:=by
     intro k
     induction k with
     |zero=>exact .inl (by show (-1:Int)<0;omega)
     |succ k ih=>
      rw[dcF]
      by_cases q:fstB (λi=>namF (atM R k).d (atM C i)) C.length<C.length
      ·cases q2:wch o p per (dcF o p per C (atM R) k).2 (atM R k) with
       |true=>rw[decide_eq_true q];exact .inr ⟨_,wkm q,rfl⟩
       |false=>exact ih
      ·rw[decide_eq_false q,Bool.and_false];exact ih
    exact(key R.length).resolve_left h3
  ·rw[decide_eq_false h2];exact .inr (.inl ⟨rfl,hne,atM C 0,h0,rfl⟩)
theorem wrm{R:List MG}{s:SL}(h:(resB R s).2=1):∃m∈R,m.kind=1/\m.v=(resB R s).1/\vsl m.v=s:=by
 rcases wwz s.o s.p s.per R (canL s.o s.p s.per (atM R) R.length) with q | q | q
 ·exact absurd (q.1.symm.trans h) (by decide)
 ·obtain⟨_,_,m,hm,e⟩:=q;obtain⟨h1,h2⟩:=wh4 hm;rw[wc2] at h2;obtain⟨_,w2,w3⟩:=wq3 h1;exact⟨m,h2,w3,e.symm,w2⟩
 ·exact absurd (q.1.symm.trans h) (by decide)
theorem wrl{R:List MG}{s:SL}(h:(resB R s).2=1):vsl (resB R s).1=s/\s∈visL R:=by
 obtain⟨m,hm,hk,e,e2⟩:=wrm h;exact⟨e ▸ e2,wfq.2 ⟨m,hm,hk,e2⟩⟩
def atS(L:List SL)(i:Nat):SL:=L.getD i default
def atX(L:List VT)(i:Nat):VT:=L.getD i default
theorem wh7{L:List SL}{i:Nat}(h:i<L.length):atS L i=L[i]:=by simp[atS,h]
theorem wgf{L:List SL}{i:Nat}(h:i<L.length):atS L i∈L:=by rw[wh7 h];exact List.getElem_mem h
theorem wi7{L:List SL}{x:SL}(h:x∈L):∃i,i<L.length/\atS L i=x:=by
 obtain⟨i,hi,e⟩:=List.getElem_of_mem h;exact⟨i,hi,(wh7 hi).trans e⟩
theorem wos(L:List SL):lst (atS L) L.length=L:=by
 refine List.ext_getElem (by simp[lst]) λi h1 h2=>?_;simp[lst,wh7 h2]
theorem wfj{L:List VT}{i:Nat}(h:i<L.length):atX L i=L[i]:=by simp[atX,h]
theorem wkl{L:List VT}{i:Nat}(h:i<L.length):atX L i∈L:=by rw[wfj h];exact List.getElem_mem h
theorem wor(L:List VT):lst (atX L) L.length=L:=by
 refine List.ext_getElem (by simp[lst]) λi h1 h2=>?_;simp[lst,wfj h2]
theorem wh8{L:List SL}(h:Asc ordS L){i j:Nat}(hij:i<j)(hj:j<L.length):ordS (atS L i) (atS L j)<0:=by
 rw[wh7 (by omega),wh7 hj];exact List.pairwise_iff_getElem.1 h i j (by omega) hj hij
theorem woa{a b:SL}(ho:a.o=b.o)(hp:a.p=b.p):ordS a b<0↔a.per<b.per:=by
 have h1:cmpS a.o b.o=0:=wh0.2 ho;have h2:cmpS a.p b.p=0:=wh0.2 hp;have h3:=wfg a.per b.per;have e:ordS a b=cmpI a.per b.per:=by
  unfold ordS;rw[h1,h2];simp only[orL,decide_true,cond_true]
  by_cases q:cmpI a.per b.per=0
  ·rw[q];rfl
  ·rw[decide_eq_false q];rfl
 rw[e];omega
def keyB(o p:List UInt8)(s:SL):Bool:=decide (s.o=o) && decide (s.p=p)
def finB(v:VT):Bool:=decide (v.st=4) || decide (v.st=5)
structure SX where
 kind:Int
 since:Int
 rep:List UInt8
 deriving DecidableEq
def wg0:SX:=⟨0,0,[]⟩
def knwn(per:Int)(l:List VT):List VT:=l.filter λv=>decide (v.per<=per)
def upTo(l:List VT):List VT:=bif decide (fstB (λi=>finB (atX l i)) l.length<l.length) then l.take (fstB (λi=>finB (atX l i)) l.length+1) else l
def snc(q:Int->Bool)(l:List VT):Nat->Nat
 |0=>0
 |i+1=>bif q (atX l i).st then snc q l i else i+1
def q12(st:Int):Bool:=decide (st=1) || decide (st=2)
def q3(st:Int):Bool:=decide (st=3)
def stpP(l:List VT):SX:=bif decide (l.length=0) then wg0 else
 bif q12 (atX l (l.length - 1)).st then ⟨1,(atX l (snc q12 l (l.length - 1))).per,[]⟩ else
 bif q3 (atX l (l.length - 1)).st then ⟨2,(atX l (snc q3 l (l.length - 1))).per,[]⟩ else
 bif decide ((atX l (l.length - 1)).st=4) then ⟨3,(atX l (l.length - 1)).per,[]⟩ else
 bif decide ((atX l (l.length - 1)).st=5) then ⟨4,(atX l (l.length - 1)).per,(atX l (l.length - 1)).rep⟩ else wg0
def staP(per:Int)(l:List VT):SX:=stpP (upTo (knwn per l))
theorem wge{l r:List VT}{i:Nat}(h:i<l.length):atX (l++r) i=atX l i:=by
 unfold atX;rw[List.getD_eq_getElem?_getD,List.getD_eq_getElem?_getD,List.getElem?_append_left h]
theorem wp9(l:List VT)(v:VT):atX (l++[v]) l.length=v:=by
 unfold atX;rw[List.getD_eq_getElem?_getD,List.getElem?_append_right (lR7 _),Nat.sub_self];rfl
theorem wqy(q:Int->Bool)(l r:List VT):∀i,i<=l.length->snc q (l++r) i=snc q l i
 |0,_=>rfl
 |i+1,h=>by rw[snc,snc,wge (by omega),wqy q l r i (by omega)]
theorem wn0(q:Int->Bool)(l:List VT):∀i,snc q l i<=i
 |0=>lR7 _
 |i+1=>by
  have:=wn0 q l i;rw[snc]
  cases q (atX l i).st with
  |true=>rw[cond_true];omega
  |false=>rw[cond_false];omega
theorem w1q{q:Nat->Bool}{n j:Nat}(hj:j<n)(h1:∀i,i<j->q i=false)(h2:q j=true):fstB q n=j:=by
 obtain⟨a,b⟩:=wdv q n
 rcases Nat.lt_trichotomy (fstB q n) j with h | h | h
 ·have:=b (by omega);rw[h1 _ h] at this;cases this
 ·exact h
 ·rw[a j h] at h2;cases h2
theorem wvn{l:List VT}(h:∀v∈l,finB v=false):upTo l=l:=by
 unfold upTo;have:¬ fstB (λi=>finB (atX l i)) l.length<l.length:=λq=>by
  have h1:=(wdv (λi=>finB (atX l i)) l.length).2 q;have h1:finB (atX l (fstB (λi=>finB (atX l i)) l.length))=true:=h1;rw[h _ (wkl q)] at h1;cases h1
 rw[decide_eq_false this];rfl
theorem wvo{l r:List VT}{f:VT}(h:∀v∈l,finB v=false)(hf:finB f=true):upTo (l++f::r)=l++[f]:=by
 have e:fstB (λi=>finB (atX (l++f::r) i)) (l++f::r).length=l.length:=by
  refine w1q (by simp) (λi hi=>?_) ?_
  ·show finB (atX (l++f::r) i)=false;rw[wge hi];exact h _ (wkl hi)
  ·show finB (atX (l++f::r) l.length)=true;unfold atX;rw[List.getD_eq_getElem?_getD,List.getElem?_append_right (lR7 _),Nat.sub_self];exact hf
 unfold upTo;rw[e,decide_eq_true (by simp),cond_true,show l++f::r=(l++[f])++r by simp,List.take_append_of_le_length (by simp),List.take_of_length_le (by simp)]
theorem wvz(a:List VT){f:VT}(hf:finB f=true):stpP (a++[f])=bif decide (f.st=4) then ⟨3,f.per,[]⟩ else ⟨4,f.per,f.rep⟩:=by
 have hlen:(a++[f]).length - 1=a.length:=by simp
 unfold stpP;rw[hlen,decide_eq_false (show ¬ (a++[f]).length=0 by simp),cond_false,wp9]
 rcases Bool.or_eq_true_iff.1 hf with h | h
 ·have h:f.st=4:=of_decide_eq_true h;rw[show q12 f.st=false by rw[h];rfl,show q3 f.st=false by rw[h];rfl,decide_eq_true h];rfl
 ·have h:f.st=5:=of_decide_eq_true h;rw[show q12 f.st=false by rw[h];rfl,show q3 f.st=false by rw[h];rfl,decide_eq_false (show ¬ f.st=4 by omega),decide_eq_true h];rfl
end Go.Eng
