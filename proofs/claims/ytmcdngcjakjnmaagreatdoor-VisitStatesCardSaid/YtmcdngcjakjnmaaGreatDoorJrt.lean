/- Slots, the book of messages, what counts: plain lists. -/
import Derived.Test.YtmcdngcjakjnmaaGreatDoorJrs
namespace Go.Eng
open Go.Proofs Go.RowKit
variable {C:Ctx} [C.Loose]
set_option maxRecDepth 20000
theorem nf_mrg(g:Nat->MG)(n:Nat)(h:Nat->MG)(m:Nat)(R:oR7):letI z4:=sumN (nn2 n m) 2;letI z3:=(List.flatten (List.replicate (nat_lit 0) [.nil]):List AV);letI z2:=catG (nn2 n m) (gg2 g h) 2;letI z0:=flL z2 z4;letI z1:=(∀(i:Nat),i<z0.length->true=true:Prop);wpFn te [(95,.rel wmz),(96,.det wgn),(97,.rel wmv),(99,.rel wm0)] [(3,L_mg z2 z4)] 0 Tryz.f76 [.view 15 n (waa g),.view 15 m (waa h)] [] R=((2<=16777216/\1=1/\2<=9223372036854775807)/\(∀(i:Nat),i<2->nrefL (waw 1 (.view 15 n (waa g):: .view 15 m (waa h)::List.append [] z3) i)=true)/\∃(nn:Nat->Nat),∃(gg:Nat->Nat->MG),22=22/\false=false/\2=2/\2<=1000/\(∀(i:Nat),i<2->[AV.view 15 (nn i) (waa (gg i))]=waw 1 (.view 15 n (waa g):: .view 15 m (waa h)::List.append [] z3) i)/\sumN nn 2<=1000000/\(∀(i:Nat),i<2->true=true)/\(TEq [(5,.own 0 0),(11,.view 15 (sumN nn 2) (waa (catG nn gg 2))),(12,.q (↑(sumN nn 2):Int)),(13,.q 0)] [(5,.own 0 0),(11,.view 15 z4 (waa z2)),(12,.q (z4:Int)),(13,.q (↑0:Int))]/\wad [(0,.row 47 15 0 (λ(_x:Nat)=>[]) false)] [(0,.row 47 15 0 (waa (atM (flL z2 0))) false)])/\sumN (nn2 n m) 2<=200000/\(∀(i:Nat),i<sumN (nn2 n m) 2->MG.Sm (catG (nn2 n m) (gg2 g h) 2 i))/\z1/\47=47/\false=false/\z0.length=z0.length/\z0.length<=1000000/\waa (atM z0)=waa (mgOf (waa (atM z0)))/\∀(h_1:Nat->MG),List.Perm (lst h_1 z0.length) (lst (mgOf (waa (atM z0))) z0.length)->(∀(i j:Nat),i<j->j<z0.length->¬ordM (h_1 j) (h_1 i)<0)->z1/\z1/\47=47/\false=false/\z0.length=z0.length/\z0.length<=1000000/\waa h_1=waa (mgOf (waa h_1))/\∀(k:Nat) (h_2:Nat->MG),lst h_2 k=ddL (mgOf (waa h_1)) z0.length->(∀(i:Nat),i<k->true=true)/\(∀(i:Nat),i<k->true=true)/\∃(O':oL7),wad [(0,.row 47 15 k (waa h_2) false)] O'/\R (.own 0 k) O'):=by kernel_rfl
theorem wy2(g:Nat->MG)(n k:Nat)(P:Nat->Prop)(R:eR7):wav ⟨te,[(96,.det wgn)],[],0,29,0⟩ (wax Tryz.f76 3) [5,11,12,13] [5] [] (S_mg g n) P R (S_mg g n k)=(letI z2:=(flL g k).length+1;letI z1:=(flL g k).length;letI z3:=([(0,.row 47 15 z1 (waa (atM (flL g k))) false)]:oL7);letI z0:=(g (k:Int).toNat);wab (decide ((k:Int)<(n:Int))) (((0:Int)<=(k:Int)/\(k:Int)<(n:Int)/\15=15)/\(z0.dev.length<9223372036854775808/\z0.v.o.length<9223372036854775808/\z0.d.o.length<9223372036854775808/\z0.d.dev.length<9223372036854775808)/\wab (decide (msgF (MG.mk z0.dev z0.seq z0.kind (VT.mk z0.v.o z0.v.p z0.v.per z0.v.day z0.v.st z0.v.pr z0.v.rep) (DT.mk z0.d.o z0.d.p z0.d.per z0.d.dev z0.d.num))=0)) ((15<=16777216/\15=15/\1<=9223372036854775807)/\((1<=1/\15=15)/\(flL g k).length<=(flL g k).length/\15=15/\47=47/\15=15/\(flL g k).length+1<=9223372036854775807/\z2 * 176<=140737488355328)/\inR .i64 ((k:Int)+1)/\∃(i':Nat),(TEq [(5,.own 0 z2),(11,.view 15 n (waa g)),(12,.q (n:Int)),(13,.q ((k:Int)+1))] [(5,.own 0 (flL g i').length),(11,.view 15 n (waa g)),(12,.q (n:Int)),(13,.q (i':Int))]/\wad [(0,.row 47 15 z2 (apF z1 (waa (atM (flL g k))) (waw 15 (.str z0.dev:: .q z0.seq:: .q z0.kind:: .str z0.v.o:: .str z0.v.p:: .q z0.v.per:: .q z0.v.day:: .q z0.v.st:: .q z0.v.pr:: .str z0.v.rep:: .str z0.d.o:: .str z0.d.p:: .q z0.d.per:: .str z0.d.dev:: .q z0.d.num::List.append [] wfr))) false)] [(0,.row 47 15 (flL g i').length (waa (atM (flL g i'))) false)])/\P i') (inR .i64 ((k:Int)+1)/\∃(i':Nat),(TEq [(5,.own 0 z1),(11,.view 15 n (waa g)),(12,.q (n:Int)),(13,.q ((k:Int)+1))] [(5,.own 0 (flL g i').length),(11,.view 15 n (waa g)),(12,.q (n:Int)),(13,.q (i':Int))]/\wad z3 [(0,.row 47 15 (flL g i').length (waa (atM (flL g i'))) false)])/\P i')) ((∀(i:Nat),i<(flL g k).length->true=true)/\∃(O':oL7),wad z3 O'/\R (.exit 0) (St.mk [(5,.own 0 z1)] O' 1 []))):=by kernel_rfl
theorem w2p{h:Nat->MG}{n:Nat}(hs:∀i j,i<j->j<n->¬ ordM (h j) (h i)<0):Asc ordM (ddL h n)/\∀x,x∈ddL h n↔x∈lst h n:=by
 have le:∀i j,i<j->j<n->ordM (h i) (h j)<=0:=λi j hij hj=>by
  have:=hs i j hij hj;rw[we2.neg] at this;omega
 have nk:∀j,0<j->wcb h j=true->h j≠h (j - 1):=λj hj hk e=>by
  rw[wjm hj,wt8.2 e] at hk;cases hk
 refine⟨?_,λx=>⟨λhx=>?_,λhx=>?_⟩⟩
 ·unfold Asc ddL;refine List.pairwise_map.2 ((List.pairwise_lt_range.filter _).imp_of_mem λ{i j} hi hj hij=>?_);obtain⟨hjn,hjk⟩:=List.mem_filter.1 hj;have hjn:=List.mem_range.1 hjn;have l1:=le i j hij hjn
  rcases Int.lt_or_eq_of_le l1 with h0 | h0
  ·exact h0
  ·exfalso;have e:=wof.1 h0;refine nk j (by omega) hjk ?_
   by_cases q:i=j - 1
   ·rw[← q,e]
   ·have l2:=le i (j - 1) (by omega) (by omega);have l3:=le (j - 1) j (by omega) hjn;rw[e] at l2;have:=we2.neg (h (j - 1)) (h j);exact wof.1 (by omega)
 ·unfold ddL at hx;obtain⟨i,hi,rfl⟩:=List.mem_map.1 hx;exact List.mem_map.2 ⟨i,(List.mem_filter.1 hi).1,rfl⟩
 ·obtain⟨i,hi,rfl⟩:=List.mem_map.1 hx;have key:∀i,i<n->h i∈ddL h n:=λi=>by
   induction i with
   |zero=>intro hi;exact List.mem_map.2 ⟨0,List.mem_filter.2 ⟨List.mem_range.2 hi,rfl⟩,rfl⟩
   |succ i ih=>
    intro hi
    cases q:wcb h (i+1) with
    |true=>exact List.mem_map.2 ⟨i+1,List.mem_filter.2 ⟨List.mem_range.2 hi,q⟩,rfl⟩
    |false=>
     rw[wjm (Nat.succ_pos i)] at q;have e:eqM (h (i+1)) (h i)=true:=by
      have:i+1 - 1=i:=rfl;rw[this] at q
      cases r:eqM (h (i+1)) (h i) with
      |true=>rfl
      |false=>rw[r] at q;cases q
     rw[wt8.1 e];exact ih (by omega)
  exact key i (List.mem_range.1 hi)
theorem wc4(L:List MG):lst (atM L) L.length=L:=by
 apply List.ext_getElem
 ·simp[lst]
 ·intro i h1 h2;simp[lst,atM,h2]
theorem wsu{g:Nat->MG}{L:List MG}{n:Nat}(h:lst g n=L):n=L.length/\∀i,i<n->g i=atM L i:=by
 subst h;refine⟨by simp[lst],λi hi=>?_⟩;simp[lst,atM,hi]
theorem w2a(g:Nat->MG)(k:Nat):flL g (k+1)=flL g k++bif okM (g k) then [g k] else []:=by
 unfold flL;rw[wdv,List.filter_append]
 cases h:okM (g k)<;>simp[h]
theorem wt0(g:Nat->MG)(k:Nat):(flL g k).length<=k:=by
 have:=List.length_filter_le okM (lst g k);have e:(lst g k).length=k:=by simp[lst]
 unfold flL;omega
theorem cat2(g:Nat->MG)(n:Nat)(h:Nat->MG)(m:Nat):sumN (nn2 n m) 2=n+m/\lst (catG (nn2 n m) (gg2 g h) 2) (n+m)=lst g n++lst h m/\∀i,i<n+m->(i<n/\catG (nn2 n m) (gg2 g h) 2 i=g i)∨(i - n<m/\n<=i/\catG (nn2 n m) (gg2 g h) 2 i=h (i - n)):=by
 have s1:sumN (nn2 n m) 1=n:=by simp[sumN,nn2]
 have at1:∀i,i<n+m->(i<n/\catG (nn2 n m) (gg2 g h) 2 i=g i)∨(i - n<m/\n<=i/\catG (nn2 n m) (gg2 g h) 2 i=h (i - n)):=λi hi=>by
  by_cases q:i<n
  ·refine .inl ⟨q,?_⟩;rw[catG,s1,if_pos q,catG];have:sumN (nn2 n m) 0=0:=rfl;rw[this,if_neg (by omega)];rfl
  ·refine .inr ⟨by omega,by omega,?_⟩;rw[catG,s1,if_neg q];rfl
 refine⟨by rw[sumN,s1];rfl,?_,at1⟩;apply List.ext_getElem
 ·simp[lst]
 ·intro i h1 h2;have hi:i<n+m:=by simpa[lst] using h1
  rcases at1 i hi with⟨q,e⟩ | ⟨q1,q2,e⟩
  ·rw[List.getElem_append_left (by simp[lst,q])];simp[lst,e]
  ·rw[List.getElem_append_right (by simp[lst,q2])];simp[lst,e]
theorem mg_loop(hP:C.P=Tryz.prog)(hL:∀w,C.laid w->LaidW w)(g:Nat->MG)(n:Nat):wah C 0 29 (waj Tryz.f76 3) (L_mg g n):=by
 rintro st Q ⟨h0,hn,hs,hQ⟩;refine AWP.ownNil 5 47 15 ?_;refine wah.mk (prg hP) [(96,.det wgn)] 0 (.cons (msg_ok hP hL) .nil) [5,11,12,13] [5] [] (S_mg g n) (λk=>k<=n) (λk=>n - k) 0 (zL7 _) h0 (λk hk=>?_) (λi=>⟨λ_ _=>rfl,trivial⟩);rw[wy2,tN7];have hlen:=wt0 g k;have hsu:=w2a g k;refine wag (λh1=>?_) (λh1=>?_)
 ·have hk:=hs k (by omega);refine⟨⟨by omega,by omega,rfl⟩,⟨hk.a,hk.b,hk.c,hk.d⟩,wag (λq=>?_) (λq=>?_)⟩
  ·have q:msgF (g k)=0:=q;have e:flL g (k+1)=flL g k++[g k]:=by rw[hsu,show okM (g k)=true from decide_eq_true q];rfl
   refine⟨⟨by omega,rfl,by omega⟩,⟨⟨lR7 _,rfl⟩,lR7 _,rfl,rfl,rfl,by omega,?_⟩,by simp only[inR];omega,k+1,?_,by omega,by omega⟩
   ·show ((flL g k).length+1) * 176<=_;omega
   ·rw[e,lA7];refine⟨rfl,⟨rfl,rfl,rfl,rfl,rfl,λj hj=>?_⟩,trivial⟩;generalize flL g k=L at *;unfold apF
    by_cases h:j<L.length
    ·rw[if_pos h];have:atM (L++[g k]) j=atM L j:=by simp[atM,List.getD_eq_getElem?_getD,List.getElem?_append_left h]
     unfold waa;rw[this]
    ·have hj:j=L.length:=by omega
     subst hj;rw[if_neg h,Nat.sub_self];have:atM (L++[g k]) L.length=g k:=by simp[atM]
     unfold waa;rw[this];rfl
  ·have q:¬ msgF (g k)=0:=q;have e:flL g (k+1)=flL g k:=by rw[hsu,show okM (g k)=false from decide_eq_false q];simp
   refine⟨by simp only[inR];omega,k+1,?_,by omega,by omega⟩;rw[e];exact⟨rfl,rQ7,trivial⟩
 ·have:k=n:=by omega
  subst this;exact⟨λ_ _=>rfl,_,wa0 _,hQ⟩
theorem mrg_ok(hP:C.P=Tryz.prog)(hL:∀w,C.laid w->LaidW w):wac C 76 S_mrg:=by
 rintro args objs U Os vc hh hvc;unfold S_mrg at hh;split at hh<;>simp only[sI7,pI7,reduceCtorEq] at hh;rename_i n f m h;obtain⟨rfl,rfl,rfl⟩:=hh;obtain⟨hn,hm,hf,hh,s1,s2⟩:=hvc;generalize mgOf f=g at *;generalize mgOf h=j at *;subst hf;subst hh;refine wac.wpL (prg hP) [(95,.rel wmz),(96,.det wgn),(97,.rel wmv),(99,.rel wm0)] [(3,L_mg (catG (nn2 n m) (gg2 g j) 2) (sumN (nn2 n m) 2))] 0 (.cons (w2t hP) (.cons (msg_ok hP hL) (.cons (wwf hP) (.cons (w2x hP) .nil)))) (hP ▸ Tryz.func76) rfl rfl rfl [(waj Tryz.f76 3,L_mg (catG (nn2 n m) (gg2 g j) 2) (sumN (nn2 n m) 2))] (by kernel_rfl) ⟨mg_loop hP hL _ _,trivial⟩ ?_;rw[nf_mrg];obtain⟨c1,c2,c3⟩:=cat2 g n j m;have two:∀ {p:Nat->Prop},p 0->p 1->∀i,i<2->p i:=λh0 h1 i hi=>by
  match i,hi with
  |0,_=>exact h0
  |1,_=>exact h1
 have sm:∀i,i<n+m->(catG (nn2 n m) (gg2 g j) 2 i).Sm:=λi hi=>by
  rcases c3 i hi with⟨q,e⟩ | ⟨q1,q2,e⟩
  ·rw[e];exact s1 i q
  ·rw[e];exact s2 _ q1
 refine⟨⟨by omega,rfl,by omega⟩,two rfl rfl,nn2 n m,gg2 g j,rfl,rfl,rfl,by omega,two rfl rfl,by rw[c1];omega,two rfl rfl,⟨rfl,⟨rfl,rfl,rfl,rfl,rfl,λi hi=>absurd hi (nZ7 i)⟩,trivial⟩,?_⟩;have hfl:flL (catG (nn2 n m) (gg2 g j) 2) (n+m)=(lst g n++lst j m).filter okM:=by unfold flL;rw[c2]
 have hlen:=wt0 (catG (nn2 n m) (gg2 g j) 2) (n+m);have hLd:mrgL g n j m=mrgF (lst g n++lst j m):=rfl;rw[c1];generalize catG (nn2 n m) (gg2 g j) 2=cc at *;generalize hF:flL cc (n+m)=Fl at *;refine⟨by omega,sm,λ_ _=>rfl,rfl,rfl,rfl,by omega,rfl,λh1 hp hs=>⟨λ_ _=>rfl,λ_ _=>rfl,rfl,rfl,rfl,by omega,rfl,λk h2 hd=>?_⟩⟩;have hp:(lst h1 Fl.length).Perm (lst (atM Fl) Fl.length):=hp;have hd:lst h2 k=ddL h1 Fl.length:=hd;rw[wc4] at hp;obtain⟨a1,a2⟩:=w2p hs;have hM:ddL h1 Fl.length=mrgL g n j m:=by
  refine wsi a1 λx=>?_;rw[a2,hp.mem_iff,hfl,List.mem_filter];unfold okM;rw[decide_eq_true_eq]
 rw[hM] at hd;show _/\_/\∃O',wad _ O'/\AV.own 0 k= .own 0 (mrgL g n j m).length/\O'=[(0,.row 47 15 (mrgL g n j m).length (waa (atM (mrgL g n j m))) false)];generalize mrgL g n j m=M at *;obtain⟨rfl,hat⟩:=wsu hd;refine⟨λ_ _=>rfl,λ_ _=>rfl,[(0,.row 47 15 M.length (waa (atM M)) false)],⟨⟨rfl,rfl,rfl,rfl,rfl,λi hi=>?_⟩,trivial⟩,rfl,rfl⟩;unfold waa;rw[hat i hi]
end Go.Eng
namespace Go.Eng
def wdu(a b:MG):Int:=orL [cmpS a.dev b.dev,cmpI a.seq b.seq]
theorem wos:PreC wdu:=(wdc.comap MG.dev).or ((wdd.comap MG.seq).or .nil)
theorem wjb{a b:MG}:wdu a b=0↔mk2 a=mk2 b:=by
 simp only[wdu,woh,whx,wp4,show orL []=0 from rfl,and_true,mk2,pI7]
theorem orL_two{x y:Int}{l:List Int}(h:orL (x::y::l)<0):orL [x,y]<=0:=by
 by_cases q:x=0
 ·by_cases q':y=0
  ·simp[orL,q,q']
  ·simp only[orL,q,q',decide_true,decide_false,cond_true,cond_false] at h ⊢;omega
 ·simp only[orL,q,decide_false,cond_false] at h ⊢;omega
theorem w0s{a b:MG}(h:ordM a b<0):wdu a b<=0:=orL_two h
theorem wkp{L:List MG}{i:Nat}(h:i<L.length):atM L i=L[i]:=by simp[atM,h]
theorem wko{L:List MG}{i:Nat}(h:i<L.length):atM L i∈L:=by rw[wkp h];exact List.getElem_mem h
theorem mem_atM{L:List MG}{x:MG}(h:x∈L):∃i,i<L.length/\atM L i=x:=by
 obtain⟨i,hi,e⟩:=List.mem_iff_getElem.1 h;exact⟨i,hi,by rw[wkp hi,e]⟩
theorem wu6{c:MG->MG->Int}{L:List MG}(h:Asc c L){i j:Nat}(hij:i<j)(hj:j<L.length):c (atM L i) (atM L j)<0:=by
 rw[wkp (show i<L.length by omega),wkp hj];exact List.pairwise_iff_getElem.1 h i j (by omega) hj hij
theorem wor{L:List MG}(h:Asc ordM L){i j:Nat}(hij:i<=j)(hj:j<L.length):wdu (atM L i) (atM L j)<=0:=by
 rcases Nat.lt_or_eq_of_le hij with q | q
 ·exact w0s (wu6 h q hj)
 ·subst q;rw[wos.self];exact Int.le_refl 0
theorem wsr{L:List MG}(h:Asc ordM L){i j k:Nat}(hij:i<=j)(hjk:j<=k)(hk:k<L.length)(e:mk2 (atM L i)=mk2 (atM L k)):mk2 (atM L j)=mk2 (atM L i):=by
 have a:=wor h hij (by omega);have b:=wor h hjk hk;have c:wdu (atM L k) (atM L i)<=0:=by rw[wjb.2 e.symm];exact Int.le_refl 0
 have d:=wos.trans _ _ _ b c;have n:=wos.neg (atM L j) (atM L i);have:wdu (atM L i) (atM L j)=0:=by omega
 exact(wjb.1 this).symm
theorem wsa(g:Nat->MG)(p:List UInt8×Int):∀n,0<numC g p n↔∃i,i<n/\mk2 (g i)=p
 |0=>by simp[numC]
 |n+1=>by
  have ih:=wsa g p n;have nn:=(wol g p n).1;rw[numC]
  cases q:decide ((mk2 (g n)).1=p.1) && decide ((mk2 (g n)).2=p.2) with
  |true=>
   have e:=wd4.1 q;simp only[cond_true];exact⟨λ_=>⟨n,by omega,e⟩,λ_=>by omega⟩
  |false=>
   have ne:mk2 (g n)≠p:=λe=>by rw[e] at q;simp at q
   simp only[cond_false]
   constructor
   ·intro h;obtain⟨i,hi,e⟩:=ih.1 (by omega);exact⟨i,by omega,e⟩
   ·rintro⟨i,hi,e⟩;have:i≠n:=λq=>ne (q ▸ e);have:=ih.2 ⟨i,by omega,e⟩;omega
theorem whb(g:Nat->MG)(p:List UInt8×Int):∀n,1<numC g p n↔∃i j,i<j/\j<n/\mk2 (g i)=p/\mk2 (g j)=p
 |0=>by simp[numC]
 |n+1=>by
  have ih:=whb g p n;have ip:=wsa g p n;rw[numC]
  cases q:decide ((mk2 (g n)).1=p.1) && decide ((mk2 (g n)).2=p.2) with
  |true=>
   have e:=wd4.1 q;simp only[cond_true]
   constructor
   ·intro h;obtain⟨i,hi,e'⟩:=ip.1 (by omega);exact⟨i,n,hi,by omega,e',e⟩
   ·rintro⟨i,j,hij,hj,e1,e2⟩;have:=ip.2 ⟨i,by omega,e1⟩;omega
  |false=>
   have ne:mk2 (g n)≠p:=λe=>by rw[e] at q;simp at q
   simp only[cond_false]
   constructor
   ·intro h;obtain⟨i,j,hij,hj,e⟩:=ih.1 (by omega);exact⟨i,j,hij,by omega,e⟩
   ·rintro⟨i,j,hij,hj,e1,e2⟩;have:j≠n:=λq=>ne (q ▸ e2);have:=ih.2 ⟨i,j,hij,by omega,e1,e2⟩;omega
def wim(a b:MG):Bool:=decide (a.dev=b.dev) && decide (a.seq=b.seq)
theorem wwp{a b:MG}:wim a b=true↔mk2 a=mk2 b:=by simp[wim,mk2]
def clnB(L:List MG)(i:Nat):Bool:= !((decide (0<i) && wim (atM L (i - 1)) (atM L i)) || (decide (i+1<L.length) && wim (atM L (i+1)) (atM L i)))
def clnK(L:List MG)(k:Nat):List MG:=((List.range k).filter (clnB L)).map (atM L)
theorem wut{L:List MG}(h:Asc ordM L){i:Nat}(hi:i<L.length):clnB L i= !decide (1<numC (atM L) (mk2 (atM L i)) L.length):=by
 have key:1<numC (atM L) (mk2 (atM L i)) L.length↔(0<i/\mk2 (atM L (i - 1))=mk2 (atM L i))∨(i+1<L.length/\mk2 (atM L (i+1))=mk2 (atM L i)):=by
  rw[whb]
  constructor
  ·rintro⟨a,b,hab,hb,ea,eb⟩
   by_cases q:a<i
   ·exact .inl ⟨by omega,(wsr h (i:=a) (j:=i - 1) (k:=i) (by omega) (by omega) hi ea).trans ea⟩
   ·exact .inr ⟨by omega,wsr h (i:=i) (j:=i+1) (k:=b) (by omega) (by omega) hb eb.symm⟩
  ·rintro(⟨h0,e⟩ | ⟨h0,e⟩)
   ·exact⟨i - 1,i,by omega,hi,e,rfl⟩
   ·exact⟨i,i+1,by omega,h0,rfl,e⟩
 unfold clnB;congr 1;rw[Bool.eq_iff_iff,decide_eq_true_eq,key];simp[wwp]
theorem w21(g:Nat->MG)(n:Nat):clnK (mrgL g n noM 0) (mrgL g n noM 0).length=wak g n:=by
 have h:Asc ordM (mrgL g n noM 0):=wi6 _;unfold wak;generalize mrgL g n noM 0=L at *;unfold clnK;have e:∀q:MG->Bool,L.filter q=((List.range L.length).map (atM L)).filter q:=λq=>by rw[show (List.range L.length).map (atM L)=L from wc4 L]
 rw[e,List.filter_map];congr 1;exact List.filter_congr λi hi=>wut h (List.mem_range.1 hi)
theorem ww2(g:Nat->MG)(n:Nat):Asc wdu (wak g n):=by
 have h:Asc ordM (mrgL g n noM 0):=wi6 _;rw[← w21];generalize mrgL g n noM 0=L at *;unfold clnK Asc;rw[List.pairwise_map];refine(List.pairwise_lt_range.filter _).imp_of_mem ?_;intro i j hi hj hij;obtain⟨hi1,hi2⟩:=List.mem_filter.1 hi;have hj1:=List.mem_range.1 (List.mem_filter.1 hj).1;have hi1:=List.mem_range.1 hi1;have le:=wor h (Nat.le_of_lt hij) hj1
 rcases Int.lt_or_eq_of_le le with q | q
 ·exact q
 ·have e:=wjb.1 q;rw[wut h hi1,Bool.not_eq_true',decide_eq_false_iff_not] at hi2;exact absurd ((whb _ _ _).2 ⟨i,j,hij,hj1,rfl,e.symm⟩) hi2
theorem ww4{g:Nat->MG}{n:Nat}{m:MG}(h:m∈wak g n):msgF m=0:=(wop.1 (List.mem_filter.1 h).1).2
theorem lst_atL(L:List MG):lst (atM L) L.length++lst noM 0=L:=by rw[wc4];simp[lst]
def t30(nm:Nat->List UInt8)(i:Nat):List UInt8:=(nm i).take 30
def wc9(n k:Int):Int:=n % 18446744073709551616 % k
def wmc:Spec
 |[.int .i64 n,.int .i64 k],[]=>some (.q (wc9 n k),[],1<=k/\k<=1000000)
 |_,_=>none
def was(n:Nat)(v:Nat->Int)(a k:Int):Int:=wc9 (bif decide (a<n) then v a.toNat else 0) k
def wdj:Spec
 |[.ptr 0 0,.int .i64 k],[.cells [.view sz n f,.int .i64 a] t]=>some (.q (was n (vInt f) a k),[(0,.cells [.view 1 n f,.q (a+1)] 26)],t=26/\sz=1/\f=waf (vInt f)/\(1<=k/\k<=1000000)/\(0<=a/\a<=4611686018427387904))
 |_,_=>none
def pw(V j:Nat):Nat:=V / 10 ^ j
def dgI(V k:Nat):Int:=48+((V / 10 ^ (6 - k) % 10:Nat):Int)
def wa8(V:Nat)(k:Nat):List AV:=[.int .u8 (dgI V k)]
def idV(n:Int):Nat:=1000000+(wc9 n 1000000).toNat
def id7(n:Int):List UInt8:=wa7 7 (wa8 (idV n))
def idF(n:Int):List UInt8:=id7 n++[UInt8.ofNat (48+(cdF (id7 n)).1).toNat]
def S_id:Spec
 |[.int .i64 n],[]=>some (.str (idF n),[],True)
 |_,_=>none
def wl8(V:Nat)(j:Nat):St:=⟨[(3,.q (pw V j:Nat)),(4,.own 0 7),(5,.q (6 - (j:Int)))],[(0,.row 5 1 7 (λk=>[.int .u8 (bif decide (7<=k+j) then dgI V k else 0)]) false)],1,[]⟩
def L_id(V:Nat):waq:=λst Q=>canonIs te 0 [3,4,5] st (wl8 V 0)/\V<2000000/\
 Q (.exit 0) ⟨[(4,.own 0 7)],[(0,.row 5 1 7 (wa8 V) false)],1,[]⟩
theorem whp{k:Int}(h:1<=k)(n:Int):0<=wc9 n k/\wc9 n k<k:=by
 unfold wc9;exact⟨Int.emod_nonneg _ (by omega),Int.emod_lt_of_pos _ (by omega)⟩
theorem wec{k:Int}(h:1<=k)(n:Nat)(v:Nat->Int)(a:Int):0<=was n v a k/\was n v a k<k:=whp h _
theorem wuw(s:List UInt8):0<=(cdF s).1/\(cdF s).1<=9:=by
 unfold cdF;split
 ·show 0<=(10 - wa3 s s.length % 10) % 10/\(10 - wa3 s s.length % 10) % 10<=9;omega
 ·exact⟨by decide,by decide⟩
theorem whl(n:Int):(id7 n).length=7:=by simp[id7,wa7]
theorem wte(n:Int):(idF n).length=8:=by rw[idF,lA7,whl];rfl
theorem w2n(V k:Nat):48<=dgI V k/\dgI V k<=57:=by
 unfold dgI;have:=Nat.mod_lt (V / 10 ^ (6 - k)) (show 0<10 by omega);omega
theorem u8_to{n:Int}(h0:0<=n)(h1:n<256):((UInt8.ofNat n.toNat).toNat:Int)=n:=by
 rw[UInt8.toNat_ofNat'];have:n.toNat % 2 ^ 8=n.toNat:=Nat.mod_eq_of_lt (by omega);omega
theorem id7_dig(n:Int):(id7 n).all wbo=true:=by
 unfold id7 wa7;rw[List.all_map,List.all_eq_true];intro k _;have h:=w2n (idV n) k;have e:=u8_to (n:=dgI (idV n) k) (by omega) (by omega);show wbo (UInt8.ofNat (dgI (idV n) k).toNat)=true;unfold wbo;rw[bA7,decide_eq_true_eq,decide_eq_true_eq];omega
theorem wpk(n:Int):wbm (idF n)=true:=by
 have hc:=wuw (id7 n);have e:=u8_to (n:=48+(cdF (id7 n)).1) (by omega) (by omega);have hd:wbs (idF n) 8 13=true:=by
  unfold wbs;rw[wte,bA7];refine⟨rfl,?_⟩;unfold idF;rw[List.all_append,id7_dig,List.all_cons];unfold wbo;rw[Bool.true_and,List.all_nil,Bool.and_true,bA7,decide_eq_true_eq,decide_eq_true_eq];omega
 have ht:(idF n).take 7=id7 n:=by unfold idF;rw[← whl n];exact List.take_left
 have hg:(idF n).getD 7 0=UInt8.ofNat (48+(cdF (id7 n)).1).toNat:=by
  unfold idF;rw[List.getD_eq_getElem?_getD,List.getElem?_append_right (by rw[whl];exact lR7 _),whl];rfl
 unfold wbm;rw[hd,wte];show decide ((cdF ((idF n).take 7)).1=(((idF n).getD 7 0).toNat:Int) - 48)=true;rw[ht,hg,e,decide_eq_true_eq];omega
def outF(i:Int):List UInt8:=List.getD [[111,49],[111,50],[112]] i.toNat []
def wlg:Spec
 |[.ptr 0 0],[.cells [.view sz n f,.int .i64 a] t]=>some (.str (outF (was n (vInt f) a 3)),[(0,.cells [.view 1 n f,.q (a+1)] 26)],t=26/\sz=1/\f=waf (vInt f)/\(0<=a/\a<=4611686018427387000))
 |_,_=>none
def wle:Spec
 |[.ptr 0 0],[.cells [.view sz n f,.int .i64 a] t]=>some (.str (idF (was n (vInt f) a 4)),[(0,.cells [.view 1 n f,.q (a+1)] 26)],t=26/\sz=1/\f=waf (vInt f)/\(0<=a/\a<=4611686018427387000))
 |_,_=>none
structure VT.Made (x:VT):Prop where
 ok:visF x=true
 o:x.o.length<=2
def wmu:wdm
 |[.ptr 0 0],[.cells [.view sz n f,.int .i64 a] t],R=>t=26/\sz=1/\f=waf (vInt f)/\(0<=a/\a<=4611686018427386000)/\
   ∀(x:VT) (a':Int),x.Made->(a<=a'/\a'<=a+7)->
   R (.agg [.str x.o,.str x.p,.q x.per,.q x.day,.q x.st,.q x.pr,.str x.rep]) [(0,.cells [.view 1 n f,.q a'] 26)]
 |_,_,_=>False
theorem idF4:∀i,i<4->¬ idF 4=idF (i:Nat):=by decide+kernel
structure RM (f:Nat->List AV) (n:Nat):Prop where
 eq:∀i,i<n->f i=waa (mgOf f) i
 sm:∀i,i<n->(mgOf f i).Sm
def wb9(g:Nat->List UInt8×Int)(i:Nat):List AV:=[.str (g i).1,.q (g i).2]
def atK(L:List (List UInt8×Int))(i:Nat):List UInt8×Int:=L.getD i ([],0)
def smK(x y:List UInt8×Int):Bool:=decide (x.1=y.1) && decide (x.2=y.2)
theorem smK_iff{x y:List UInt8×Int}:smK x y=true↔x=y:=by
 obtain⟨a,b⟩:=x;obtain⟨c,d⟩:=y;simp[smK]
def clnP(M:List MG):Nat->List (List UInt8×Int)
 |0=>[]
 |k+1=>bif decide (1<numC (atM M) (mk2 (atM M k)) M.length) && (decide ((clnP M k).length=0) || !smK (atK (clnP M k) ((clnP M k).length - 1)) (mk2 (atM M k))) then clnP M k++[mk2 (atM M k)] else clnP M k
theorem wu3{L:List (List UInt8×Int)}{i:Nat}(h:i<L.length):atK L i∈L:=by
 unfold atK;simp only[List.getD_eq_getElem?_getD,List.getElem?_eq_getElem h,Option.getD_some];exact List.getElem_mem h
theorem w3n(L:List (List UInt8×Int))(x:List UInt8×Int):atK (L++[x]) ((L++[x]).length - 1)=x:=by
 unfold atK;simp
theorem w20{M:List MG}{k:Nat}(h:1<numC (atM M) (mk2 (atM M k)) M.length):0<(clnP M (k+1)).length/\atK (clnP M (k+1)) ((clnP M (k+1)).length - 1)=mk2 (atM M k):=by
 rw[clnP,decide_eq_true h,Bool.true_and]
 cases q:decide ((clnP M k).length=0) || !smK (atK (clnP M k) ((clnP M k).length - 1)) (mk2 (atM M k)) with
 |true=>exact⟨by simp,w3n _ _⟩
 |false=>
  rw[Bool.or_eq_false_iff,decide_eq_false_iff_not,Bool.not_eq_false'] at q;exact⟨by simp only[cond_false];omega,smK_iff.1 q.2⟩
def wb5(g:Nat->MG)(n:Nat):List (List UInt8×Int):=clnP (mrgL g n noM 0) (mrgL g n noM 0).length
theorem wke(M:List MG):∀k,(clnP M k).length<=k
 |0=>lR7 _
 |k+1=>by
  have ih:=wke M k;rw[clnP]
  cases decide (1<numC (atM M) (mk2 (atM M k)) M.length) && (decide ((clnP M k).length=0) || !smK (atK (clnP M k) ((clnP M k).length - 1)) (mk2 (atM M k))) with
  |true=>rw[cond_true,lA7];show _+1<=_;omega
  |false=>rw[cond_false];omega
structure SL where
 o:List UInt8
 p:List UInt8
 per:Int
 deriving DecidableEq,Inhabited
def ordS(a b:SL):Int:=orL [cmpS a.o b.o,cmpS a.p b.p,cmpI a.per b.per]
theorem wch:PreC ordS:=(wdc.comap SL.o).or ((wdc.comap SL.p).or ((wdd.comap SL.per).or .nil))
theorem wiv{a b:SL}:ordS a b=0↔a=b:=by
 simp only[ordS,woh,whx,wp4,show orL []=0 from rfl,and_true]
 constructor
 ·rintro⟨h1,h2,h3⟩
  cases a;cases b;simp only at h1 h2 h3;subst h1;subst h2;subst h3;rfl
 ·rintro rfl;simp
def whr(m:MG):SL:=bif decide (m.kind=2) then ⟨m.d.o,m.d.p,m.d.per⟩ else ⟨m.v.o,m.v.p,m.v.per⟩
def vsl(v:VT):SL:=⟨v.o,v.p,v.per⟩
theorem wg1{α:Type}{p:List α->Prop}(l:List α)(nil:p [])(snoc:∀(l:List α) (a:α),p l->p (l++[a])):p l:=by
 have:∀(r:List α),p r.reverse:=λr=>by
  induction r with
  |nil=>exact nil
  |cons a r ih=>rw[List.reverse_cons];exact snoc _ a ih
 have h:=this l.reverse
 rwa [List.reverse_reverse] at h
def putB:List (SL×List MG)->SL->MG->List (SL×List MG)
 |[],s,m=>[(s,[m])]
 |x::B,s,m=>bif decide (x.1=s) then (x.1,x.2++[m])::B else x::putB B s m
def wai(l:List MG):List (SL×List MG):=l.foldl (λB m=>putB B (whr m) m) []
def getB:List (SL×List MG)->SL->List MG
 |[],_=>[]
 |x::B,s=>bif decide (x.1=s) then x.2 else getB B s
theorem w1y(B:List (SL×List MG))(s t:SL)(m:MG):getB (putB B s m) t=bif decide (s=t) then getB B t++[m] else getB B t:=by
 induction B with
 |nil=>
  by_cases h:s=t
  ·subst h;simp[putB,getB]
  ·simp[putB,getB,h]
 |cons x B ih=>
  rw[putB]
  by_cases h:x.1=s
  ·rw[decide_eq_true h]
   by_cases h':s=t
   ·simp[getB,h,h']
   ·have:¬ x.1=t:=λq=>h' (h ▸ q);simp[getB,this,h']
  ·rw[decide_eq_false h]
   by_cases h':x.1=t
   ·have:¬ s=t:=λq=>h (h'.trans q.symm);simp[getB,h',this]
   ·simp[getB,h',ih]
theorem wo7(B:List (SL×List MG))(s:SL)(m:MG):(putB B s m).map Prod.fst=bif decide (s∈B.map Prod.fst) then B.map Prod.fst else B.map Prod.fst++[s]:=by
 induction B with
 |nil=>simp[putB]
 |cons x B ih=>
  rw[putB]
  by_cases h:x.1=s
  ·rw[decide_eq_true h];simp[h]
  ·rw[decide_eq_false h,cond_false,List.map_cons,ih];have h':¬ s=x.1:=λq=>h q.symm
   by_cases q:s∈B.map Prod.fst
   ·have q2:s∈(x::B).map Prod.fst:=List.mem_cons_of_mem _ q;rw[decide_eq_true q,decide_eq_true q2];rfl
   ·have q2:s ∉ (x::B).map Prod.fst:=by
     rw[List.map_cons,List.mem_cons];exact λe=>e.elim h' q
    rw[decide_eq_false q,decide_eq_false q2];rfl
theorem wh2(l:List MG)(m:MG):wai (l++[m])=putB (wai l) (whr m) m:=by simp[wai]
theorem wjt(s:SL)(l:List MG):getB (wai l) s=l.filter λm=>decide (whr m=s):=by
 induction l using wg1 with
 |nil=>rfl
 |snoc l m ih=>
  rw[wh2,w1y,ih,List.filter_append]
  by_cases h:whr m=s
  ·simp[h]
  ·simp[h]
theorem wo8(s:SL)(l:List MG):s∈(wai l).map Prod.fst↔∃m∈l,whr m=s:=by
 induction l using wg1 with
 |nil=>simp[wai]
 |snoc l m ih=>
  rw[wh2,wo7]
  by_cases h:whr m∈(wai l).map Prod.fst
  ·rw[decide_eq_true h,cond_true,ih]
   constructor
   ·rintro⟨x,hx,e⟩;exact⟨x,List.mem_append_left _ hx,e⟩
   ·rintro⟨x,hx,e⟩
    rcases List.mem_append.1 hx with hx | hx
    ·exact⟨x,hx,e⟩
    ·rw[List.mem_singleton.1 hx] at e;exact ih.1 (e ▸ h)
  ·rw[decide_eq_false h,cond_false,List.mem_append,ih,List.mem_singleton]
   constructor
   ·rintro(⟨x,hx,e⟩ | e)
    ·exact⟨x,List.mem_append_left _ hx,e⟩
    ·exact⟨m,List.mem_append_right _ (List.mem_singleton.2 rfl),e.symm⟩
   ·rintro⟨x,hx,e⟩
    rcases List.mem_append.1 hx with hx | hx
    ·exact .inl ⟨x,hx,e⟩
    ·exact .inr (by rw[← e,List.mem_singleton.1 hx])
theorem wi0(l:List MG):((wai l).map Prod.fst).Nodup:=by
 induction l using wg1 with
 |nil=>simp[wai]
 |snoc l m ih=>
  rw[wh2,wo7]
  by_cases h:whr m∈(wai l).map Prod.fst
  ·rw[decide_eq_true h];exact ih
  ·rw[decide_eq_false h,cond_false,List.nodup_append];refine⟨ih,by simp,λa ha b hb e=>h ?_⟩;rw[List.mem_singleton.1 hb] at e;exact e ▸ ha
theorem getB_at{B:List (SL×List MG)}(hn:(B.map Prod.fst).Nodup){x:SL×List MG}(h:x∈B):getB B x.1=x.2:=by
 induction B with
 |nil=>cases h
 |cons y B ih=>
  rw[List.map_cons,List.nodup_cons] at hn
  rcases List.mem_cons.1 h with rfl | h
  ·simp[getB]
  ·have:¬ y.1=x.1:=λq=>hn.1 (q ▸ List.mem_map_of_mem h);rw[getB,decide_eq_false this];exact ih hn.2 h
theorem wu0{l:List MG}{x:SL×List MG}(h:x∈wai l):x.2=l.filter λm=>decide (whr m=x.1):=by rw[← wjt,getB_at (wi0 l) h]
theorem wuz(l:List MG):(wai l).length<=l.length:=by
 induction l using wg1 with
 |nil=>simp[wai]
 |snoc l m ih=>
  have h:=congrArg List.length (wo7 (wai l) (whr m) m);rw[List.length_map] at h;rw[wh2,lA7,h]
  cases decide (whr m∈(wai l).map Prod.fst) with
  |true=>rw[cond_true,List.length_map];simp;omega
  |false=>rw[cond_false,lA7,List.length_map];simpa using ih
def insS:List SL->SL->List SL
 |[],m=>[m]
 |x::l,m=>bif decide (ordS m x<0) then m::x::l else bif decide (ordS m x=0) then x::l else x::insS l m
theorem wpf:∀ {l:List SL} {m y:SL},y∈insS l m↔y=m∨y∈l
 |[],m,y=>by simp[insS]
 |x::l,m,y=>by
  rw[insS]
  by_cases h:ordS m x<0
  ·rw[decide_eq_true h];simp
  ·rw[decide_eq_false h]
   by_cases h':ordS m x=0
   ·rw[decide_eq_true h'];have:=wiv.1 h';subst this;simp
   ·rw[decide_eq_false h'];simp only[cond_false,List.mem_cons,wpf (l:=l)];grind
theorem ws8:∀ {l:List SL} (m:SL),Asc ordS l->Asc ordS (insS l m)
 |[],m,_=>by simp[insS,Asc]
 |x::l,m,h=>by
  obtain⟨h1,h2⟩:=List.pairwise_cons.1 h;rw[insS]
  by_cases q:ordS m x<0
  ·rw[decide_eq_true q];refine List.pairwise_cons.2 ⟨λy hy=>?_,h⟩
   rcases List.mem_cons.1 hy with rfl | hy
   ·exact q
   ·exact wch.lt_trans q (h1 y hy)
  ·rw[decide_eq_false q]
   by_cases q':ordS m x=0
   ·rw[decide_eq_true q'];exact h
   ·rw[decide_eq_false q'];refine List.pairwise_cons.2 ⟨λy hy=>?_,ws8 m h2⟩
    rcases wpf.1 hy with rfl | hy
    ·have:=wch.neg x y;have:=wch.neg y x;omega
    ·exact h1 y hy
theorem ws7:∀(l:List SL) (m:SL),(insS l m).length<=l.length+1
 |[],m=>by simp[insS]
 |x::l,m=>by
  rw[insS]
  cases decide (ordS m x<0) with
  |true=>simp
  |false=>
   cases decide (ordS m x=0) with
   |true=>simp
   |false=>have:=ws7 l m;simpa using this
theorem whq:∀(l acc:List SL),Asc ordS acc->Asc ordS (l.foldl insS acc)/\∀y,y∈l.foldl insS acc↔y∈acc∨y∈l
 |[],acc,h=>⟨h,λy=>by simp⟩
 |x::l,acc,h=>by
  obtain⟨h1,h2⟩:=whq l (insS acc x) (ws8 x h);refine⟨h1,λy=>?_⟩;rw[List.foldl_cons,h2,wpf,List.mem_cons];grind
theorem wtw:∀(l acc:List SL),(l.foldl insS acc).length<=acc.length+l.length
 |[],acc=>by simp
 |x::l,acc=>by
  rw[List.foldl_cons,List.length_cons];have:=wtw l (insS acc x);have:=ws7 acc x;omega
def isV(m:MG):Bool:=decide (m.kind=1)
def visL(R:List MG):List SL:=((R.filter isV).map λm=>vsl m.v).foldl insS []
theorem wdq(R:List MG):Asc ordS (visL R):=(whq _ [] .nil).1
theorem wfp{R:List MG}{s:SL}:s∈visL R↔∃m∈R,m.kind=1/\vsl m.v=s:=by
 unfold visL;rw[(whq _ [] .nil).2];simp[isV,and_assoc]
theorem wic(R:List MG):(visL R).length<=R.length:=by
 have:=wtw ((R.filter isV).map λm=>vsl m.v) [];have h2:=List.length_filter_le isV R;unfold visL;simp at this;omega
theorem wvr{R:List MG}{L:List SL}(h:Asc ordS L)(hm:∀s,s∈L↔∃m∈R,m.kind=1/\vsl m.v=s):L=visL R:=
 Asc.uniq wch h (wdq R) λs=>by rw[hm,wfp]
def hasV(l:List MG):Bool:=l.any isV
theorem wth{R:List MG}{x:SL×List MG}(h:x∈wai R):hasV x.2=true↔x.1∈visL R:=by
 rw[wfp,hasV,List.any_eq_true,wu0 h]
 constructor
 ·rintro⟨m,hm,hk⟩;obtain⟨h1,h2⟩:=List.mem_filter.1 hm;have hk:m.kind=1:=of_decide_eq_true hk;have h2:whr m=x.1:=of_decide_eq_true h2;refine⟨m,h1,hk,?_⟩;rw[← h2,whr,decide_eq_false (by omega)];rfl
 ·rintro⟨m,h1,hk,h2⟩;refine⟨m,List.mem_filter.2 ⟨h1,decide_eq_true ?_⟩,decide_eq_true hk⟩;rw[← h2,whr,decide_eq_false (by omega)];rfl
theorem wvs{R:List MG}{L:List SL}{E:List (SL×List MG)}(hE:E.Perm (wai R))(hL:L.Perm ((E.filter λx=>hasV x.2).map Prod.fst))(hs:L.Pairwise λx y=>¬ ordS y x<0):L=visL R:=by
 have hn:L.Nodup:=by
  rw[hL.nodup_iff];have:(E.map Prod.fst).Nodup:=by rw[(hE.map _).nodup_iff];exact wi0 R
  exact this.sublist ((List.filter_sublist).map _)
 refine wvr (Asc.of_sorted hs wch (hn.imp λh q=>h (wiv.1 q))) λs=>?_;rw[hL.mem_iff,List.mem_map]
 constructor
 ·rintro⟨x,hx,rfl⟩;obtain⟨h1,h2⟩:=List.mem_filter.1 hx;exact wfp.1 ((wth (hE.mem_iff.1 h1)).1 h2)
 ·intro h;have hk:s∈(wai R).map Prod.fst:=by
   obtain⟨m,hm,hk,e⟩:=h;refine(wo8 s R).2 ⟨m,hm,?_⟩;rw[← e,whr,decide_eq_false (by omega)];rfl
  obtain⟨x,hx,rfl⟩:=List.mem_map.1 hk;exact⟨x,List.mem_filter.2 ⟨hE.mem_iff.2 hx,(wth hx).2 (wfp.2 h)⟩,rfl⟩
def resB(R:List MG)(s:SL):VT×Int:=resR s.o s.p s.per R (canL s.o s.p s.per (atM R) R.length)
theorem res_all(g:Nat->MG)(n:Nat)(s:SL):resF g n s.o s.p s.per=resB (wak g n) s:=rfl
def canS(o p:List UInt8)(per:Int)(L:List MG):List MG:=(L.filter (selF o p per)).foldl stpC []
theorem wp8(o p:List UInt8)(per:Int)(g:Nat->MG):∀n,canL o p per g n=canS o p per (lst g n)
 |0=>rfl
 |n+1=>by
  unfold canS;rw[canL,wdv,List.filter_append,List.foldl_append,wp8 o p per g n]
  cases h:selF o p per (g n) with
  |true=>simp[h,canS]
  |false=>simp[h,canS]
def dcS(o p:List UInt8)(per:Int)(C:List MG)(L:List MG):VT×Int:=
 L.foldl (λq m=>bif wci o p per q.2 m && decide (fstB (λi=>namF m.d (atM C i)) C.length<C.length) then ((atM C (fstB (λi=>namF m.d (atM C i)) C.length)).v,m.seq) else q) (we0, -1)
theorem wp3(o p:List UInt8)(per:Int)(C:List MG)(g:Nat->MG):∀n,dcF o p per C g n=dcS o p per C (lst g n)
 |0=>rfl
 |n+1=>by
  unfold dcS;rw[dcF,wdv,List.foldl_append,wp3 o p per C g n];rfl
theorem w17{α β:Type}(f:β->α->β)(q:α->Bool)(l:List α):∀b,(∀b x,x∈l->q x=false->f b x=b)->(l.filter q).foldl f b=l.foldl f b:=by
 induction l with
 |nil=>intro b _;rfl
 |cons x l ih=>
  intro b h
  cases hq:q x with
  |true=>
   rw[List.filter_cons_of_pos hq,List.foldl_cons,List.foldl_cons];exact ih _ λb y hy=>h b y (List.mem_cons_of_mem _ hy)
  |false=>
   rw[List.filter_cons_of_neg (by simp[hq]),List.foldl_cons,h b x (List.mem_cons_self) hq];exact ih _ λb y hy=>h b y (List.mem_cons_of_mem _ hy)
theorem wq9{s:SL}{m:MG}(h:selF s.o s.p s.per m=true):whr m=s/\vsl m.v=s/\m.kind=1:=by
 simp only[selF,bA7,decide_eq_true_eq] at h;obtain⟨h1,h2,h3,h4⟩:=h;have:vsl m.v=s:=by rw[vsl,h2,h3,h4]
 refine⟨?_,this,h1⟩;rw[whr,decide_eq_false (by omega)];exact this
theorem w2o{s:SL}{q:Int}{m:MG}(h:wci s.o s.p s.per q m=true):whr m=s:=by
 simp only[wci,bA7,decide_eq_true_eq] at h;obtain⟨h1,h2,h3,h4,_⟩:=h;rw[whr,decide_eq_true h1,h2,h3,h4];rfl
theorem wxb(R:List MG)(s:SL):resB (R.filter λm=>decide (whr m=s)) s=resB R s:=by
 unfold resB;have hc:canL s.o s.p s.per (atM (R.filter λm=>decide (whr m=s))) (R.filter λm=>decide (whr m=s)).length=canL s.o s.p s.per (atM R) R.length:=by
  rw[wp8,wp8,wc4,wc4,canS,canS,List.filter_filter];congr 1;refine List.filter_congr λm _=>?_
  cases h:selF s.o s.p s.per m with
  |true=>rw[Bool.true_and,decide_eq_true (wq9 h).1]
  |false=>rfl
 rw[hc];unfold resR;have hd:∀C,dcF s.o s.p s.per C (atM (R.filter λm=>decide (whr m=s))) (R.filter λm=>decide (whr m=s)).length=dcF s.o s.p s.per C (atM R) R.length:=λC=>by
  rw[wp3,wp3,wc4,wc4,dcS,dcS];refine w17 _ _ _ _ λb m _ h=>?_;have:wci s.o s.p s.per b.2 m=false:=by
   cases h':wci s.o s.p s.per b.2 m with
   |false=>rfl
   |true=>rw[decide_eq_true (w2o h')] at h;cases h
  rw[this];rfl
 rw[hd]
structure RightL (R:List MG):Prop where
 mark:Asc wdu R
 ord:Asc ordM R
 ok:∀m∈R,msgF m=0
theorem ww3(g:Nat->MG)(n:Nat):RightL (wak g n):=
 ⟨ww2 g n,(wi6 _).filter _,λ_ h=>ww4 h⟩
theorem RightL.filter{R:List MG}(h:RightL R)(q:MG->Bool):RightL (R.filter q):=⟨h.mark.filter q,h.ord.filter q,λm hm=>h.ok m (List.mem_filter.1 hm).1⟩
theorem RightL.self{R:List MG}(h:RightL R):wak (atM R) R.length=R:=by
 have e:mrgL (atM R) R.length noM 0=R:=by
  unfold mrgL;rw[lst_atL];refine(wsi h.ord λm=>?_).symm;exact⟨λhm=>⟨hm,h.ok m hm⟩,λhm=>hm.1⟩
 unfold wak;rw[e];refine List.filter_eq_self.2 λm _=>?_;rw[Bool.not_eq_true',decide_eq_false_iff_not,whb];rintro⟨i,j,hij,hj,e1,e2⟩;have h1:=wu6 h.mark hij hj;have h2:=wjb.2 (e1.trans e2.symm);omega
theorem ww9{R:List MG}(h:RightL R)(s:SL):resF (atM (getB (wai R) s)) (getB (wai R) s).length s.o s.p s.per=resB R s:=by
 rw[wjt,res_all,(h.filter _).self,wxb]
theorem wh1{o p:List UInt8}{per:Int}{g:Nat->MG}{m:MG}:∀ {n:Nat},m∈canL o p per g n->selF o p per m=true/\m∈lst g n
 |0,h=>by simp[canL] at h
 |n+1,h=>by
  rw[canL] at h;rw[wdv]
  cases q:selF o p per (g n) with
  |false=>
   rw[q,cond_false] at h;exact⟨(wh1 h).1,List.mem_append_left _ (wh1 h).2⟩
  |true=>
   rw[q,cond_true] at h;have:m∈canL o p per g n∨m=g n:=by
    unfold stpC at h
    cases q2:decide (0<(canL o p per g n).length) && decide ((atM (canL o p per g n) ((canL o p per g n).length - 1)).dev=(g n).dev) with
    |true=>
     rw[q2,cond_true,List.mem_append,List.mem_singleton] at h;exact h.imp (λh=>List.mem_of_mem_take h) id
    |false=>
     rw[q2,cond_false,List.mem_append,List.mem_singleton] at h;exact h
   rcases this with h | rfl
   ·exact⟨(wh1 h).1,List.mem_append_left _ (wh1 h).2⟩
   ·exact⟨q,List.mem_append_right _ (List.mem_singleton.2 rfl)⟩
theorem wxa(o p:List UInt8)(per:Int)(R C:List MG):(resR o p per R C).2=0/\C=[]/\(resR o p per R C).1=we0∨(resR o p per R C).2=1/\C≠[]/\(∃m∈C,(resR o p per R C).1=m.v)∨(resR o p per R C).2=2/\C≠[]:=by
 unfold resR
 by_cases h:C.length=0
 ·rw[decide_eq_true h];exact .inl ⟨rfl,List.length_eq_zero_iff.1 h,rfl⟩
 ·have hne:C≠[]:=λe=>h (by rw[e];rfl);have h0:atM C 0∈C:=wko (by omega);rw[decide_eq_false h]
  by_cases h2:0<=ixB (λi=>difF (atM C 0).v (atM C i)) C.length
  ·rw[decide_eq_true h2]
   by_cases h3:(dcF o p per C (atM R) R.length).2<0
   ·rw[decide_eq_true h3];exact .inr (.inr ⟨rfl,hne⟩)
   ·rw[decide_eq_false h3];refine .inr (.inl ⟨rfl,hne,?_⟩);have key:∀k,(dcF o p per C (atM R) k).2<0∨∃m∈C,(dcF o p per C (atM R) k).1=m.v:=by
     intro k
     induction k with
     |zero=>exact .inl (by show (-1:Int)<0;omega)
     |succ k ih=>
      rw[dcF]
      by_cases q:fstB (λi=>namF (atM R k).d (atM C i)) C.length<C.length
      ·cases q2:wci o p per (dcF o p per C (atM R) k).2 (atM R k) with
       |true=>rw[decide_eq_true q];exact .inr ⟨_,wko q,rfl⟩
       |false=>exact ih
      ·rw[decide_eq_false q,Bool.and_false];exact ih
    exact(key R.length).resolve_left h3
  ·rw[decide_eq_false h2];exact .inr (.inl ⟨rfl,hne,atM C 0,h0,rfl⟩)
theorem wrs{R:List MG}{s:SL}(h:(resB R s).2=1):∃m∈R,m.kind=1/\m.v=(resB R s).1/\vsl m.v=s:=by
 rcases wxa s.o s.p s.per R (canL s.o s.p s.per (atM R) R.length) with q | q | q
 ·exact absurd (q.1.symm.trans h) (by decide)
 ·obtain⟨_,_,m,hm,e⟩:=q;obtain⟨h1,h2⟩:=wh1 hm;rw[wc4] at h2;obtain⟨_,w2,w3⟩:=wq9 h1;exact⟨m,h2,w3,e.symm,w2⟩
 ·exact absurd (q.1.symm.trans h) (by decide)
theorem wrr{R:List MG}{s:SL}(h:(resB R s).2=1):vsl (resB R s).1=s/\s∈visL R:=by
 obtain⟨m,hm,hk,e,e2⟩:=wrs h;exact⟨e ▸ e2,wfp.2 ⟨m,hm,hk,e2⟩⟩
end Go.Eng
