/- Slots, the book of messages, what counts: plain lists. -/
import Derived.Test.YtmcdngcjakjnmaaGreatDoorJss
namespace Go.Eng
open Go.Proofs Go.RowKit
variable {C:Ctx} [C.Loose]
set_option maxRecDepth 20000
theorem nf_mrg(g:Nat->MG)(n:Nat)(h:Nat->MG)(m:Nat)(R:oR7):letI z4:=sumN (nn2 n m) 2;letI z3:=(List.flatten (List.replicate (nat_lit 0) [.nil]):List AV);letI z2:=catG (nn2 n m) (gg2 g h) 2;letI z0:=flL z2 z4;letI z1:=(∀(i:Nat),i<z0.length->true=true:Prop);wpFn te [(95,.rel wnb),(96,.det wc3),(97,.rel wm7),(99,.rel wnc)] [(3,L_mg z2 z4)] 0 Tryz.f76 [.view 15 n (waa g),.view 15 m (waa h)] [] R=((2<=16777216/\1=1/\2<=9223372036854775807)/\(∀(i:Nat),i<2->nrefL (war 1 (.view 15 n (waa g):: .view 15 m (waa h)::List.append [] z3) i)=true)/\∃(nn:Nat->Nat),∃(gg:Nat->Nat->MG),22=22/\false=false/\2=2/\2<=1000/\(∀(i:Nat),i<2->[AV.view 15 (nn i) (waa (gg i))]=war 1 (.view 15 n (waa g):: .view 15 m (waa h)::List.append [] z3) i)/\sumN nn 2<=1000000/\(∀(i:Nat),i<2->true=true)/\(TEq [(5,.own 0 0),(11,.view 15 (sumN nn 2) (waa (catG nn gg 2))),(12,.q (↑(sumN nn 2):Int)),(13,.q 0)] [(5,.own 0 0),(11,.view 15 z4 (waa z2)),(12,.q (z4:Int)),(13,.q (↑0:Int))]/\wac [(0,.row 47 15 0 (λ(_x:Nat)=>[]) false)] [(0,.row 47 15 0 (waa (atM (flL z2 0))) false)])/\sumN (nn2 n m) 2<=200000/\(∀(i:Nat),i<sumN (nn2 n m) 2->MG.Sm (catG (nn2 n m) (gg2 g h) 2 i))/\z1/\47=47/\false=false/\z0.length=z0.length/\z0.length<=1000000/\waa (atM z0)=waa (mgOf (waa (atM z0)))/\∀(h_1:Nat->MG),List.Perm (lst h_1 z0.length) (lst (mgOf (waa (atM z0))) z0.length)->(∀(i j:Nat),i<j->j<z0.length->¬ordM (h_1 j) (h_1 i)<0)->z1/\z1/\47=47/\false=false/\z0.length=z0.length/\z0.length<=1000000/\waa h_1=waa (mgOf (waa h_1))/\∀(k:Nat) (h_2:Nat->MG),lst h_2 k=ddL (mgOf (waa h_1)) z0.length->(∀(i:Nat),i<k->true=true)/\(∀(i:Nat),i<k->true=true)/\∃(O':oL7),wac [(0,.row 47 15 k (waa h_2) false)] O'/\R (.own 0 k) O'):=by kernel_rfl
theorem wza(g:Nat->MG)(n k:Nat)(P:Nat->Prop)(R:eR7):was ⟨te,[(96,.det wc3)],[],0,29,0⟩ (wat Tryz.f76 3) [5,11,12,13] [5] [] (S_mg g n) P R (S_mg g n k)=(letI z2:=(flL g k).length+1;letI z1:=(flL g k).length;letI z3:=([(0,.row 47 15 z1 (waa (atM (flL g k))) false)]:oL7);letI z0:=(g (k:Int).toNat);wab (decide ((k:Int)<(n:Int))) (((0:Int)<=(k:Int)/\(k:Int)<(n:Int)/\15=15)/\(z0.dev.length<9223372036854775808/\z0.v.o.length<9223372036854775808/\z0.d.o.length<9223372036854775808/\z0.d.dev.length<9223372036854775808)/\wab (decide (msgF (MG.mk z0.dev z0.seq z0.kind (VT.mk z0.v.o z0.v.p z0.v.per z0.v.day z0.v.st z0.v.pr z0.v.rep) (DT.mk z0.d.o z0.d.p z0.d.per z0.d.dev z0.d.num))=0)) ((15<=16777216/\15=15/\1<=9223372036854775807)/\((1<=1/\15=15)/\(flL g k).length<=(flL g k).length/\15=15/\47=47/\15=15/\(flL g k).length+1<=9223372036854775807/\z2 * 176<=140737488355328)/\inR .i64 ((k:Int)+1)/\∃(i':Nat),(TEq [(5,.own 0 z2),(11,.view 15 n (waa g)),(12,.q (n:Int)),(13,.q ((k:Int)+1))] [(5,.own 0 (flL g i').length),(11,.view 15 n (waa g)),(12,.q (n:Int)),(13,.q (i':Int))]/\wac [(0,.row 47 15 z2 (apF z1 (waa (atM (flL g k))) (war 15 (.str z0.dev:: .q z0.seq:: .q z0.kind:: .str z0.v.o:: .str z0.v.p:: .q z0.v.per:: .q z0.v.day:: .q z0.v.st:: .q z0.v.pr:: .str z0.v.rep:: .str z0.d.o:: .str z0.d.p:: .q z0.d.per:: .str z0.d.dev:: .q z0.d.num::List.append [] wbo))) false)] [(0,.row 47 15 (flL g i').length (waa (atM (flL g i'))) false)])/\P i') (inR .i64 ((k:Int)+1)/\∃(i':Nat),(TEq [(5,.own 0 z1),(11,.view 15 n (waa g)),(12,.q (n:Int)),(13,.q ((k:Int)+1))] [(5,.own 0 (flL g i').length),(11,.view 15 n (waa g)),(12,.q (n:Int)),(13,.q (i':Int))]/\wac z3 [(0,.row 47 15 (flL g i').length (waa (atM (flL g i'))) false)])/\P i')) ((∀(i:Nat),i<(flL g k).length->true=true)/\∃(O':oL7),wac z3 O'/\R (.exit 0) (St.mk [(5,.own 0 z1)] O' 1 []))):=by kernel_rfl
theorem w2z{h:Nat->MG}{n:Nat}(hs:∀i j,i<j->j<n->¬ ordM (h j) (h i)<0):Asc ordM (ddL h n)/\∀x,x∈ddL h n↔x∈lst h n:=by
 have le:∀i j,i<j->j<n->ordM (h i) (h j)<=0:=λi j hij hj=>by
  have:=hs i j hij hj;rw[wcx.neg] at this;omega
 have nk:∀j,0<j->wcd h j=true->h j≠h (j - 1):=λj hj hk e=>by
  rw[wj4 hj,wkl.2 e] at hk;cases hk
 refine⟨?_,λx=>⟨λhx=>?_,λhx=>?_⟩⟩
 ·unfold Asc ddL;refine List.pairwise_map.2 ((List.pairwise_lt_range.filter _).imp_of_mem λ{i j} hi hj hij=>?_);obtain⟨hjn,hjk⟩:=List.mem_filter.1 hj;have hjn:=List.mem_range.1 hjn;have l1:=le i j hij hjn
  rcases Int.lt_or_eq_of_le l1 with h0 | h0
  ·exact h0
  ·exfalso;have e:=wje.1 h0;refine nk j (by omega) hjk ?_
   by_cases q:i=j - 1
   ·rw[← q,e]
   ·have l2:=le i (j - 1) (by omega) (by omega);have l3:=le (j - 1) j (by omega) hjn;rw[e] at l2;have:=wcx.neg (h (j - 1)) (h j);exact wje.1 (by omega)
 ·unfold ddL at hx;obtain⟨i,hi,rfl⟩:=List.mem_map.1 hx;exact List.mem_map.2 ⟨i,(List.mem_filter.1 hi).1,rfl⟩
 ·obtain⟨i,hi,rfl⟩:=List.mem_map.1 hx;have key:∀i,i<n->h i∈ddL h n:=λi=>by
   induction i with
   |zero=>intro hi;exact List.mem_map.2 ⟨0,List.mem_filter.2 ⟨List.mem_range.2 hi,rfl⟩,rfl⟩
   |succ i ih=>
    intro hi
    cases q:wcd h (i+1) with
    |true=>exact List.mem_map.2 ⟨i+1,List.mem_filter.2 ⟨List.mem_range.2 hi,q⟩,rfl⟩
    |false=>
     rw[wj4 (Nat.succ_pos i)] at q;have e:eqM (h (i+1)) (h i)=true:=by
      have:i+1 - 1=i:=rfl;rw[this] at q
      cases r:eqM (h (i+1)) (h i) with
      |true=>rfl
      |false=>rw[r] at q;cases q
     rw[wkl.1 e];exact ih (by omega)
  exact key i (List.mem_range.1 hi)
theorem wdf(L:List MG):lst (atM L) L.length=L:=by
 apply List.ext_getElem
 ·simp[lst]
 ·intro i h1 h2;simp[lst,atM,h2]
theorem ws6{g:Nat->MG}{L:List MG}{n:Nat}(h:lst g n=L):n=L.length/\∀i,i<n->g i=atM L i:=by
 subst h;refine⟨by simp[lst],λi hi=>?_⟩;simp[lst,atM,hi]
theorem w2k(g:Nat->MG)(k:Nat):flL g (k+1)=flL g k++bif okM (g k) then [g k] else []:=by
 unfold flL;rw[wde,List.filter_append]
 cases h:okM (g k)<;>simp[h]
theorem wt8(g:Nat->MG)(k:Nat):(flL g k).length<=k:=by
 have:=List.length_filter_le okM (lst g k);have e:(lst g k).length=k:=by simp[lst]
 unfold flL;omega
theorem cat2(g:Nat->MG)(n:Nat)(h:Nat->MG)(m:Nat):sumN (nn2 n m) 2=n+m/\lst (catG (nn2 n m) (gg2 g h) 2) (n+m)=lst g n++lst h m/\∀i,i<n+m->(i<n/\catG (nn2 n m) (gg2 g h) 2 i=g i)∨(i - n<m/\n<=i/\catG (nn2 n m) (gg2 g h) 2 i=h (i - n)):=by
 have s1:sumN (nn2 n m) 1=n:=by simp[sumN,nn2]
 have at1:∀i,i<n+m->(i<n/\catG (nn2 n m) (gg2 g h) 2 i=g i)∨(i - n<m/\n<=i/\catG (nn2 n m) (gg2 g h) 2 i=h (i - n)):=λi hi=>by
  by_cases q:i<n
  ·refine .inl ⟨q,?_⟩;rw[catG,s1,if_pos q,catG];have:sumN (nn2 n m) 0=0:=rfl;rw[this,if_neg (by omega)];rfl
  ·refine .inr ⟨by omega,by omega,?_⟩;rw[catG,s1,if_neg q];rfl
 refine⟨by rw[sumN,s1];rfl,?_,at1⟩;apply List.ext_getElem
 ·simp[lst]
 ·intro i h1 h2;have hi:i<n+m:=by simpa[lst] using h1
  rcases at1 i hi with⟨q,e⟩ | ⟨q1,q2,e⟩
  ·rw[List.getElem_append_left (by simp[lst,q])];simp[lst,e]
  ·rw[List.getElem_append_right (by simp[lst,q2])];simp[lst,e]
theorem mg_loop(hP:C.P=Tryz.prog)(hL:∀w,C.laid w->LaidW w)(g:Nat->MG)(n:Nat):wag C 0 29 (wah Tryz.f76 3) (L_mg g n):=by
 rintro st Q ⟨h0,hn,hs,hQ⟩;refine AWP.ownNil 5 47 15 ?_;refine wag.mk (prg hP) [(96,.det wc3)] 0 (.cons (msg_ok hP hL) .nil) [5,11,12,13] [5] [] (S_mg g n) (λk=>k<=n) (λk=>n - k) 0 (zL7 _) h0 (λk hk=>?_) (λi=>⟨λ_ _=>rfl,trivial⟩);rw[wza,tN7];have hlen:=wt8 g k;have hsu:=w2k g k;refine waf (λh1=>?_) (λh1=>?_)
 ·have hk:=hs k (by omega);refine⟨⟨by omega,by omega,rfl⟩,⟨hk.a,hk.b,hk.c,hk.d⟩,waf (λq=>?_) (λq=>?_)⟩
  ·have q:msgF (g k)=0:=q;have e:flL g (k+1)=flL g k++[g k]:=by rw[hsu,show okM (g k)=true from decide_eq_true q];rfl
   refine⟨⟨by omega,rfl,by omega⟩,⟨⟨lR7 _,rfl⟩,lR7 _,rfl,rfl,rfl,by omega,?_⟩,by simp only[inR];omega,k+1,?_,by omega,by omega⟩
   ·show ((flL g k).length+1) * 176<=_;omega
   ·rw[e,lA7];refine⟨rfl,⟨rfl,rfl,rfl,rfl,rfl,λj hj=>?_⟩,trivial⟩;generalize flL g k=L at *;unfold apF
    by_cases h:j<L.length
    ·rw[if_pos h];have:atM (L++[g k]) j=atM L j:=by simp[atM,List.getD_eq_getElem?_getD,List.getElem?_append_left h]
     unfold waa;rw[this]
    ·have hj:j=L.length:=by omega
     subst hj;rw[if_neg h,Nat.sub_self];have:atM (L++[g k]) L.length=g k:=by simp[atM]
     unfold waa;rw[this];rfl
  ·have q:¬ msgF (g k)=0:=q;have e:flL g (k+1)=flL g k:=by rw[hsu,show okM (g k)=false from decide_eq_false q];simp
   refine⟨by simp only[inR];omega,k+1,?_,by omega,by omega⟩;rw[e];exact⟨rfl,rQ7,trivial⟩
 ·have:k=n:=by omega
  subst this;exact⟨λ_ _=>rfl,_,wav _,hQ⟩
theorem mrg_ok(hP:C.P=Tryz.prog)(hL:∀w,C.laid w->LaidW w):wad C 76 S_mrg:=by
 rintro args objs U Os vc hh hvc;unfold S_mrg at hh;split at hh<;>simp only[sI7,pI7,reduceCtorEq] at hh;rename_i n f m h;obtain⟨rfl,rfl,rfl⟩:=hh;obtain⟨hn,hm,hf,hh,s1,s2⟩:=hvc;generalize mgOf f=g at *;generalize mgOf h=j at *;subst hf;subst hh;refine wad.wpL (prg hP) [(95,.rel wnb),(96,.det wc3),(97,.rel wm7),(99,.rel wnc)] [(3,L_mg (catG (nn2 n m) (gg2 g j) 2) (sumN (nn2 n m) 2))] 0 (.cons (w23 hP) (.cons (msg_ok hP hL) (.cons (wwh hP) (.cons (w28 hP) .nil)))) (hP ▸ Tryz.func76) rfl rfl rfl [(wah Tryz.f76 3,L_mg (catG (nn2 n m) (gg2 g j) 2) (sumN (nn2 n m) 2))] (by kernel_rfl) ⟨mg_loop hP hL _ _,trivial⟩ ?_;rw[nf_mrg];obtain⟨c1,c2,c3⟩:=cat2 g n j m;have two:∀ {p:Nat->Prop},p 0->p 1->∀i,i<2->p i:=λh0 h1 i hi=>by
  match i,hi with
  |0,_=>exact h0
  |1,_=>exact h1
 have sm:∀i,i<n+m->(catG (nn2 n m) (gg2 g j) 2 i).Sm:=λi hi=>by
  rcases c3 i hi with⟨q,e⟩ | ⟨q1,q2,e⟩
  ·rw[e];exact s1 i q
  ·rw[e];exact s2 _ q1
 refine⟨⟨by omega,rfl,by omega⟩,two rfl rfl,nn2 n m,gg2 g j,rfl,rfl,rfl,by omega,two rfl rfl,by rw[c1];omega,two rfl rfl,⟨rfl,⟨rfl,rfl,rfl,rfl,rfl,λi hi=>absurd hi (nZ7 i)⟩,trivial⟩,?_⟩;have hfl:flL (catG (nn2 n m) (gg2 g j) 2) (n+m)=(lst g n++lst j m).filter okM:=by unfold flL;rw[c2]
 have hlen:=wt8 (catG (nn2 n m) (gg2 g j) 2) (n+m);have hLd:mrgL g n j m=mrgF (lst g n++lst j m):=rfl;rw[c1];generalize catG (nn2 n m) (gg2 g j) 2=cc at *;generalize hF:flL cc (n+m)=Fl at *;refine⟨by omega,sm,λ_ _=>rfl,rfl,rfl,rfl,by omega,rfl,λh1 hp hs=>⟨λ_ _=>rfl,λ_ _=>rfl,rfl,rfl,rfl,by omega,rfl,λk h2 hd=>?_⟩⟩;have hp:(lst h1 Fl.length).Perm (lst (atM Fl) Fl.length):=hp;have hd:lst h2 k=ddL h1 Fl.length:=hd;rw[wdf] at hp;obtain⟨a1,a2⟩:=w2z hs;have hM:ddL h1 Fl.length=mrgL g n j m:=by
  refine wss a1 λx=>?_;rw[a2,hp.mem_iff,hfl,List.mem_filter];unfold okM;rw[decide_eq_true_eq]
 rw[hM] at hd;show _/\_/\∃O',wac _ O'/\AV.own 0 k= .own 0 (mrgL g n j m).length/\O'=[(0,.row 47 15 (mrgL g n j m).length (waa (atM (mrgL g n j m))) false)];generalize mrgL g n j m=M at *;obtain⟨rfl,hat⟩:=ws6 hd;refine⟨λ_ _=>rfl,λ_ _=>rfl,[(0,.row 47 15 M.length (waa (atM M)) false)],⟨⟨rfl,rfl,rfl,rfl,rfl,λi hi=>?_⟩,trivial⟩,rfl,rfl⟩;unfold waa;rw[hat i hi]
end Go.Eng
namespace Go.Eng
def wcy(a b:MG):Int:=orL [cmpS a.dev b.dev,cmpI a.seq b.seq]
theorem wo7:PreC wcy:=(wdn.comap MG.dev).or ((wdo.comap MG.seq).or .nil)
theorem wjt{a b:MG}:wcy a b=0↔mk2 a=mk2 b:=by
 simp only[wcy,wou,wea,wqf,show orL []=0 from rfl,and_true,mk2,pI7]
theorem orL_two{x y:Int}{l:List Int}(h:orL (x::y::l)<0):orL [x,y]<=0:=by
 by_cases q:x=0
 ·by_cases q':y=0
  ·simp[orL,q,q']
  ·simp only[orL,q,q',decide_true,decide_false,cond_true,cond_false] at h ⊢;omega
 ·simp only[orL,q,decide_false,cond_false] at h ⊢;omega
theorem w05{a b:MG}(h:ordM a b<0):wcy a b<=0:=orL_two h
theorem wgn{L:List MG}{i:Nat}(h:i<L.length):atM L i=L[i]:=by simp[atM,h]
theorem wfu{L:List MG}{i:Nat}(h:i<L.length):atM L i∈L:=by rw[wgn h];exact List.getElem_mem h
theorem mem_atM{L:List MG}{x:MG}(h:x∈L):∃i,i<L.length/\atM L i=x:=by
 obtain⟨i,hi,e⟩:=List.mem_iff_getElem.1 h;exact⟨i,hi,by rw[wgn hi,e]⟩
theorem wk5{c:MG->MG->Int}{L:List MG}(h:Asc c L){i j:Nat}(hij:i<j)(hj:j<L.length):c (atM L i) (atM L j)<0:=by
 rw[wgn (show i<L.length by omega),wgn hj];exact List.pairwise_iff_getElem.1 h i j (by omega) hj hij
theorem wo6{L:List MG}(h:Asc ordM L){i j:Nat}(hij:i<=j)(hj:j<L.length):wcy (atM L i) (atM L j)<=0:=by
 rcases Nat.lt_or_eq_of_le hij with q | q
 ·exact w05 (wk5 h q hj)
 ·subst q;rw[wo7.self];exact Int.le_refl 0
theorem ws3{L:List MG}(h:Asc ordM L){i j k:Nat}(hij:i<=j)(hjk:j<=k)(hk:k<L.length)(e:mk2 (atM L i)=mk2 (atM L k)):mk2 (atM L j)=mk2 (atM L i):=by
 have a:=wo6 h hij (by omega);have b:=wo6 h hjk hk;have c:wcy (atM L k) (atM L i)<=0:=by rw[wjt.2 e.symm];exact Int.le_refl 0
 have d:=wo7.trans _ _ _ b c;have n:=wo7.neg (atM L j) (atM L i);have:wcy (atM L i) (atM L j)=0:=by omega
 exact(wjt.1 this).symm
theorem wsj(g:Nat->MG)(p:List UInt8×Int):∀n,0<numC g p n↔∃i,i<n/\mk2 (g i)=p
 |0=>by simp[numC]
 |n+1=>by
  have ih:=wsj g p n;have nn:=(wo0 g p n).1;rw[numC]
  cases q:decide ((mk2 (g n)).1=p.1) && decide ((mk2 (g n)).2=p.2) with
  |true=>
   have e:=weh.1 q;simp only[cond_true];exact⟨λ_=>⟨n,by omega,e⟩,λ_=>by omega⟩
  |false=>
   have ne:mk2 (g n)≠p:=λe=>by rw[e] at q;simp at q
   simp only[cond_false]
   constructor
   ·intro h;obtain⟨i,hi,e⟩:=ih.1 (by omega);exact⟨i,by omega,e⟩
   ·rintro⟨i,hi,e⟩;have:i≠n:=λq=>ne (q ▸ e);have:=ih.2 ⟨i,by omega,e⟩;omega
theorem whs(g:Nat->MG)(p:List UInt8×Int):∀n,1<numC g p n↔∃i j,i<j/\j<n/\mk2 (g i)=p/\mk2 (g j)=p
 |0=>by simp[numC]
 |n+1=>by
  have ih:=whs g p n;have ip:=wsj g p n;rw[numC]
  cases q:decide ((mk2 (g n)).1=p.1) && decide ((mk2 (g n)).2=p.2) with
  |true=>
   have e:=weh.1 q;simp only[cond_true]
   constructor
   ·intro h;obtain⟨i,hi,e'⟩:=ip.1 (by omega);exact⟨i,n,hi,by omega,e',e⟩
   ·rintro⟨i,j,hij,hj,e1,e2⟩;have:=ip.2 ⟨i,by omega,e1⟩;omega
  |false=>
   have ne:mk2 (g n)≠p:=λe=>by rw[e] at q;simp at q
   simp only[cond_false]
   constructor
   ·intro h;obtain⟨i,j,hij,hj,e⟩:=ih.1 (by omega);exact⟨i,j,hij,by omega,e⟩
   ·rintro⟨i,j,hij,hj,e1,e2⟩;have:j≠n:=λq=>ne (q ▸ e2);have:=ih.2 ⟨i,j,hij,by omega,e1,e2⟩;omega
def wc5(a b:MG):Bool:=decide (a.dev=b.dev) && decide (a.seq=b.seq)
theorem wwq{a b:MG}:wc5 a b=true↔mk2 a=mk2 b:=by simp[wc5,mk2]
def clnB(L:List MG)(i:Nat):Bool:= !((decide (0<i) && wc5 (atM L (i - 1)) (atM L i)) || (decide (i+1<L.length) && wc5 (atM L (i+1)) (atM L i)))
def clnK(L:List MG)(k:Nat):List MG:=((List.range k).filter (clnB L)).map (atM L)
theorem wuz{L:List MG}(h:Asc ordM L){i:Nat}(hi:i<L.length):clnB L i= !decide (1<numC (atM L) (mk2 (atM L i)) L.length):=by
 have key:1<numC (atM L) (mk2 (atM L i)) L.length↔(0<i/\mk2 (atM L (i - 1))=mk2 (atM L i))∨(i+1<L.length/\mk2 (atM L (i+1))=mk2 (atM L i)):=by
  rw[whs]
  constructor
  ·rintro⟨a,b,hab,hb,ea,eb⟩
   by_cases q:a<i
   ·exact .inl ⟨by omega,(ws3 h (i:=a) (j:=i - 1) (k:=i) (by omega) (by omega) hi ea).trans ea⟩
   ·exact .inr ⟨by omega,ws3 h (i:=i) (j:=i+1) (k:=b) (by omega) (by omega) hb eb.symm⟩
  ·rintro(⟨h0,e⟩ | ⟨h0,e⟩)
   ·exact⟨i - 1,i,by omega,hi,e,rfl⟩
   ·exact⟨i,i+1,by omega,h0,rfl,e⟩
 unfold clnB;congr 1;rw[Bool.eq_iff_iff,decide_eq_true_eq,key];simp[wwq]
theorem wu0(g:Nat->MG)(n:Nat):clnK (mrgL g n noM 0) (mrgL g n noM 0).length=wae g n:=by
 have h:Asc ordM (mrgL g n noM 0):=whw _;unfold wae;generalize mrgL g n noM 0=L at *;unfold clnK;have e:∀q:MG->Bool,L.filter q=((List.range L.length).map (atM L)).filter q:=λq=>by rw[show (List.range L.length).map (atM L)=L from wdf L]
 rw[e,List.filter_map];congr 1;exact List.filter_congr λi hi=>wuz h (List.mem_range.1 hi)
theorem wrz(g:Nat->MG)(n:Nat):Asc wcy (wae g n):=by
 have h:Asc ordM (mrgL g n noM 0):=whw _;rw[← wu0];generalize mrgL g n noM 0=L at *;unfold clnK Asc;rw[List.pairwise_map];refine(List.pairwise_lt_range.filter _).imp_of_mem ?_;intro i j hi hj hij;obtain⟨hi1,hi2⟩:=List.mem_filter.1 hi;have hj1:=List.mem_range.1 (List.mem_filter.1 hj).1;have hi1:=List.mem_range.1 hi1;have le:=wo6 h (Nat.le_of_lt hij) hj1
 rcases Int.lt_or_eq_of_le le with q | q
 ·exact q
 ·have e:=wjt.1 q;rw[wuz h hi1,Bool.not_eq_true',decide_eq_false_iff_not] at hi2;exact absurd ((whs _ _ _).2 ⟨i,j,hij,hj1,rfl,e.symm⟩) hi2
theorem w0s{m:MG}(h:msgF m=0):wa4 m.dev=true/\1<=m.seq/\m.seq<=1048576:=by
 unfold msgF at h
 cases h1:wa4 m.dev with
 |false=>rw[h1] at h;exact absurd (show (110:Int)=0 from h) (by decide)
 |true=>
  rw[h1] at h
  cases h2:numF m.seq with
  |false=>rw[h2] at h;exact absurd (show (111:Int)=0 from h) (by decide)
  |true=>
   unfold numF at h2;rw[bA7,decide_eq_true_eq,decide_eq_true_eq] at h2;exact⟨rfl,h2⟩
theorem wr1{g:Nat->MG}{n:Nat}{m:MG}(h:m∈wae g n):msgF m=0:=(wjo.1 (List.mem_filter.1 h).1).2
def agF(C:List MG):Nat->Bool
 |0=>true
 |k+1=>agF C k && !difF (atM C 0).v (atM C k)
theorem agF_eq(C:List MG):∀n,agF C n= !decide (fstB (λi=>difF (atM C 0).v (atM C i)) n<n)
 |0=>rfl
 |n+1=>by
  have le:=wge (λi=>difF (atM C 0).v (atM C i)) n;rw[agF,agF_eq C n,fstB]
  by_cases h:fstB (λi=>difF (atM C 0).v (atM C i)) n<n
  ·rw[decide_eq_true h];show false= !decide (fstB (λi=>difF (atM C 0).v (atM C i)) n<n+1);rw[decide_eq_true (by omega)];rfl
  ·rw[decide_eq_false h]
   cases difF (atM C 0).v (atM C n) with
   |true=>show false= !decide (n<n+1);rw[decide_eq_true (by omega)];rfl
   |false=>show true= !decide (n+1<n+1);rw[decide_eq_false (by omega)];rfl
def betB(b m:MG):Bool:=decide (b.seq<m.seq) || (decide (b.seq=m.seq) && Op.bytesLess b.dev m.dev)
def inF(C:List MG)(m:MG)(s:MG×MG):Nat->MG×MG
 |0=>s
 |j+1=>bif namF m.d (atM C j) && betB (inF C m s j).1 m then (m,atM C j) else inF C m s j
theorem w3y(m:MG):betB m m=false:=by simp[betB,wex]
theorem inF_eq(C:List MG)(m:MG)(s:MG×MG):∀n,inF C m s n=bif betB s.1 m && decide (fstB (λi=>namF m.d (atM C i)) n<n) then (m,atM C (fstB (λi=>namF m.d (atM C i)) n)) else s
 |0=>by simp[inF]
 |n+1=>by
  have ih:=inF_eq C m s n;rw[inF,ih];have le:=wge (λi=>namF m.d (atM C i)) n
  cases b:betB s.1 m with
  |false=>simp[b]
  |true=>
   by_cases h:fstB (λi=>namF m.d (atM C i)) n<n
   ·have e:fstB (λi=>namF m.d (atM C i)) (n+1)=fstB (λi=>namF m.d (atM C i)) n:=by rw[fstB,decide_eq_true h];rfl
    rw[e,decide_eq_true h,decide_eq_true (show fstB (λi=>namF m.d (atM C i)) n<n+1 by omega)];simp[w3y]
   ·have h0:fstB (λi=>namF m.d (atM C i)) n=n:=by omega
    cases hq:namF m.d (atM C n) with
    |true=>
     have e:fstB (λi=>namF m.d (atM C i)) (n+1)=n:=by rw[fstB,decide_eq_false h,hq];rfl
     rw[e,decide_eq_false h,decide_eq_true (show n<n+1 by omega)];simp[b]
    |false=>
     have e:fstB (λi=>namF m.d (atM C i)) (n+1)=n+1:=wet h0 hq;rw[e,decide_eq_false h,decide_eq_false (show ¬ n+1<n+1 by omega)];simp
def wcu:MG:=⟨[],0,0,⟨[],[],0,0,0,0,[]⟩,⟨[],[],0,[],0⟩⟩
def decA(o p:List UInt8)(per:Int)(m:MG):Bool:=decide (m.kind=2) && (decide (m.d.o=o) && (decide (m.d.p=p) && decide (m.d.per=per)))
def bfF(o p:List UInt8)(per:Int)(C:List MG)(g:Nat->MG):Nat->MG×MG
 |0=>(wcu,wcu)
 |k+1=>bif decA o p per (g k) then inF C (g k) (bfF o p per C g k) C.length else bfF o p per C g k
def resS(o p:List UInt8)(per:Int)(R C:List MG):VT×Int:=
 bif decide (C.length=0) then (wco,0) else bif agF C C.length then ((atM C 0).v,1) else
  bif decide ((bfF o p per C (atM R) R.length).1.seq=0) then (wco,2) else ((bfF o p per C (atM R) R.length).2.v,1)
theorem decOK_A(o p:List UInt8)(per q:Int)(m:MG):wb5 o p per q m=(decA o p per m && !decide (m.seq<q)):=by
 unfold wb5 decA;simp only[Bool.and_assoc]
theorem bf_dc{o p:List UInt8}{per:Int}{C R:List MG}(hR:Asc wcy R)(hp:∀m∈R,1<=m.seq):∀k,k<=R.length->
  (bfF o p per C (atM R) k=(wcu,wcu)/\dcF o p per C (atM R) k=(wco, -1))∨
  ((∃i,i<k/\(bfF o p per C (atM R) k).1=atM R i)/\dcF o p per C (atM R) k=((bfF o p per C (atM R) k).2.v,(bfF o p per C (atM R) k).1.seq))
 |0,_=>.inl ⟨rfl,rfl⟩
 |k+1,hk=>by
  have ih:=bf_dc (o:=o) (p:=p) (per:=per) (C:=C) hR hp k (by omega);have pos:=hp _ (wfu (L:=R) (i:=k) (by omega));have hb:betB (bfF o p per C (atM R) k).1 (atM R k)= !decide ((atM R k).seq<(dcF o p per C (atM R) k).2):=by
   rcases ih with⟨e1,e2⟩ | ⟨⟨i,hi,e1⟩,e2⟩
   ·rw[e1,e2];unfold betB;rw[decide_eq_true (show (wcu,wcu).1.seq<(atM R k).seq by show (0:Int)<_;omega),decide_eq_false (show ¬ (atM R k).seq<(wco,(-1:Int)).2 by show ¬ _<(-1:Int);omega)];rfl
   ·rw[e2];show _= !decide ((atM R k).seq<(bfF o p per C (atM R) k).1.seq);rw[e1];have hlt:=wk5 hR hi (by omega);unfold betB
    rcases web (atM R i).seq (atM R k).seq with⟨a,_⟩ | ⟨a,a'⟩ | ⟨a,_⟩
    ·rw[decide_eq_true a,decide_eq_false (show ¬ (atM R k).seq<(atM R i).seq by omega)];rfl
    ·have hd:cmpS (atM R i).dev (atM R k).dev<0:=by
      unfold wcy at hlt
      by_cases z:cmpS (atM R i).dev (atM R k).dev=0
      ·simp[orL,z,a'] at hlt
      ·simp only[orL,z,decide_false,cond_false] at hlt;exact hlt
     rw[wig.1 hd,a,decide_eq_false (Int.lt_irrefl _),decide_eq_true rfl];rfl
    ·rw[decide_eq_false (show ¬ (atM R i).seq<(atM R k).seq by omega),decide_eq_false (show ¬ (atM R i).seq=(atM R k).seq by omega),decide_eq_true (show (atM R k).seq<(atM R i).seq by omega)];rfl
  rw[bfF,dcF,decOK_A, ← hb,inF_eq]
  cases decA o p per (atM R k) with
  |false=>
   rcases ih with h | ⟨⟨i,hi,e1⟩,e2⟩
   ·exact .inl h
   ·exact .inr ⟨⟨i,by omega,e1⟩,e2⟩
  |true=>
   simp only[Bool.true_and,cond_true]
   cases hq:betB (bfF o p per C (atM R) k).1 (atM R k) && decide (fstB (λi=>namF (atM R k).d (atM C i)) C.length<C.length) with
   |false=>
    rcases ih with h | ⟨⟨i,hi,e1⟩,e2⟩
    ·exact .inl h
    ·exact .inr ⟨⟨i,by omega,e1⟩,e2⟩
   |true=>exact .inr ⟨⟨k,by omega,rfl⟩,rfl⟩
theorem resS_eq{o p:List UInt8}{per:Int}{C R:List MG}(hR:Asc wcy R)(hp:∀m∈R,1<=m.seq):resS o p per R C=resR o p per R C:=by
 unfold resS resR
 cases decide (C.length=0) with
 |true=>rfl
 |false=>
  simp only[cond_false];have e:agF C C.length= !decide (0<=ixB (λi=>difF (atM C 0).v (atM C i)) C.length):=by
   rw[agF_eq];unfold ixB
   by_cases h:fstB (λi=>difF (atM C 0).v (atM C i)) C.length<C.length
   ·rw[decide_eq_true h];rfl
   ·rw[decide_eq_false h];rfl
  rw[e]
  cases decide (0<=ixB (λi=>difF (atM C 0).v (atM C i)) C.length) with
  |false=>rfl
  |true=>
   simp only[Bool.not_true,cond_false,cond_true]
   rcases bf_dc (o:=o) (p:=p) (per:=per) (C:=C) hR hp R.length (lR7 _) with⟨e1,e2⟩ | ⟨⟨i,hi,e1⟩,e2⟩
   ·rw[e1,e2];rfl
   ·have pos:=hp _ (wfu hi);rw[e2,e1];show (bif decide ((atM R i).seq=0) then _ else _)=(bif decide ((atM R i).seq<0) then _ else _)
    rw[decide_eq_false (by omega),decide_eq_false (by omega)]
theorem insM_at{L:List MG}(h:Asc ordM L){m:MG}{a:Nat}(ha:a<=L.length)(h1:∀i,a<=i->i<L.length->ordM m (atM L i)<0)(h2:a=0∨¬ ordM m (atM L (a - 1))<0):
  insM L m=bif decide (0<a) && eqM (atM L (a - 1)) m then L else L.take a++m::L.drop a:=by
 have hasc:=wpr m h
 by_cases q:0<a/\atM L (a - 1)=m
 ·rw[decide_eq_true q.1,wkl.2 q.2];refine Asc.uniq wcx hasc h λx=>wh4.trans ⟨?_,.inr⟩;rintro(rfl | hx)
  ·have:=wfu (L:=L) (i:=a - 1) (by omega);rw[q.2] at this;exact this
  ·exact hx
 ·have e:(decide (0<a) && eqM (atM L (a - 1)) m)=false:=by
   by_cases z:0<a
   ·cases z2:eqM (atM L (a - 1)) m with
    |false=>exact Bool.and_false _
    |true=>exact absurd ⟨z,wkl.1 z2⟩ q
   ·rw[decide_eq_false z];rfl
  rw[e];refine Asc.uniq wcx hasc (Asc.insert (by rw[List.take_append_drop];exact h) (λy hy=>?_) (λy hy=>?_)) λx=>wh4.trans ?_
  ·obtain⟨i,hi,rfl⟩:=List.mem_iff_getElem.1 hy;rw[List.length_take] at hi;rw[List.getElem_take, ← wgn (show i<L.length by omega)];have b:¬ ordM m (atM L (a - 1))<0:=h2.resolve_left (by omega);have ne:ordM m (atM L (a - 1))≠0:=λz=>q ⟨by omega,(wje.1 z).symm⟩;have n:=wcx.neg m (atM L (a - 1));have n':=wcx.neg (atM L (a - 1)) m;have lt:ordM (atM L (a - 1)) m<0:=by omega
   by_cases z:i=a - 1
   ·rw[z];exact lt
   ·exact wcx.lt_trans (wk5 h (show i<a - 1 by omega) (by omega)) lt
  ·obtain⟨i,hi,rfl⟩:=List.mem_iff_getElem.1 hy;rw[List.length_drop] at hi;rw[List.getElem_drop, ← wgn (show a+i<L.length by omega)];exact h1 _ (by omega) (by omega)
  ·show x=m∨x∈L↔x∈L.take a++m::L.drop a;rw[List.mem_append,List.mem_cons];have:x∈L↔x∈L.take a∨x∈L.drop a:=by rw[← List.mem_append,List.take_append_drop]
   rw[this];grind
theorem lst_atL(L:List MG):lst (atM L) L.length++lst noM 0=L:=by rw[wdf];simp[lst]
def t30(nm:Nat->List UInt8)(i:Nat):List UInt8:=(nm i).take 30
def wdk(n k:Int):Int:=n % 18446744073709551616 % k
def wmo:Spec
 |[.int .i64 n,.int .i64 k],[]=>some (.q (wdk n k),[],1<=k/\k<=1000000)
 |_,_=>none
def wa6(n:Nat)(v:Nat->Int)(a k:Int):Int:=wdk (bif decide (a<n) then v a.toNat else 0) k
def wlz:Spec
 |[.ptr 0 0,.int .i64 k],[.cells [.view sz n f,.int .i64 a] t]=>some (.q (wa6 n (vInt f) a k),[(0,.cells [.view 1 n f,.q (a+1)] 26)],t=26/\sz=1/\f=waj (vInt f)/\(1<=k/\k<=1000000)/\(0<=a/\a<=4611686018427387904))
 |_,_=>none
def pw(V j:Nat):Nat:=V / 10 ^ j
def dgI(V k:Nat):Int:=48+((V / 10 ^ (6 - k) % 10:Nat):Int)
def wcr(V:Nat)(k:Nat):List AV:=[.int .u8 (dgI V k)]
def idV(n:Int):Nat:=1000000+(wdk n 1000000).toNat
def id7(n:Int):List UInt8:=wa9 7 (wcr (idV n))
def idF(n:Int):List UInt8:=id7 n++[UInt8.ofNat (48+(cdF (id7 n)).1).toNat]
def S_id:Spec
 |[.int .i64 n],[]=>some (.str (idF n),[],True)
 |_,_=>none
def wmm(V:Nat)(j:Nat):St:=⟨[(3,.q (pw V j:Nat)),(4,.own 0 7),(5,.q (6 - (j:Int)))],[(0,.row 5 1 7 (λk=>[.int .u8 (bif decide (7<=k+j) then dgI V k else 0)]) false)],1,[]⟩
def L_id(V:Nat):wan:=λst Q=>canonIs te 0 [3,4,5] st (wmm V 0)/\V<2000000/\
 Q (.exit 0) ⟨[(4,.own 0 7)],[(0,.row 5 1 7 (wcr V) false)],1,[]⟩
theorem wh9{k:Int}(h:1<=k)(n:Int):0<=wdk n k/\wdk n k<k:=by
 unfold wdk;exact⟨Int.emod_nonneg _ (by omega),Int.emod_lt_of_pos _ (by omega)⟩
theorem wht{k:Int}(h:1<=k)(n:Nat)(v:Nat->Int)(a:Int):0<=wa6 n v a k/\wa6 n v a k<k:=wh9 h _
theorem w3h(s:List UInt8):0<=(cdF s).1/\(cdF s).1<=9:=by
 unfold cdF;split
 ·show 0<=(10 - wa0 s s.length % 10) % 10/\(10 - wa0 s s.length % 10) % 10<=9;omega
 ·exact⟨by decide,by decide⟩
theorem id7_len(n:Int):(id7 n).length=7:=by simp[id7,wa9]
def wgq:Spec
 |[.str o,.str p,.int .i64 per],[]=>some (.bool (wcb o p per),[],o.length<9223372036854775808)
 |_,_=>none
def wlq:Spec
 |[.int .i64 p],[]=>some (.bool (decide (0<=p) && decide (p<=5999)),[],True)
 |_,_=>none
def wmr:Spec
 |[.agg [.str o,.str p,.int .i64 per,.str dev,.int .i64 num]],[]=>some (.bool (wcb o p per && (wa4 dev && numF num)),[],o.length<9223372036854775808/\dev.length<9223372036854775808)
 |_,_=>none
def wlf:Spec
 |[.str a,.str b],[]=>some (.q (cmpS a b),[],True)
 |_,_=>none
def wlw:Spec
 |[.int .i64 a,.int .i64 b],[]=>some (.q (cmpI a b),[],True)
 |_,_=>none
def wgu:Spec
 |[.agg [.str dev,.int .i64 seq,.int .i64 _,.str _,.str _,.int .i64 _,.int .i64 _,.int .i64 _,.int .i64 _,.str _,.str _,.str _,.int .i64 _,.str _,.int .i64 _],.agg [.str dev2,.int .i64 seq2,.int .i64 _,.str _,.str _,.int .i64 _,.int .i64 _,.int .i64 _,.int .i64 _,.str _,.str _,.str _,.int .i64 _,.str _,.int .i64 _]],[]=>
   some (.bool (decide (dev=dev2) && decide (seq=seq2)),[],True)
 |_,_=>none
def wg7:Spec
 |[.agg [.str o,.str p,.int .i64 per,.int .i64 _,.int .i64 _,.int .i64 _,.str _],.str o',.str p',.int .i64 per'],[]=>some (.bool (decide (o=o') && (decide (p=p') && decide (per=per'))),[],True)
 |_,_=>none
def MG.put(g:Nat->MG)(k:Nat)(r:MG)(i:Nat):MG:=if i<k then g i else r
structure RM (f:Nat->List AV) (n:Nat):Prop where
 eq:∀i,i<n->f i=waa (mgOf f) i
 sm:∀i,i<n->(mgOf f i).Sm
def S_mrgV:Spec
 |[.view 15 n f,.view 15 m h],[]=>some (.view 15 (mrgL (mgOf f) n (mgOf h) m).length (waa (atM (mrgL (mgOf f) n (mgOf h) m))),[],
   n<=100000/\m<=100000/\f=waa (mgOf f)/\h=waa (mgOf h)/\(∀i,i<n->(mgOf f i).Sm)/\∀i,i<m->(mgOf h i).Sm)
 |_,_=>none
def dnM(L:List MG)(m:MG):Nat->Nat
 |0=>0
 |a+1=>bif decide (ordM m (atM L a)<0) then dnM L m a else a+1
def catM(g:Nat->MG)(n:Nat)(h:Nat->MG)(i:Nat):MG:=if i<n then g i else h (i - n)
def mfL(c:Nat->MG)(k:Nat):List MG:=mrgF (lst c k)
def S_rm(c:Nat->MG)(N k:Nat):St:=⟨[(5,.own 0 (mfL c k).length),(14,.own 1 N),(15,.q N),(16,.q k)],[(0,.row 47 15 (mfL c k).length (waa (atM (mfL c k))) false),(1,.row 47 15 N (waa c) false)],2,[]⟩
def L_rm(c:Nat->MG)(N:Nat):wan:=λst Q=>canonIs te 0 [5,14,15,16] (ownNil 5 47 15 st) (S_rm c N 0)/\N<=200000/\(∀i,i<N->(c i).Sm)/\
 Q (.exit 0) ⟨[(5,.own 0 (mfL c N).length)],[(0,.row 47 15 (mfL c N).length (waa (atM (mfL c N))) false)],1,[]⟩
def wio(L:List MG)(m:MG)(c:Nat->MG)(N k a:Nat):St:=⟨[(5,.own 0 L.length),(7,.ptr 1 0),(8,.q a),(14,.own 2 N),(15,.q N),(16,.q k)],
 [(0,.row 47 15 L.length (waa (atM L)) false),(1,.cells [.str m.dev,.q m.seq,.q m.kind,.str m.v.o,.str m.v.p,.q m.v.per,.q m.v.day,.q m.v.st,.q m.v.pr,.str m.v.rep,.str m.d.o,.str m.d.p,.q m.d.per,.str m.d.dev,.q m.d.num] 47),(2,.row 47 15 N (waa c) false)],3,[]⟩
def wnk(L:List MG)(m:MG)(c:Nat->MG)(N k:Nat):wan:=λst Q=>canonIs te 0 [5,7,8,14,15,16] st (wio L m c N k L.length)/\L.length<=200000/\
 Q (.exit 2) (wio L m c N k (dnM L m L.length))
def wl1:Spec
 |[.view 15 n f,.nil],[]=>some (.view 15 (mrgL (mgOf f) n noM 0).length (waa (atM (mrgL (mgOf f) n noM 0))),[],n<=100000/\f=waa (mgOf f)/\∀i,i<n->(mgOf f i).Sm)
 |_,_=>none
def wcc(g:Nat->List UInt8×Int)(i:Nat):List AV:=[.str (g i).1,.q (g i).2]
def atK(L:List (List UInt8×Int))(i:Nat):List UInt8×Int:=L.getD i ([],0)
def smK(x y:List UInt8×Int):Bool:=decide (x.1=y.1) && decide (x.2=y.2)
theorem smK_iff{x y:List UInt8×Int}:smK x y=true↔x=y:=by
 obtain⟨a,b⟩:=x;obtain⟨c,d⟩:=y;simp[smK]
def clnP(M:List MG):Nat->List (List UInt8×Int)
 |0=>[]
 |k+1=>bif decide (1<numC (atM M) (mk2 (atM M k)) M.length) && (decide ((clnP M k).length=0) || !smK (atK (clnP M k) ((clnP M k).length - 1)) (mk2 (atM M k))) then clnP M k++[mk2 (atM M k)] else clnP M k
theorem wu9{L:List (List UInt8×Int)}{i:Nat}(h:i<L.length):atK L i∈L:=by
 unfold atK;simp only[List.getD_eq_getElem?_getD,List.getElem?_eq_getElem h,Option.getD_some];exact List.getElem_mem h
theorem w32(L:List (List UInt8×Int))(x:List UInt8×Int):atK (L++[x]) ((L++[x]).length - 1)=x:=by
 unfold atK;simp
theorem w3b{M:List MG}{k:Nat}(h:1<numC (atM M) (mk2 (atM M k)) M.length):0<(clnP M (k+1)).length/\atK (clnP M (k+1)) ((clnP M (k+1)).length - 1)=mk2 (atM M k):=by
 rw[clnP,decide_eq_true h,Bool.true_and]
 cases q:decide ((clnP M k).length=0) || !smK (atK (clnP M k) ((clnP M k).length - 1)) (mk2 (atM M k)) with
 |true=>exact⟨by simp,w32 _ _⟩
 |false=>
  rw[Bool.or_eq_false_iff,decide_eq_false_iff_not,Bool.not_eq_false'] at q;exact⟨by simp only[cond_false];omega,smK_iff.1 q.2⟩
def S_cl(M:List MG)(k:Nat):St:=⟨[(3,.view 15 M.length (waa (atM M))),(4,.own 0 (clnK M k).length),(9,.q M.length),(10,.q k)],[(0,.row 47 15 (clnK M k).length (waa (atM (clnK M k))) false)],1,[]⟩
def L_cl(M:List MG):wan:=λst Q=>canonIs te 0 [3,4,9,10] (ownNil 4 47 15 st) (S_cl M 0)/\M.length<=100000/\
 Q (.exit 0) ⟨[(4,.own 0 (clnK M M.length).length)],[(0,.row 47 15 (clnK M M.length).length (waa (atM (clnK M M.length))) false)],1,[]⟩
def wc1(g:Nat->MG)(n:Nat)(o p:List UInt8)(per:Int):List MG:=canL o p per (atM (wae g n)) (wae g n).length
def wmx:Spec
 |[.view 15 n f,.str o,.str p,.int .i64 per],[]=>some (.view 15 (wc1 (mgOf f) n o p per).length (waa (atM (wc1 (mgOf f) n o p per))),[],n<=100000/\f=waa (mgOf f)/\∀i,i<n->(mgOf f i).Sm)
 |_,_=>none
def wb7(g:Nat->MG)(n:Nat):List (List UInt8×Int):=clnP (mrgL g n noM 0) (mrgL g n noM 0).length
theorem wkw(M:List MG):∀k,(clnP M k).length<=k
 |0=>lR7 _
 |k+1=>by
  have ih:=wkw M k;rw[clnP]
  cases decide (1<numC (atM M) (mk2 (atM M k)) M.length) && (decide ((clnP M k).length=0) || !smK (atK (clnP M k) ((clnP M k).length - 1)) (mk2 (atM M k))) with
  |true=>rw[cond_true,lA7];show _+1<=_;omega
  |false=>rw[cond_false];omega
structure SL where
 o:List UInt8
 p:List UInt8
 per:Int
 deriving DecidableEq,Inhabited
def ordS(a b:SL):Int:=orL [cmpS a.o b.o,cmpS a.p b.p,cmpI a.per b.per]
theorem wck:PreC ordS:=(wdn.comap SL.o).or ((wdn.comap SL.p).or ((wdo.comap SL.per).or .nil))
theorem wjd{a b:SL}:ordS a b=0↔a=b:=by
 simp only[ordS,wou,wea,wqf,show orL []=0 from rfl,and_true]
 constructor
 ·rintro⟨h1,h2,h3⟩
  cases a;cases b;simp only at h1 h2 h3;subst h1;subst h2;subst h3;rfl
 ·rintro rfl;simp
def whr(m:MG):SL:=bif decide (m.kind=2) then ⟨m.d.o,m.d.p,m.d.per⟩ else ⟨m.v.o,m.v.p,m.v.per⟩
def vsl(v:VT):SL:=⟨v.o,v.p,v.per⟩
theorem wi1{α:Type}{p:List α->Prop}(l:List α)(nil:p [])(snoc:∀(l:List α) (a:α),p l->p (l++[a])):p l:=by
 have:∀(r:List α),p r.reverse:=λr=>by
  induction r with
  |nil=>exact nil
  |cons a r ih=>rw[List.reverse_cons];exact snoc _ a ih
 have h:=this l.reverse
 rwa [List.reverse_reverse] at h
def putB:List (SL×List MG)->SL->MG->List (SL×List MG)
 |[],s,m=>[(s,[m])]
 |x::B,s,m=>bif decide (x.1=s) then (x.1,x.2++[m])::B else x::putB B s m
def wai(l:List MG):List (SL×List MG):=l.foldl (λB m=>putB B (whr m) m) []
def getB:List (SL×List MG)->SL->List MG
 |[],_=>[]
 |x::B,s=>bif decide (x.1=s) then x.2 else getB B s
theorem w19(B:List (SL×List MG))(s t:SL)(m:MG):getB (putB B s m) t=bif decide (s=t) then getB B t++[m] else getB B t:=by
 induction B with
 |nil=>
  by_cases h:s=t
  ·subst h;simp[putB,getB]
  ·simp[putB,getB,h]
 |cons x B ih=>
  rw[putB]
  by_cases h:x.1=s
  ·rw[decide_eq_true h]
   by_cases h':s=t
   ·simp[getB,h,h']
   ·have:¬ x.1=t:=λq=>h' (h ▸ q);simp[getB,this,h']
  ·rw[decide_eq_false h]
   by_cases h':x.1=t
   ·have:¬ s=t:=λq=>h (h'.trans q.symm);simp[getB,h',this]
   ·simp[getB,h',ih]
theorem wpi(B:List (SL×List MG))(s:SL)(m:MG):(putB B s m).map Prod.fst=bif decide (s∈B.map Prod.fst) then B.map Prod.fst else B.map Prod.fst++[s]:=by
 induction B with
 |nil=>simp[putB]
 |cons x B ih=>
  rw[putB]
  by_cases h:x.1=s
  ·rw[decide_eq_true h];simp[h]
  ·rw[decide_eq_false h,cond_false,List.map_cons,ih];have h':¬ s=x.1:=λq=>h q.symm
   by_cases q:s∈B.map Prod.fst
   ·have q2:s∈(x::B).map Prod.fst:=List.mem_cons_of_mem _ q;rw[decide_eq_true q,decide_eq_true q2];rfl
   ·have q2:s ∉ (x::B).map Prod.fst:=by
     rw[List.map_cons,List.mem_cons];exact λe=>e.elim h' q
    rw[decide_eq_false q,decide_eq_false q2];rfl
theorem wil(l:List MG)(m:MG):wai (l++[m])=putB (wai l) (whr m) m:=by simp[wai]
theorem wkb(s:SL)(l:List MG):getB (wai l) s=l.filter λm=>decide (whr m=s):=by
 induction l using wi1 with
 |nil=>rfl
 |snoc l m ih=>
  rw[wil,w19,ih,List.filter_append]
  by_cases h:whr m=s
  ·simp[h]
  ·simp[h]
theorem wpj(s:SL)(l:List MG):s∈(wai l).map Prod.fst↔∃m∈l,whr m=s:=by
 induction l using wi1 with
 |nil=>simp[wai]
 |snoc l m ih=>
  rw[wil,wpi]
  by_cases h:whr m∈(wai l).map Prod.fst
  ·rw[decide_eq_true h,cond_true,ih]
   constructor
   ·rintro⟨x,hx,e⟩;exact⟨x,List.mem_append_left _ hx,e⟩
   ·rintro⟨x,hx,e⟩
    rcases List.mem_append.1 hx with hx | hx
    ·exact⟨x,hx,e⟩
    ·rw[List.mem_singleton.1 hx] at e;exact ih.1 (e ▸ h)
  ·rw[decide_eq_false h,cond_false,List.mem_append,ih,List.mem_singleton]
   constructor
   ·rintro(⟨x,hx,e⟩ | e)
    ·exact⟨x,List.mem_append_left _ hx,e⟩
    ·exact⟨m,List.mem_append_right _ (List.mem_singleton.2 rfl),e.symm⟩
   ·rintro⟨x,hx,e⟩
    rcases List.mem_append.1 hx with hx | hx
    ·exact .inl ⟨x,hx,e⟩
    ·exact .inr (by rw[← e,List.mem_singleton.1 hx])
theorem wji(l:List MG):((wai l).map Prod.fst).Nodup:=by
 induction l using wi1 with
 |nil=>simp[wai]
 |snoc l m ih=>
  rw[wil,wpi]
  by_cases h:whr m∈(wai l).map Prod.fst
  ·rw[decide_eq_true h];exact ih
  ·rw[decide_eq_false h,cond_false,List.nodup_append];refine⟨ih,by simp,λa ha b hb e=>h ?_⟩;rw[List.mem_singleton.1 hb] at e;exact e ▸ ha
theorem getB_at{B:List (SL×List MG)}(hn:(B.map Prod.fst).Nodup){x:SL×List MG}(h:x∈B):getB B x.1=x.2:=by
 induction B with
 |nil=>cases h
 |cons y B ih=>
  rw[List.map_cons,List.nodup_cons] at hn
  rcases List.mem_cons.1 h with rfl | h
  ·simp[getB]
  ·have:¬ y.1=x.1:=λq=>hn.1 (q ▸ List.mem_map_of_mem h);rw[getB,decide_eq_false this];exact ih hn.2 h
theorem wu7{l:List MG}{x:SL×List MG}(h:x∈wai l):x.2=l.filter λm=>decide (whr m=x.1):=by rw[← wkb,getB_at (wji l) h]
theorem wu6(l:List MG):(wai l).length<=l.length:=by
 induction l using wi1 with
 |nil=>simp[wai]
 |snoc l m ih=>
  have h:=congrArg List.length (wpi (wai l) (whr m) m);rw[List.length_map] at h;rw[wil,lA7,h]
  cases decide (whr m∈(wai l).map Prod.fst) with
  |true=>rw[cond_true,List.length_map];simp;omega
  |false=>rw[cond_false,lA7,List.length_map];simpa using ih
def insS:List SL->SL->List SL
 |[],m=>[m]
 |x::l,m=>bif decide (ordS m x<0) then m::x::l else bif decide (ordS m x=0) then x::l else x::insS l m
theorem wpq:∀ {l:List SL} {m y:SL},y∈insS l m↔y=m∨y∈l
 |[],m,y=>by simp[insS]
 |x::l,m,y=>by
  rw[insS]
  by_cases h:ordS m x<0
  ·rw[decide_eq_true h];simp
  ·rw[decide_eq_false h]
   by_cases h':ordS m x=0
   ·rw[decide_eq_true h'];have:=wjd.1 h';subst this;simp
   ·rw[decide_eq_false h'];simp only[cond_false,List.mem_cons,wpq (l:=l)];grind
theorem wtk:∀ {l:List SL} (m:SL),Asc ordS l->Asc ordS (insS l m)
 |[],m,_=>by simp[insS,Asc]
 |x::l,m,h=>by
  obtain⟨h1,h2⟩:=List.pairwise_cons.1 h;rw[insS]
  by_cases q:ordS m x<0
  ·rw[decide_eq_true q];refine List.pairwise_cons.2 ⟨λy hy=>?_,h⟩
   rcases List.mem_cons.1 hy with rfl | hy
   ·exact q
   ·exact wck.lt_trans q (h1 y hy)
  ·rw[decide_eq_false q]
   by_cases q':ordS m x=0
   ·rw[decide_eq_true q'];exact h
   ·rw[decide_eq_false q'];refine List.pairwise_cons.2 ⟨λy hy=>?_,wtk m h2⟩
    rcases wpq.1 hy with rfl | hy
    ·have:=wck.neg x y;have:=wck.neg y x;omega
    ·exact h1 y hy
theorem wtj:∀(l:List SL) (m:SL),(insS l m).length<=l.length+1
 |[],m=>by simp[insS]
 |x::l,m=>by
  rw[insS]
  cases decide (ordS m x<0) with
  |true=>simp
  |false=>
   cases decide (ordS m x=0) with
   |true=>simp
   |false=>have:=wtj l m;simpa using this
theorem wia:∀(l acc:List SL),Asc ordS acc->Asc ordS (l.foldl insS acc)/\∀y,y∈l.foldl insS acc↔y∈acc∨y∈l
 |[],acc,h=>⟨h,λy=>by simp⟩
 |x::l,acc,h=>by
  obtain⟨h1,h2⟩:=wia l (insS acc x) (wtk x h);refine⟨h1,λy=>?_⟩;rw[List.foldl_cons,h2,wpq,List.mem_cons];grind
theorem wp3:∀(l acc:List SL),(l.foldl insS acc).length<=acc.length+l.length
 |[],acc=>by simp
 |x::l,acc=>by
  rw[List.foldl_cons,List.length_cons];have:=wp3 l (insS acc x);have:=wtj acc x;omega
def isV(m:MG):Bool:=decide (m.kind=1)
def visL(R:List MG):List SL:=((R.filter isV).map λm=>vsl m.v).foldl insS []
theorem wd3(R:List MG):Asc ordS (visL R):=(wia _ [] .nil).1
theorem wfc{R:List MG}{s:SL}:s∈visL R↔∃m∈R,m.kind=1/\vsl m.v=s:=by
 unfold visL;rw[(wia _ [] .nil).2];simp[isV,and_assoc]
theorem whe(R:List MG):(visL R).length<=R.length:=by
 have:=wp3 ((R.filter isV).map λm=>vsl m.v) [];have h2:=List.length_filter_le isV R;unfold visL;simp at this;omega
theorem wvw{R:List MG}{L:List SL}(h:Asc ordS L)(hm:∀s,s∈L↔∃m∈R,m.kind=1/\vsl m.v=s):L=visL R:=
 Asc.uniq wck h (wd3 R) λs=>by rw[hm,wfc]
def hasV(l:List MG):Bool:=l.any isV
theorem wtr{R:List MG}{x:SL×List MG}(h:x∈wai R):hasV x.2=true↔x.1∈visL R:=by
 rw[wfc,hasV,List.any_eq_true,wu7 h]
 constructor
 ·rintro⟨m,hm,hk⟩;obtain⟨h1,h2⟩:=List.mem_filter.1 hm;have hk:m.kind=1:=of_decide_eq_true hk;have h2:whr m=x.1:=of_decide_eq_true h2;refine⟨m,h1,hk,?_⟩;rw[← h2,whr,decide_eq_false (by omega)];rfl
 ·rintro⟨m,h1,hk,h2⟩;refine⟨m,List.mem_filter.2 ⟨h1,decide_eq_true ?_⟩,decide_eq_true hk⟩;rw[← h2,whr,decide_eq_false (by omega)];rfl
theorem wvx{R:List MG}{L:List SL}{E:List (SL×List MG)}(hE:E.Perm (wai R))(hL:L.Perm ((E.filter λx=>hasV x.2).map Prod.fst))(hs:L.Pairwise λx y=>¬ ordS y x<0):L=visL R:=by
 have hn:L.Nodup:=by
  rw[hL.nodup_iff];have:(E.map Prod.fst).Nodup:=by rw[(hE.map _).nodup_iff];exact wji R
  exact this.sublist ((List.filter_sublist).map _)
 refine wvw (Asc.of_sorted hs wck (hn.imp λh q=>h (wjd.1 q))) λs=>?_;rw[hL.mem_iff,List.mem_map]
 constructor
 ·rintro⟨x,hx,rfl⟩;obtain⟨h1,h2⟩:=List.mem_filter.1 hx;exact wfc.1 ((wtr (hE.mem_iff.1 h1)).1 h2)
 ·intro h;have hk:s∈(wai R).map Prod.fst:=by
   obtain⟨m,hm,hk,e⟩:=h;refine(wpj s R).2 ⟨m,hm,?_⟩;rw[← e,whr,decide_eq_false (by omega)];rfl
  obtain⟨x,hx,rfl⟩:=List.mem_map.1 hk;exact⟨x,List.mem_filter.2 ⟨hE.mem_iff.2 hx,(wtr hx).2 (wfc.2 h)⟩,rfl⟩
def resB(R:List MG)(s:SL):VT×Int:=resR s.o s.p s.per R (canL s.o s.p s.per (atM R) R.length)
theorem res_all(g:Nat->MG)(n:Nat)(s:SL):resF g n s.o s.p s.per=resB (wae g n) s:=rfl
def canS(o p:List UInt8)(per:Int)(L:List MG):List MG:=(L.filter (selF o p per)).foldl stpC []
theorem wqi(o p:List UInt8)(per:Int)(g:Nat->MG):∀n,canL o p per g n=canS o p per (lst g n)
 |0=>rfl
 |n+1=>by
  unfold canS;rw[canL,wde,List.filter_append,List.foldl_append,wqi o p per g n]
  cases h:selF o p per (g n) with
  |true=>simp[h,canS]
  |false=>simp[h,canS]
def dcS(o p:List UInt8)(per:Int)(C:List MG)(L:List MG):VT×Int:=
 L.foldl (λq m=>bif wb5 o p per q.2 m && decide (fstB (λi=>namF m.d (atM C i)) C.length<C.length) then ((atM C (fstB (λi=>namF m.d (atM C i)) C.length)).v,m.seq) else q) (wco, -1)
theorem wqe(o p:List UInt8)(per:Int)(C:List MG)(g:Nat->MG):∀n,dcF o p per C g n=dcS o p per C (lst g n)
 |0=>rfl
 |n+1=>by
  unfold dcS;rw[dcF,wde,List.foldl_append,wqe o p per C g n];rfl
theorem w2h{α β:Type}(f:β->α->β)(q:α->Bool)(l:List α):∀b,(∀b x,x∈l->q x=false->f b x=b)->(l.filter q).foldl f b=l.foldl f b:=by
 induction l with
 |nil=>intro b _;rfl
 |cons x l ih=>
  intro b h
  cases hq:q x with
  |true=>
   rw[List.filter_cons_of_pos hq,List.foldl_cons,List.foldl_cons];exact ih _ λb y hy=>h b y (List.mem_cons_of_mem _ hy)
  |false=>
   rw[List.filter_cons_of_neg (by simp[hq]),List.foldl_cons,h b x (List.mem_cons_self) hq];exact ih _ λb y hy=>h b y (List.mem_cons_of_mem _ hy)
theorem wrg{s:SL}{m:MG}(h:selF s.o s.p s.per m=true):whr m=s/\vsl m.v=s/\m.kind=1:=by
 simp only[selF,bA7,decide_eq_true_eq] at h;obtain⟨h1,h2,h3,h4⟩:=h;have:vsl m.v=s:=by rw[vsl,h2,h3,h4]
 refine⟨?_,this,h1⟩;rw[whr,decide_eq_false (by omega)];exact this
theorem w2y{s:SL}{q:Int}{m:MG}(h:wb5 s.o s.p s.per q m=true):whr m=s:=by
 simp only[wb5,bA7,decide_eq_true_eq] at h;obtain⟨h1,h2,h3,h4,_⟩:=h;rw[whr,decide_eq_true h1,h2,h3,h4];rfl
theorem ww8(R:List MG)(s:SL):resB (R.filter λm=>decide (whr m=s)) s=resB R s:=by
 unfold resB;have hc:canL s.o s.p s.per (atM (R.filter λm=>decide (whr m=s))) (R.filter λm=>decide (whr m=s)).length=canL s.o s.p s.per (atM R) R.length:=by
  rw[wqi,wqi,wdf,wdf,canS,canS,List.filter_filter];congr 1;refine List.filter_congr λm _=>?_
  cases h:selF s.o s.p s.per m with
  |true=>rw[Bool.true_and,decide_eq_true (wrg h).1]
  |false=>rfl
 rw[hc];unfold resR;have hd:∀C,dcF s.o s.p s.per C (atM (R.filter λm=>decide (whr m=s))) (R.filter λm=>decide (whr m=s)).length=dcF s.o s.p s.per C (atM R) R.length:=λC=>by
  rw[wqe,wqe,wdf,wdf,dcS,dcS];refine w2h _ _ _ _ λb m _ h=>?_;have:wb5 s.o s.p s.per b.2 m=false:=by
   cases h':wb5 s.o s.p s.per b.2 m with
   |false=>rfl
   |true=>rw[decide_eq_true (w2y h')] at h;cases h
  rw[this];rfl
 rw[hd]
structure RightL (R:List MG):Prop where
 mark:Asc wcy R
 ord:Asc ordM R
 ok:∀m∈R,msgF m=0
theorem wr0(g:Nat->MG)(n:Nat):RightL (wae g n):=
 ⟨wrz g n,(whw _).filter _,λ_ h=>wr1 h⟩
theorem RightL.filter{R:List MG}(h:RightL R)(q:MG->Bool):RightL (R.filter q):=⟨h.mark.filter q,h.ord.filter q,λm hm=>h.ok m (List.mem_filter.1 hm).1⟩
theorem RightL.self{R:List MG}(h:RightL R):wae (atM R) R.length=R:=by
 have e:mrgL (atM R) R.length noM 0=R:=by
  unfold mrgL;rw[lst_atL];refine(wss h.ord λm=>?_).symm;exact⟨λhm=>⟨hm,h.ok m hm⟩,λhm=>hm.1⟩
 unfold wae;rw[e];refine List.filter_eq_self.2 λm _=>?_;rw[Bool.not_eq_true',decide_eq_false_iff_not,whs];rintro⟨i,j,hij,hj,e1,e2⟩;have h1:=wk5 h.mark hij hj;have h2:=wjt.2 (e1.trans e2.symm);omega
theorem ww6{R:List MG}(h:RightL R)(s:SL):resF (atM (getB (wai R) s)) (getB (wai R) s).length s.o s.p s.per=resB R s:=by
 rw[wkb,res_all,(h.filter _).self,ww8]
theorem wij{o p:List UInt8}{per:Int}{g:Nat->MG}{m:MG}:∀ {n:Nat},m∈canL o p per g n->selF o p per m=true/\m∈lst g n
 |0,h=>by simp[canL] at h
 |n+1,h=>by
  rw[canL] at h;rw[wde]
  cases q:selF o p per (g n) with
  |false=>
   rw[q,cond_false] at h;exact⟨(wij h).1,List.mem_append_left _ (wij h).2⟩
  |true=>
   rw[q,cond_true] at h;have:m∈canL o p per g n∨m=g n:=by
    unfold stpC at h
    cases q2:decide (0<(canL o p per g n).length) && decide ((atM (canL o p per g n) ((canL o p per g n).length - 1)).dev=(g n).dev) with
    |true=>
     rw[q2,cond_true,List.mem_append,List.mem_singleton] at h;exact h.imp (λh=>List.mem_of_mem_take h) id
    |false=>
     rw[q2,cond_false,List.mem_append,List.mem_singleton] at h;exact h
   rcases this with h | rfl
   ·exact⟨(wij h).1,List.mem_append_left _ (wij h).2⟩
   ·exact⟨q,List.mem_append_right _ (List.mem_singleton.2 rfl)⟩
theorem ww7(o p:List UInt8)(per:Int)(R C:List MG):(resR o p per R C).2=0/\C=[]/\(resR o p per R C).1=wco∨(resR o p per R C).2=1/\C≠[]/\(∃m∈C,(resR o p per R C).1=m.v)∨(resR o p per R C).2=2/\C≠[]:=by
 unfold resR
 by_cases h:C.length=0
 ·rw[decide_eq_true h];exact .inl ⟨rfl,List.length_eq_zero_iff.1 h,rfl⟩
 ·have hne:C≠[]:=λe=>h (by rw[e];rfl);have h0:atM C 0∈C:=wfu (by omega);rw[decide_eq_false h]
  by_cases h2:0<=ixB (λi=>difF (atM C 0).v (atM C i)) C.length
  ·rw[decide_eq_true h2]
   by_cases h3:(dcF o p per C (atM R) R.length).2<0
   ·rw[decide_eq_true h3];exact .inr (.inr ⟨rfl,hne⟩)
   ·rw[decide_eq_false h3];refine .inr (.inl ⟨rfl,hne,?_⟩);have key:∀k,(dcF o p per C (atM R) k).2<0∨∃m∈C,(dcF o p per C (atM R) k).1=m.v:=by
     intro k
     induction k with
     |zero=>exact .inl (by show (-1:Int)<0;omega)
     |succ k ih=>
      rw[dcF]
      by_cases q:fstB (λi=>namF (atM R k).d (atM C i)) C.length<C.length
      ·cases q2:wb5 o p per (dcF o p per C (atM R) k).2 (atM R k) with
       |true=>rw[decide_eq_true q];exact .inr ⟨_,wfu q,rfl⟩
       |false=>exact ih
      ·rw[decide_eq_false q,Bool.and_false];exact ih
    exact(key R.length).resolve_left h3
  ·rw[decide_eq_false h2];exact .inr (.inl ⟨rfl,hne,atM C 0,h0,rfl⟩)
theorem whn{R:List MG}{s:SL}(h:(resB R s).2=1):∃m∈R,m.kind=1/\m.v=(resB R s).1/\vsl m.v=s:=by
 rcases ww7 s.o s.p s.per R (canL s.o s.p s.per (atM R) R.length) with q | q | q
 ·exact absurd (q.1.symm.trans h) (by decide)
 ·obtain⟨_,_,m,hm,e⟩:=q;obtain⟨h1,h2⟩:=wij hm;rw[wdf] at h2;obtain⟨_,w2,w3⟩:=wrg h1;exact⟨m,h2,w3,e.symm,w2⟩
 ·exact absurd (q.1.symm.trans h) (by decide)
theorem wr4{R:List MG}{s:SL}(h:(resB R s).2=1):vsl (resB R s).1=s/\s∈visL R:=by
 obtain⟨m,hm,hk,e,e2⟩:=whn h;exact⟨e ▸ e2,wfc.2 ⟨m,hm,hk,e2⟩⟩
end Go.Eng
