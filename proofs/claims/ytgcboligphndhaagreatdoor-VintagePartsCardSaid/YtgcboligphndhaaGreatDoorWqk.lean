/- A builder within a struct of ours: what a write first looks at; numbers as text. -/
import Derived.Test.YtgcboligphndhaaGreatDoorWqj
import Derived.Lib.Builder
namespace Go.Eng
open Go.Proofs Go.RowKit
variable {C:Ctx} [C.Loose]
set_option maxRecDepth 20000
theorem nf_mrg(g:Nat->MG)(n:Nat)(h:Nat->MG)(m:Nat)(R:oR7):letI z4:=sumN (nn2 n m) 2;letI z3:=(List.flatten (List.replicate (nat_lit 0) [.nil]):List AV);letI z2:=catG (nn2 n m) (gg2 g h) 2;letI z0:=flL z2 z4;letI z1:=(∀(i:Nat),i<z0.length->true=true:Prop);wpFn te [(113,.rel wo3),(72,.det wcf),(114,.rel wot),(116,.rel wo4)] [(3,L_mg z2 z4)] 0 Tryz.f61 [.view 15 n (wad g),.view 15 m (wad h)] [] R=((2<=16777216/\1=1/\2<=9223372036854775807)/\(∀(i:Nat),i<2->nrefL (wap 1 (.view 15 n (wad g):: .view 15 m (wad h)::List.append [] z3) i)=true)/\∃(nn:Nat->Nat),∃(gg:Nat->Nat->MG),22=22/\false=false/\2=2/\2<=1000/\(∀(i:Nat),i<2->[AV.view 15 (nn i) (wad (gg i))]=wap 1 (.view 15 n (wad g):: .view 15 m (wad h)::List.append [] z3) i)/\sumN nn 2<=1000000/\(∀(i:Nat),i<2->true=true)/\(TEq [(5,.own 0 0),(11,.view 15 (sumN nn 2) (wad (catG nn gg 2))),(12,.q (↑(sumN nn 2):Int)),(13,.q 0)] [(5,.own 0 0),(11,.view 15 z4 (wad z2)),(12,.q (z4:Int)),(13,.q (↑0:Int))]/\wai [(0,.row 40 15 0 (λ(_x:Nat)=>[]) false)] [(0,.row 40 15 0 (wad (atM (flL z2 0))) false)])/\sumN (nn2 n m) 2<=200000/\(∀(i:Nat),i<sumN (nn2 n m) 2->MG.Sm (catG (nn2 n m) (gg2 g h) 2 i))/\z1/\40=40/\false=false/\z0.length=z0.length/\z0.length<=1000000/\wad (atM z0)=wad (mgOf (wad (atM z0)))/\∀(h_1:Nat->MG),List.Perm (lst h_1 z0.length) (lst (mgOf (wad (atM z0))) z0.length)->(∀(i j:Nat),i<j->j<z0.length->¬ordM (h_1 j) (h_1 i)<0)->z1/\z1/\40=40/\false=false/\z0.length=z0.length/\z0.length<=1000000/\wad h_1=wad (mgOf (wad h_1))/\∀(k:Nat) (h_2:Nat->MG),lst h_2 k=ddL (mgOf (wad h_1)) z0.length->(∀(i:Nat),i<k->true=true)/\(∀(i:Nat),i<k->true=true)/\∃(O':oL7),wai [(0,.row 40 15 k (wad h_2) false)] O'/\R (.own 0 k) O'):=by kernel_rfl
theorem w38(g:Nat->MG)(n k:Nat)(P:Nat->Prop)(R:eR7):wa1 ⟨te,[(72,.det wcf)],[],0,29,0⟩ (wa2 Tryz.f61 3) [5,11,12,13] [5] [] (S_mg g n) P R (S_mg g n k)=(letI z2:=(flL g k).length+1;letI z1:=(flL g k).length;letI z3:=([(0,.row 40 15 z1 (wad (atM (flL g k))) false)]:oL7);letI z0:=(g (k:Int).toNat);wab (decide ((k:Int)<(n:Int))) (((0:Int)<=(k:Int)/\(k:Int)<(n:Int)/\15=15)/\(z0.dev.length<4294967281/\z0.v.o.length<4294967281/\z0.d.o.length<4294967281/\z0.d.dev.length<4294967281)/\wab (decide (msgF (MG.mk z0.dev z0.seq z0.kind (VT.mk z0.v.o z0.v.p z0.v.per z0.v.day z0.v.st z0.v.pr z0.v.rep) (DT.mk z0.d.o z0.d.p z0.d.per z0.d.dev z0.d.num))=0)) ((15<=16777216/\15=15/\1<=9223372036854775807)/\((1<=1/\15=15)/\(flL g k).length<=(flL g k).length/\15=15/\40=40/\15=15/\(flL g k).length+1<=9223372036854775807/\z2 * 176<=140737488355328)/\inR .i64 ((k:Int)+1)/\∃(i':Nat),(TEq [(5,.own 0 z2),(11,.view 15 n (wad g)),(12,.q (n:Int)),(13,.q ((k:Int)+1))] [(5,.own 0 (flL g i').length),(11,.view 15 n (wad g)),(12,.q (n:Int)),(13,.q (i':Int))]/\wai [(0,.row 40 15 z2 (apF z1 (wad (atM (flL g k))) (wap 15 (.str z0.dev:: .q z0.seq:: .q z0.kind:: .str z0.v.o:: .str z0.v.p:: .q z0.v.per:: .q z0.v.day:: .q z0.v.st:: .q z0.v.pr:: .str z0.v.rep:: .str z0.d.o:: .str z0.d.p:: .q z0.d.per:: .str z0.d.dev:: .q z0.d.num::List.append [] wiw))) false)] [(0,.row 40 15 (flL g i').length (wad (atM (flL g i'))) false)])/\P i') (inR .i64 ((k:Int)+1)/\∃(i':Nat),(TEq [(5,.own 0 z1),(11,.view 15 n (wad g)),(12,.q (n:Int)),(13,.q ((k:Int)+1))] [(5,.own 0 (flL g i').length),(11,.view 15 n (wad g)),(12,.q (n:Int)),(13,.q (i':Int))]/\wai z3 [(0,.row 40 15 (flL g i').length (wad (atM (flL g i'))) false)])/\P i')) ((∀(i:Nat),i<(flL g k).length->true=true)/\∃(O':oL7),wai z3 O'/\R (.exit 0) (St.mk [(5,.own 0 z1)] O' 1 []))):=by kernel_rfl
theorem w7z{h:Nat->MG}{n:Nat}(hs:∀i j,i<j->j<n->¬ ordM (h j) (h i)<0):Asc ordM (ddL h n)/\∀x,x∈ddL h n↔x∈lst h n:=by
 have le:∀i j,i<j->j<n->ordM (h i) (h j)<=0:=λi j hij hj=>by
  have:=hs i j hij hj;rw[wdl.neg] at this;omega
 have nk:∀j,0<j->wcs h j=true->h j≠h (j - 1):=λj hj hk e=>by
  rw[wlb hj,wju.2 e] at hk;cases hk
 refine⟨?_,λx=>⟨λhx=>?_,λhx=>?_⟩⟩
 .unfold Asc ddL;refine List.pairwise_map.2 ((List.pairwise_lt_range.filter _).imp_of_mem λ{i j} hi hj hij=>?_);obtain⟨hjn,hjk⟩:=List.mem_filter.1 hj;have hjn:=List.mem_range.1 hjn;have l1:=le i j hij hjn
  rcases Int.lt_or_eq_of_le l1 with h0 | h0
  .exact h0
  .exfalso;have e:=wks.1 h0;refine nk j (by omega) hjk ?_
   by_cases q:i=j - 1
   .rw[← q,e]
   .have l2:=le i (j - 1) (by omega) (by omega);have l3:=le (j - 1) j (by omega) hjn;rw[e] at l2;have:=wdl.neg (h (j - 1)) (h j);exact wks.1 (by omega)
 .unfold ddL at hx;obtain⟨i,hi,rfl⟩:=List.mem_map.1 hx;exact List.mem_map.2 ⟨i,(List.mem_filter.1 hi).1,rfl⟩
 .obtain⟨i,hi,rfl⟩:=List.mem_map.1 hx;have key:∀i,i<n->h i∈ddL h n:=λi=>by
   induction i with
   |zero=>intro hi;exact List.mem_map.2 ⟨0,List.mem_filter.2 ⟨List.mem_range.2 hi,rfl⟩,rfl⟩
   |succ i ih=>
    intro hi
    cases q:wcs h (i+1) with
    |true=>exact List.mem_map.2 ⟨i+1,List.mem_filter.2 ⟨List.mem_range.2 hi,q⟩,rfl⟩
    |false=>
     rw[wlb (Nat.succ_pos i)] at q;have e:eqM (h (i+1)) (h i)=true:=by
      have:i+1 - 1=i:=rfl;rw[this] at q
      cases r:eqM (h (i+1)) (h i) with
      |true=>rfl
      |false=>rw[r] at q;cases q
     rw[wju.1 e];exact ih (by omega)
  exact key i (List.mem_range.1 hi)
theorem wws(L:List MG):lst (atM L) L.length=L:=by
 apply List.ext_getElem
 .simp[lst]
 .intro i h1 h2;simp[lst,atM,h2]
theorem lst_isM{g:Nat->MG}{L:List MG}{n:Nat}(h:lst g n=L):n=L.length/\∀i,i<n->g i=atM L i:=by
 subst h;refine⟨by simp[lst],λi hi=>?_⟩;simp[lst,atM,hi]
theorem w7i(g:Nat->MG)(k:Nat):flL g (k+1)=flL g k++bif okM (g k) then [g k] else []:=by
 unfold flL;rw[wk3,List.filter_append]
 cases h:okM (g k)<;>simp[h]
theorem wxy(g:Nat->MG)(k:Nat):(flL g k).length<=k:=by
 have:=List.length_filter_le okM (lst g k);have e:(lst g k).length=k:=by simp[lst]
 unfold flL;omega
theorem cat2(g:Nat->MG)(n:Nat)(h:Nat->MG)(m:Nat):sumN (nn2 n m) 2=n+m/\lst (catG (nn2 n m) (gg2 g h) 2) (n+m)=lst g n++lst h m/\∀i,i<n+m->(i<n/\catG (nn2 n m) (gg2 g h) 2 i=g i)∨(i - n<m/\n<=i/\catG (nn2 n m) (gg2 g h) 2 i=h (i - n)):=by
 have s1:sumN (nn2 n m) 1=n:=by simp[sumN,nn2]
 have at1:∀i,i<n+m->(i<n/\catG (nn2 n m) (gg2 g h) 2 i=g i)∨(i - n<m/\n<=i/\catG (nn2 n m) (gg2 g h) 2 i=h (i - n)):=λi hi=>by
  by_cases q:i<n
  .refine .inl ⟨q,?_⟩;rw[catG,s1,if_pos q,catG];have:sumN (nn2 n m) 0=0:=rfl;rw[this,if_neg (by omega)];rfl
  .refine .inr ⟨by omega,by omega,?_⟩;rw[catG,s1,if_neg q];rfl
 refine⟨by rw[sumN,s1];rfl,?_,at1⟩;apply List.ext_getElem
 .simp[lst]
 .intro i h1 h2;have hi:i<n+m:=by simpa[lst] using h1
  rcases at1 i hi with⟨q,e⟩ | ⟨q1,q2,e⟩
  .rw[List.getElem_append_left (by simp[lst,q])];simp[lst,e]
  .rw[List.getElem_append_right (by simp[lst,q2])];simp[lst,e]
theorem mg_loop(hP:C.P=Tryz.prog)(hL:∀w,C.laid w->LaidW w)(g:Nat->MG)(n:Nat):waj C 0 29 (wam Tryz.f61 3) (L_mg g n):=by
 rintro st Q ⟨h0,hn,hs,hQ⟩;refine AWP.ownNil 5 40 15 ?_;refine waj.mk (prg hP) [(72,.det wcf)] 0 (.cons (wjb hP hL) .nil) [5,11,12,13] [5] [] (S_mg g n) (λk=>k<=n) (λk=>n - k) 0 (zL7 _) h0 (λk hk=>?_) (λi=>⟨λ_ _=>rfl,trivial⟩);rw[w38,tN7];have hlen:=wxy g k;have hsu:=w7i g k;refine wak (λh1=>?_) (λh1=>?_)
 .have hk:=hs k (by omega);refine⟨⟨by omega,by omega,rfl⟩,⟨hk.a,hk.b,hk.c,hk.d⟩,wak (λq=>?_) (λq=>?_)⟩
  .have q:msgF (g k)=0:=q;have e:flL g (k+1)=flL g k++[g k]:=by rw[hsu,show okM (g k)=true from decide_eq_true q];rfl
   refine⟨⟨by omega,rfl,by omega⟩,⟨⟨lR7 _,rfl⟩,lR7 _,rfl,rfl,rfl,by omega,?_⟩,by simp only[inR];omega,k+1,?_,by omega,by omega⟩
   .show ((flL g k).length+1) * 176<=_;omega
   .rw[e,lA7];refine⟨rfl,⟨rfl,rfl,rfl,rfl,rfl,λj hj=>?_⟩,trivial⟩;generalize flL g k=L at *;unfold apF
    by_cases h:j<L.length
    .rw[if_pos h];have:atM (L++[g k]) j=atM L j:=by simp[atM,List.getD_eq_getElem?_getD,List.getElem?_append_left h]
     unfold wad;rw[this]
    .have hj:j=L.length:=by omega
     subst hj;rw[if_neg h,Nat.sub_self];have:atM (L++[g k]) L.length=g k:=by simp[atM]
     unfold wad;rw[this];rfl
  .have q:¬ msgF (g k)=0:=q;have e:flL g (k+1)=flL g k:=by rw[hsu,show okM (g k)=false from decide_eq_false q];simp
   refine⟨by simp only[inR];omega,k+1,?_,by omega,by omega⟩;rw[e];exact⟨rfl,rQ7,trivial⟩
 .have:k=n:=by omega
  subst this;exact⟨λ_ _=>rfl,_,wau _,hQ⟩
theorem mrg_ok(hP:C.P=Tryz.prog)(hL:∀w,C.laid w->LaidW w):wah C 61 S_mrg:=by
 rintro args objs U Os vc hh hvc;unfold S_mrg at hh;split at hh<;>simp only[sI7,pI7,reduceCtorEq] at hh;rename_i n f m h;obtain⟨rfl,rfl,rfl⟩:=hh;obtain⟨hn,hm,hf,hh,s1,s2⟩:=hvc;generalize mgOf f=g at *;generalize mgOf h=j at *;subst hf;subst hh;refine wah.wpL (prg hP) [(113,.rel wo3),(72,.det wcf),(114,.rel wot),(116,.rel wo4)] [(3,L_mg (catG (nn2 n m) (gg2 g j) 2) (sumN (nn2 n m) 2))] 0 (.cons (w77 hP) (.cons (wjb hP hL) (.cons (w0o hP) (.cons (w8a hP) .nil)))) (hP ▸ Tryz.func61) rfl rfl rfl [(wam Tryz.f61 3,L_mg (catG (nn2 n m) (gg2 g j) 2) (sumN (nn2 n m) 2))] (by kernel_rfl) ⟨mg_loop hP hL _ _,trivial⟩ ?_;rw[nf_mrg];obtain⟨c1,c2,c3⟩:=cat2 g n j m;have two:∀ {p:Nat->Prop},p 0->p 1->∀i,i<2->p i:=λh0 h1 i hi=>by
  match i,hi with
  |0,_=>exact h0
  |1,_=>exact h1
 have sm:∀i,i<n+m->(catG (nn2 n m) (gg2 g j) 2 i).Sm:=λi hi=>by
  rcases c3 i hi with⟨q,e⟩ | ⟨q1,q2,e⟩
  .rw[e];exact s1 i q
  .rw[e];exact s2 _ q1
 refine⟨⟨by omega,rfl,by omega⟩,two rfl rfl,nn2 n m,gg2 g j,rfl,rfl,rfl,by omega,two rfl rfl,by rw[c1];omega,two rfl rfl,⟨rfl,⟨rfl,rfl,rfl,rfl,rfl,λi hi=>absurd hi (nZ7 i)⟩,trivial⟩,?_⟩;have hfl:flL (catG (nn2 n m) (gg2 g j) 2) (n+m)=(lst g n++lst j m).filter okM:=by unfold flL;rw[c2]
 have hlen:=wxy (catG (nn2 n m) (gg2 g j) 2) (n+m);have hLd:mrgL g n j m=mrgF (lst g n++lst j m):=rfl;rw[c1];generalize catG (nn2 n m) (gg2 g j) 2=cc at *;generalize hF:flL cc (n+m)=Fl at *;refine⟨by omega,sm,λ_ _=>rfl,rfl,rfl,rfl,by omega,rfl,λh1 hp hs=>⟨λ_ _=>rfl,λ_ _=>rfl,rfl,rfl,rfl,by omega,rfl,λk h2 hd=>?_⟩⟩;have hp:(lst h1 Fl.length).Perm (lst (atM Fl) Fl.length):=hp;have hd:lst h2 k=ddL h1 Fl.length:=hd;rw[wws] at hp;obtain⟨a1,a2⟩:=w7z hs;have hM:ddL h1 Fl.length=mrgL g n j m:=by
  refine w5w a1 λx=>?_;rw[a2,hp.mem_iff,hfl,List.mem_filter];unfold okM;rw[decide_eq_true_eq]
 rw[hM] at hd;show _/\_/\∃O',wai _ O'/\AV.own 0 k= .own 0 (mrgL g n j m).length/\O'=[(0,.row 40 15 (mrgL g n j m).length (wad (atM (mrgL g n j m))) false)];generalize mrgL g n j m=M at *;obtain⟨rfl,hat⟩:=lst_isM hd;refine⟨λ_ _=>rfl,λ_ _=>rfl,[(0,.row 40 15 M.length (wad (atM M)) false)],⟨⟨rfl,rfl,rfl,rfl,rfl,λi hi=>?_⟩,trivial⟩,rfl,rfl⟩;unfold wad;rw[hat i hi]
end Go.Eng
namespace Go.Eng
theorem wj1{L:List MG}{i:Nat}(h:i<L.length):atM L i=L[i]:=by simp[atM,h]
theorem wj0{L:List MG}{i:Nat}(h:i<L.length):atM L i∈L:=by rw[wj1 h];exact List.getElem_mem h
theorem ascM_at{c:MG->MG->Int}{L:List MG}(h:Asc c L){i j:Nat}(hij:i<j)(hj:j<L.length):c (atM L i) (atM L j)<0:=by
 rw[wj1 (show i<L.length by omega),wj1 hj];exact List.pairwise_iff_getElem.1 h i j (by omega) hj hij
theorem insM_at{L:List MG}(h:Asc ordM L){m:MG}{a:Nat}(ha:a<=L.length)(h1:∀i,a<=i->i<L.length->ordM m (atM L i)<0)(h2:a=0∨¬ ordM m (atM L (a - 1))<0):
  insM L m=bif decide (0<a) && eqM (atM L (a - 1)) m then L else L.take a++m::L.drop a:=by
 have hasc:=wsh m h
 by_cases q:0<a/\atM L (a - 1)=m
 .rw[decide_eq_true q.1,wju.2 q.2];refine Asc.uniq wdl hasc h λx=>wjj.trans ⟨?_,.inr⟩;rintro(rfl | hx)
  .have:=wj0 (L:=L) (i:=a - 1) (by omega);rw[q.2] at this;exact this
  .exact hx
 .have e:(decide (0<a) && eqM (atM L (a - 1)) m)=false:=by
   by_cases z:0<a
   .cases z2:eqM (atM L (a - 1)) m with
    |false=>exact Bool.and_false _
    |true=>exact absurd ⟨z,wju.1 z2⟩ q
   .rw[decide_eq_false z];rfl
  rw[e];refine Asc.uniq wdl hasc (Asc.insert (by rw[List.take_append_drop];exact h) (λy hy=>?_) (λy hy=>?_)) λx=>wjj.trans ?_
  .obtain⟨i,hi,rfl⟩:=List.mem_iff_getElem.1 hy;rw[List.length_take] at hi;rw[List.getElem_take, ← wj1 (show i<L.length by omega)];have b:¬ ordM m (atM L (a - 1))<0:=h2.resolve_left (by omega);have ne:ordM m (atM L (a - 1))≠0:=λz=>q ⟨by omega,(wks.1 z).symm⟩;have n:=wdl.neg m (atM L (a - 1));have n':=wdl.neg (atM L (a - 1)) m;have lt:ordM (atM L (a - 1)) m<0:=by omega
   by_cases z:i=a - 1
   .rw[z];exact lt
   .exact wdl.lt_trans (ascM_at h (show i<a - 1 by omega) (by omega)) lt
  .obtain⟨i,hi,rfl⟩:=List.mem_iff_getElem.1 hy;rw[List.length_drop] at hi;rw[List.getElem_drop, ← wj1 (show a+i<L.length by omega)];exact h1 _ (by omega) (by omega)
  .show x=m∨x∈L↔x∈L.take a++m::L.drop a;rw[List.mem_append,List.mem_cons];have:x∈L↔x∈L.take a∨x∈L.drop a:=by rw[← List.mem_append,List.take_append_drop]
   rw[this];grind
def t30(nm:Nat->List UInt8)(i:Nat):List UInt8:=(nm i).take 30
theorem wdi(s:List UInt8)(k:Int):s.take (Int.toNat (min (s.length:Int) k))=s.take k.toNat:=by
 rcases Int.le_total (s.length:Int) k with h | h
 .rw[Int.min_eq_left h,tN7,List.take_length,List.take_of_length_le (by omega)]
 .rw[Int.min_eq_right h]
def web(n k:Int):Int:=n % 18446744073709551616 % k
def wn3:Spec
 |[.int .i64 n,.int .i64 k],[]=>some (.q (web n k),[],1<=k/\k<=1000000)
 |_,_=>none
def waa(n:Nat)(v:Nat->Int)(a k:Int):Int:=web (bif decide (a<n) then v a.toNat else 0) k
def wbf:Spec
 |[.ptr 0 0,.int .i64 k],[.cells [.view sz n f,.int .i64 a] t]=>some (.q (waa n (vInt f) a k),[(0,.cells [.view 1 n f,.q (a+1)] 27)],t=27/\sz=1/\f=wac (vInt f)/\(1<=k/\k<=1000000)/\(0<=a/\a<=4611686018427387904))
 |_,_=>none
def pw(V j:Nat):Nat:=V / 10 ^ j
def dgI(V k:Nat):Int:=48+((V / 10 ^ (6 - k) % 10:Nat):Int)
def wbd(V:Nat)(k:Nat):List AV:=[.int .u8 (dgI V k)]
def idV(n:Int):Nat:=1000000+(web n 1000000).toNat
def id7(n:Int):List UInt8:=waq 7 (wbd (idV n))
def idF(n:Int):List UInt8:=id7 n++[UInt8.ofNat (48+(cdF (id7 n)).1).toNat]
def S_id:Spec
 |[.int .i64 n],[]=>some (.str (idF n),[],True)
 |_,_=>none
def wn1(V:Nat)(j:Nat):St:=⟨[(3,.q (pw V j:Nat)),(4,.own 0 7),(5,.q (6 - (j:Int)))],[(0,.row 5 1 7 (λk=>[.int .u8 (bif decide (7<=k+j) then dgI V k else 0)]) false)],1,[]⟩
def L_id(V:Nat):war:=λst Q=>canonIs te 0 [3,4,5] st (wn1 V 0)/\V<2000000/\
 Q (.exit 0) ⟨[(4,.own 0 7)],[(0,.row 5 1 7 (wbd V) false)],1,[]⟩
theorem wjq{k:Int}(h:1<=k)(n:Int):0<=web n k/\web n k<k:=by
 unfold web;exact⟨Int.emod_nonneg _ (by omega),Int.emod_lt_of_pos _ (by omega)⟩
theorem wa0{k:Int}(h:1<=k)(n:Nat)(v:Nat->Int)(a:Int):0<=waa n v a k/\waa n v a k<k:=wjq h _
theorem wy6(s:List UInt8):0<=(cdF s).1/\(cdF s).1<=9:=by
 unfold cdF;split
 .show 0<=(10 - wa9 s s.length % 10) % 10/\(10 - wa9 s s.length % 10) % 10<=9;omega
 .exact⟨by decide,by decide⟩
theorem wjl(n:Int):(id7 n).length=7:=by simp[id7,waq]
theorem wxd(n:Int):(idF n).length=8:=by rw[idF,lA7,wjl];rfl
theorem w7y(V k:Nat):48<=dgI V k/\dgI V k<=57:=by
 unfold dgI;have:=Nat.mod_lt (V / 10 ^ (6 - k)) (show 0<10 by omega);omega
theorem u8_to{n:Int}(h0:0<=n)(h1:n<256):((UInt8.ofNat n.toNat).toNat:Int)=n:=by
 rw[UInt8.toNat_ofNat'];have:n.toNat % 2 ^ 8=n.toNat:=Nat.mod_eq_of_lt (by omega);omega
theorem id7_dig(n:Int):(id7 n).all wbj=true:=by
 unfold id7 waq;rw[List.all_map,List.all_eq_true];intro k _;have h:=w7y (idV n) k;have e:=u8_to (n:=dgI (idV n) k) (by omega) (by omega);show wbj (UInt8.ofNat (dgI (idV n) k).toNat)=true;unfold wbj;rw[bA7,decide_eq_true_eq,decide_eq_true_eq];omega
theorem wd9(n:Int):wbc (idF n)=true:=by
 have hc:=wy6 (id7 n);have e:=u8_to (n:=48+(cdF (id7 n)).1) (by omega) (by omega);have hd:wbm (idF n) 8 13=true:=by
  unfold wbm;rw[wxd,bA7];refine⟨rfl,?_⟩;unfold idF;rw[List.all_append,id7_dig,List.all_cons];unfold wbj;rw[Bool.true_and,List.all_nil,Bool.and_true,bA7,decide_eq_true_eq,decide_eq_true_eq];omega
 have ht:(idF n).take 7=id7 n:=by unfold idF;rw[← wjl n];exact List.take_left
 have hg:(idF n).getD 7 0=UInt8.ofNat (48+(cdF (id7 n)).1).toNat:=by
  unfold idF;rw[List.getD_eq_getElem?_getD,List.getElem?_append_right (by rw[wjl];exact lR7 _),wjl];rfl
 unfold wbc;rw[hd,wxd];show decide ((cdF ((idF n).take 7)).1=(((idF n).getD 7 0).toNat:Int) - 48)=true;rw[ht,hg,e,decide_eq_true_eq];omega
def wb5(g:Nat->RW):Nat->Bool
 |0=>true
 |k+1=>wb5 g k && rowF (g k)
def svF(g:Nat->RW)(n:Nat):Int:=bif decide (24000<n) then 130 else bif wb5 g n then 0 else 131
def wmt:Spec
 |[.str s],[]=>some (.bool (wa5 s),[],s.length<4294967281)
 |_,_=>none
def wc4:Spec
 |[.agg [.str o,.str p,.int .i64 per,.int .i64 u,.int .i64 tv]],[]=>some (.bool (rowF ⟨o,p,per,u,tv⟩),[],o.length<4294967281)
 |_,_=>none
def wei:Spec
 |[.view 5 n f],[]=>some (.q (svF (rwOf f) n),[],n<=1000000/\f=wae (rwOf f)/\∀i,i<n->(rwOf f i).o.length<4294967281)
 |_,_=>none
def S_sv(g:Nat->RW)(n k:Nat):St:=⟨[(8,.view 5 n (wae g)),(9,.q n),(10,.q k)],[],0,[]⟩
def L_sv(g:Nat->RW)(n:Nat):war:=λst Q=>canonIs te 0 [8,9,10] st (S_sv g n 0)/\n<=24000/\(∀i,i<n->(g i).o.length<4294967281)/\
 wab (wb5 g n) (Q (.exit 0) ⟨[],[],0,[]⟩) (Q .ret ⟨[(2,.q 131)],[],0,[]⟩)
def entC(L:List RW):List (AV×AV):=L.map λr=>(.agg [.str r.o,.str r.p,.q r.per],.agg [.str r.o,.str r.p,.q r.per,.q r.u,.q r.tv])
def atR(L:List RW)(i:Nat):RW:=L.getD i default
def wcl(g:Nat->RW)(n:Nat):List RW:=bif decide (svF g n=0) then srtR (wa3 g n) else []
def wob:Spec
 |[.view 5 n f],[]=>some (.tuple [.view 5 (wcl (rwOf f) n).length (wae (atR (wcl (rwOf f) n))),.q (svF (rwOf f) n)],[],n<=1000000/\f=wae (rwOf f)/\∀i,i<n->(rwOf f i).o.length<4294967281)
 |_,_=>none
def S_cb(g:Nat->RW)(n k:Nat):St:=⟨[(5,.map 0),(18,.view 5 n (wae g)),(19,.q n),(20,.q k)],[(0,.amap (entC (wa3 g k)))],1,[]⟩
def L_cb(g:Nat->RW)(n:Nat):war:=λst Q=>canonIs te 0 [5,18,19,20] st (S_cb g n 0)/\n<=24000/\(∀i,i<n->rowF (g i)=true)/\Q (.exit 0) ⟨[(5,.map 0)],[(0,.amap (entC (wa3 g n)))],1,[]⟩
structure IT where
 c:Nat
 h:Nat->RW
 c0:Nat
 left:List Nat
def S_cr(L:List RW)(i:IT):St:=⟨[(9,.own 0 i.c),(52,.ptr 1 0)],[(0,.row 61 5 i.c (wae i.h) false),(1,.miter 2 (entC L).length (175::i.c0::i.left)),(2,.amap (entC L))],3,[]⟩
def L_cr(L:List RW):war:=λst Q=>canonIs te 0 [9,52] (ownNil 9 61 5 st) (S_cr L ⟨0,λ_=>default,(entC L).length,List.range (entC L).length⟩)/\L.length<=24000/\
 ∀h:Nat->RW,(lst h L.length).Perm L->Q (.exit 2) ⟨[(9,.own 0 L.length)],[(0,.row 61 5 L.length (wae h) false)],1,[]⟩
def outF(i:Int):List UInt8:=List.getD [[111,49],[111,50],[112]] i.toNat []
def wdc:Spec
 |[.ptr 0 0],[.cells [.view sz n f,.int .i64 a] t]=>some (.str (outF (waa n (vInt f) a 3)),[(0,.cells [.view 1 n f,.q (a+1)] 27)],t=27/\sz=1/\f=wac (vInt f)/\(0<=a/\a<=4611686018427387000))
 |_,_=>none
def wdb:Spec
 |[.ptr 0 0],[.cells [.view sz n f,.int .i64 a] t]=>some (.str (idF (waa n (vInt f) a 4)),[(0,.cells [.view 1 n f,.q (a+1)] 27)],t=27/\sz=1/\f=wac (vInt f)/\(0<=a/\a<=4611686018427387000))
 |_,_=>none
def rowV(n:Nat)(v:Nat->Int)(a:Int):RW:=⟨outF (waa n v (a+1) 3),idF (waa n v (a+1+1) 4),1440+waa n v (a+1+1+1) 4,1+waa n v a 20,(1+waa n v a 20) * (90+waa n v (a+1+1+1+1) 30)+waa n v (a+1+1+1+1+1) 3⟩
def wfw:Spec
 |[.ptr 0 0],[.cells [.view sz n f,.int .i64 a] t]=>some (.agg [.str (rowV n (vInt f) a).o,.str (rowV n (vInt f) a).p,.q (rowV n (vInt f) a).per,.q (rowV n (vInt f) a).u,.q (rowV n (vInt f) a).tv],[(0,.cells [.view 1 n f,.q (a+1+1+1+1+1+1)] 27)],
   t=27/\sz=1/\f=wac (vInt f)/\(0<=a/\a<=4611686018427380000))
 |_,_=>none
end Go.Eng
namespace Go.Eng
open Go.Lib
structure BK where
 up:Int
 pr:Int
structure RT where
 o:List UInt8
 p:List UInt8
 per:Int
 st:Int
 bs:List BK
structure FL where
 id:List UInt8
 ver:Int
 day:Int
 kind:Int
 ms:List MG
 rs:List RW
 ts:List RT
def numE(n:Int):List UInt8:=itoa n++[44]
def txtE(s:List UInt8):List UInt8:=itoa s.length++58::(s++[44])
def mgE(m:MG):List UInt8:=txtE m.dev++(numE m.seq++(numE m.kind++(txtE m.v.o++(txtE m.v.p++(numE m.v.per++(numE m.v.day++(numE m.v.st++(numE m.v.pr++(txtE m.v.rep++(txtE m.d.o++(txtE m.d.p++(numE m.d.per++(txtE m.d.dev++numE m.d.num)))))))))))))
def rwE(r:RW):List UInt8:=txtE r.o++(txtE r.p++(numE r.per++(numE r.u++numE r.tv)))
def bkE(b:BK):List UInt8:=numE b.up++numE b.pr
def rtE(t:RT):List UInt8:=txtE t.o++(txtE t.p++(numE t.per++(numE t.st++(numE t.bs.length++t.bs.flatMap bkE))))
def encF(f:FL):List UInt8:=txtE f.id++(numE f.ver++(numE f.kind++(numE f.ms.length++(f.ms.flatMap mgE++(numE f.rs.length++(f.rs.flatMap rwE++(numE f.ts.length++f.ts.flatMap rtE)))))))
end Go.Eng
namespace Go.Eng
def wio:FL:=⟨[],0,0,0,[],[],[]⟩
def atF(L:List FL)(i:Nat):FL:=L.getD i wio
theorem atF_get{L:List FL}{i:Nat}(h:i<L.length):atF L i=L[i]:=by simp[atF,h]
theorem wte{L:List FL}{i:Nat}(h:i<L.length):atF L i∈L:=by rw[atF_get h];exact List.getElem_mem h
def edM(f:FL):MG:=⟨f.id,f.ver,0,⟨[],[],0,0,0,0,[]⟩,⟨[],[],0,[],0⟩⟩
def atB(L:List BK)(i:Nat):BK:=L.getD i ⟨0,0⟩
def lowB(bs:List BK):Nat->Int
 |0=>0
 |k+1=>(atB bs k).up
def bkOK(bs:List BK)(i:Nat):Bool:=decide (0<=(atB bs i).pr) && (decide ((atB bs i).pr<=1099511627776) && (bif decide (i+1=bs.length) then decide ((atB bs i).up=0) else decide (lowB bs i<(atB bs i).up) && decide ((atB bs i).up<=1099511627776)))
def bksB(bs:List BK):Nat->Bool
 |0=>true
 |k+1=>bksB bs k && bkOK bs k
def tfF(st:Int)(bs:List BK):Int:=bif !(decide (0<=st) && decide (st<=1099511627776)) then 140 else bif decide (bs.length<1) || decide (8<bs.length) then 141 else bif bksB bs bs.length then 0 else 141
def rtOK(t:RT):Bool:=wbi t.o t.p t.per && decide (tfF t.st t.bs=0)
def ctF(f:FL):Bool:=bif decide (f.kind=1) then decide (f.rs.length+f.ts.length=0) && (decide (f.ms.length<=400) && f.ms.all λm=>decide (msgF m=0))
 else bif decide (f.kind=2) then decide (f.ms.length+f.ts.length=0) && (decide (f.rs.length<=400) && f.rs.all rowF)
 else decide (f.ms.length+f.rs.length=0) && (decide (f.ts.length<=400) && f.ts.all rtOK)
def vinF(f:FL):Int:=bif !wa5 f.id then 150 else bif decide (f.ver<1) || decide (1000<f.ver) || (decide (f.kind=1) && !decide (f.ver=1)) then 151 else bif decide (f.day<0) || decide (182620<f.day) then 152
 else bif decide (f.kind<1) || decide (3<f.kind) then 153 else bif !ctF f then 154 else 0
def wdf:RT:=⟨[],[],0,0,[]⟩
def atT(L:List RT)(i:Nat):RT:=L.getD i wdf
theorem whv{L:List RT}{i:Nat}(h:i<L.length):atT L i=L[i]:=by simp[atT,h]
theorem wfs{L:List RT}{i:Nat}(h:i<L.length):atT L i∈L:=by rw[whv h];exact List.getElem_mem h
def wbb(a b:RT):Int:=orL [cmpS a.o b.o,cmpS a.p b.p,cmpI a.per b.per]
theorem wge:PreC wbb:=(wc9.comap RT.o).or ((wc9.comap RT.p).or ((wdo.comap RT.per).or .nil))
def sameT(a b:RT):Bool:=decide (a.o=b.o) && (decide (a.p=b.p) && decide (a.per=b.per))
theorem wq7{a b:RT}:sameT a b=true↔wbb a b=0:=by
 simp only[wbb,wi8,wcx,ws6,show orL []=0 from rfl,and_true,sameT,bA7,decide_eq_true_eq]
theorem wq6(a:RT):sameT a a=true:=by simp[sameT]
theorem wq5{a b:RT}(h:sameT a b=true):sameT b a=true:=by
 simp only[sameT,bA7,decide_eq_true_eq] at h ⊢;exact⟨h.1.symm,h.2.1.symm,h.2.2.symm⟩
theorem wq4{a b c:RT}(h:sameT a b=true)(k:sameT b c=true):sameT a c=true:=by
 simp only[sameT,bA7,decide_eq_true_eq] at h k ⊢;exact⟨h.1.trans k.1,h.2.1.trans k.2.1,h.2.2.trans k.2.2⟩
def fstT(ts:List RT)(s:RT):Nat->Option RT
 |0=>none
 |k+1=>match fstT ts s k with
  |some r=>some r
  |none=>bif rtOK (atT ts k) && sameT (atT ts k) s then some (atT ts k) else none
def wd3(F:Nat->FL)(s:RT):Nat->Option RT
 |0=>none
 |k+1=>match fstT (F k).ts s (F k).ts.length with
  |some r=>some r
  |none=>wd3 F s k
theorem wsp{ts:List RT}{s r:RT}:∀ {k},fstT ts s k=some r->rtOK r=true/\sameT r s=true
 |0,h=>by cases h
 |k+1,h=>by
  rw[fstT] at h
  cases q:fstT ts s k with
  |some x=>rw[q] at h;obtain rfl:=oJ7 h;exact wsp q
  |none=>
   rw[q] at h;dsimp only at h
   cases z:rtOK (atT ts k) && sameT (atT ts k) s with
   |false=>rw[z] at h;cases h
   |true=>
    rw[z] at h;obtain rfl:=oJ7 h;exact Bool.and_eq_true_iff.1 z
theorem wu1{a s s':RT}(h:sameT s s'=true):sameT a s=sameT a s':=by
 rw[Bool.eq_iff_iff];exact⟨λk=>wq4 k h,λk=>wq4 k (wq5 h)⟩
theorem whj{ts:List RT}{s s':RT}(h:sameT s s'=true):∀k,fstT ts s k=fstT ts s' k
 |0=>rfl
 |k+1=>by rw[fstT,fstT,whj h k,wu1 h]
def upT(L:List RT)(r:RT):Nat->Nat->Nat
 |0,a=>a
 |k+1,a=>bif decide (a<L.length) && decide (wbb (atT L a) r<0) then upT L r k (a+1) else a
theorem wt5(L:List RT)(r:RT):∀k a,L.length<=a+k->a<=L.length->(∀i,i<a->wbb (atT L i) r<0)->
  upT L r k a<=L.length/\(∀i,i<upT L r k a->wbb (atT L i) r<0)/\(upT L r k a<L.length->¬ wbb (atT L (upT L r k a)) r<0)
 |0,a,h1,h2,h3=>⟨h2,h3,λh=>by have:a<L.length:=h;omega⟩
 |k+1,a,h1,h2,h3=>by
  rw[upT]
  cases q:decide (a<L.length) && decide (wbb (atT L a) r<0) with
  |true=>
   rw[bA7,decide_eq_true_eq,decide_eq_true_eq] at q;exact wt5 L r k (a+1) (by omega) (by omega) λi hi=>by
    by_cases z:i=a
    .rw[z];exact q.2
    .exact h3 i (by omega)
  |false=>
   refine⟨h2,h3,λh=>?_⟩;have h:a<L.length:=h;rw[decide_eq_true h,Bool.true_and,decide_eq_false_iff_not] at q;exact q
def plT(L:List RT)(r:RT):Nat:=upT L r L.length 0
theorem wrn(L:List RT)(r:RT):plT L r<=L.length/\(∀i,i<plT L r->wbb (atT L i) r<0)/\(plT L r<L.length->¬ wbb (atT L (plT L r)) r<0):=
 wt5 L r L.length 0 (by omega) (zL7 _) λi hi=>absurd hi (nZ7 i)
def insT(L:List RT)(r:RT):List RT:=bif decide (plT L r<L.length) && !decide (wbb r (atT L (plT L r))<0) then L else L.take (plT L r)++r::L.drop (plT L r)
theorem ascT_at{L:List RT}(h:Asc wbb L){i j:Nat}(hij:i<j)(hj:j<L.length):wbb (atT L i) (atT L j)<0:=by
 rw[whv (show i<L.length by omega),whv hj];exact List.pairwise_iff_getElem.1 h i j (by omega) hj hij
theorem w6u{L:List RT}(h:Asc wbb L)(r:RT):Asc wbb (insT L r)/\∀x,x∈insT L r↔x∈L∨(x=r/\∀y∈L,sameT y r=false):=by
 obtain⟨h1,h2,h3⟩:=wrn L r;unfold insT;generalize plT L r=a at *;have n1:=λx=>wge.neg (c:=wbb) x r
 by_cases q:a<L.length/\¬ wbb r (atT L a)<0
 .rw[decide_eq_true q.1,decide_eq_false q.2];have e:sameT (atT L a) r=true:=wq7.2 (by have:=h3 q.1;have:=wge.neg (atT L a) r;have:=q.2;omega);refine⟨h,λx=>⟨.inl,?_⟩⟩;rintro(hx | ⟨rfl,hy⟩)
  .exact hx
  .have:=hy _ (wfs q.1);rw[e] at this;cases this
 .have e:(decide (a<L.length) && !decide (wbb r (atT L a)<0))=false:=by
   by_cases z:a<L.length
   .have:wbb r (atT L a)<0:=by
     by_cases z2:wbb r (atT L a)<0
     .exact z2
     .exact absurd ⟨z,z2⟩ q
    rw[decide_eq_true this];exact Bool.and_false _
   .rw[decide_eq_false z];rfl
  rw[e,cond_false];have up:∀i,a<=i->i<L.length->wbb r (atT L i)<0:=λi h4 h5=>by
   have:wbb r (atT L a)<0:=by
    by_cases z2:wbb r (atT L a)<0
    .exact z2
    .exact absurd ⟨by omega,z2⟩ q
   by_cases z:i=a
   .rw[z];exact this
   .exact wge.lt_trans this (ascT_at h (by omega) h5)
  refine⟨Asc.insert (by rw[List.take_append_drop];exact h) (λy hy=>?_) (λy hy=>?_),λx=>?_⟩
  .obtain⟨i,hi,rfl⟩:=List.mem_iff_getElem.1 hy;rw[List.length_take] at hi;rw[List.getElem_take, ← whv (by omega)];exact h2 i (by omega)
  .obtain⟨i,hi,rfl⟩:=List.mem_iff_getElem.1 hy;rw[List.length_drop] at hi;rw[List.getElem_drop, ← whv (by omega)];exact up _ (by omega) (by omega)
  .have mem:x∈L↔x∈L.take a∨x∈L.drop a:=by rw[← List.mem_append,List.take_append_drop]
   rw[List.mem_append,List.mem_cons,mem];have no:∀y∈L,sameT y r=false:=λy hy=>by
    obtain⟨i,hi,rfl⟩:=List.mem_iff_getElem.1 hy;rw[← whv hi]
    cases z:sameT (atT L i) r with
    |false=>rfl
    |true=>
     have z:=wq7.1 z
     by_cases w:i<a
     .have:=h2 i w;omega
     .have k1:=up i (by omega) hi;have k2:=wge.neg (atT L i) r;omega
   constructor
   .rintro(k | rfl | k)
    .exact .inl (.inl k)
    .exact .inr ⟨rfl,no⟩
    .exact .inl (.inr k)
   .rintro((k | k) | ⟨rfl,_⟩)
    .exact .inl k
    .exact .inr (.inr k)
    .exact .inr (.inl rfl)
def rfI(ts:List RT)(L:List RT):Nat->List RT
 |0=>L
 |k+1=>bif rtOK (atT ts k) then insT (rfI ts L k) (atT ts k) else rfI ts L k
theorem wvj{ts L:List RT}(h:Asc wbb L):∀k,Asc wbb (rfI ts L k)/\∀x,x∈rfI ts L k↔x∈L∨(fstT ts x k=some x/\∀y∈L,sameT y x=false)
 |0=>⟨h,λx=>by simp[rfI,fstT]⟩
 |k+1=>by
  obtain⟨ih1,ih2⟩:=wvj h (ts:=ts) k;rw[rfI]
  cases q:rtOK (atT ts k) with
  |false=>
   refine⟨ih1,λx=>?_⟩;rw[cond_false,ih2,fstT,q,Bool.false_and]
   cases z:fstT ts x k with
   |none=>simp
   |some y=>simp
  |true=>
   obtain⟨j1,j2⟩:=w6u ih1 (atT ts k);refine⟨j1,λx=>?_⟩;rw[cond_true,j2,ih2,fstT,q,Bool.true_and]
   constructor
   .rintro((hx | ⟨h1,h2⟩) | ⟨rfl,h1⟩)
    .exact .inl hx
    .exact .inr ⟨by rw[h1],h2⟩
    .refine .inr ⟨?_,λy hy=>h1 y ((ih2 y).2 (.inl hy))⟩;have hn:fstT ts (atT ts k) k=none:=by
      cases z:fstT ts (atT ts k) k with
      |none=>rfl
      |some y=>
       obtain⟨_,e⟩:=wsp z
       by_cases w:∃u∈L,sameT u y=true
       .obtain⟨u,hu,hs⟩:=w;have:=h1 u ((ih2 u).2 (.inl hu));rw[wq4 hs e] at this;cases this
       .have hy:y∈rfI ts L k:=(ih2 y).2 (.inr ⟨by rw[whj e];exact z,λu hu=>by
         cases v:sameT u y with
         |false=>rfl
         |true=>exact absurd ⟨u,hu,v⟩ w⟩)
        have:=h1 y hy;rw[e] at this;cases this
     rw[hn];dsimp only
     rw[wq6];rfl
   .rintro(hx | ⟨h1,h2⟩)
    .exact .inl (.inl hx)
    .cases z:fstT ts x k with
     |some y=>
      rw[z] at h1;obtain rfl:=oJ7 h1;exact .inl (.inr ⟨rfl,h2⟩)
     |none=>
      rw[z] at h1;dsimp only at h1
      cases w:sameT (atT ts k) x with
      |false=>rw[w] at h1;cases h1
      |true=>
       rw[w] at h1;obtain rfl:=oJ7 h1;refine .inr ⟨rfl,λy hy=>?_⟩
       rcases(ih2 y).1 hy with hy | ⟨e1,_⟩
       .exact h2 y hy
       .cases v:sameT y (atT ts k) with
        |false=>rfl
        |true=>
         rw[whj v,z] at e1
         cases e1
def rfT(F:Nat->FL)(n:Nat):Nat->List RT
 |0=>[]
 |m+1=>rfI (F (n - 1 - m)).ts (rfT F n m) (F (n - 1 - m)).ts.length
def topT(F:Nat->FL)(n:Nat)(s:RT):Nat->Option RT
 |0=>none
 |m+1=>match topT F n s m with
  |some r=>some r
  |none=>fstT (F (n - 1 - m)).ts s (F (n - 1 - m)).ts.length
theorem wqm{F:Nat->FL}{n:Nat}{s s':RT}(h:sameT s s'=true):∀m,topT F n s m=topT F n s' m
 |0=>rfl
 |m+1=>by rw[topT,topT,wqm h m,whj h]
theorem wuc{F:Nat->FL}{n:Nat}{s r:RT}:∀ {m},topT F n s m=some r->rtOK r=true/\sameT r s=true
 |0,h=>by cases h
 |m+1,h=>by
  rw[topT] at h
  cases q:topT F n s m with
  |some x=>rw[q] at h;obtain rfl:=oJ7 h;exact wuc q
  |none=>rw[q] at h;exact wsp h
theorem wrf(F:Nat->FL)(n:Nat):∀m,Asc wbb (rfT F n m)/\∀x,x∈rfT F n m↔topT F n x m=some x
 |0=>⟨List.Pairwise.nil,λx=>by simp[rfT,topT]⟩
 |m+1=>by
  obtain⟨ih1,ih2⟩:=wrf F n m;obtain⟨j1,j2⟩:=wvj (ts:=(F (n - 1 - m)).ts) ih1 (F (n - 1 - m)).ts.length;refine⟨j1,λx=>?_⟩;rw[rfT,j2,topT]
  constructor
  .rintro(hx | ⟨h1,h2⟩)
   .rw[(ih2 x).1 hx]
   .have:topT F n x m=none:=by
     cases z:topT F n x m with
     |none=>rfl
     |some y=>
      obtain⟨_,e⟩:=wuc z;have:=h2 y ((ih2 y).2 (by rw[wqm e];exact z));rw[e] at this;cases this
    rw[this];exact h1
  .intro h
   cases z:topT F n x m with
   |some y=>
    rw[z] at h;obtain rfl:=oJ7 h;exact .inl ((ih2 _).2 z)
   |none=>
    rw[z] at h;refine .inr ⟨h,λy hy=>?_⟩
    cases v:sameT y x with
    |false=>rfl
    |true=>
     have:=(ih2 y).1 hy;rw[wqm v,z] at this
     cases this
theorem wub(F:Nat->FL)(n:Nat)(s:RT):∀m,m<=n->wd3 F s n=(match topT F n s m with
  |some r=>some r
  |none=>wd3 F s (n - m))
 |0,_=>rfl
 |m+1,h=>by
  rw[wub F n s m (by omega),topT]
  cases topT F n s m with
  |some r=>rfl
  |none=>
   dsimp only
   have e:n - m=(n - 1 - m)+1:=by omega
   rw[e,wd3,show n - (m+1)=n - 1 - m by omega]
theorem wvi{F:Nat->FL}{n:Nat}{x:RT}:x∈rfT F n n↔wd3 F x n=some x:=by
 rw[(wrf F n n).2,wub F n x n (lR7 n),Nat.sub_self]
 cases topT F n x n with
 |some r=>rfl
 |none=>rfl
def devF(i:Int):List UInt8:=List.getD [[97],[98],[99]] i.toNat []
def wib:Spec
 |[.ptr 0 0],[.cells [.view sz n f,.int .i64 a] t]=>some (.str (devF (waa n (vInt f) a 3)),[(0,.cells [.view 1 n f,.q (a+1)] 27)],t=27/\sz=1/\f=wac (vInt f)/\(0<=a/\a<=4611686018427387000))
 |_,_=>none
structure VT.Made (x:VT):Prop where
 ok:visF x=true
 o:x.o.length<=2
def woo:wbp
 |[.ptr 0 0],[.cells [.view sz n f,.int .i64 a] t],R=>t=27/\sz=1/\f=wac (vInt f)/\(0<=a/\a<=4611686018427386000)/\
   ∀(x:VT) (a':Int),x.Made->(a<=a'/\a'<=a+7)->
   R (.agg [.str x.o,.str x.p,.q x.per,.q x.day,.q x.st,.q x.pr,.str x.rep]) [(0,.cells [.view 1 n f,.q a'] 27)]
 |_,_,_=>False
structure MG.Made (m:MG):Prop where
 ok:msgF m=0
 dev:m.dev.length<=1
 o:m.v.o.length<=2
 o':m.d.o.length<=2
 dd:m.d.dev.length<=1
def wii:wbp
 |[.ptr 0 0],[.cells [.view sz n f,.int .i64 a] t],R=>t=27/\sz=1/\f=wac (vInt f)/\(0<=a/\a<=4611686018427385000)/\
   ∀(m:MG) (a':Int),m.Made->(a<=a'/\a'<=a+10)->
   R (.agg [.str m.dev,.q m.seq,.q m.kind,.str m.v.o,.str m.v.p,.q m.v.per,.q m.v.day,.q m.v.st,.q m.v.pr,.str m.v.rep,.str m.d.o,.str m.d.p,.q m.d.per,.str m.d.dev,.q m.d.num]) [(0,.cells [.view 1 n f,.q a'] 27)]
 |_,_,_=>False
theorem idF4:∀i,i<4->¬ idF 4=idF (i:Nat):=by decide+kernel
theorem wl0:∀i,i<3->wa5 (List.getD [[97],[98],[99]] i [])=true/\(List.getD [[97],[98],[99]] i ([]:List UInt8)).length<=1:=by decide+kernel
def wej:Spec
 |[.str o,.str p,.int .i64 per],[]=>some (.bool (wbi o p per),[],o.length<4294967281)
 |_,_=>none
def wnc:Spec
 |[.int .i64 p],[]=>some (.bool (decide (0<=p) && decide (p<=5999)),[],True)
 |_,_=>none
def wih:Spec
 |[.agg [.str o,.str p,.int .i64 per,.int .i64 u,.int .i64 tv],.agg [.str o',.str p',.int .i64 per',.int .i64 u',.int .i64 tv']],[]=>some (.bool (decide (keyC ⟨o,p,per,u,tv⟩ ⟨o',p',per',u',tv'⟩<0)),[],True)
 |_,_=>none
def S_rv(g:Nat->RW)(n k:Nat):St:=⟨[(8,.view 5 n (wae g)),(9,.q n),(10,.q k)],[],0,[]⟩
def L_rv(g:Nat->RW)(n:Nat):war:=λst Q=>canonIs te 0 [8,9,10] st (S_rv g n 0)/\n<=24000/\(∀i,i<n->(g i).o.length<4294967281)/\
 wab (wb5 g n) (Q (.exit 0) ⟨[],[],0,[]⟩) (Q .ret ⟨[(2,.q 131)],[],0,[]⟩)
structure RX where
 k:Nat
 L:List RW
def plc:List RW->RW->Nat
 |[],_=>0
 |x::l,r=>bif decide (keyC x r<0) then plc l r+1 else 0
def S_rc(g:Nat->RW)(n:Nat)(i:RX):St:=⟨[(5,.own 0 i.L.length),(15,.view 5 n (wae g)),(16,.q n),(17,.q i.k)],[(0,.row 61 5 i.L.length (wae (atR i.L)) false)],1,[]⟩
def S_rj(g:Nat->RW)(n len:Nat)(h:Nat->RW)(x:RW)(k a:Nat):St:=⟨[(5,.own 0 len),(7,.ptr 1 0),(8,.q a),(15,.view 5 n (wae g)),(16,.q n),(17,.q k)],
 [(0,.row 61 5 len (wae h) false),(1,.cells [.str x.o,.str x.p,.q x.per,.q x.u,.q x.tv] 61)],2,[]⟩
def S_ri(g:Nat->RW)(n:Nat)(i:RX)(a:Nat):St:=S_rj g n i.L.length (atR i.L) (g i.k) i.k a
def L_ri(g:Nat->RW)(n:Nat)(i:RX):war:=λst Q=>canonIs te 0 [5,7,8,15,16,17] st (S_ri g n i 0)/\i.L.length<=24000/\
 Q (.exit 2) (S_rj g n i.L.length (atR i.L) (g i.k) i.k (plc i.L (g i.k)))
def setU(h:Nat->RW)(a:Nat)(x:RW)(j:Nat):RW:=if j=a then ⟨(h a).o,(h a).p,(h a).per,(h a).u+x.u,(h a).tv⟩ else h j
def setT(h:Nat->RW)(a:Nat)(x:RW)(j:Nat):RW:=if j=a then ⟨(h a).o,(h a).p,(h a).per,(h a).u,(h a).tv+x.tv⟩ else h j
def wpq(g:Nat->RW)(n len:Nat)(h:Nat->RW)(x:RW)(k a:Nat):war:=λst Q=>canonIs te 0 [5,7,8,15,16,17] st (S_rj g n len h x k a)/\a<len/\inR .i64 ((h a).u+x.u)/\Q .normal (S_rj g n len (setU h a x) x k a)
def wpp(g:Nat->RW)(n len:Nat)(h:Nat->RW)(x:RW)(k a:Nat):war:=λst Q=>canonIs te 0 [5,7,8,15,16,17] st (S_rj g n len h x k a)/\a<len/\inR .i64 ((h a).tv+x.tv)/\Q .normal (S_rj g n len (setT h a x) x k a)
def L_rc(g:Nat->RW)(n:Nat):war:=λst Q=>canonIs te 0 [5,15,16,17] (ownNil 5 61 5 st) (S_rc g n ⟨0,[]⟩)/\n<=24000/\(∀i,i<n->rowF (g i)=true)/\
 Q (.exit 0) ⟨[(5,.own 0 (srtR (wa3 g n)).length)],[(0,.row 61 5 (srtR (wa3 g n)).length (wae (atR (srtR (wa3 g n)))) false)],1,[]⟩
def wcv(g h:Nat->RW):Nat->Bool
 |0=>true
 |k+1=>wcv g h k && (decide ((g k).o=(h k).o) && (decide ((g k).p=(h k).p) && (decide ((g k).per=(h k).per) && (decide ((g k).u=(h k).u) && decide ((g k).tv=(h k).tv)))))
def wmw:Spec
 |[.view 5 n f,.view 5 m h],[]=>some (.bool (decide (n=m) && wcv (rwOf f) (rwOf h) n),[],n<=1000000/\f=wae (rwOf f)/\h=wae (rwOf h))
 |_,_=>none
def S_sr(g h:Nat->RW)(n k:Nat):St:=⟨[(0,.view 5 n (wae g)),(1,.view 5 n (wae h)),(12,.q n),(13,.q k)],[],0,[]⟩
def L_sr(g h:Nat->RW)(n:Nat):war:=λst Q=>canonIs te 0 [0,1,12,13] st (S_sr g h n 0)/\n<=1000000/\
 wab (wcv g h n) (Q (.exit 0) ⟨[],[],0,[]⟩) (Q .ret ⟨[(4,.bool false)],[],0,[]⟩)
def wn7:Spec
 |[.agg [.str o,.str p,.int .i64 per,.str dev,.int .i64 num]],[]=>some (.bool (wbi o p per && (wa5 dev && numF num)),[],o.length<4294967281/\dev.length<4294967281)
 |_,_=>none
def wmp:Spec
 |[.str a,.str b],[]=>some (.q (cmpS a b),[],True)
 |_,_=>none
def wnf:Spec
 |[.int .i64 a,.int .i64 b],[]=>some (.q (cmpI a b),[],True)
 |_,_=>none
def eqMs(g h:Nat->MG):Nat->Bool
 |0=>true
 |k+1=>eqMs g h k && eqM (g k) (h k)
def wmv:Spec
 |[.view 15 n f,.view 15 m h],[]=>some (.bool (decide (n=m) && eqMs (mgOf f) (mgOf h) n),[],n<=1000000/\f=wad (mgOf f)/\h=wad (mgOf h))
 |_,_=>none
def S_sm(g h:Nat->MG)(n k:Nat):St:=⟨[(0,.view 15 n (wad g)),(1,.view 15 n (wad h)),(12,.q n),(13,.q k)],[],0,[]⟩
def L_sm(g h:Nat->MG)(n:Nat):war:=λst Q=>canonIs te 0 [0,1,12,13] st (S_sm g h n 0)/\n<=1000000/\
 wab (eqMs g h n) (Q (.exit 0) ⟨[],[],0,[]⟩) (Q .ret ⟨[(4,.bool false)],[],0,[]⟩)
theorem mrgL_L(L:List MG)(h:Nat->MG)(m:Nat):mrgL (atM L) L.length h m=mrgF (L++lst h m):=by unfold mrgL;rw[wws]
theorem wyc(g:Nat->MG):∀n,eqMs g g n=true
 |0=>rfl
 |n+1=>by rw[eqMs,wyc g n,wju.2 rfl];rfl
structure MgS where
 c:Nat
 g:Nat->MG
 a:Int
def MG.put(g:Nat->MG)(k:Nat)(r:MG)(i:Nat):MG:=if i<k then g i else r
def wnk(n:Nat)(v:Nat->Int)(N:Int)(i:MgS):St:=⟨[(0,.ptr 0 0),(5,.own 1 i.c),(9,.q N),(10,.q i.c)],
 [(0,.cells [.view 1 n (wac v),.q i.a] 27),(1,.row 40 15 i.c (wad i.g) false)],2,[]⟩
def wpy(n:Nat)(v:Nat->Int)(a N:Int):war:=λst Q=>canonIs te 1 [0,5,9,10] (ownNil 5 40 15 st) (wnk n v N ⟨0,λ_=>default,a⟩)/\(0<=N/\N<=100)/\(0<=a/\a<=4611686018427375000)/\
 ∀i:MgS,i.c=N.toNat->(a<=i.a/\i.a<=a+10 * i.c)->(∀j,j<i.c->(i.g j).Made)->Q (.exit 0) ⟨[(5,.own 1 i.c)],[(0,.cells [.view 1 n (wac v),.q i.a] 27),(1,.row 40 15 i.c (wad i.g) false)],2,[]⟩
def woy:wbp
 |[.ptr 0 0,.int .i64 most],[.cells [.view sz n f,.int .i64 a] t],R=>t=27/\sz=1/\f=wac (vInt f)/\(0<=a/\a<=4611686018427370000)/\(0<=most/\most<=90)/\
   ∀(c:Nat) (g:Nat->MG) (a':Int),c<=most.toNat->(a<=a'/\a'<=a+1000)->(∀j,j<c->(g j).Made)->
   R (.own 1 c) [(0,.cells [.view 1 n f,.q a'] 27),(1,.row 40 15 c (wad g) false)]
 |_,_,_=>False
def cutM(g:Nat->MG)(i:Nat):MG:=⟨(g i).dev.take 30,(g i).seq,(g i).kind,⟨(g i).v.o.take 30,(g i).v.p.take 30,(g i).v.per,(g i).v.day,(g i).v.st,(g i).v.pr,(g i).v.rep.take 30⟩,⟨(g i).d.o.take 30,(g i).d.p.take 30,(g i).d.per,(g i).d.dev.take 30,(g i).d.num⟩⟩
def wnl:Spec
 |[.view 15 n f,.view 15 m h],[]=>some (.view 15 (mrgL (mgOf f) n (mgOf h) m).length (wad (atM (mrgL (mgOf f) n (mgOf h) m))),[],
   n<=100000/\m<=100000/\f=wad (mgOf f)/\h=wad (mgOf h)/\(∀i,i<n->(mgOf f i).Sm)/\∀i,i<m->(mgOf h i).Sm)
 |_,_=>none
theorem wgj{α:Type}(L:List α)(d:α):lst (λi=>L.getD i d) L.length=L:=by
 apply List.ext_getElem?;intro i;unfold lst;rw[List.getElem?_map]
 rcases Nat.lt_or_ge i L.length with h | h
 .rw[List.getElem?_range h,Option.map_some,List.getElem?_eq_getElem h];simp[h]
 .rw[List.getElem?_eq_none (by simpa using h),List.getElem?_eq_none h];rfl
def wan(g:Nat->BK)(i:Nat):List AV:=[.q (g i).up,.q (g i).pr]
def bkOf(f:Nat->List AV)(i:Nat):BK:=match f i with
 |[.int .i64 u,.int .i64 p]=>⟨u,p⟩
 |_=>⟨0,0⟩
def wag(g:Nat->RT)(i:Nat):List AV:=[.str (g i).o,.str (g i).p,.q (g i).per,.q (g i).st,.view 2 (g i).bs.length (wan (atB (g i).bs))]
def rtOf(f:Nat->List AV)(i:Nat):RT:=match f i with
 |[.str o,.str p,.int .i64 per,.int .i64 st,.view _ n h]=>⟨o,p,per,st,lst (bkOf h) n⟩
 |_=>wdf
def waf(g:Nat->FL)(i:Nat):List AV:=[.str (g i).id,.q (g i).ver,.q (g i).day,.q (g i).kind,.view 15 (g i).ms.length (wad (atM (g i).ms)),.view 5 (g i).rs.length (wae (atR (g i).rs)),.view 5 (g i).ts.length (wag (atT (g i).ts))]
def flV(id:List UInt8)(ver day kind:Int)(nm:Nat)(fm:Nat->List AV)(nr:Nat)(fr:Nat->List AV)(nt:Nat)(ft:Nat->List AV):FL:=⟨id,ver,day,kind,lst (mgOf fm) nm,lst (rwOf fr) nr,lst (rtOf ft) nt⟩
def flOf(f:Nat->List AV)(i:Nat):FL:=match f i with
 |[.str id,.int .i64 ver,.int .i64 day,.int .i64 kind,.view _ nm fm,.view _ nr fr,.view _ nt ft]=>flV id ver day kind nm fm nr fr nt ft
 |_=>wio
theorem wgw(L:List BK):lst (bkOf (wan (atB L))) L.length=L:=wgj L _
theorem wfb(g:Nat->RT):rtOf (wag g)=g:=by
 funext i;show (⟨(g i).o,(g i).p,(g i).per,(g i).st,lst (bkOf (wan (atB (g i).bs))) (g i).bs.length⟩:RT)=g i;rw[wgw]
theorem wwl(L:List MG):lst (mgOf (wad (atM L))) L.length=L:=wgj L _
theorem wu3(L:List RW):lst (rwOf (wae (atR L))) L.length=L:=wgj L _
theorem wva(L:List RT):lst (rtOf (wag (atT L))) L.length=L:=by rw[wfb];exact wgj L _
theorem wgp(f:FL):flV f.id f.ver f.day f.kind f.ms.length (wad (atM f.ms)) f.rs.length (wae (atR f.rs)) f.ts.length (wag (atT f.ts))=f:=by
 unfold flV;rw[wwl,wu3,wva]
theorem wxx(g:Nat->FL):flOf (waf g)=g:=by
 funext i;exact wgp (g i)
structure FlC (nm:Nat) (fm:Nat->List AV) (nr:Nat) (fr:Nat->List AV) (nt:Nat) (ft:Nat->List AV):Prop where
 m:fm=wad (atM (lst (mgOf fm) nm))
 r:fr=wae (atR (lst (rwOf fr) nr))
 t:ft=wag (atT (lst (rtOf ft) nt))
theorem whm(f:FL):FlC f.ms.length (wad (atM f.ms)) f.rs.length (wae (atR f.rs)) f.ts.length (wag (atT f.ts)):=⟨by rw[wwl],by rw[wu3],by rw[wva]⟩
def woe:Spec
 |[.view 2 n f],[]=>some (.view 2 n f,[],n<=100000/\∀i,i<n->nrefL (f i)=true)
 |_,_=>none
def wif:Spec
 |[.view 15 n f],[]=>some (.view 15 n f,[],n<=100000/\∀i,i<n->nrefL (f i)=true)
 |_,_=>none
def wid:Spec
 |[.view 5 n f],[]=>some (.view 5 n f,[],n<=100000/\∀i,i<n->nrefL (f i)=true)
 |_,_=>none
def wie:Spec
 |[.view 5 0 f],[]=>some (.view 5 0 f,[],True)
 |[.view 5 (n+1) f],[]=>some (.own 0 (n+1),[(0,.row 97 5 (n+1) f false)],n+1<=100000/\∀i,i<n+1->nrefL (f i)=true)
 |_,_=>none
def wc8(F:FL):List AV:=[.str F.id,.q F.ver,.q F.day,.q F.kind,.view 15 F.ms.length (wad (atM F.ms)),.view 5 F.rs.length (wae (atR F.rs)),.view 5 F.ts.length (wag (atT F.ts))]
def S_kc(F:FL)(k:Nat):St:=⟨[(1,.ptr 0 0),(2,.ptr 1 0),(17,.own 2 F.ts.length),(18,.q F.ts.length),(19,.q k)],
 [(0,.cells [.str F.id,.q F.ver,.q F.day,.q F.kind,.view 15 F.ms.length (wad (atM F.ms)),.view 5 F.rs.length (wae (atR F.rs)),.own 2 F.ts.length] 49),(1,.cells [.str [],.q 0,.q 0,.q 0,.nil,.nil,.nil] 49),
  (2,.row 97 5 F.ts.length (wag (atT F.ts)) false)],3,[]⟩
def L_kc(F:FL):war:=λst Q=>canonIs te 0 [1,2,17,18,19] st (S_kc F 0)/\F.ts.length<=1000/\(∀t∈F.ts,t.bs.length<=1000)/\Q (.exit 0) ⟨[(1,.ptr 0 0),(2,.ptr 1 0)],[(0,.cells [.str F.id,.q F.ver,.q F.day,.q F.kind,.view 15 F.ms.length (wad (atM F.ms)),.view 5 F.rs.length (wae (atR F.rs)),.own 2 F.ts.length] 49),(1,.cells [.str [],.q 0,.q 0,.q 0,.nil,.nil,.nil] 49),
  (2,.row 97 5 F.ts.length (wag (atT F.ts)) false)],3,[]⟩
end Go.Eng
namespace Go.Eng
open Go.Lib
def digT(u:Nat):List UInt8:=if u=0 then [] else decDigits u
theorem w7x{u:Nat}(h:u≠0):digT u=digT (u / 10)++[UInt8.ofNat (48+u % 10)]:=by
 unfold digT;rw[if_neg h,decDigits]
 by_cases q:u<10
 .rw[dif_pos q,if_pos (show u / 10=0 by omega),Nat.mod_eq_of_lt q];rfl
 .rw[dif_neg q,if_neg (show ¬ u / 10=0 by omega)]
theorem ww7{n:Int}(h:n≠0):itoa n=bif decide (n<0) then 45::digT n.natAbs else digT n.natAbs:=by
 unfold itoa digT;rw[if_neg (show ¬ n.natAbs=0 by omega)]
 by_cases q:n<0
 .rw[if_pos q,decide_eq_true q];rfl
 .rw[if_neg q,decide_eq_false q,show n.natAbs=n.toNat by omega];rfl
theorem w6p:itoa 0=[48]:=by
 unfold itoa;rw[if_neg (by decide),decDigits];rfl
theorem w7w{m:Int}(h:m≠0):digT m.natAbs=digT (Int.tdiv m 10).natAbs++[UInt8.ofNat (48+(Int.tmod m 10).natAbs)]:=by
 have e1:(Int.tdiv m 10).natAbs=m.natAbs / 10:=by rw[Int.natAbs_tdiv];rfl
 have e2:(Int.tmod m 10).natAbs=m.natAbs % 10:=by rw[Int.natAbs_tmod];rfl
 rw[e1,e2];exact w7x (by omega)
theorem w6q (n : Int) (h : -9223372036854775808 ≤ n ∧ n ≤ 9223372036854775807) : (itoa n).length ≤ 20 := by
  have dl : ∀ (k u : Nat), u < 10 ^ (k + 1) → (decDigits u).length ≤ k + 1 := by
    intro k
    induction k with
    | zero => intro u hu; rw [decDigits, dif_pos (by simpa using hu)]; simp
    | succ k ih =>
      intro u hu
      rw [decDigits]
      by_cases q : u < 10
      · rw [dif_pos q]; simp
      · rw [dif_neg q, lA7]
        have := ih (u / 10) (by rw [Nat.pow_succ] at hu; omega)
        simp; omega
  unfold itoa
  by_cases q : n < 0
  · rw [if_pos q, List.length_cons]
    have := dl 18 n.natAbs (by have : (10 : Nat) ^ 19 = 10000000000000000000 := by decide
                               omega)
    omega
  · rw [if_neg q]
    have := dl 18 n.toNat (by have : (10 : Nat) ^ 19 = 10000000000000000000 := by decide
                              omega)
    omega
end Go.Eng
namespace Go.Eng
def wh2:Spec
 |[.int .i64 n],[]=>some (.bool (decide (0<=n) && decide (n<=1099511627776)),[],True)
 |_,_=>none
def S_tv(st:Int)(bs:List BK)(k:Nat):St:=⟨[(1,.ptr 0 0),(3,.q (lowB bs k)),(22,.view 2 bs.length (wan (atB bs))),(23,.q bs.length),(24,.q k)],[(0,.cells [.q st,.view 2 bs.length (wan (atB bs))] 95)],1,[]⟩
def L_tv(st:Int)(bs:List BK):war:=λS Q=>canonIs te 0 [1,3,22,23,24] S (S_tv st bs 0)/\bs.length<=8/\wab (bksB bs bs.length) (Q (.exit 0) ⟨[],[],0,[]⟩) (Q .ret ⟨[(2,.q 141)],[],0,[]⟩)
def S_tw(st:Int)(bs:List BK)(k:Nat):St:=⟨[(1,.ptr 0 0),(3,.q (lowB bs k)),(25,.view 2 bs.length (wan (atB bs))),(26,.q bs.length),(27,.q k)],[(0,.cells [.q st,.view 2 bs.length (wan (atB bs))] 95)],1,[]⟩
def L_tw(st:Int)(bs:List BK):war:=λS Q=>canonIs te 0 [1,3,25,26,27] S (S_tw st bs 0)/\bs.length<=8/\wab (bksB bs bs.length) (Q (.exit 0) ⟨[],[],0,[]⟩) (Q .ret ⟨[(2,.q 141)],[],0,[]⟩)
def wfx:Spec
 |[.agg [.int .i64 st,.view 2 n f]],[]=>some (.q (tfF st (lst (bkOf f) n)),[],f=wan (atB (lst (bkOf f) n)))
 |_,_=>none
def whx:Spec
 |[.own 0 n],[.row _ 5 m f _]=>some (.q (svF (rwOf f) n),[],n=m/\n<=1000000/\(∀i,i<n->f i=wae (rwOf f) i)/\∀i,i<n->(rwOf f i).o.length<4294967281)
 |_,_=>none
def wem:Spec
 |[.agg [.str o,.str p,.int .i64 per,.int .i64 st,.view 2 n f]],[]=>some (.bool (rtOK ⟨o,p,per,st,lst (bkOf f) n⟩),[],o.length<4294967281/\f=wan (atB (lst (bkOf f) n)))
 |_,_=>none
def badM(m:MG):Bool:= !decide (msgF m=0)
def badT(t:RT):Bool:= !rtOK t
structure RT.Sm (t:RT):Prop where
 o:t.o.length<4294967281
structure FL.Sm (F:FL):Prop where
 id:F.id.length<4294967281
 m:F.ms.length<=1000/\∀m∈F.ms,m.Sm
 r:F.rs.length<=1000/\∀r∈F.rs,r.o.length<4294967281
 t:F.ts.length<=1000/\∀t∈F.ts,t.Sm
def S_k1:Spec
 |[.agg [.str dev,.int .i64 seq,.int .i64 kind,.str o,.str p,.int .i64 per,.int .i64 day,.int .i64 st,.int .i64 pr,.str rep,.str o',.str p',.int .i64 per',.str dev',.int .i64 num]],[]=>some (.bool (badM ⟨dev,seq,kind,⟨o,p,per,day,st,pr,rep⟩,⟨o',p',per',dev',num⟩⟩),[],dev.length<4294967281/\o.length<4294967281/\o'.length<4294967281/\dev'.length<4294967281)
 |_,_=>none
def S_k2:Spec
 |[.agg [.str o,.str p,.int .i64 per,.int .i64 st,.view 2 n f]],[]=>some (.bool (badT ⟨o,p,per,st,lst (bkOf f) n⟩),[],o.length<4294967281/\f=wan (atB (lst (bkOf f) n)))
 |_,_=>none
def wnz:Spec
 |[.view 15 n f,.func 125 []],[]=>some (.q (ixB (λi=>badM (mgOf f i)) n),[],n<=1000000/\f=wad (mgOf f)/\∀i,i<n->(mgOf f i).Sm)
 |_,_=>none
def wnx(g:Nat->MG)(n k:Nat):St:=⟨[(0,.view 15 n (wad g)),(1,.func 125 []),(7,.q n),(8,.q k)],[],0,[]⟩
def wp5(g:Nat->MG)(n:Nat):war:=λst Q=>canonIs te 0 [0,1,7,8] st (wnx g n 0)/\n<=1000000/\(∀i,i<n->(g i).Sm)/\
 wab (decide (fstB (λi=>badM (g i)) n<n)) (Q .ret ⟨[(4,.q (fstB (λi=>badM (g i)) n))],[],0,[]⟩) (Q (.exit 0) ⟨[],[],0,[]⟩)
def wog:Spec
 |[.view 15 n f,.func 125 []],[]=>some (.bool (decide (0<=ixB (λi=>badM (mgOf f i)) n)),[],n<=1000000/\f=wad (mgOf f)/\∀i,i<n->(mgOf f i).Sm)
 |_,_=>none
def wny:Spec
 |[.view 5 n f,.func 127 []],[]=>some (.q (ixB (λi=>badT (rtOf f i)) n),[],n<=1000000/\f=wag (rtOf f)/\∀i,i<n->(rtOf f i).Sm)
 |_,_=>none
def wnw(g:Nat->RT)(n k:Nat):St:=⟨[(0,.view 5 n (wag g)),(1,.func 127 []),(7,.q n),(8,.q k)],[],0,[]⟩
def wp4(g:Nat->RT)(n:Nat):war:=λst Q=>canonIs te 0 [0,1,7,8] st (wnw g n 0)/\n<=1000000/\(∀i,i<n->(g i).Sm)/\
 wab (decide (fstB (λi=>badT (g i)) n<n)) (Q .ret ⟨[(4,.q (fstB (λi=>badT (g i)) n))],[],0,[]⟩) (Q (.exit 0) ⟨[],[],0,[]⟩)
def wof:Spec
 |[.view 5 n f,.func 127 []],[]=>some (.bool (decide (0<=ixB (λi=>badT (rtOf f i)) n)),[],n<=1000000/\f=wag (rtOf f)/\∀i,i<n->(rtOf f i).Sm)
 |_,_=>none
def wn9:Spec
 |[.agg [.str id,.int .i64 ver,.int .i64 day,.int .i64 kind,.view 15 nm fm,.view 5 nr fr,.view 5 nt ft]],[]=>some (.bool (ctF (flV id ver day kind nm fm nr fr nt ft)),[],FlC nm fm nr fr nt ft/\(flV id ver day kind nm fm nr fr nt ft).Sm)
 |_,_=>none
def S_vin:Spec
 |[.agg [.str id,.int .i64 ver,.int .i64 day,.int .i64 kind,.view 15 nm fm,.view 5 nr fr,.view 5 nt ft]],[]=>some (.q (vinF (flV id ver day kind nm fm nr fr nt ft)),[],FlC nm fm nr fr nt ft/\(flV id ver day kind nm fm nr fr nt ft).Sm)
 |_,_=>none
def txF(g:Nat->List UInt8):Nat->List UInt8
 |0=>[]
 |k+1=>txF g k++txtE (g k)
def nuF(g:Nat->Int):Nat->List UInt8
 |0=>[]
 |k+1=>nuF g k++numE (g k)
def wa6(g:Nat->List UInt8)(i:Nat):List AV:=[.str (g i)]
def stOf(f:Nat->List AV)(i:Nat):List UInt8:=wbh ((f i).headD .any)
def weo:Spec
 |[.int .i64 n,.int .i64 10],[]=>some (.str (Go.Lib.itoa n),[],inR .i64 n)
 |_,_=>none
def wco:Spec
 |[.int .i64 n],[]=>some (.str (Go.Lib.itoa n),[],inR .i64 n)
 |_,_=>none
def S_cc:Spec
 |[.ptr 0 0],[.cells [.nilptr,.nil] t]=>some (.tuple [],[(0,.cells [.ptr 0 0,.nil] 111)],t=111)
 |[.ptr 0 0],[.cells [.ptr 0 0,.own 1 n] t,.row t8 1 m f false]=>some (.tuple [],[(0,.cells [.ptr 0 0,.own 1 n] 111),(1,.row t8 1 m f false)],t=111)
 |_,_=>none
def S_ws:Spec
 |[.ptr 0 0,.str s],[.cells [.nilptr,.nil] t]=>some (.tuple [.q s.length,.nilIface],[(0,.cells [.ptr 0 0,.own 1 s.length] 111),(1,.row 5 1 s.length (strG s) false)],t=111/\s.length<=1099511627776)
 |[.ptr 0 0,.str s],[.cells [.ptr 0 0,.own 1 n] t,.row t8 1 m f false]=>some (.tuple [.q s.length,.nilIface],[(0,.cells [.ptr 0 0,.own 2 (waq m f++s).length] 111),(2,.row 5 1 (waq m f++s).length (strG (waq m f++s)) false)],
   t=111/\t8=5/\n=m/\f=strG (waq m f)/\(waq m f++s).length<=1099511627776)
 |_,_=>none
def woj:Spec
 |[.ptr 0 0],[.cells [.ptr 0 0,.own 1 n] t,.row t8 1 m f false]=>some (.str (waq m f),[(0,.cells [.ptr 0 0,.own 1 n] 111)],t=111/\t8=5/\n=m/\f=strG (waq m f)/\0<n/\n<=1099511627776)
 |_,_=>none
def S_text:Spec
 |[.ptr 0 0,.own 1 n],[.cells [.nilptr,.nil] t,.row ts 1 n' h false]=>some (.tuple [],[(0,.cells [.ptr 0 0,.own 2 (txF (stOf h) n).length] 111),(1,.row 9 1 n' h false),(2,.row 5 1 (txF (stOf h) n).length (strG (txF (stOf h) n)) false)],
   t=111/\ts=9/\n=1/\n'=1/\h 0=wa6 (stOf h) 0/\(txF (stOf h) n).length<=1099511627776)
 |[.ptr 0 0,.own 1 n],[.cells [.ptr 0 0,.own 2 c] t,.row ts 1 n' h false,.row t8 1 m f false]=>some (.tuple [],[(0,.cells [.ptr 0 0,.own 3 (waq m f++txF (stOf h) n).length] 111),(1,.row 9 1 n' h false),(3,.row 5 1 (waq m f++txF (stOf h) n).length (strG (waq m f++txF (stOf h) n)) false)],
   t=111/\t8=5/\ts=9/\c=m/\n=n'/\(1<=n/\n<=3)/\f=strG (waq m f)/\(∀i,i<n->h i=wa6 (stOf h) i)/\(waq m f++txF (stOf h) n).length<=1099511627776)
 |_,_=>none
def wzj:Spec
 |[.ptr 0 0,.own 1 n],[.cells [.ptr 0 0,.own 2 c] t,.row ts 1 n' h false,.row t8 1 m f false]=>some (.tuple [],[(0,.cells [.ptr 0 0,.own 3 (waq m f++nuF (vInt h) n).length] 111),(1,.row 2 1 n' h false),(3,.row 5 1 (waq m f++nuF (vInt h) n).length (strG (waq m f++nuF (vInt h) n)) false)],
   t=111/\t8=5/\ts=2/\c=m/\n=n'/\(1<=n/\n<=4)/\f=strG (waq m f)/\(∀i,i<n->h i=wac (vInt h) i)/\(∀i,i<n->inR .i64 (vInt h i))/\(waq m f++nuF (vInt h) n).length<=1099511627776)
 |_,_=>none
def wop:wbp
 |[.ptr 0 0,.own 1 n],[.cells [.nilptr,.nil] t,.row ts 1 n' h false],R=>(t=111/\ts=9/\n=1/\n'=1)/\h 0=wa6 (stOf h) 0/\(txF (stOf h) n).length<=1099511627776/\
   ∀L':List UInt8,L'=txF (stOf h) n->R (.tuple []) [(0,.cells [.ptr 0 0,.own 2 L'.length] 111),(1,.row 9 1 n' h false),(2,.row 5 1 L'.length (strG L') false)]
 |[.ptr 0 0,.own 1 n],[.cells [.ptr 0 0,.own 2 c] t,.row ts 1 n' h false,.row t8 1 m f false],R=>(t=111/\t8=5/\ts=9/\c=m/\n=n'/\(1<=n/\n<=3))/\∃L:List UInt8,(m=L.length/\f=strG L)/\
   (∀i,i<n->h i=wa6 (stOf h) i)/\(L++txF (stOf h) n).length<=1099511627776/\
   ∀L':List UInt8,L'=L++txF (stOf h) n->R (.tuple []) [(0,.cells [.ptr 0 0,.own 3 L'.length] 111),(1,.row 9 1 n' h false),(3,.row 5 1 L'.length (strG L') false)]
 |_,_,_=>False
def wox:wbp
 |[.ptr 0 0,.own 1 n],[.cells [.ptr 0 0,.own 2 c] t,.row ts 1 n' h false,.row t8 1 m f false],R=>(t=111/\t8=5/\ts=2/\c=m/\n=n'/\(1<=n/\n<=4))/\∃L:List UInt8,(m=L.length/\f=strG L)/\
   (∀i,i<n->h i=wac (vInt h) i)/\(∀i,i<n->inR .i64 (vInt h i))/\(L++nuF (vInt h) n).length<=1099511627776/\
   ∀L':List UInt8,L'=L++nuF (vInt h) n->R (.tuple []) [(0,.cells [.ptr 0 0,.own 3 L'.length] 111),(1,.row 2 1 n' h false),(3,.row 5 1 L'.length (strG L') false)]
 |_,_,_=>False
structure DcS where
 out:List UInt8
 m:Int
def S_dc(n:Int)(i:DcS):St:=⟨[(0,.q n),(3,.str i.out),(4,.q i.m)],[],0,[]⟩
def L_dc(n:Int):war:=λst Q=>canonIs te 0 [0,3,4] st (S_dc n ⟨[],n⟩)/\inR .i64 n/\Q (.exit 0) ⟨[(0,.q n),(3,.str (digT n.natAbs))],[],0,[]⟩
def wmo(g:Nat->List UInt8)(n k:Nat):St:=⟨[(3,.str (txF g k)),(6,.own 0 n),(7,.q n),(8,.q k)],[(0,.row 9 1 n (wa6 g) false)],1,[]⟩
def wo9(g:Nat->List UInt8)(n:Nat):war:=λst Q=>canonIs te 1 [3,6,7,8] st (wmo g n 0)/\n<=100/\(∀i,i<n->(g i).length<=1099511627776)/\
 Q (.exit 0) ⟨[(3,.str (txF g n))],[(0,.row 9 1 n (wa6 g) false)],1,[]⟩
def wdr:Spec
 |[.own 0 n],[.row ts 1 n' h false]=>some (.str (txF (stOf h) n),[(0,.row 9 1 n' h false)],ts=9/\n=n'/\n<=100/\(∀i,i<n->h i=wa6 (stOf h) i)/\∀i,i<n->(stOf h i).length<=1099511627776)
 |_,_=>none
def wni(g:Nat->Int)(n k:Nat):St:=⟨[(3,.str (nuF g k)),(6,.own 0 n),(7,.q n),(8,.q k)],[(0,.row 2 1 n (wac g) false)],1,[]⟩
def wpw(g:Nat->Int)(n:Nat):war:=λst Q=>canonIs te 1 [3,6,7,8] st (wni g n 0)/\n<=100/\(∀i,i<n->inR .i64 (g i))/\
 Q (.exit 0) ⟨[(3,.str (nuF g n))],[(0,.row 2 1 n (wac g) false)],1,[]⟩
def wds:Spec
 |[.own 0 n],[.row ts 1 n' h false]=>some (.str (nuF (vInt h) n),[(0,.row 2 1 n' h false)],ts=2/\n=n'/\n<=100/\(∀i,i<n->h i=wac (vInt h) i)/\∀i,i<n->inR .i64 (vInt h i))
 |_,_=>none
structure MG.Rg (m:MG):Prop where
 seq:inR .i64 m.seq
 kind:inR .i64 m.kind
 per:inR .i64 m.v.per
 day:inR .i64 m.v.day
 st:inR .i64 m.v.st
 pr:inR .i64 m.v.pr
 dper:inR .i64 m.d.per
 num:inR .i64 m.d.num
structure RW.Rg (r:RW):Prop where
 per:inR .i64 r.per
 u:inR .i64 r.u
 tv:inR .i64 r.tv
structure RT.Rg (t:RT):Prop where
 per:inR .i64 t.per
 st:inR .i64 t.st
 n:t.bs.length<=1000
 b:∀b∈t.bs,inR .i64 b.up/\inR .i64 b.pr
structure FL.Rg (F:FL):Prop where
 ver:inR .i64 F.ver
 kind:inR .i64 F.kind
 nm:F.ms.length<=1000
 nr:F.rs.length<=1000
 nt:F.ts.length<=1000
 m:∀m∈F.ms,m.Rg
 r:∀r∈F.rs,r.Rg
 t:∀t∈F.ts,t.Rg
 len:(encF F).length<=1099511627776
def e1F(F:FL):Nat->List UInt8
 |0=>txtE F.id++(numE F.ver++(numE F.kind++numE F.ms.length))
 |k+1=>e1F F k++mgE (atM F.ms k)
def e2F(F:FL):Nat->List UInt8
 |0=>e1F F F.ms.length++numE F.rs.length
 |k+1=>e2F F k++rwE (atR F.rs k)
def e3F(F:FL):Nat->List UInt8
 |0=>e2F F F.rs.length++numE F.ts.length
 |k+1=>e3F F k++rtE (atT F.ts k)
def e4F(L:List UInt8)(t:RT):Nat->List UInt8
 |0=>L++(txtE t.o++(txtE t.p++(numE t.per++(numE t.st++numE t.bs.length))))
 |k+1=>e4F L t k++bkE (atB t.bs k)
theorem flK{α:Type}(e:α->List UInt8)(d:α)(l:List α)(g:Nat->List UInt8)(L:List UInt8)(h0:g 0=L)(hs:∀k,k<l.length->g (k+1)=g k++e (l.getD k d)):∀k,k<=l.length->g k=L++(l.take k).flatMap e
 |0,_=>by simp[h0]
 |k+1,h=>by
  rw[hs k (by omega),flK e d l g L h0 hs k (by omega),List.take_add_one,List.append_assoc];congr 1;rw[List.flatMap_append];congr 1;simp[List.getD,List.getElem?_eq_getElem (show k<l.length by omega)]
theorem e1F_all(F:FL):e1F F F.ms.length=e1F F 0++F.ms.flatMap mgE:=by
 rw[flK mgE default F.ms (e1F F) (e1F F 0) rfl (λ_ _=>rfl) _ (lR7 _),List.take_length]
theorem e2F_all(F:FL):e2F F F.rs.length=e2F F 0++F.rs.flatMap rwE:=by
 rw[flK rwE default F.rs (e2F F) (e2F F 0) rfl (λ_ _=>rfl) _ (lR7 _),List.take_length]
theorem e3F_all(F:FL):e3F F F.ts.length=e3F F 0++F.ts.flatMap rtE:=by
 rw[flK rtE wdf F.ts (e3F F) (e3F F 0) rfl (λ_ _=>rfl) _ (lR7 _),List.take_length]
theorem wyr(L:List UInt8)(t:RT):e4F L t t.bs.length=L++rtE t:=by
 rw[flK bkE ⟨0,0⟩ t.bs (e4F L t) (e4F L t 0) rfl (λ_ _=>rfl) _ (lR7 _),List.take_length];simp only[e4F,rtE,List.append_assoc]
theorem wly(F:FL):e3F F F.ts.length=encF F:=by
 rw[e3F_all,e3F,e2F_all,e2F,e1F_all,e1F];simp only[encF,List.append_assoc]
def S_q1(F:FL)(k:Nat):St:=⟨[(1,.ptr 0 0),(3,.str (e1F F k)),(29,.view 15 F.ms.length (wad (atM F.ms))),(30,.q F.ms.length),(31,.q k)],[(0,.cells [.str F.id,.q F.ver,.q F.day,.q F.kind,.view 15 F.ms.length (wad (atM F.ms)),.view 5 F.rs.length (wae (atR F.rs)),.view 5 F.ts.length (wag (atT F.ts))] 49)],1,[]⟩
def L_q1(F:FL):war:=λst Q=>canonIs te 0 [1,3,29,30,31] st (S_q1 F 0)/\F.Rg/\Q (.exit 0) ⟨[(1,.ptr 0 0),(3,.str (e1F F F.ms.length))],[(0,.cells [.str F.id,.q F.ver,.q F.day,.q F.kind,.view 15 F.ms.length (wad (atM F.ms)),.view 5 F.rs.length (wae (atR F.rs)),.view 5 F.ts.length (wag (atT F.ts))] 49)],1,[]⟩
def S_q2(F:FL)(k:Nat):St:=⟨[(1,.ptr 0 0),(3,.str (e2F F k)),(108,.view 5 F.rs.length (wae (atR F.rs))),(109,.q F.rs.length),(110,.q k)],[(0,.cells [.str F.id,.q F.ver,.q F.day,.q F.kind,.view 15 F.ms.length (wad (atM F.ms)),.view 5 F.rs.length (wae (atR F.rs)),.view 5 F.ts.length (wag (atT F.ts))] 49)],1,[]⟩
def L_q2(F:FL):war:=λst Q=>canonIs te 0 [1,3,108,109,110] st (S_q2 F 0)/\F.Rg/\Q (.exit 2) ⟨[(1,.ptr 0 0),(3,.str (e2F F F.rs.length))],[(0,.cells [.str F.id,.q F.ver,.q F.day,.q F.kind,.view 15 F.ms.length (wad (atM F.ms)),.view 5 F.rs.length (wae (atR F.rs)),.view 5 F.ts.length (wag (atT F.ts))] 49)],1,[]⟩
def S_q3(F:FL)(k:Nat):St:=⟨[(3,.str (e3F F k)),(140,.view 5 F.ts.length (wag (atT F.ts))),(141,.q F.ts.length),(142,.q k)],[],0,[]⟩
def L_q3(F:FL):war:=λst Q=>canonIs te 0 [3,140,141,142] st (S_q3 F 0)/\F.Rg/\Q (.exit 4) ⟨[(3,.str (e3F F F.ts.length))],[],0,[]⟩
def S_q4(F:FL)(k:Nat)(L:List UInt8)(t:RT)(j:Nat):St:=⟨[(3,.str (e4F L t j)),(140,.view 5 F.ts.length (wag (atT F.ts))),(141,.q F.ts.length),(142,.q k),(168,.view 2 t.bs.length (wan (atB t.bs))),(169,.q t.bs.length),(170,.q j)],[],0,[]⟩
def L_q4(F:FL)(k:Nat)(L:List UInt8)(t:RT):war:=λst Q=>canonIs te 0 [3,140,141,142,168,169,170] st (S_q4 F k L t 0)/\t.Rg/\(e4F L t t.bs.length).length<=1099511627776/\Q (.exit 6) ⟨[(3,.str (L++rtE t)),(140,.view 5 F.ts.length (wag (atT F.ts))),(141,.q F.ts.length),(142,.q k)],[],0,[]⟩
def S_q1s(F:FL)(s:List UInt8)(k:Nat):St:=⟨[(1,.ptr 0 0),(3,.str s),(29,.view 15 F.ms.length (wad (atM F.ms))),(30,.q F.ms.length),(31,.q k)],[(0,.cells [.str F.id,.q F.ver,.q F.day,.q F.kind,.view 15 F.ms.length (wad (atM F.ms)),.view 5 F.rs.length (wae (atR F.rs)),.view 5 F.ts.length (wag (atT F.ts))] 49)],1,[]⟩
def S_q2s(F:FL)(s:List UInt8)(k:Nat):St:=⟨[(1,.ptr 0 0),(3,.str s),(108,.view 5 F.rs.length (wae (atR F.rs))),(109,.q F.rs.length),(110,.q k)],[(0,.cells [.str F.id,.q F.ver,.q F.day,.q F.kind,.view 15 F.ms.length (wad (atM F.ms)),.view 5 F.rs.length (wae (atR F.rs)),.view 5 F.ts.length (wag (atT F.ts))] 49)],1,[]⟩
def S_q3s(F:FL)(s:List UInt8)(k:Nat):St:=⟨[(3,.str s),(140,.view 5 F.ts.length (wag (atT F.ts))),(141,.q F.ts.length),(142,.q k)],[],0,[]⟩
def S_q4s(F:FL)(k:Nat)(s:List UInt8)(t:RT)(j:Nat):St:=⟨[(3,.str s),(140,.view 5 F.ts.length (wag (atT F.ts))),(141,.q F.ts.length),(142,.q k),(168,.view 2 t.bs.length (wan (atB t.bs))),(169,.q t.bs.length),(170,.q j)],[],0,[]⟩
def S_enc:Spec
 |[.agg [.str id,.int .i64 ver,.int .i64 day,.int .i64 kind,.view 15 nm fm,.view 5 nr fr,.view 5 nt ft]],[]=>some (.str (encF (flV id ver day kind nm fm nr fr nt ft)),[],FlC nm fm nr fr nt ft/\(flV id ver day kind nm fm nr fr nt ft).Rg)
 |_,_=>none
def wqf:AV:=.agg [.str [],.q 0,.q 0,.q 0,.nil,.nil,.nil]
def zeroFA:AV:=.agg [.str [],.q 0,.q 0,.q 0,.view 0 0 (λ_=>[]),.view 0 0 (λ_=>[]),.view 0 0 (λ_=>[])]
def gotN(es:List (AV×AV))(x:List UInt8):AV:=(mget es (.str x)).getD zeroFA
def cmpN(es:List (AV×AV))(x y:List UInt8):Int:=orL [cmpS (wbh (was (gotN es x) 0)) (wbh (was (gotN es y) 0)),cmpI (wao (was (gotN es x) 1)) (wao (was (gotN es y) 1)),cmpI (wao (was (gotN es x) 2)) (wao (was (gotN es y) 2)),cmpS x y]
structure FL.Gd (F:FL):Prop where
 sm:F.Sm
 rg:F.Rg
def wzl:wbp
 |[.own 0 n,.func 92 [.ptr 1 0]],[.row t 1 m f fr,.cells [.map 2] ct,.amap es],R=>t=9/\fr=false/\n=m/\n<=1000000/\f=wa6 (stOf f)/\wb9 .string es/\(∀x,wcr wqf (gotN es x)=gotN es x)/\(∀p∈es,nref p.1=true/\nref p.2=true)/\
   ∀h:Nat->List UInt8,(lst h n).Perm (lst (stOf f) n)->(∀i j,i<j->j<n->¬ cmpN es (h j) (h i)<0)->R (.tuple []) [(0,.row 9 1 n (wa6 h) false),(1,.cells [.map 2] ct),(2,.amap es)]
 |_,_,_=>False
end Go.Eng
namespace Go.Eng
open Go.Lib
structure MG.Tn (m:MG):Prop where
 rg:m.Rg
 a:m.dev.length<=100
 b:m.v.o.length<=100
 c:m.v.p.length<=100
 d:m.v.rep.length<=100
 e:m.d.o.length<=100
 f:m.d.p.length<=100
 g:m.d.dev.length<=100
structure RW.Tn (r:RW):Prop where
 rg:r.Rg
 a:r.o.length<=100
 b:r.p.length<=100
structure RT.Tn (t:RT):Prop where
 rg:t.Rg
 a:t.o.length<=100
 b:t.p.length<=100
structure FL.Tn (F:FL):Prop where
 id:F.id.length<=100
 ver:inR .i64 F.ver
 kind:inR .i64 F.kind
 m:F.ms.length<=1000/\∀m∈F.ms,m.Tn
 r:F.rs.length<=1000/\∀r∈F.rs,r.Tn
 t:F.ts.length<=1000/\∀t∈F.ts,t.Tn
theorem wv3:∀(k u:Nat),u<10 ^ (k+1)->nDigits u<=k+1
 |0,u,h=>by rw[nDigits_small (by omega)];exact lR7 _
 |k+1,u,h=>by
  by_cases q:u<10
  .rw[nDigits_small q];omega
  .rw[nDigits_big q];have:=wv3 k (u / 10) (by rw[Nat.pow_succ] at h;omega);omega
theorem wv2(u:Nat)(h:u<18446744073709551616):nDigits u<=20:=wv3 19 u (by omega)
theorem itoa21{n:Int}(h:inR .i64 n):(itoa n).length<=21:=by
 simp only[inR] at h;unfold itoa
 by_cases q:n<0
 .rw[if_pos q,List.length_cons,decDigits_length];have:=wv2 n.natAbs (by omega);omega
 .rw[if_neg q,decDigits_length];have:=wv2 n.toNat (by omega);omega
theorem wcb{n:Int}(h:inR .i64 n):(numE n).length<=22:=by
 have:=itoa21 h;unfold numE;rw[lA7];show _+1<=_;omega
theorem wkw{n:Nat}(h:n<=1000):(numE n).length<=22:=wcb (by simp only[inR];omega)
theorem wdh{s:List UInt8}(h:s.length<=100):(txtE s).length<=123:=by
 have:=itoa21 (n:=(s.length:Int)) (by simp only[inR];omega);unfold txtE;rw[lA7,List.length_cons,lA7];show _+(s.length+1+1)<=_;omega
theorem wjr{α:Type}(e:α->List UInt8)(B:Nat):∀l:List α,(∀x∈l,(e x).length<=B)->(l.flatMap e).length<=l.length * B
 |[],_=>by simp
 |x::l,h=>by
  have h1:=h x (List.mem_cons_self ..);have h2:=wjr e B l λy hy=>h y (List.mem_cons_of_mem _ hy);rw[List.flatMap_cons,lA7,List.length_cons,Nat.add_mul,Nat.one_mul];omega
theorem mgE_len{m:MG}(h:m.Tn):(mgE m).length<=1100:=by
 have h1:=wdh h.a;have h2:=wdh h.b;have h3:=wdh h.c;have h4:=wdh h.d;have h5:=wdh h.e;have h6:=wdh h.f;have h7:=wdh h.g;have n1:=wcb h.rg.seq;have n2:=wcb h.rg.kind;have n3:=wcb h.rg.per;have n4:=wcb h.rg.day;have n5:=wcb h.rg.st;have n6:=wcb h.rg.pr;have n7:=wcb h.rg.dper;have n8:=wcb h.rg.num;unfold mgE;simp only[lA7];omega
theorem rwE_len{r:RW}(h:r.Tn):(rwE r).length<=1100:=by
 have h1:=wdh h.a;have h2:=wdh h.b;have n1:=wcb h.rg.per;have n2:=wcb h.rg.u;have n3:=wcb h.rg.tv;unfold rwE;simp only[lA7];omega
theorem rtE_len{t:RT}(h:t.Tn):(rtE t).length<=50000:=by
 have h1:=wdh h.a;have h2:=wdh h.b;have n1:=wcb h.rg.per;have n2:=wcb h.rg.st;have n3:=wkw h.rg.n;have hb:=wjr bkE 44 t.bs λb hb=>by
  have q1:=wcb (h.rg.b b hb).1;have q2:=wcb (h.rg.b b hb).2;unfold bkE;rw[lA7];omega
 have hm:t.bs.length * 44<=1000 * 44:=Nat.mul_le_mul_right _ h.rg.n;unfold rtE;simp only[lA7];omega
theorem FL.Tn.rg{F:FL}(h:F.Tn):F.Rg:=by
 refine⟨h.ver,h.kind,h.m.1,h.r.1,h.t.1,λm hm=>(h.m.2 m hm).rg,λr hr=>(h.r.2 r hr).rg,λt ht=>(h.t.2 t ht).rg,?_⟩;have h1:=wdh h.id;have n1:=wcb h.ver;have n2:=wcb h.kind;have n3:=wkw h.m.1;have n4:=wkw h.r.1;have n5:=wkw h.t.1;have f1:=wjr mgE 1100 F.ms λm hm=>mgE_len (h.m.2 m hm);have f2:=wjr rwE 1100 F.rs λr hr=>rwE_len (h.r.2 r hr);have f3:=wjr rtE 50000 F.ts λt ht=>rtE_len (h.t.2 t ht);have m1:F.ms.length * 1100<=1000 * 1100:=Nat.mul_le_mul_right _ h.m.1;have m2:F.rs.length * 1100<=1000 * 1100:=Nat.mul_le_mul_right _ h.r.1;have m3:F.ts.length * 50000<=1000 * 50000:=Nat.mul_le_mul_right _ h.t.1;unfold encF;simp only[lA7];omega
theorem MG.Tn.sm{m:MG}(h:m.Tn):m.Sm:=⟨by have:=h.a;omega,by have:=h.b;omega,by have:=h.e;omega,by have:=h.g;omega⟩
theorem FL.Tn.gd{F:FL}(h:F.Tn):F.Gd:=
 ⟨⟨by have:=h.id;omega,⟨h.m.1,λm hm=>(h.m.2 m hm).sm⟩,⟨h.r.1,λr hr=>by have:=(h.r.2 r hr).a;omega⟩,⟨h.t.1,λt ht=>⟨by have:=(h.t.2 t ht).a;omega⟩⟩⟩,h.rg⟩
theorem wrt{s:List UInt8}(h:wa5 s=true):s.length<=24:=by
 unfold wa5 at h;simp only[bA7,decide_eq_true_eq] at h;omega
theorem wqj{s:List UInt8}(h:wbc s=true):s.length<=13:=by
 unfold wbc wbm at h;split at h
 .rename_i q;simp only[bA7,Bool.or_eq_true,decide_eq_true_eq] at q;omega
 .cases h
theorem wq0{o p:List UInt8}{per:Int}(h:wbi o p per=true):o.length<=24/\p.length<=13/\0<=per/\per<=5999:=by
 unfold wbi at h;simp only[bA7,decide_eq_true_eq] at h;exact⟨wrt h.1.1.1,wqj h.1.1.2,h.1.2,h.2⟩
theorem wrd{r:RW}(h:rowF r=true):r.Tn:=by
 unfold rowF at h;simp only[bA7,decide_eq_true_eq] at h;obtain⟨h1,h2,h3,h4⟩:=wq0 h.1.1;exact⟨⟨by simp only[inR];omega,by simp only[inR];omega,by simp only[inR];omega⟩,by omega,by omega⟩
theorem wvv{n:Int}(h:numF n=true):inR .i64 n:=by
 unfold numF at h;simp only[bA7,decide_eq_true_eq] at h;simp only[inR];omega
theorem visF_tn{v:VT}(h:visF v=true):v.o.length<=24/\v.p.length<=13/\v.rep.length<=13/\inR .i64 v.per/\inR .i64 v.day/\inR .i64 v.st/\inR .i64 v.pr:=by
 unfold visF at h;simp only[bA7,decide_eq_true_eq] at h;obtain⟨⟨⟨h0,h1⟩,h2⟩,h3⟩:=h;obtain⟨k1,k2,k3,k4⟩:=wq0 h0;have hp:inR .i64 v.per:=by simp only[inR];omega
 have hd:inR .i64 v.day:=by simp only[inR];omega
 by_cases q1:v.st=1∨v.st=2
 .have:(decide (v.st=1) || decide (v.st=2))=true:=by rcases q1 with q | q<;>simp[q]
  rw[this] at h3;simp only[cond_true,bA7,decide_eq_true_eq] at h3;exact⟨k1,k2,by rw[h3.2];simp,hp,hd,by simp only[inR];omega,by simp only[inR];omega⟩
 .have:(decide (v.st=1) || decide (v.st=2))=false:=by simp only[Bool.or_eq_false_iff,decide_eq_false_iff_not];omega
  rw[this] at h3;simp only[cond_false] at h3
  by_cases q2:v.st=3∨v.st=4
  .have:(decide (v.st=3) || decide (v.st=4))=true:=by rcases q2 with q | q<;>simp[q]
   rw[this] at h3;simp only[cond_true,bA7,decide_eq_true_eq] at h3;exact⟨k1,k2,by rw[h3.2];simp,hp,hd,by simp only[inR];omega,by simp only[inR];omega⟩
  .have:(decide (v.st=3) || decide (v.st=4))=false:=by simp only[Bool.or_eq_false_iff,decide_eq_false_iff_not];omega
   rw[this] at h3;simp only[cond_false] at h3
   by_cases q3:v.st=5
   .rw[decide_eq_true q3] at h3;simp only[cond_true,bA7,decide_eq_true_eq] at h3;exact⟨k1,k2,wqj h3.1.2,hp,hd,by simp only[inR];omega,by simp only[inR];omega⟩
   .rw[decide_eq_false q3] at h3
    cases h3
theorem wv7{m:MG}(h:msgF m=0):m.Tn:=by
 unfold msgF at h
 cases h1:wa5 m.dev with
 |false=>rw[h1] at h;exact absurd (show (110:Int)=0 from h) (by decide)
 |true=>
  cases h2:numF m.seq with
  |false=>rw[h1,h2] at h;exact absurd (show (111:Int)=0 from h) (by decide)
  |true=>
   cases h3: !decide (m.kind=1) && !decide (m.kind=2) with
   |true=>rw[h1,h2,h3] at h;exact absurd (show (112:Int)=0 from h) (by decide)
   |false=>
    cases h4:(decide (m.kind=1) && !visF m.v) || (decide (m.kind=2) && !m.v.nil) with
    |true=>rw[h1,h2,h3,h4] at h;exact absurd (show (113:Int)=0 from h) (by decide)
    |false=>
     cases h5:(decide (m.kind=1) && !m.d.nil) || (decide (m.kind=2) && !(wbi m.d.o m.d.p m.d.per && wa5 m.d.dev && numF m.d.num)) with
     |true=>rw[h1,h2,h3,h4,h5] at h;exact absurd (show (114:Int)=0 from h) (by decide)
     |false=>
      have a:=wrt h1;have b:=wvv h2
      by_cases k1:m.kind=1
      .have k2:¬ m.kind=2:=by omega
       rw[decide_eq_true k1,decide_eq_false k2] at h4 h5;simp only[Bool.true_and,Bool.false_and,Bool.or_false,Bool.not_eq_false'] at h4 h5;obtain⟨v1,v2,v3,v4,v5,v6,v7⟩:=visF_tn h4;unfold DT.nil at h5;simp only[bA7,decide_eq_true_eq] at h5;obtain⟨d1,d2,d3,d4,d5⟩:=h5;exact⟨⟨b,by simp only[inR];omega,v4,v5,v6,v7,by simp only[inR];omega,by simp only[inR];omega⟩,by omega,by omega,by omega,by omega,by rw[d1];simp,by rw[d2];simp,by rw[d4];simp⟩
      .have k2:m.kind=2:=by
        rw[decide_eq_false k1] at h3;simp only[Bool.not_false,Bool.true_and,Bool.not_eq_false',decide_eq_true_eq] at h3;exact h3
       rw[decide_eq_false k1,decide_eq_true k2] at h4 h5;simp only[Bool.true_and,Bool.false_and,Bool.false_or,Bool.not_eq_false'] at h4 h5;simp only[bA7] at h5;obtain⟨⟨s1,s2⟩,s3⟩:=h5;obtain⟨t1,t2,t3,t4⟩:=wq0 s1;have t5:=wrt s2;unfold VT.nil at h4;simp only[bA7,decide_eq_true_eq] at h4;obtain⟨v1,v2,v3,v4,v5,v6,v7⟩:=h4;exact⟨⟨b,by simp only[inR];omega,by simp only[inR];omega,by simp only[inR];omega,by simp only[inR];omega,by simp only[inR];omega,by simp only[inR];omega,wvv s3⟩,by omega,by rw[v1];simp,by rw[v2];simp,by rw[v7];simp,by omega,by omega,by omega⟩
end Go.Eng
namespace Go.Eng
structure FL.Ri (F:FL):Prop where
 ver:inR .i64 F.ver
 day:inR .i64 F.day
 kind:inR .i64 F.kind
 m:∀m∈F.ms,m.Rg
 r:∀r∈F.rs,r.Rg
 t:∀t∈F.ts,inR .i64 t.per/\inR .i64 t.st/\∀b∈t.bs,inR .i64 b.up/\inR .i64 b.pr
def wgs(m:MG):MG:=⟨m.dev.take 30,m.seq,m.kind,⟨m.v.o.take 30,m.v.p.take 30,m.v.per,m.v.day,m.v.st,m.v.pr,m.v.rep.take 30⟩,⟨m.d.o.take 30,m.d.p.take 30,m.d.per,m.d.dev.take 30,m.d.num⟩⟩
def who(r:RW):RW:=⟨r.o.take 30,r.p.take 30,r.per,r.u,r.tv⟩
def wb4(t:RT):RT:=⟨t.o.take 30,t.p.take 30,t.per,t.st,t.bs.take 9⟩
def cutF(F:FL):FL:=⟨F.id.take 30,F.ver,F.day,F.kind,(F.ms.take 3).map wgs,(F.rs.take 3).map who,(F.ts.take 3).map wb4⟩
theorem wcj{α:Type}(l:List α)(n m:Nat)(h:n<=m):(l.take n).length<=m:=by rw[List.length_take];omega
theorem w72{m:MG}(h:m.Rg):(wgs m).Tn:=
 ⟨⟨h.seq,h.kind,h.per,h.day,h.st,h.pr,h.dper,h.num⟩,wcj _ _ _ (by omega),wcj _ _ _ (by omega),wcj _ _ _ (by omega),wcj _ _ _ (by omega),wcj _ _ _ (by omega),wcj _ _ _ (by omega),wcj _ _ _ (by omega)⟩
theorem w71{r:RW}(h:r.Rg):(who r).Tn:=⟨⟨h.per,h.u,h.tv⟩,wcj _ _ _ (by omega),wcj _ _ _ (by omega)⟩
theorem w70{t:RT}(h:inR .i64 t.per/\inR .i64 t.st/\∀b∈t.bs,inR .i64 b.up/\inR .i64 b.pr):(wb4 t).Tn:=
 ⟨⟨h.1,h.2.1,wcj _ _ _ (by omega),λb hb=>h.2.2 b (List.mem_of_mem_take hb)⟩,wcj _ _ _ (by omega),wcj _ _ _ (by omega)⟩
theorem cutF_tn{F:FL}(h:F.Ri):(cutF F).Tn:=by
 refine⟨wcj _ _ _ (by omega),h.ver,h.kind,⟨?_,λm hm=>?_⟩,⟨?_,λm hm=>?_⟩,⟨?_,λm hm=>?_⟩⟩
 .show ((F.ms.take 3).map wgs).length<=1000;rw[List.length_map];exact wcj _ _ _ (by omega)
 .obtain⟨x,hx,rfl⟩:=List.mem_map.1 hm;exact w72 (h.m x (List.mem_of_mem_take hx))
 .show ((F.rs.take 3).map who).length<=1000;rw[List.length_map];exact wcj _ _ _ (by omega)
 .obtain⟨x,hx,rfl⟩:=List.mem_map.1 hm;exact w71 (h.r x (List.mem_of_mem_take hx))
 .show ((F.ts.take 3).map wb4).length<=1000;rw[List.length_map];exact wcj _ _ _ (by omega)
 .obtain⟨x,hx,rfl⟩:=List.mem_map.1 hm;exact w70 (h.t x (List.mem_of_mem_take hx))
theorem ws3{α:Type}(d d':α)(φ:α->α)(L:List α)(k i:Nat)(h:i<min k L.length):((L.take k).map φ).getD i d'=φ (L.getD i d):=by
 have h1:i<L.length:=by omega
 have h2:i<k:=by omega
 simp[List.getD_eq_getElem?_getD,h1,h2]
end Go.Eng
namespace Go.Eng
open Go.Proofs Go.RowKit
variable {H:Type} {enc:TypeId×Value->H} {W:World}
def EL(W:World):List Value->List AV->Prop
 |[],[]=>True
 |v::cs,u::us=>(v.oneCell'=true/\V W (λ_=>False) nob v u)/\EL W cs us
 |_,_=>False
theorem EL.len:∀ {cs:List Value} {us:List AV},EL W cs us->cs.length=us.length
 |[],[],_=>rfl
 |_::_,_::_,h=>by rw[List.length_cons,List.length_cons,h.2.len]
theorem EL.get:∀ {cs:List Value} {us:List AV},EL W cs us->∀ {j:Nat} {v:Value},cs[j]?=some v->v.oneCell'=true/\∀u,us[j]?=some u->V W (λ_=>False) nob v u
 |[],[],_,_,_,h=>by simp at h
 |v::cs,u::us,⟨h,_⟩,0,w,hw=>by
  obtain rfl:v=w:=by simpa using hw
  exact⟨h.1,λu' hu=>by
   have hu:some u=some u':=hu;obtain rfl:=oJ7 hu;exact h.2⟩
 |v::cs,u::us,⟨_,h⟩,j+1,w,hw=>by
  have:=h.get (j:=j) (v:=w) (by simpa using hw);exact⟨this.1,λu' hu=>this.2 u' (by simpa using hu)⟩
theorem wi2{α:Type}(d:α)(row:α->List AV)(Rg:α->Prop){sz ts t:Nat}(hu:Tryz.prog.underlying ts=some (.slice t))(hc:Tryz.prog.cellsOf t=sz)(hz:0<sz)(hrow:∀a,(row a).length=sz)
  (elem:∀ {sp:Nat->Bool} {hd:Bool} {n:Nat} {cs:List Value} {x:DataW H×List MemPlace},DataW.trod enc Tryz.prog W 0 sp hd n t cs=some x->∃m,Rg m/\EL W cs (row m))
  {fuel:Nat} {cs:List Value} {x:DataW H×List MemPlace} {sp:Nat->Bool} {hd:Bool} (h:DataW.trod enc Tryz.prog W 0 sp hd fuel ts cs=some x):
  ∃(A:Option Addr) (n c:Nat) (g:Nat->α),cs=[.slice A n c]/\V W (λ_=>False) nob (.slice A n c) (.view sz n λi=>row (g i))/\∀i,i<n->Rg (g i):=by
 rcases DataW.trod_slice hu h with⟨rfl,_⟩ | ⟨a,len,cap,elems,rest,n,_,rfl,_,hb,hl,hm,hlen,hel,_⟩
 .exact⟨none,0,0,λ_=>d,rfl,wmf _ (lR7 _) (zL7 _) (λi hi=>by omega) (.inl rfl),λi hi=>absurd hi (nZ7 i)⟩
 .have hat:∀i,∃m,i<len->Rg m/\∃cs',EL W cs' (row m)/\∀j,j<sz->W.cell? (a.add (i * sz+j))=cs'[j]?:=by
   intro i
   by_cases hi:i<len
   .have h1:=hel i hi;rw[hc,List.getElem?_eq_getElem (by omega),Option.bind_eq_some_iff] at h1;obtain⟨cs',hcs,hy⟩:=h1;obtain⟨m,hR,hE⟩:=elem hy;obtain⟨_,_,h2⟩:=World.cells?_some hcs;exact⟨m,λ_=>⟨hR,cs',hE,λj hj=>by have q:=h2 j hj;rwa [wzd] at q⟩⟩
   .exact⟨d,λh=>absurd h hi⟩
  let g:Nat->α:=λi=>Classical.choose (hat i)
  have hg:∀i,i<len->Rg (g i)/\∃cs',EL W cs' (row (g i))/\∀j,j<sz->W.cell? (a.add (i * sz+j))=cs'[j]?:=λi=>Classical.choose_spec (hat i);refine⟨some a,len,cap,g,rfl,wmf _ hl hm (λi _=>hrow (g i)) ?_,λi hi=>(hg i hi).1⟩
  by_cases h0:len=0
  .exact .inl h0
  .refine .inr ⟨a,rfl,?_,λi hi j hj=>?_⟩
   .have h1:=hel 0 (by omega);rw[List.getElem?_eq_getElem (show 0<elems.length by omega),Option.bind_eq_some_iff] at h1;obtain⟨cs',hcs,_⟩:=h1;rw[hc] at hcs;have q:=World.cells?_block hcs (by omega);rw[wze] at q;exact q
   .obtain⟨_,cs',hE,hcell⟩:=hg i hi;have hlen':cs'.length=sz:=by rw[hE.len,hrow]
    have e:cs'[j]?=some (cs'[j]'(by omega)):=List.getElem?_eq_getElem (by omega);have q:=hE.get e;exact⟨_,(hcell j hj).trans e,q.1,λu hu=>q.2 u hu⟩
theorem wcd{n:Int}(h:(Lit.int .i64 n).wf=true):inR .i64 n:=by
 have e:IntKind.i64.min= -9223372036854775808:=by decide
 have e2:IntKind.i64.max=9223372036854775807:=by decide
 simpa[Lit.wf,inR,e,e2] using h
theorem undBk:Tryz.prog.underlying 115=some (.struct (fsOf 115)):=by kernel_rfl
theorem undBks:Tryz.prog.underlying 93=some (.slice 115):=by kernel_rfl
theorem undTa:Tryz.prog.underlying 95=some (.struct (fsOf 95)):=by kernel_rfl
theorem undRt:Tryz.prog.underlying 97=some (.struct (fsOf 97)):=by kernel_rfl
theorem undRts:Tryz.prog.underlying 47=some (.slice 97):=by kernel_rfl
theorem undFl:Tryz.prog.underlying 49=some (.struct (fsOf 49)):=by kernel_rfl
theorem undFls:Tryz.prog.underlying 51=some (.slice 49):=by kernel_rfl
theorem cBk:Tryz.prog.cellsOf 115=2:=by kernel_rfl
theorem cBks:Tryz.prog.cellsOf 93=1:=by kernel_rfl
theorem cTa:Tryz.prog.cellsOf 95=2:=by kernel_rfl
theorem cRt:Tryz.prog.cellsOf 97=5:=by kernel_rfl
theorem cRts:Tryz.prog.cellsOf 47=1:=by kernel_rfl
theorem cRws:Tryz.prog.cellsOf 46=1:=by kernel_rfl
theorem cMgs:Tryz.prog.cellsOf 22=1:=by kernel_rfl
theorem cFl:Tryz.prog.cellsOf 49=7:=by kernel_rfl
theorem el_bk{sp:Nat->Bool}{hd:Bool}{n:Nat}{cs:List Value}{x:DataW H×List MemPlace}(h:DataW.trod enc Tryz.prog W 0 sp hd n 115 cs=some x):∃b:BK,(inR .i64 b.up/\inR .i64 b.pr)/\EL W cs [.int .i64 b.up,.int .i64 b.pr]:=by
 obtain⟨xs,n,rfl,_,hc,hl,hf⟩:=DataW.trod_struct undBk h;rw[cBk] at hc;obtain⟨a0,a1,rfl⟩:=list2 hc;obtain⟨y0,h0⟩:=field hl hf 0 2 0 (by kernel_rfl);rw[cI2] at h0;obtain⟨i0,e0,_,w0⟩:=DataW.trod_int wg3 h0;have w0:=wcd w0;obtain⟨y1,h1⟩:=field hl hf 1 2 1 (by kernel_rfl);rw[cI2] at h1;obtain⟨i1,e1,_,w1⟩:=DataW.trod_int wg3 h1;have w1:=wcd w1;simp at e0 e1;subst e0 e1;exact⟨⟨i0,i1⟩,⟨w0,w1⟩,⟨rfl,.int⟩,⟨rfl,.int⟩,trivial⟩
theorem el_rw{sp:Nat->Bool}{hd:Bool}{n:Nat}{cs:List Value}{x:DataW H×List MemPlace}(h:DataW.trod enc Tryz.prog W 0 sp hd n 61 cs=some x):∃r:RW,r.Rg/\EL W cs [.str r.o,.str r.p,.int .i64 r.per,.int .i64 r.u,.int .i64 r.tv]:=by
 obtain⟨xs,n,rfl,_,hc,hl,hf⟩:=DataW.trod_struct undR h;rw[cR] at hc;obtain⟨a0,a1,a2,a3,a4,rfl⟩:=list5 hc;obtain⟨y0,h0⟩:=field hl hf 0 9 0 (by kernel_rfl);rw[cS] at h0;obtain⟨s0,e0,_⟩:=DataW.trod_string undS h0;obtain⟨y1,h1⟩:=field hl hf 1 9 1 (by kernel_rfl);rw[cS] at h1;obtain⟨s1,e1,_⟩:=DataW.trod_string undS h1;obtain⟨y2,h2⟩:=field hl hf 2 3 2 (by kernel_rfl);rw[cI] at h2;obtain⟨i2,e2,_,w2⟩:=DataW.trod_int undI h2;have w2:=wcd w2;obtain⟨y3,h3⟩:=field hl hf 3 2 3 (by kernel_rfl);rw[cI2] at h3;obtain⟨i3,e3,_,w3⟩:=DataW.trod_int wg3 h3;have w3:=wcd w3;obtain⟨y4,h4⟩:=field hl hf 4 2 4 (by kernel_rfl);rw[cI2] at h4;obtain⟨i4,e4,_,w4⟩:=DataW.trod_int wg3 h4;have w4:=wcd w4;simp at e0 e1 e2 e3 e4;subst e0 e1 e2 e3 e4;exact⟨⟨s0.data.toList,s1.data.toList,i2,i3,i4⟩,⟨w2,w3,w4⟩,⟨rfl,.str rfl⟩,⟨rfl,.str rfl⟩,⟨rfl,.int⟩,⟨rfl,.int⟩,⟨rfl,.int⟩,trivial⟩
theorem el_mg{sp:Nat->Bool}{hd:Bool}{n:Nat}{cs:List Value}{x:DataW H×List MemPlace}(h:DataW.trod enc Tryz.prog W 0 sp hd n 40 cs=some x):∃m:MG,m.Rg/\EL W cs (mgC m):=by
 obtain⟨xs,n,rfl,_,hc,hl,hf⟩:=DataW.trod_struct undM h;rw[cM] at hc;obtain⟨a0,a1,a2,a3,a4,a5,a6,a7,a8,a9,a10,a11,a12,a13,a14,rfl⟩:=list15 hc;obtain⟨y0,h0⟩:=field hl hf 0 9 0 (by kernel_rfl);obtain⟨y1,h1⟩:=field hl hf 1 3 1 (by kernel_rfl);obtain⟨y2,h2⟩:=field hl hf 2 3 2 (by kernel_rfl);obtain⟨y3,h3⟩:=field hl hf 3 36 3 (by kernel_rfl);obtain⟨y4,h4⟩:=field hl hf 4 38 10 (by kernel_rfl);rw[cS] at h0;rw[cI] at h1 h2;rw[cMV] at h3;rw[cMD] at h4;have h3:DataW.trod enc Tryz.prog W 0 sp hd n 36 [a3,a4,a5,a6,a7,a8,a9]=some y3:=h3;have h4:DataW.trod enc Tryz.prog W 0 sp hd n 38 [a10,a11,a12,a13,a14]=some y4:=h4;obtain⟨xv,nv,_,_,_,lv,fv⟩:=DataW.trod_struct undMV h3;obtain⟨xd,nd,_,_,_,ld,fd⟩:=DataW.trod_struct undMD h4;obtain⟨z3,g3⟩:=field lv fv 0 9 0 (by kernel_rfl);rw[cS] at g3;obtain⟨z4,g4⟩:=field lv fv 1 9 1 (by kernel_rfl);rw[cS] at g4;obtain⟨z5,g5⟩:=field lv fv 2 3 2 (by kernel_rfl);rw[cI] at g5;obtain⟨z6,g6⟩:=field lv fv 3 3 3 (by kernel_rfl);rw[cI] at g6;obtain⟨z7,g7⟩:=field lv fv 4 3 4 (by kernel_rfl);rw[cI] at g7;obtain⟨z8,g8⟩:=field lv fv 5 2 5 (by kernel_rfl);rw[cI2] at g8;obtain⟨z9,g9⟩:=field lv fv 6 9 6 (by kernel_rfl);rw[cS] at g9;obtain⟨z10,g10⟩:=field ld fd 0 9 0 (by kernel_rfl);rw[cS] at g10;obtain⟨z11,g11⟩:=field ld fd 1 9 1 (by kernel_rfl);rw[cS] at g11;obtain⟨z12,g12⟩:=field ld fd 2 3 2 (by kernel_rfl);rw[cI] at g12;obtain⟨z13,g13⟩:=field ld fd 3 9 3 (by kernel_rfl);rw[cS] at g13;obtain⟨z14,g14⟩:=field ld fd 4 3 4 (by kernel_rfl);rw[cI] at g14;obtain⟨s0,e0,_⟩:=DataW.trod_string undS h0;obtain⟨i1,e1,_,w1⟩:=DataW.trod_int undI h1;have w1:=wcd w1;obtain⟨i2,e2,_,w2⟩:=DataW.trod_int undI h2;have w2:=wcd w2;obtain⟨s3,e3,_⟩:=DataW.trod_string undS g3;obtain⟨s4,e4,_⟩:=DataW.trod_string undS g4;obtain⟨i5,e5,_,w5⟩:=DataW.trod_int undI g5;have w5:=wcd w5;obtain⟨i6,e6,_,w6⟩:=DataW.trod_int undI g6;have w6:=wcd w6;obtain⟨i7,e7,_,w7⟩:=DataW.trod_int undI g7;have w7:=wcd w7;obtain⟨i8,e8,_,w8⟩:=DataW.trod_int wg3 g8;have w8:=wcd w8;obtain⟨s9,e9,_⟩:=DataW.trod_string undS g9;obtain⟨s10,e10,_⟩:=DataW.trod_string undS g10;obtain⟨s11,e11,_⟩:=DataW.trod_string undS g11;obtain⟨i12,e12,_,w12⟩:=DataW.trod_int undI g12;have w12:=wcd w12;obtain⟨s13,e13,_⟩:=DataW.trod_string undS g13;obtain⟨i14,e14,_,w14⟩:=DataW.trod_int undI g14;have w14:=wcd w14;simp at e0 e1 e2 e3 e4 e5 e6 e7 e8 e9 e10 e11 e12 e13 e14;subst e0 e1 e2 e3 e4 e5 e6 e7 e8 e9 e10 e11 e12 e13 e14;exact⟨⟨s0.data.toList,i1,i2,⟨s3.data.toList,s4.data.toList,i5,i6,i7,i8,s9.data.toList⟩,⟨s10.data.toList,s11.data.toList,i12,s13.data.toList,i14⟩⟩,⟨w1,w2,w5,w6,w7,w8,w12,w14⟩,⟨rfl,.str rfl⟩,⟨rfl,.int⟩,⟨rfl,.int⟩,⟨rfl,.str rfl⟩,⟨rfl,.str rfl⟩,⟨rfl,.int⟩,⟨rfl,.int⟩,⟨rfl,.int⟩,⟨rfl,.int⟩,⟨rfl,.str rfl⟩,⟨rfl,.str rfl⟩,⟨rfl,.str rfl⟩,⟨rfl,.int⟩,⟨rfl,.str rfl⟩,⟨rfl,.int⟩,trivial⟩
theorem wj8{α:Type}{d:α}{row:α->List AV}{n:Nat}{g:Nat->α}{sz:Nat}{v:Value}(h:V W (λ_=>False) nob v (.view sz n λi=>row (g i))):V W (λ_=>False) nob v (.view sz (lst g n).length λi=>row ((lst g n).getD i d)):=by
 have hl:(lst g n).length=n:=by simp[lst]
 rw[hl]
 cases h with
 |view ad cv hn hc hp hs hcell h1 hV=>
  have e:∀i,i<n->row ((lst g n).getD i d)=row (g i):=λi hi=>by
   simp[lst,List.getD_eq_getElem?_getD,List.getElem?_range hi]
  exact .view ad cv hn hc hp (λi hi=>by rw[e i hi];exact hs i hi) hcell h1 (λi hi j u hu=>hV i hi j u (by
   have hu:(row ((lst g n).getD i d))[j]?=some u:=hu;rw[e i hi] at hu;exact hu))
theorem el_rt{sp:Nat->Bool}{hd:Bool}{n:Nat}{cs:List Value}{x:DataW H×List MemPlace}(h:DataW.trod enc Tryz.prog W 0 sp hd n 97 cs=some x):∃r:RT,(inR .i64 r.per/\inR .i64 r.st/\∀b∈r.bs,inR .i64 b.up/\inR .i64 b.pr)/\EL W cs [.str r.o,.str r.p,.int .i64 r.per,.int .i64 r.st,.view 2 r.bs.length (wan (atB r.bs))]:=by
 obtain⟨xs,n,rfl,_,hc,hl,hf⟩:=DataW.trod_struct undRt h;rw[cRt] at hc;obtain⟨a0,a1,a2,a3,a4,rfl⟩:=list5 hc;obtain⟨y0,h0⟩:=field hl hf 0 9 0 (by kernel_rfl);rw[cS] at h0;obtain⟨s0,e0,_⟩:=DataW.trod_string undS h0;obtain⟨y1,h1⟩:=field hl hf 1 9 1 (by kernel_rfl);rw[cS] at h1;obtain⟨s1,e1,_⟩:=DataW.trod_string undS h1;obtain⟨y2,h2⟩:=field hl hf 2 3 2 (by kernel_rfl);rw[cI] at h2;obtain⟨i2,e2,_,w2⟩:=DataW.trod_int undI h2;have w2:=wcd w2;obtain⟨y3,h3⟩:=field hl hf 3 95 3 (by kernel_rfl);rw[cTa] at h3;have h3:DataW.trod enc Tryz.prog W 0 sp hd n 95 [a3,a4]=some y3:=h3;obtain⟨xv,nv,_,_,_,lv,fv⟩:=DataW.trod_struct undTa h3;obtain⟨z3,g3⟩:=field lv fv 0 2 0 (by kernel_rfl);rw[cI2] at g3;obtain⟨z4,g4⟩:=field lv fv 1 93 1 (by kernel_rfl);rw[cBks] at g4;obtain⟨i3,e3,_,w3⟩:=DataW.trod_int wg3 g3;have w3:=wcd w3;obtain⟨A,m,c,g,e4,hV,hR⟩:=wi2 (⟨0,0⟩:BK) (λb=>[.int .i64 b.up,.int .i64 b.pr]) (λb=>inR .i64 b.up/\inR .i64 b.pr) undBks cBk (by omega) (λ_=>rfl) el_bk g4;simp at e0 e1 e2 e3 e4;subst e0 e1 e2 e3 e4;refine⟨⟨s0.data.toList,s1.data.toList,i2,i3,lst g m⟩,⟨w2,w3,λb hb=>?_⟩,⟨rfl,.str rfl⟩,⟨rfl,.str rfl⟩,⟨rfl,.int⟩,⟨rfl,.int⟩,⟨rfl,wj8 (d:=(⟨0,0⟩:BK)) (row:=λb=>[.int .i64 b.up,.int .i64 b.pr]) hV⟩,trivial⟩;obtain⟨i,hi,rfl⟩:=List.mem_map.1 hb;exact hR i (List.mem_range.1 hi)
theorem el_fl{sp:Nat->Bool}{hd:Bool}{n:Nat}{cs:List Value}{x:DataW H×List MemPlace}(h:DataW.trod enc Tryz.prog W 0 sp hd n 49 cs=some x):∃F:FL,F.Ri/\EL W cs (wc8 F):=by
 obtain⟨xs,n,rfl,_,hc,hl,hf⟩:=DataW.trod_struct undFl h;rw[cFl] at hc;obtain⟨a0,a1,a2,a3,a4,a5,a6,rfl⟩:=list7 hc;obtain⟨y0,h0⟩:=field hl hf 0 9 0 (by kernel_rfl);rw[cS] at h0;obtain⟨s0,e0,_⟩:=DataW.trod_string undS h0;obtain⟨y1,h1⟩:=field hl hf 1 3 1 (by kernel_rfl);rw[cI] at h1;obtain⟨i1,e1,_,w1⟩:=DataW.trod_int undI h1;have w1:=wcd w1;obtain⟨y2,h2⟩:=field hl hf 2 3 2 (by kernel_rfl);rw[cI] at h2;obtain⟨i2,e2,_,w2⟩:=DataW.trod_int undI h2;have w2:=wcd w2;obtain⟨y3,h3⟩:=field hl hf 3 3 3 (by kernel_rfl);rw[cI] at h3;obtain⟨i3,e3,_,w3⟩:=DataW.trod_int undI h3;have w3:=wcd w3;obtain⟨y4,h4⟩:=field hl hf 4 22 4 (by kernel_rfl);rw[cMgs] at h4;obtain⟨y5,h5⟩:=field hl hf 5 46 5 (by kernel_rfl);rw[cRws] at h5;obtain⟨y6,h6⟩:=field hl hf 6 47 6 (by kernel_rfl);rw[cRts] at h6;obtain⟨A4,m4,c4,g4,e4,V4,R4⟩:=wi2 (default:MG) mgC MG.Rg undMs cM (by omega) (λ_=>rfl) el_mg h4;obtain⟨A5,m5,c5,g5,e5,V5,R5⟩:=wi2 (default:RW) (λr=>[.str r.o,.str r.p,.int .i64 r.per,.int .i64 r.u,.int .i64 r.tv]) RW.Rg undRs cR (by omega) (λ_=>rfl) el_rw h5;obtain⟨A6,m6,c6,g6,e6,V6,R6⟩:=wi2 wdf (λr=>[.str r.o,.str r.p,.int .i64 r.per,.int .i64 r.st,.view 2 r.bs.length (wan (atB r.bs))]) (λr=>inR .i64 r.per/\inR .i64 r.st/\∀b∈r.bs,inR .i64 b.up/\inR .i64 b.pr) undRts cRt (by omega) (λ_=>rfl) el_rt h6;simp at e0 e1 e2 e3 e4 e5 e6;subst e0 e1 e2 e3 e4 e5 e6;refine⟨⟨s0.data.toList,i1,i2,i3,lst g4 m4,lst g5 m5,lst g6 m6⟩,⟨w1,w2,w3,λb hb=>?_,λb hb=>?_,λb hb=>?_⟩,⟨rfl,.str rfl⟩,⟨rfl,.int⟩,⟨rfl,.int⟩,⟨rfl,.int⟩,⟨rfl,wj8 (d:=(default:MG)) (row:=mgC) V4⟩,⟨rfl,wj8 (d:=(default:RW)) (row:=λr:RW=>[.str r.o,.str r.p,.int .i64 r.per,.int .i64 r.u,.int .i64 r.tv]) V5⟩,⟨rfl,wj8 (d:=wdf) (row:=λr:RT=>[.str r.o,.str r.p,.int .i64 r.per,.int .i64 r.st,.view 2 r.bs.length (wan (atB r.bs))]) V6⟩,trivial⟩
 .obtain⟨i,hi,rfl⟩:=List.mem_map.1 hb;exact R4 i (List.mem_range.1 hi)
 .obtain⟨i,hi,rfl⟩:=List.mem_map.1 hb;exact R5 i (List.mem_range.1 hi)
 .obtain⟨i,hi,rfl⟩:=List.mem_map.1 hb;exact R6 i (List.mem_range.1 hi)
theorem w1b{fuel:Nat}{cs:List Value}{x:DataW H×List MemPlace}{sp:Nat->Bool}{hd:Bool}(h:DataW.trod enc Tryz.prog W 0 sp hd fuel 51 cs=some x):
  ∃(A:Option Addr) (n c:Nat) (g:Nat->FL),cs=[.slice A n c]/\V W (λ_=>False) nob (.slice A n c) (.view 7 n (waf g))/\∀i,i<n->(g i).Ri:=
 wi2 wio wc8 FL.Ri undFls cFl (by omega) (λ_=>rfl) el_fl h
end Go.Eng
namespace Go.Eng
def aR:RW:=⟨[111],[57,54,51,56,53,48,55,52],5,2,300⟩
def aT:List UInt8:=[49,58,97,44,49,44,50,44,48,44,49,44,49,58,111,44,56,58,57,54,51,56,53,48,55,52,44,53,44,50,44,51,48,48,44,48,44]
def wh8:Spec
 |[.agg [.str [97],.int .i64 1,.int .i64 10,.int .i64 2,.view 15 0 _,.view 5 1 fr,.view 5 0 _]],[]=>some (.str aT,[],fr=wae (atR [aR]))
 |_,_=>none
def aF:FL:=⟨[97],1,10,2,[],[aR],[]⟩
def wmj:Spec
 |[.agg [.str [97],.int .i64 1,.int .i64 10,.int .i64 2,.view 15 0 fm,.view 5 1 fr,.view 5 0 ft]],[]=>some (.q 0,[],fm=wad (atM [])/\fr=wae (atR [aR])/\ft=wag (atT []))
 |_,_=>none
def wou:wbp
 |[.own 0 1,.func 92 [.ptr 1 0]],[.row t 1 1 f fr,.cells [.map 2] ct,.amap es],R=>(t=9/\fr=false/\f 0=[.str aT]/\es=[(.str aT,.agg (wc8 aF))])/\
   R (.tuple []) [(0,.row 9 1 1 (λ_=>[.str aT]) false),(1,.cells [.map 2] ct),(2,.amap es)]
 |_,_,_=>False
def wn8:Spec
 |[.agg [.str [97],.int .i64 1,.int .i64 10,.int .i64 2,.view 15 0 fm,.view 5 1 fr,.view 5 0 ft]],[]=>some (.agg [.str [97],.q 1,.q 10,.q 2,.view 15 0 fm,.view 5 1 fr,.view 5 0 ft],[],fm=wad (atM [])/\fr=wae (atR [aR])/\ft=wag (atT []))
 |_,_=>none
def wh4:Spec
 |[.view 7 1 f],[]=>some (.own 0 1,[(0,.row 49 7 1 (waf (λ_=>aF)) false)],f=waf (λ_=>aF))
 |_,_=>none
def entI(K:List (List UInt8))(v:List UInt8->Int):List (AV×AV):=K.map λt=>(.str t,.q (v t))
def EsV(es:List (AV×AV)):Prop:=∃(K:List (List UInt8)) (v:List UInt8->Int),es=entI K v/\K.Nodup
def qD(d:Int)(F:FL):Bool:=decide (d<F.day)
def qV(es:List (AV×AV))(F:FL):Bool:= !decide (F.kind=1) && decide (F.ver<wao ((mget es (.str F.id)).getD (.q 0)))
def wig:Spec
 |[.agg [.str id,.int .i64 ver,.int .i64 day,.int .i64 kind,.view 15 nm fm,.view 5 nr fr,.view 5 nt ft],.ptr 0 0],[.cells [.int .i64 d] t2]=>some (.bool (qD d (flV id ver day kind nm fm nr fr nt ft)),[(0,.cells [.q d] t2)],(FlC nm fm nr fr nt ft/\(flV id ver day kind nm fm nr fr nt ft).Rg)/\t2=3/\True)
 |_,_=>none
def woc:Spec
 |[.agg [.str id,.int .i64 ver,.int .i64 day,.int .i64 kind,.view 15 nm fm,.view 5 nr fr,.view 5 nt ft],.ptr 0 0],[.cells [.map 1] t2,.amap es]=>some (.bool (qV es (flV id ver day kind nm fm nr fr nt ft)),[(0,.cells [.map 1] t2),(1,.amap es)],(FlC nm fm nr fr nt ft/\(flV id ver day kind nm fm nr fr nt ft).Rg)/\t2=132/\EsV es)
 |_,_=>none
def S_s6(E:List ((List UInt8×Int)×Int))(F:FL)(L:List FL)(k:Nat):St:=⟨[(4,.nil),(5,.nil),(6,.own 0 L.length),(7,.map 1),(9,.ptr 2 0),(17,.own 0 L.length),(18,.q L.length),(19,.q k)],
 [(0,.row 49 7 L.length (waf (atF L)) false),(1,.amap (entM E)),(2,.cells [.str F.id,.q F.ver,.q F.day,.q F.kind,.view 15 F.ms.length (wad (atM F.ms)),.view 5 F.rs.length (wae (atR F.rs)),.view 5 F.ts.length (wag (atT F.ts))] 49)],3,[]⟩
def S_s6b(E:List ((List UInt8×Int)×Int))(F:FL)(L:List FL)(k:Nat):St:=⟨[(4,.nil),(5,.nil),(6,.own 0 L.length),(7,.map 1),(9,.ptr 2 0),(17,.own 0 L.length),(18,.q L.length),(19,.q k),(23,.map 1),(28,.agg [.str F.id,.q F.ver])],
 [(0,.row 49 7 L.length (waf (atF L)) false),(1,.amap (entM E)),(2,.cells [.str F.id,.q F.ver,.q F.day,.q F.kind,.view 15 F.ms.length (wad (atM F.ms)),.view 5 F.rs.length (wae (atR F.rs)),.view 5 F.ts.length (wag (atT F.ts))] 49)],3,[]⟩
def L_s6(E:List ((List UInt8×Int)×Int))(F:FL)(L:List FL)(k:Nat):war:=λst Q=>canonIs te 0 [4,5,6,7,9,17,18,19] st (S_s6 E F L k)/\(E.map Prod.fst).Nodup/\inR .i64 (getC E (mk2 (edM F))+1)/\Q .normal (S_s6 (addC E (mk2 (edM F))) F L k)
def wil:wbp
 |[.own 0 1,.func 143 [.ptr 1 0]],[.row t 7 1 f fr,.cells [.int .i64 10] t2],R=>(t=49/\t2=3/\fr=false/\f=waf (λ_=>aF))/\
   R (.own 0 1) [(0,.row 49 7 1 (waf (λ_=>aF)) false),(1,.cells [.q 10] 3)]
 |[.own 0 1,.func 143 [.ptr 1 0]],[.row t 7 1 f fr,.cells [.int .i64 9] t2],R=>(t=49/\t2=3/\fr=false/\f=waf (λ_=>aF))/\
   R (.own 0 0) [(0,.row 49 7 0 (waf (λ_=>aF)) false),(1,.cells [.q 9] 3)]
 |_,_,_=>False
def why:Spec
 |[.view 7 1 f,.int .i64 10],[]=>some (.tuple [.own 0 1,.nil],[(0,.row 49 7 1 (waf (λ_=>aF)) false)],f=waf (λ_=>aF))
 |[.view 7 1 f,.int .i64 9],[]=>some (.tuple [.nil,.nil],[],f=waf (λ_=>aF))
 |_,_=>none
def wik:wbp
 |[.own 0 1,.func 101 [.ptr 1 0]],[.row t 7 1 f fr,.cells [.map 2] t2,.amap es],R=>(t=49/\t2=132/\fr=false/\f=waf (λ_=>aF)/\es=[(.str [97],.q 1)])/\
   R (.own 0 1) [(0,.row 49 7 1 (waf (λ_=>aF)) false),(1,.cells [.map 2] 132),(2,.amap es)]
 |[.nil,.func 101 [.ptr 0 0]],[.cells [.map 1] t2,.amap es],R=>(t2=132/\es=[])/\R .nil [(0,.cells [.map 1] 132),(1,.amap [])]
 |_,_,_=>False
def wnr:Spec
 |[.nil,.func 101 [.ptr 0 0]],[.cells [.map 1] t2,.amap es]=>some (.q (-1),[(0,.cells [.map 1] 132),(1,.amap [])],es=[]/\t2=132)
 |_,_=>none
def wf5:Spec
 |[.own 0 1,.func 143 [.ptr 1 0]],[.row t 7 1 f fr,.cells [.int .i64 10] t2]=>some (.q (-1),[(0,.row 49 7 1 (waf (λ_=>aF)) false),(1,.cells [.q 10] 3)],t=49/\t2=3/\fr=false/\f=waf (λ_=>aF))
 |[.own 0 1,.func 143 [.ptr 1 0]],[.row t 7 1 f fr,.cells [.int .i64 9] t2]=>some (.q 0,[(0,.row 49 7 1 (waf (λ_=>aF)) false),(1,.cells [.q 9] 3)],t=49/\t2=3/\fr=false/\f=waf (λ_=>aF))
 |[.own 0 1,.func 101 [.ptr 1 0]],[.row t 7 1 f fr,.cells [.map 2] t2,.amap es]=>some (.q (-1),[(0,.row 49 7 1 (waf (λ_=>aF)) false),(1,.cells [.map 2] 132),(2,.amap [(.str [97],.q 1)])],t=49/\t2=132/\fr=false/\f=waf (λ_=>aF)/\es=[(.str [97],.q 1)])
 |_,_=>none
def S_vwA:Spec
 |[.view 7 1 f,.int .i64 10],[]=>some (.own 0 1,[(0,.row 49 7 1 (waf (λ_=>aF)) false)],f=waf (λ_=>aF))
 |[.view 7 1 f,.int .i64 9],[]=>some (.nil,[],f=waf (λ_=>aF))
 |_,_=>none
def wmh:Spec
 |[.own 0 1,.int .i64 10],[.row _ 7 1 f _]=>some (.view 7 1 (waf (λ_=>aF)),[],f 0=wc8 aF)
 |[.own 0 1,.int .i64 9],[.row _ 7 1 f _]=>some (.nil,[],f 0=wc8 aF)
 |_,_=>none
end Go.Eng
namespace Go.Proofs
open Go.RowKit
theorem Tryz.sizeBuilder:(Tryz.prog.info? 109).map (·.size)=some 2:=by kernel_rfl
theorem Tryz.liesWords:liesAt Tryz.prog Tryz.prog.depth 111 1 0 109 1=true:=by kernel_rfl
theorem Tryz.cellsWords:Tryz.prog.cellsOf 111=2:=by kernel_rfl
theorem Tryz.und106:Tryz.prog.underlying 106=some (.pointer 109):=by kernel_rfl
theorem Tryz.und220:Tryz.prog.underlying 220=some .unsafePointer:=by kernel_rfl
set_option maxHeartbeats 1000000 in
set_option maxRecDepth 100000 in
theorem Tryz.copyCheck_used(b:Nat)(w:World)(h0:w.cell? ⟨b,0,none⟩=some (.pointer (some ⟨b,0,none⟩))):
  Calls Tryz.prog 164 #[.pointer (some ⟨b,0,none⟩)] w λe w'=>e= .returned (.tuple #[])/\w'=w:=by
 obtain⟨j,hj,_⟩:=Option.map_eq_some_iff.1 Tryz.sizeBuilder
 go_enter Tryz.func164,Tryz.ntmps164
 go_wp2
 rw[Lib.run_neq_ptr_same w _ Tryz.und106 hj]
 go_wp2
 go_end0
 exact⟨rfl,rfl⟩
set_option maxHeartbeats 1000000 in
set_option maxRecDepth 100000 in
theorem Tryz.copyCheck_fresh(b:Nat)(w:World)(h0:w.cell? ⟨b,0,none⟩=some (.pointer none))(hsh:w.shape? b=some (111,2))(hfz:w.frozen? ⟨b,0,none⟩=false):
  Calls Tryz.prog 164 #[.pointer (some ⟨b,0,none⟩)] w λe w'=>e= .returned (.tuple #[])/\w'=w.setCell ⟨b,0,none⟩ (.pointer (some ⟨b,0,none⟩)):=by
 obtain⟨j,hj,hjs⟩:=Option.map_eq_some_iff.1 Tryz.sizeBuilder
 go_enter Tryz.func164,Tryz.ntmps164
 go_wp2
 rw[Lib.run_to_unsafe w ⟨b,0,none⟩ Tryz.und106 Tryz.und220 hj (by rw[hjs];decide) hsh (Nat.zero_lt_succ 1)];simp only[Result.andThen];rw[Oper.upon_value]
 go_wp2
 rw[run_callFunc_extern Tryz.func203 (by kernel_rfl) (by kernel_rfl) (by kernel_rfl) (e:=Extern.AbiNoEscape.same) (by kernel_rfl)];rw[Lib.run_noEscape];simp only[Result.andThen];rw[Oper.upon_value]
 go_wp2
 rw[Lib.run_from_unsafe w ⟨b,0,none⟩ Tryz.und220 Tryz.und106 hj hsh (by rw[Tryz.cellsWords];exact Tryz.liesWords)];simp only[Result.andThen];rw[Oper.upon_value]
 go_wp2
 go_end0
 exact⟨rfl,rfl⟩
end Go.Proofs
namespace Go.Eng
open Go.Proofs Go.RowKit Go.Sort
variable {C:Ctx} [C.Loose]
set_option maxRecDepth 20000
theorem wy8(w:World)(k:Nat)(os:Array Obj):Below w.heap.size w (grow (w.drewN k) os):=
 ⟨rfl,rfl,rfl,by simp[grow,World.drewN],λi hi=>by
  show (w.heap++os)[i]?=_;rw[Array.getElem?_append_left hi]⟩
theorem wrj{w:World}{M:Nat->Prop}{bs:Nat->Option Hd}{v:Value}{r off:Nat}(h:V w M bs v (.ptr r off)):∃b c,v= .pointer (some ⟨b,off,none⟩)/\bs r=some (.blk b c):=by
 cases h with | ptr hb=>exact⟨_,_,rfl,hb⟩
theorem ccUsed(hP:C.P=Tryz.prog){args:List AV}{objs:List AObj}{cs:List AV}{t:TypeId}(ha:args=[.ptr 0 0])(ho:objs[0]?=some (.cells (.ptr 0 0::cs) t)):wal C 164 args objs λu O=>u= .tuple []/\O=enum 0 objs:=by
 have _:C.Loose:=inferInstance;subst ha;refine wal.quiet ⟨_,hP ▸ Tryz.func164,rfl,by decide⟩ λE bs w cargs hW hl hv=>?_;obtain⟨a,rfl⟩:=mem1 hl;have V0:=hv 0 _ _ rfl rfl;obtain⟨b,x,rfl,hx,hxV⟩:=WRep.cell hW (r:=0) (by simpa[lkL] using ho) V0 (j:=0) (u:=.ptr 0 0) rfl;obtain⟨b1,c1,rfl,hb1⟩:=wrj hxV;obtain⟨b2,c2,e2,hb2⟩:=wrj V0;rw[hb1] at hb2;injection hb2 with hb2;injection hb2 with e3 e4;subst e3;injection e2 with e2;injection e2 with e2;injection e2 with e2;subst e2;rw[hP];refine(Tryz.copyCheck_used b w hx).mono ?_;rintro e w' ⟨rfl,rfl⟩;exact⟨_,rfl,rfl,.tuple rfl (λj v u hv hu=>by simp at hu)⟩
theorem ccFresh(hP:C.P=Tryz.prog):wal C 164 [.ptr 0 0] [.cells [.nilptr,.nil] 111] λu O=>u= .tuple []/\O=[(0,.cells [.ptr 0 0,.nil] 111)]:=by
 have _:C.Loose:=inferInstance;refine⟨⟨_,hP ▸ Tryz.func164,rfl,by decide⟩,λE bs w cargs h1 h2 h3 hW h5 h6 h7=>?_⟩;obtain⟨a,rfl⟩:=mem1 h6;have V0:=h7 0 _ _ rfl rfl;obtain⟨b,c,vs,k1,k2,k3,k4,k5⟩:=hW.obj 0 _ rfl;obtain⟨x,y,rfl⟩:∃x y,vs=#[x,y]:=by
  have k3:vs.size=2:=k3;exact⟨vs[0],vs[1],by
   apply Array.ext
   .simpa using k3
   .intro i hi1 hi2
    match i,hi2 with
    |0,_=>rfl
    |1,_=>rfl⟩
 have hx:=k5 0 x .nilptr rfl rfl;have hy:=k5 1 y .nil rfl rfl
 cases hx
 cases hy;obtain⟨b',c',rfl,hb⟩:=wrj V0;rw[k1] at hb;injection hb with hb;injection hb with e1 e2;subst e1;subst e2
 .rw[hP];refine(Tryz.copyCheck_fresh b w (by rw[cell_of_row w b 0 _ _ (0,0) k2];rfl) (by simp[World.shape?,k2]) (by simp[World.frozen?,k2])).mono ?_;rintro e w' ⟨rfl,rfl⟩;have hm:(AObj.cells [.nilptr,.nil] 111).mut=true:=rfl;have hheap:(w.setCell ⟨b,0,none⟩ (.pointer (some ⟨b,0,none⟩))).heap[b]?=some (.cells #[.pointer (some ⟨b,0,none⟩),.slice none 0 0] 111 (0,0)):=by
   simp[World.setCell,Array.getElem?_modify,k2]
  obtain⟨g1,g2⟩:=hW.modify (x:=0) rfl hm k1 (w':=w.setCell ⟨b,0,none⟩ (.pointer (some ⟨b,0,none⟩))) (λk hk=>by simp[World.setCell,Array.getElem?_modify,Ne.symm hk]) (by simp[World.setCell]) rfl ⟨rfl,λ_=>lR7 _⟩ rfl (o:=.cells [.ptr 0 0,.nil] 111) rfl
   (λhS=>⟨b,c,_,k1,hheap,rfl,λj v hv=>by
    match j with
    |0=>obtain rfl:=oJ7 hv;rfl
    |1=>obtain rfl:=oJ7 hv;rfl
    |j+2=>simp at hv,λj v u hv hu=>by
    match j with
    |0=>obtain rfl:=oJ7 hv;obtain rfl:=oJ7 hu;exact .ptr k1
    |1=>obtain rfl:=oJ7 hv;obtain rfl:=oJ7 hu;exact .nil
    |j+2=>simp at hv⟩)
  have e2:up (lkL [AObj.cells [.nilptr,.nil] 111]) 0 (.cells [.ptr 0 0,.nil] 111)=lk [(0,.cells [.ptr 0 0,.nil] 111)]:=by
   funext i;rw[wax]
   by_cases h:(0:Nat)=i
   .subst h;rw[waz,if_pos rfl]
   .rw[wav _ _ _ h,if_neg h]
    cases i with
    |zero=>exact absurd rfl h
    |succ i=>simp[lkL,lk]
  rw[e2] at g2;refine⟨_,.tuple [],[(0,.cells [.ptr 0 0,.nil] 111)],bs,rfl,⟨rfl,rfl⟩,g2,.tuple rfl (λj v u hv hu=>by simp at hu),λr hr=>⟨?_,h5 r (by show 1<=r;have:1+16<=r:=hr;omega)⟩⟩;have:1+16<=r:=hr;rw[wax,if_neg (by show ¬ 0=r;omega)];rfl
theorem cc_ok(hP:C.P=Tryz.prog):wah C 164 S_cc:=by
 rintro args objs U Os vc h hvc;unfold S_cc at h;split at h<;>simp only[sI7,pI7,reduceCtorEq] at h
 .rename_i t;obtain⟨rfl,rfl,rfl⟩:=h;have hvc:t=_:=hvc;subst hvc;exact ccFresh hP
 .rename_i n t t8 m f;obtain⟨rfl,rfl,rfl⟩:=h;have hvc:t=_:=hvc;subst hvc;exact ccUsed hP rfl rfl
theorem wlm(hP:C.P=Tryz.prog)(hL:∀w,C.laid w->LaidW w):wah C 134 weo:=by
 rintro args objs U Os vc h hvc;unfold weo at h;split at h<;>cases h;rename_i n;have hr:inR .i64 n:=hvc;simp only[inR] at hr;refine wal.below ⟨_,hP ▸ Tryz.func134,rfl,by decide⟩ λw M cargs hlaid _ hM hl hv=>?_;obtain⟨a,b,rfl⟩:∃a b,cargs=[a,b]:=by
  match cargs,hl with
  |[a,b],_=>exact⟨a,b,rfl⟩
 have e1:=(hv 0 _ _ rfl rfl).int_iff;have e2:=(hv 1 _ _ rfl rfl).int_iff;subst e1;subst e2;rw[hP];refine(Tryz.strconv_FormatInt_10 n (by omega) (by omega) w (hL w hlaid).pow).mono ?_;rintro e w' ⟨rfl,k,os,rfl⟩;exact⟨_,rfl,wy8 _ _ _,.str (by simp)⟩
theorem wlc(hP:C.P=Tryz.prog)(hL:∀w,C.laid w->LaidW w):wah C 133 wco:=by
 rintro args objs U Os vc h hvc;unfold wco at h;split at h<;>cases h;rename_i n;have hr:inR .i64 n:=hvc;simp only[inR] at hr;refine wal.below ⟨_,hP ▸ Tryz.func133,rfl,by decide⟩ λw M cargs hlaid _ hM hl hv=>?_;obtain⟨a,rfl⟩:=mem1 hl;have e1:=(hv 0 _ _ rfl rfl).int_iff;subst e1;rw[hP];refine(Tryz.strconv_Itoa n (by omega) (by omega) w (hL w hlaid).pow).mono ?_;rintro e w' ⟨rfl,k,os,rfl⟩;exact⟨_,rfl,wy8 _ _ _,.str (by simp)⟩
end Go.Eng
