/- Changed, and the reference's. -/
import Derived.Test.YtgcboligphndhaaGreatDoorXzf
import Derived.Test.YtgcboligphndhaaGreatDoorXze
namespace Go.Eng
open Go.Proofs Go.RowKit
variable {C:Ctx} [C.Loose]
set_option maxRecDepth 20000
theorem nf_vw(g:Nat->FL)(n:Nat)(d:Int)(R:oR7):letI z1:=wa6 (knwL okV (flOf (waa g)) n d);letI z4:=z1.length;letI z0:=wa6 (knwL okV g n d);letI z5:=waa (atF z0);letI z3:=z0.length;letI z2:=(List.map (λ(p:AV×AV)=>(AV.rn (idxN [0,1,2]) p.1,AV.rn (idxN [0,1,2]) p.2)) (nwE z0 z3));wpFn te [(99,.det whn),(100,.rel woi)] [(4,L_v4 z0)] 0 Tryz.f44 [.view 7 n (waa g),.q d] [] R=((n<=1000/\waa g=waa (flOf (waa g))/\∀(i:Nat),i<n->FL.Gd (flOf (waa g) i))/\(∀(i:Nat),i<z1.length->true=true)/\(∀(i:Nat),i<(badL (knwL okV (flOf (waa g)) n d)).length->true=true)/\(TEq [(5,.own 0 z4),(7,.ptr 1 0),(17,.own 0 z4),(18,.q (z4:Int)),(19,.q 0)] [(5,.own 0 z3),(7,.ptr 1 0),(17,.own 0 z3),(18,.q (z3:Int)),(19,.q (↑0:Int))]/\wae [(0,.row 49 7 z4 (waa (atF z1)) false),(1,.cells [.map 2] 132),(2,.amap (List.map (λ(p:AV×AV)=>(AV.rn (ren 0 [(0,0),(17,1),(16,2)]) p.1,AV.rn (ren 0 [(0,0),(17,1),(16,2)]) p.2)) []))] [(0,.row 49 7 z3 z5 false),(1,.cells [.map 2] 132),(2,.amap (nwE z0 0))])/\z0.length<=1000/\(∀(F:FL),F∈wa6 (knwL okV g n d)->(0:Int)<=F.ver)/\(∀(i:Nat),i<z0.length->true=true)/\49=49/\132=132/\false=false/\z0.length=z0.length/\z0.length<=1000/\waa (atF z0)=waa (flOf z5)/\(∀(i:Nat),i<z0.length->FL.Rg (flOf z5 i))/\EsV z2/\∀(k:Nat) (h:Nat->FL),k<=z0.length->lst h k=kfL (qV z2) (flOf z5) z3->(∀(i:Nat),i<k->true=true)/\(∀(i:Nat),i<k->true=true)/\∃(O':oL7),wae [(0,.row 49 7 k (waa h) false)] O'/\R (.own 0 k) O'):=by kernel_rfl
theorem wz8(G:List FL)(k:Nat)(P:Nat->Prop)(R:eR7):waw ⟨te,[],[],0,40,0⟩ (way Tryz.f44 4) [5,7,17,18,19] [5,7] [] (S_v4 G) P R (S_v4 G k)=(letI z5:=TI.desc (TI.mk TypeDesc.string 1 16 (Value.string (ByteArray.mk #[])) false);letI z4:=ren 0 [(0,0),(1,1),(2,2)];letI z2:=(atF G (k:Int).toNat);letI z6:=war (Option.getD (mget (nwE G k) (.str z2.id)) (zvA (.q 0)));letI z1:=G.length;letI z3:=([(5,.own 0 z1),(7,.ptr 1 0),(17,.own 0 z1),(18,.q (z1:Int)),(19,.q ((k:Int)+1))]:tL7);letI z0:=([(0,.row 49 7 z1 (waa (atF G)) false),(1,.cells [.map 2] 132),(2,.amap (List.map (λ(p:AV×AV)=>(AV.rn z4 p.1,AV.rn z4 p.2)) (nwE G k)))]:oL7);wab (decide ((k:Int)<(z1:Int))) (((0:Int)<=(k:Int)/\(k:Int)<(z1:Int))/\((k:Int).toNat<G.length/\7=7)/\wab (!decide (z2.kind=1)) ((wbv z5 (nwE G k)/\.q z6=Option.getD (mget (nwE G k) (.str z2.id)) (zvA (.q 0)))/\wbv z5 (nwE G k)/\inR .i64 ((k:Int)+1)/\∃(i':Nat),(TEq z3 [(5,.own 0 z1),(7,.ptr 1 0),(17,.own 0 z1),(18,.q (z1:Int)),(19,.q (i':Int))]/\wae [(0,.row 49 7 z1 (waa (atF G)) false),(1,.cells [.map 2] 132),(2,.amap (List.map (λ(p:AV×AV)=>(AV.rn z4 p.1,AV.rn z4 p.2)) (mset (nwE G k) (.str z2.id) (.q (max z6 z2.ver)))))] [(0,.row 49 7 z1 (waa (atF G)) false),(1,.cells [.map 2] 132),(2,.amap (nwE G i'))])/\P i') (inR .i64 ((k:Int)+1)/\∃(i':Nat),(TEq z3 [(5,.own 0 z1),(7,.ptr 1 0),(17,.own 0 z1),(18,.q (z1:Int)),(19,.q (i':Int))]/\wae z0 [(0,.row 49 7 z1 (waa (atF G)) false),(1,.cells [.map 2] 132),(2,.amap (nwE G i'))])/\P i')) ((∀(i:Nat),i<G.length->true=true)/\∃(O':oL7),wae z0 O'/\R (.exit 0) (St.mk [(5,.own 0 z1),(7,.ptr 1 0)] O' 3 []))):=by kernel_rfl
theorem nf_conf(g:Nat->FL)(n:Nat)(d:Int)(R:oR7):wpFn te [(99,.det whn)] [] 0 Tryz.f46 [.view 7 n (waa g),.q d] [] R=(letI z0:=knwL okV (flOf (waa g)) n d;letI z1:=(∀(i:Nat),i<(badL z0).length->true=true:Prop);(n<=1000/\waa g=waa (flOf (waa g))/\∀(i:Nat),i<n->FL.Gd (flOf (waa g) i))/\(∀(i:Nat),i<(wa6 z0).length->true=true)/\z1/\z1/\∃(O':oL7),wae [(0,.row 49 7 (badL z0).length (waa (atF (badL z0))) false)] O'/\R (.own 0 (badL z0).length) O'):=by kernel_rfl
theorem wu1(v:List UInt8->Int)(x:List UInt8)(y:Int):∀K,x ∉ K->mset (entI K v) (.str x) (.q y)=entI (K++[x]) (λt=>if t=x then y else v t)
 |[],_=>by simp[entI,mset]
 |t::K,h=>by
  have h1:¬ t=x:=λe=>h (by simp[e]);have ih:=wu1 v x y K (λe=>h (by simp[e]));show (match keq (.str t) (.str x) with | true=>(AV.str x,AV.q y)::entI K v | false=>(AV.str t,AV.q (v t))::mset (entI K v) (.str x) (.q y))=_
  rw[wg7,decide_eq_false h1,ih];show _=(AV.str t,AV.q (if t=x then y else v t))::entI (K++[x]) _
  rw[if_neg h1]
theorem wlh{K:List (List UInt8)}{v v':List UInt8->Int}(h:∀t∈K,v t=v' t):entI K v=entI K v':=List.map_congr_left λt ht=>by rw[h t ht]
theorem wuz(v:List UInt8->Int)(x:List UInt8)(y:Int):∀K,K.Nodup->x∈K->mset (entI K v) (.str x) (.q y)=entI K (λt=>if t=x then y else v t)
 |[],_,h=>by cases h
 |t::K,hd,h=>by
  rw[List.nodup_cons] at hd;show (match keq (.str t) (.str x) with | true=>(AV.str x,AV.q y)::entI K v | false=>(AV.str t,AV.q (v t))::mset (entI K v) (.str x) (.q y))=(AV.str t,AV.q (if t=x then y else v t))::entI K (λt=>if t=x then y else v t)
  rw[wg7]
  by_cases e:t=x
  ·subst e;rw[decide_eq_true rfl,if_pos rfl];show _::_=_::_;rw[wlh (v:=v) (v':=λs=>if s=t then y else v s) λs hs=>by
    rw[if_neg];intro q;subst q;exact hd.1 hs]
  ·rw[decide_eq_false e,if_neg e];have hx:x∈K:=by
    rcases List.mem_cons.1 h with q | q
    ·exact absurd q.symm e
    ·exact q
   show _::_=_::_;rw[wuz v x y K hd.2 hx]
theorem wix(G:List FL):∀k,(idK G k).Nodup
 |0=>List.nodup_nil
 |k+1=>by
  rw[idK]
  cases q: !decide ((atF G k).kind=1) && !decide ((atF G k).id∈idK G k) with
  |false=>exact wix G k
  |true=>
   rw[bA7,Bool.not_eq_true',Bool.not_eq_true',decide_eq_false_iff_not,decide_eq_false_iff_not] at q;show (idK G k++[(atF G k).id]).Nodup;rw[List.nodup_append];refine⟨wix G k,by simp,λa ha b hb=>?_⟩;rw[List.mem_singleton] at hb;subst hb;intro e;subst e;exact q.2 ha
theorem wkg{G:List FL}{t:List UInt8}:∀ {k},t ∉ idK G k->nwF G t k=0
 |0,_=>rfl
 |k+1,h=>by
  rw[idK] at h;rw[nwF]
  cases q: !decide ((atF G k).kind=1) with
  |false=>
   rw[q,Bool.false_and,cond_false] at h;rw[Bool.false_and,cond_false];exact wkg h
  |true=>
   rw[q,Bool.true_and] at h
   by_cases e:(atF G k).id∈idK G k
   ·rw[decide_eq_true e] at h;have h:t ∉ idK G k:=h;have ne:¬ (atF G k).id=t:=λz=>h (z ▸ e);rw[decide_eq_false ne];exact wkg h
   ·rw[decide_eq_false e] at h;have h:t ∉ idK G k++[(atF G k).id]:=h;rw[List.mem_append,List.mem_singleton,not_or] at h;rw[decide_eq_false λz=>h.2 z.symm];exact wkg h.1
theorem wuj(G:List FL)(k:Nat)(x:List UInt8):Option.getD (mget (nwE G k) (.str x)) (.q 0)= .q (nwF G x k):=by
 unfold nwE;rw[wq1]
 by_cases h:x∈idK G k
 ·rw[if_pos h]
 ·rw[if_neg h,wkg h]
theorem wui(G:List FL)(k:Nat):wbv .string (nwE G k):=wwl (wix G k)
theorem wqm(σ:Nat->Option Nat)(G:List FL)(k:Nat):(nwE G k).map (λp=>(AV.rn σ p.1,AV.rn σ p.2))=nwE G k:=whc σ _ _
theorem nwE_msg{G:List FL}{k:Nat}(h:(atF G k).kind=1):nwE G (k+1)=nwE G k:=by
 unfold nwE;rw[idK,decide_eq_true h];refine wlh λt _=>?_;rw[nwF,decide_eq_true h];rfl
theorem nwE_set{G:List FL}{k:Nat}(h:¬ (atF G k).kind=1):mset (nwE G k) (.str (atF G k).id) (.q (max (nwF G (atF G k).id k) (atF G k).ver))=nwE G (k+1):=by
 unfold nwE;have st:∀t,nwF G t (k+1)=if t=(atF G k).id then max (nwF G (atF G k).id k) (atF G k).ver else nwF G t k:=λt=>by
  rw[nwF,decide_eq_false h]
  by_cases e:t=(atF G k).id
  ·subst e;rw[if_pos rfl,decide_eq_true rfl];rfl
  ·rw[if_neg e,decide_eq_false λz=>e z.symm];rfl
 rw[idK,decide_eq_false h]
 by_cases e:(atF G k).id∈idK G k
 ·rw[decide_eq_true e,wuz _ _ _ _ (wix G k) e];exact wlh λt _=>(st t).symm
 ·rw[decide_eq_false e,wu1 _ _ _ _ e];exact wlh λt _=>(st t).symm
theorem v4_loop(hP:C.P=Tryz.prog)(G:List FL):waj C 0 40 (wal Tryz.f44 4) (L_v4 G):=by
 have _:C.Loose:=inferInstance;rintro st Q ⟨h0,hn,hv,hQ⟩;refine waj.mk (prg hP) [] 0 .nil [5,7,17,18,19] [5,7] [] (S_v4 G) (λk=>k<=G.length) (λk=>G.length - k) 0 (zL7 _) h0 (λk hk=>?_) (λ_=>⟨λ_ _=>rfl,trivial⟩);have zz:zvA (.q 0)= .q 0:=rfl;rw[wz8,tN7,zz,wuj,wqm];refine wak (λh1=>⟨⟨by omega,by omega⟩,⟨by omega,rfl⟩,wbj (λh2=>?_) (λh2=>?_)⟩) (λh1=>?_)
 ·have e:=nwE_set (G:=G) (k:=k) h2;refine⟨⟨wui G k,rfl⟩,wui G k,by simp only[inR];omega,k+1,⟨rfl,?_⟩,by omega,by omega⟩;have e':mset (nwE G k) (.str (atF G k).id) (.q (max (war (.q (nwF G (atF G k).id k))) (atF G k).ver))=nwE G (k+1):=e;rw[e',wqm];exact wam _
 ·exact⟨by simp only[inR];omega,k+1,⟨rfl,by rw[nwE_msg h2];exact wam _⟩,by omega,by omega⟩
 ·have:k=G.length:=by omega
  subst this;exact⟨λ_ _=>rfl,_,wam _,hQ⟩
theorem kf_view(G:List FL):kfL (qV (nwE G G.length)) (atF G) G.length=wfc G:=by
 unfold kfL wfc;rw[show lst (atF G) G.length=G from wd7 G _];refine List.filter_congr λx _=>?_;unfold qV vwB;rw[wuj];rfl
theorem wir(g:Nat->FL)(n:Nat)(d:Int):(knwL okV g n d).length<=n:=Nat.le_trans (List.length_filter_le _ _) (wqq g n)
theorem wrp(L:List FL):(wa6 L).length<=L.length:=we1 _ L _
theorem wrc{g:Nat->FL}{n:Nat}{d:Int}(hg:∀i,i<n->(g i).Gd):∀x∈knwL okV g n d,x.Gd:=λx hx=>nrm_gd hg x (List.mem_filter.1 hx).1
theorem bad_mem{L:List FL}{x:FL}(h:x∈badL L):x∈L:=by
 obtain⟨i,hi,_,rfl⟩:=wj5.1 h;exact wd1 hi
theorem vw_gd{g:Nat->FL}{n:Nat}{d:Int}(hg:∀i,i<n->(g i).Gd):∀x∈vwL okV g n d,x.Gd:=λx hx=>wrc hg x (wk5 (List.mem_filter.1 hx).1)
theorem vw_len(g:Nat->FL)(n:Nat)(d:Int):(vwL okV g n d).length<=n:=Nat.le_trans (List.length_filter_le _ _) (Nat.le_trans (wrp _) (wir g n d))
theorem view_at(hP:C.P=Tryz.prog)(hL:∀w,C.laid w->LaidW w)(g:Nat->FL)(n:Nat)(d:Int)(hn:n<=1000)(hg:∀i,i<n->(g i).Gd):ADet C 44 [.view 7 n (waa g),.q d] [] (.own 0 (vwL okV g n d).length) [(0,.row 49 7 (vwL okV g n d).length (waa (atF (vwL okV g n d))) false)]:=by
 refine wa5.wpL (prg hP) [(99,.det whn),(100,.rel woi)] [(4,L_v4 (wa6 (knwL okV g n d)))] 0 (.cons (spl_ok hP hL) (.cons (delV_ok hP) .nil)) (hP ▸ Tryz.func44) rfl rfl rfl
  [(wal Tryz.f44 4,L_v4 (wa6 (knwL okV g n d)))] (by kernel_rfl) ⟨v4_loop hP _,trivial⟩ ?_
 rw[nf_vw,wcy,wcy,wqm];have h1:=wir g n d;have h2:=wrp (knwL okV g n d);have hv:∀F∈wa6 (knwL okV g n d),0<=F.ver:=λF hF=>by
  have:=wuf (nrm_ok (List.mem_filter.1 (wk5 hF)).1);omega
 have hgd:∀F∈wa6 (knwL okV g n d),F.Gd:=λF hF=>wrc hg F (wk5 hF);have hk:=kf_view (wa6 (knwL okV g n d));have hw:vwL okV g n d=wfc (wa6 (knwL okV g n d)):=rfl;rw[hk,hw];generalize wa6 (knwL okV g n d)=G at *;refine⟨⟨hn,rfl,hg⟩,λ_ _=>rfl,λ_ _=>rfl,⟨rfl,wam _⟩,by omega,hv,λ_ _=>rfl,rfl,rfl,rfl,rfl,by omega,rfl,λi hi=>(hgd _ (wd1 hi)).rg,⟨_,_,rfl,wix G _⟩,λk h hkn hlst=>?_⟩;obtain⟨e1,e2⟩:=lst_at hlst wdg;subst e1;refine⟨λ_ _=>rfl,λ_ _=>rfl,[(0,.row 49 7 (wfc G).length (waa (atF (wfc G))) false)],⟨⟨rfl,rfl,rfl,rfl,rfl,λi hi=>?_⟩,trivial⟩,rfl,rfl⟩;show wbc (h i)=wbc ((wfc G).getD i wdg);rw[e2 i hi]
theorem conf_ok(hP:C.P=Tryz.prog)(hL:∀w,C.laid w->LaidW w):wai C 46 S_conf:=by
 rintro args objs U Os vc h hvc;unfold S_conf at h;split at h<;>cases h;rename_i n f d;obtain⟨hn,hf,hg⟩:=hvc;generalize flOf f=g at *;subst hf;refine wa5.wpL (prg hP) [(99,.det whn)] [] 0 (.cons (spl_ok hP hL) .nil) (hP ▸ Tryz.func46) rfl rfl rfl [] (by kernel_rfl) trivial ?_;rw[nf_conf,wcy];exact⟨⟨hn,rfl,hg⟩,λ_ _=>rfl,λ_ _=>rfl,λ_ _=>rfl,_,wam _,rfl,rfl⟩
theorem nf_aw15(R:oR7):wpFn te [] [(1002,wpt)] 0 Tryz.f31 [] [] R=(letI z0:=([.str [(97:UInt8)],.q 1,.q 10,.q 2,.view 15 0 (waf (atM [])),.own 1 1,.view 5 0 (wag (atT []))]:List AV);(5<=16777216/\5=5/\1<=9223372036854775807)/\(TEq [(0,.bool false),(1,.ptr 0 0)] [(0,.bool false),(1,.ptr 0 0)]/\wae [(0,.cells z0 49),(1,.row 61 5 1 (wap (TI.sz wc7) (.str [(111:UInt8)]:: .str [(57:UInt8),54,51,56,53,48,55,52]:: .q 5:: .q 2:: .q 300::List.append [] wff)) false)] [(0,.cells z0 49),(1,.row 61 5 1 (wah (atR [awR])) false)])/\R (.bool true) []):=by kernel_rfl
theorem nf_aw2(Q:eR7):regP ⟨te,[(33,.det wc4),(44,.det wl8)],[],0,22,0⟩ (regC Tryz.f31 2) [0] Q S_awc=(letI z6:=(7<=16777216/\7=7/\1<=9223372036854775807:Prop);letI z5:=wag (atT awFl.ts);letI z4:=wah (atR awFl.rs);letI z3:=waf (atM awFl.ms);letI z2:=(flV [(97:UInt8)] awFl.ver awFl.day awFl.kind 0 z3 1 z4 0 z5);letI z1:=(1=1/\1<=1000/\FM (wap (TI.sz wbi) (.str [(97:UInt8)]:: .q awFl.ver:: .q awFl.day:: .q awFl.kind:: .view 15 0 z3:: .view 5 1 z4:: .view 5 0 z5::List.append [] wco)) 1:Prop);letI z0:=(∀(i:Nat),i<1->nrefL (wap (TI.sz wbi) (.str [(97:UInt8)]:: .q awFl.ver:: .q awFl.day:: .q awFl.kind:: .view 15 0 z3:: .view 5 1 z4:: .view 5 0 z5::List.append [] wco) i)=true:Prop);(FlC 0 z3 1 z4 0 z5/\FL.Rg z2)/\wab (decide (encF z2=[(49:UInt8),58,97,44,49,44,50,44,48,44,49,44,49,58,111,44,56,58,57,54,51,56,53,48,55,52,44,53,44,50,44,51,48,48,44,48,44])) (z6/\z0/\z1/\z6/\z0/\z1/\Q .normal (St.mk [(0,.bool true)] [] 0 [])) (Q .normal (St.mk [(0,.bool false)] [] 0 []))):=by kernel_rfl
open Go.Lib in
theorem wxc:encF awFl=[49,58,97,44,49,44,50,44,48,44,49,44,49,58,111,44,56,58,57,54,51,56,53,48,55,52,44,53,44,50,44,51,48,48,44,48,44]:=by
 have d1:∀u,u<10->decDigits u=[UInt8.ofNat (48+u)]:=λu h=>by rw[decDigits,dif_pos h]
 have d3:decDigits 300=[51,48,48]:=by
  rw[decDigits,dif_neg (by omega),show 300 / 10=30 from rfl,decDigits,dif_neg (by omega),show 30 / 10=3 from rfl,d1 3 (by omega)];rfl
 have i1:∀u:Nat,u<10->itoa (u:Int)=[UInt8.ofNat (48+u)]:=λu h=>by
  unfold itoa;rw[if_neg (by omega),tN7,d1 u h]
 have i3:itoa (300:Int)=[51,48,48]:=by
  unfold itoa;rw[if_neg (by omega)];exact d3
 have e0:=i1 0 (by omega);have e1:=i1 1 (by omega);have e2:=i1 2 (by omega);have e5:=i1 5 (by omega);have e8:=i1 8 (by omega);show (itoa ((1:Nat):Int)++58::([97]++[44]))++((itoa ((1:Nat):Int)++[44])++((itoa ((2:Nat):Int)++[44])++((itoa ((0:Nat):Int)++[44])++([]++((itoa ((1:Nat):Int)++[44])++(((itoa ((1:Nat):Int)++58::([111]++[44]))++((itoa ((8:Nat):Int)++58::([57,54,51,56,53,48,55,52]++[44]))++((itoa ((5:Nat):Int)++[44])++((itoa ((2:Nat):Int)++[44])++(itoa (300:Int)++[44]))))++[])++((itoa ((0:Nat):Int)++[44])++[])))))))=_;rw[e0,e1,e2,e5,e8,i3];rfl
theorem wxa:awFl.Rg:=⟨by simp only[inR,awFl];omega,by simp only[inR,awFl];omega,by decide,by decide,by decide,λm hm=>(by cases hm),λr hr=>(by
 rw[List.mem_singleton.1 hr];exact⟨by simp only[inR,awR];omega,by simp only[inR,awR];omega,by simp only[inR,awR];omega⟩),λt ht=>(by cases ht),by rw[wxc];decide⟩
theorem wxb:awFl.Gd:=⟨⟨by decide,⟨by decide,λm hm=>(by cases hm)⟩,⟨by decide,λr hr=>by
 rw[List.mem_singleton.1 hr];decide⟩,⟨by decide,λt ht=>(by cases ht)⟩⟩,wxa⟩
theorem fm_one{f:Nat->List AV}{F:FL}(h:f 0=wbc F)(hg:F.Gd):FM f 1:=by
 have e:flOf f 0=F:=by
  unfold flOf;rw[h];exact wch F
 refine⟨λi hi=>?_,λi hi=>?_⟩
 ·obtain rfl:i=0:=by omega
  show f 0=wbc (flOf f 0);rw[e,h]
 ·obtain rfl:i=0:=by omega
  rw[e];exact hg
theorem wp2(hP:C.P=Tryz.prog)(hL:∀w,C.laid w->LaidW w):wai C 44 wdp:=by
 rintro args objs U Os vc h hvc;unfold wdp at h;split at h<;>cases h;rename_i n f d;obtain⟨hn,hf,hg⟩:=hvc;generalize flOf f=g at *;subst hf;refine wan.frzO 0 ((view_at hP hL g n d hn hg).mono ?_);rintro u O ⟨rfl,rfl⟩;refine⟨λ_ _=>rfl,?_⟩;have hb:Nat.ble (vwL okV g n d).length (vwL okV g n d).length=true:=Nat.ble_eq_true_of_le (lR7 _)
 constructor
 ·simp[frzC,frzA,frz,hb]
 ·rfl
theorem wx3(hP:C.P=Tryz.prog)(hL:∀w,C.laid w->LaidW w):wai C 44 wl8:=by
 rintro args objs U Os vc h hvc;unfold wl8 at h;split at h<;>cases h;rename_i n d t m f fr;obtain⟨rfl,hn,hf,hs⟩:=hvc;refine wan.rowEq 0 (f':=waa (flOf f)) rfl (λi hi=>(hf i hi).symm) ?_;have hb:Nat.ble n n=true:=Nat.ble_eq_true_of_le (lR7 _);have hh:=wp2 hP hL [.view 7 n (waa (flOf f)),.q d] [] _ _ _ rfl ⟨hn,by rw[wcy],by rw[wcy];exact hs⟩;rw[wcy] at hh;exact ADet.give hh (by simp[frzC,frzA,frz,hb]) rfl rfl (λ_ _=>rfl)
theorem aw2_ok(hP:C.P=Tryz.prog)(hL:∀w,C.laid w->LaidW w):waj C 0 22 (regC Tryz.f31 2) wpt:=by
 rintro st Q ⟨h0,hQ⟩;refine AWP.nilVP 1 6 5 (wag (atT [])) (AWP.nilVP 1 4 15 (waf (atM [])) (AWP.canonIs (te:=te) [0,1] h0 (AWP.frzX 1 [] (λ_ _=>rfl) ?_) ⟨λ_ _=>rfl,trivial⟩));refine waj.reg (S:=S_awc) (prg hP) [(33,.det wc4),(44,.det wl8)] 0 (.cons (enc_ok hP hL) (.cons (wx3 hP hL) .nil)) [0,1] [0] rfl ?_ trivial;rw[nf_aw2];have e:flV [97] awFl.ver awFl.day awFl.kind 0 (waf (atM awFl.ms)) 1 (wah (atR awFl.rs)) 0 (wag (atT awFl.ts))=awFl:=wch awFl;rw[e];refine⟨⟨wcl awFl,wxa⟩,wak (λ_=>?_) (λh=>absurd wxc h)⟩;have one:∀ {p:Nat->Prop},p 0->∀i,i<1->p i:=λh i hi=>by
  obtain rfl:i=0:=by omega
  exact h
 exact⟨⟨by omega,rfl,by omega⟩,one rfl,⟨rfl,by omega,fm_one (F:=awFl) rfl wxb⟩,⟨by omega,rfl,by omega⟩,one rfl,⟨rfl,by omega,fm_one (F:=awFl) rfl wxb⟩,hQ⟩
theorem w5z(hP:C.P=Tryz.prog)(hL:∀w,C.laid w->LaidW w):wai C 31 wn5:=by
 rintro args objs U Os vc h hvc;unfold wn5 at h;split at h<;>cases h;refine wai.wpL (prg hP) [] [(1002,wpt)] 0 .nil (hP ▸ Tryz.func31) rfl rfl rfl [(regC Tryz.f31 2,wpt)] (by kernel_rfl) ⟨aw2_ok hP hL,trivial⟩ ?_;rw[nf_aw15];exact⟨⟨by omega,rfl,by omega⟩,⟨rfl,rfl,⟨rfl,rfl,rfl,rfl,rfl,λi hi=>by
  obtain rfl:i=0:=by omega
  rfl⟩,trivial⟩,rfl,rfl⟩
theorem nf_kn(g:Nat->FL)(n:Nat)(d:Int)(R:oR7):wpFn te [(41,.det wmw)] [(3,wpc (nrmL okV g n) d)] 0 Tryz.f102 [.view 7 n (waa g),.q d] [] R=(letI z2:=(nrmL okV g n).length;letI z1:=nrmL okV (flOf (waa g)) n;letI z0:=selD (nrmL okV g n) d z2;(n<=1000/\waa g=waa (flOf (waa g))/\∀(i:Nat),i<n->FL.Gd (flOf (waa g) i))/\(TEq [(1,.q d),(5,.own 0 0),(9,.view 7 z1.length (waa (atF z1))),(10,.q (z1.length:Int)),(11,.q 0)] [(1,.q d),(5,.own 0 0),(9,.view 7 z2 (waa (atF (nrmL okV g n)))),(10,.q (z2:Int)),(11,.q (↑0:Int))]/\wae [(0,.row 49 7 0 (λ(_x:Nat)=>[]) false)] [(0,.row 49 7 0 (waa (atF (selD (nrmL okV g n) d 0))) false)])/\(nrmL okV g n).length<=1000/\(∀(i:Nat),i<z0.length->true=true)/\∃(O':oL7),wae [(0,.row 49 7 z0.length (waa (atF z0)) false)] O'/\R (.own 0 z0.length) O'):=by kernel_rfl
theorem w1r(N:List FL)(d:Int)(k:Nat)(P:Nat->Prop)(R:eR7):waw ⟨te,[],[],0,25,0⟩ (way Tryz.f102 3) [1,5,9,10,11] [5] [] (S_kn N d) P R (S_kn N d k)=(letI z5:=N.length;letI z3:=(selD N d k).length+1;letI z2:=(selD N d k).length;letI z4:=([(0,.row 49 7 z2 (waa (atF (selD N d k))) false)]:oL7);letI z1:=(z5:Int);letI z0:=(atF N (k:Int).toNat);wab (decide ((k:Int)<z1)) (((0:Int)<=(k:Int)/\(k:Int)<z1/\7=7)/\wab (decide (z0.day<=d)) ((7<=16777216/\7=7/\1<=9223372036854775807)/\((1<=1/\7=7)/\(selD N d k).length<=(selD N d k).length/\7=7/\49=49/\7=7/\(selD N d k).length+1<=9223372036854775807/\z3 * TI.bytes wbi<=140737488355328)/\inR .i64 ((k:Int)+1)/\∃(i':Nat),(TEq [(1,.q d),(5,.own 0 z3),(9,.view 7 z5 (waa (atF N))),(10,.q z1),(11,.q ((k:Int)+1))] [(1,.q d),(5,.own 0 (selD N d i').length),(9,.view 7 z5 (waa (atF N))),(10,.q z1),(11,.q (i':Int))]/\wae [(0,.row 49 7 z3 (apF z2 (waa (atF (selD N d k))) (wap (TI.sz wbi) (.str z0.id:: .q z0.ver:: .q z0.day:: .q z0.kind:: .view 15 z0.ms.length (waf (atM z0.ms)):: .view 5 z0.rs.length (wah (atR z0.rs)):: .view 5 z0.ts.length (wag (atT z0.ts))::List.append [] wco))) false)] [(0,.row 49 7 (selD N d i').length (waa (atF (selD N d i'))) false)])/\P i') (inR .i64 ((k:Int)+1)/\∃(i':Nat),(TEq [(1,.q d),(5,.own 0 z2),(9,.view 7 z5 (waa (atF N))),(10,.q z1),(11,.q ((k:Int)+1))] [(1,.q d),(5,.own 0 (selD N d i').length),(9,.view 7 z5 (waa (atF N))),(10,.q z1),(11,.q (i':Int))]/\wae z4 [(0,.row 49 7 (selD N d i').length (waa (atF (selD N d i'))) false)])/\P i')) ((∀(i:Nat),i<(selD N d k).length->true=true)/\∃(O':oL7),wae z4 O'/\R (.exit 0) (St.mk [(5,.own 0 z2)] O' 1 []))):=by kernel_rfl
theorem nf_cnf(L:List FL)(i:Nat)(R:oR7):wpFn te [] [(2,wpq L i)] 0 Tryz.f103 [.view 7 L.length (waa (atF L)),.q i] [] R=(letI z0:=L.length;some (St.mk [(0,.view 7 z0 (waa (atF L))),(1,.q (i:Int)),(7,.q (z0:Int)),(8,.q 0)] [] 0 [])=some (St.mk [(0,.view 7 z0 (waa (atF L))),(1,.q (i:Int)),(7,.q (z0:Int)),(8,.q (↑0:Int))] [] 0 [])/\i<L.length/\L.length<=1000/\wab (conS L i z0) (R (.bool true) []) (R (.bool false) [])):=by kernel_rfl
theorem w2j(L:List FL)(i k:Nat)(P:Nat->Prop)(R:eR7):waw ⟨te,[],[],0,41,0⟩ (way Tryz.f103 2) [0,1,7,8] [] [4] (S_cn L i) P R (S_cn L i k)=(letI z1:=(L.length:Int);letI z3:=((0:Int)<=(i:Int)/\(i:Int)<z1/\7=7:Prop);letI z2:=((0:Int)<=(k:Int)/\(k:Int)<z1/\7=7:Prop);letI z0:=(inR .i64 ((k:Int)+1)/\∃(i':Nat),some (St.mk [(0,.view 7 L.length (waa (atF L))),(1,.q (i:Int)),(7,.q z1),(8,.q ((k:Int)+1))] [] 0 [])=some (St.mk [(0,.view 7 L.length (waa (atF L))),(1,.q (i:Int)),(7,.q z1),(8,.q (i':Int))] [] 0 [])/\P i');wab (decide ((k:Int)<z1)) (wab (!decide ((k:Int)=(i:Int))) (z2/\z3/\wab (decide ((atF L (k:Int).toNat).id=(atF L (i:Int).toNat).id)) (z2/\z3/\wab (decide ((atF L (k:Int).toNat).ver=(atF L (i:Int).toNat).ver)) (R .ret (St.mk [(4,.bool true)] [] 0 [])) z0) z0) z0) (R (.exit 0) (St.mk [] [] 0 []))):=by kernel_rfl
theorem nf_cs(g:Nat->FL)(n:Nat)(d:Int)(R:oR7):letI z1:=knwL okV (flOf (waa g)) n d;letI z0:=knwL okV g n d;wpFn te [(102,.det whs)] [(4,wpp z0)] 0 Tryz.f47 [.view 7 n (waa g),.q d] [] R=((n<=1000/\waa g=waa (flOf (waa g))/\∀(i:Nat),i<n->FL.Gd (flOf (waa g) i))/\(TEq [(5,.view 7 z1.length (waa (atF z1))),(6,.own 0 0),(12,.q (z1.length:Int)),(13,.q 0)] [(5,.view 7 z0.length (waa (atF z0))),(6,.own 0 0),(12,.q (z0.length:Int)),(13,.q (↑0:Int))]/\wae [(0,.row 49 7 0 (λ(_x:Nat)=>[]) false)] [(0,.row 49 7 0 (waa (atF (selK (cfB z0) z0 0))) false)])/\z0.length<=1000/\(∀(i:Nat),i<(badL z0).length->true=true)/\∃(O':oL7),wae [(0,.row 49 7 (badL z0).length (waa (atF (badL z0))) false)] O'/\R (.own 0 (badL z0).length) O'):=by kernel_rfl
theorem w2f(K:List FL)(k:Nat)(P:Nat->Prop)(R:eR7):waw ⟨te,[(103,.rel wh3)],[],0,28,0⟩ (way Tryz.f47 4) [5,6,12,13] [6] [] (S_cs K) P R (S_cs K k)=(letI z4:=K.length;letI z2:=(z4:Int);letI z1:=selK (cfB K) K k;letI z5:=z1.length;letI z3:=([(0,.row 49 7 z5 (waa (atF z1)) false)]:oL7);letI z0:=(atF K (k:Int).toNat);wab (decide ((k:Int)<z2)) (∃(L:List FL),K.length=L.length/\waa (atF K)=waa (atF L)/\(0:Int)<=(k:Int)/\(k:Int)<(L.length:Int)/\L.length<=1000/\wab (cfB L (k:Int).toNat) (((0:Int)<=(k:Int)/\(k:Int)<z2/\7=7)/\(7<=16777216/\7=7/\1<=9223372036854775807)/\((1<=1/\7=7)/\z1.length<=z1.length/\7=7/\49=49/\7=7/\z1.length+1<=9223372036854775807/\(z1.length+1) * TI.bytes wbi<=140737488355328)/\inR .i64 ((k:Int)+1)/\∃(i':Nat),(TEq [(5,.view 7 z4 (waa (atF K))),(6,.own 0 (z1.length+1)),(12,.q z2),(13,.q ((k:Int)+1))] [(5,.view 7 z4 (waa (atF K))),(6,.own 0 (selK (cfB K) K i').length),(12,.q z2),(13,.q (i':Int))]/\wae [(0,.row 49 7 (z1.length+1) (apF z5 (waa (atF z1)) (wap (TI.sz wbi) (.str z0.id:: .q z0.ver:: .q z0.day:: .q z0.kind:: .view 15 z0.ms.length (waf (atM z0.ms)):: .view 5 z0.rs.length (wah (atR z0.rs)):: .view 5 z0.ts.length (wag (atT z0.ts))::List.append [] wco))) false)] [(0,.row 49 7 (selK (cfB K) K i').length (waa (atF (selK (cfB K) K i'))) false)])/\P i') (inR .i64 ((k:Int)+1)/\∃(i':Nat),(TEq [(5,.view 7 z4 (waa (atF K))),(6,.own 0 z5),(12,.q z2),(13,.q ((k:Int)+1))] [(5,.view 7 z4 (waa (atF K))),(6,.own 0 (selK (cfB K) K i').length),(12,.q z2),(13,.q (i':Int))]/\wae z3 [(0,.row 49 7 (selK (cfB K) K i').length (waa (atF (selK (cfB K) K i'))) false)])/\P i')) ((∀(i:Nat),i<z1.length->true=true)/\∃(O':oL7),wae z3 O'/\R (.exit 0) (St.mk [(6,.own 0 z5)] O' 1 []))):=by kernel_rfl
theorem nf_rvw(g:Nat->FL)(n:Nat)(d:Int)(R:oR7):letI z4:=([(0,.row 49 7 0 (λ(_x:Nat)=>[]) false)]:oL7);letI z3:=knwL okV (flOf (waa g)) n d;letI z2:=knwL okV g n d;letI z0:=wa6 z2;letI z5:=waa (atF z0);letI z1:=z0.length;wpFn te [(102,.det whs)] [(4,L_w4 z2),(10,wom z0)] 0 Tryz.f45 [.view 7 n (waa g),.q d] [] R=((n<=1000/\waa g=waa (flOf (waa g))/\∀(i:Nat),i<n->FL.Gd (flOf (waa g) i))/\(TEq [(5,.view 7 z3.length (waa (atF z3))),(6,.own 0 0),(7,.nil),(18,.q (z3.length:Int)),(19,.q 0)] [(5,.view 7 z2.length (waa (atF z2))),(6,.own 0 0),(7,.nil),(18,.q (z2.length:Int)),(19,.q (↑0:Int))]/\wae z4 [(0,.row 49 7 0 (waa (atF (wbu z2 0))) false)])/\z2.length<=1000/\(TEq [(6,.view 7 z1 z5),(7,.own 0 0),(34,.view 7 z1 z5),(35,.q (z1:Int)),(36,.q 0)] [(6,.view 7 z1 z5),(7,.own 0 0),(34,.view 7 z1 z5),(35,.q (z1:Int)),(36,.q (↑0:Int))]/\wae z4 [(0,.row 49 7 0 (waa (atF (vwK z0 0))) false)])/\z0.length<=1000/\(∀(i:Nat),i<(vwK z0 z1).length->true=true)/\∃(O':oL7),wae [(0,.row 49 7 (vwK z0 z1).length (waa (atF (vwK z0 z1))) false)] O'/\R (.own 0 (vwK z0 z1).length) O'):=by kernel_rfl
theorem wzv(K:List FL)(k:Nat)(P:Nat->Prop)(R:eR7):waw ⟨te,[(103,.rel wh3)],[],0,76,0⟩ (way Tryz.f45 4) [5,6,7,18,19] [6,7] [] (S_w4 K) P R (S_w4 K k)=(letI z4:=K.length;letI z3:=(wbu K k).length+1;letI z2:=(wbu K k).length;letI z5:=([(0,.row 49 7 z2 (waa (atF (wbu K k))) false)]:oL7);letI z1:=(z4:Int);letI z0:=(atF K (k:Int).toNat);wab (decide ((k:Int)<z1)) (∃(L:List FL),K.length=L.length/\waa (atF K)=waa (atF L)/\(0:Int)<=(k:Int)/\(k:Int)<(L.length:Int)/\L.length<=1000/\wab (!cfB L (k:Int).toNat) (((0:Int)<=(k:Int)/\(k:Int)<z1/\7=7)/\(7<=16777216/\7=7/\1<=9223372036854775807)/\((1<=1/\7=7)/\(wbu K k).length<=(wbu K k).length/\7=7/\49=49/\7=7/\(wbu K k).length+1<=9223372036854775807/\z3 * TI.bytes wbi<=140737488355328)/\inR .i64 ((k:Int)+1)/\∃(i':Nat),(TEq [(5,.view 7 z4 (waa (atF K))),(6,.own 0 z3),(7,.nil),(18,.q z1),(19,.q ((k:Int)+1))] [(5,.view 7 z4 (waa (atF K))),(6,.own 0 (wbu K i').length),(7,.nil),(18,.q z1),(19,.q (i':Int))]/\wae [(0,.row 49 7 z3 (apF z2 (waa (atF (wbu K k))) (wap (TI.sz wbi) (.str z0.id:: .q z0.ver:: .q z0.day:: .q z0.kind:: .view 15 z0.ms.length (waf (atM z0.ms)):: .view 5 z0.rs.length (wah (atR z0.rs)):: .view 5 z0.ts.length (wag (atT z0.ts))::List.append [] wco))) false)] [(0,.row 49 7 (wbu K i').length (waa (atF (wbu K i'))) false)])/\P i') (inR .i64 ((k:Int)+1)/\∃(i':Nat),(TEq [(5,.view 7 z4 (waa (atF K))),(6,.own 0 z2),(7,.nil),(18,.q z1),(19,.q ((k:Int)+1))] [(5,.view 7 z4 (waa (atF K))),(6,.own 0 (wbu K i').length),(7,.nil),(18,.q z1),(19,.q (i':Int))]/\wae z5 [(0,.row 49 7 (wbu K i').length (waa (atF (wbu K i'))) false)])/\P i')) ((∀(i:Nat),i<(wbu K k).length->true=true)/\∃(O':oL7),wae z5 O'/\R (.exit 0) (St.mk [(6,.own 0 z2),(7,.nil)] O' 1 []))):=by kernel_rfl
theorem wzz(G:List FL)(k j:Nat)(P:Nat->Prop)(R:eR7):waw ⟨te,[],[],0,76,0⟩ (way Tryz.f45 14) [6,7,10,11,34,35,36,40,41,42] [6,7,10,11,34,35,36] [] (wjo G k) P R (wjo G k j)=(letI z5:=(atF G (j:Int).toNat);letI z4:=(vwK G k).length;letI z3:=waa (atF G);letI z2:=G.length;letI z1:=([(0,.row 49 7 z4 (waa (atF (vwK G k))) false),(1,.cells [.str (atF G k).id,.q (atF G k).ver,.q (atF G k).day,.q (atF G k).kind,.view 15 (atF G k).ms.length (waf (atM (atF G k).ms)),.view 5 (atF G k).rs.length (wah (atR (atF G k).rs)),.view 5 (atF G k).ts.length (wag (atT (atF G k).ts))] 49)]:oL7);letI z0:=(inR .i64 ((j:Int)+1)/\∃(i':Nat),(TEq [(6,.view 7 z2 z3),(7,.own 0 z4),(10,.ptr 1 0),(11,.bool (nwS G (atF G k) j)),(34,.view 7 z2 z3),(35,.q (z2:Int)),(36,.q (k:Int)),(40,.view 7 z2 z3),(41,.q (z2:Int)),(42,.q ((j:Int)+1))] [(6,.view 7 z2 z3),(7,.own 0 z4),(10,.ptr 1 0),(11,.bool (nwS G (atF G k) i')),(34,.view 7 z2 z3),(35,.q (z2:Int)),(36,.q (k:Int)),(40,.view 7 z2 z3),(41,.q (z2:Int)),(42,.q (i':Int))]/\wae z1 z1)/\P i');wab (decide ((j:Int)<(z2:Int))) (((0:Int)<=(j:Int)/\(j:Int)<(z2:Int)/\7=7)/\wab (!decide (z5.kind=1)) (wab (decide (z5.id=(atF G k).id)) (wab (decide ((atF G k).ver<z5.ver)) (inR .i64 ((j:Int)+1)/\∃(i':Nat),(TEq [(6,.view 7 z2 z3),(7,.own 0 z4),(10,.ptr 1 0),(11,.bool false),(34,.view 7 z2 z3),(35,.q (z2:Int)),(36,.q (k:Int)),(40,.view 7 z2 z3),(41,.q (z2:Int)),(42,.q ((j:Int)+1))] [(6,.view 7 z2 z3),(7,.own 0 z4),(10,.ptr 1 0),(11,.bool (nwS G (atF G k) i')),(34,.view 7 z2 z3),(35,.q (z2:Int)),(36,.q (k:Int)),(40,.view 7 z2 z3),(41,.q (z2:Int)),(42,.q (i':Int))]/\wae z1 z1)/\P i') z0) z0) z0) ((∀(i:Nat),i<(vwK G k).length->true=true)/\∃(O':oL7),wae z1 O'/\R (.exit 4) (St.mk [(6,.view 7 z2 z3),(7,.own 0 z4),(10,.ptr 1 0),(11,.bool (nwS G (atF G k) j)),(34,.view 7 z2 z3),(35,.q (z2:Int)),(36,.q (k:Int))] O' 2 []))):=by kernel_rfl
theorem wz0(G:List FL)(k:Nat)(P:Nat->Prop)(R:eR7):waw ⟨te,[],[(14,wol G k)],0,76,0⟩ (way Tryz.f45 10) [6,7,34,35,36] [7] [] (wl6 G) P R (wl6 G k)=(letI z9:=(atF G k).ts;letI z8:=(atF G k).rs;letI z7:=(atF G k).ms;letI z6:=(vwK G k).length+1;letI z5:=waa (atF (vwK G k));letI z4:=waa (atF G);letI z3:=(vwK G k).length;letI z2:=(atF G (k:Int).toNat);letI z1:=G.length;letI z0:=((7<=16777216/\7=7/\1<=9223372036854775807)/\((1<=1/\7=7)/\(vwK G k).length<=(vwK G k).length/\7=7/\49=49/\7=7/\(vwK G k).length+1<=9223372036854775807/\z6 * TI.bytes wbi<=140737488355328)/\inR .i64 ((k:Int)+1)/\∃(i':Nat),(TEq [(6,.view 7 z1 z4),(7,.own 0 z6),(34,.view 7 z1 z4),(35,.q (z1:Int)),(36,.q ((k:Int)+1))] [(6,.view 7 z1 z4),(7,.own 0 (vwK G i').length),(34,.view 7 z1 z4),(35,.q (z1:Int)),(36,.q (i':Int))]/\wae [(0,.row 49 7 z6 (apF z3 z5 (wap (TI.sz wbi) (.str (atF G k).id:: .q (atF G k).ver:: .q (atF G k).day:: .q (atF G k).kind:: .view 15 z7.length (waf (atM z7)):: .view 5 z8.length (wah (atR z8)):: .view 5 z9.length (wag (atT z9))::List.append [] wco))) false)] [(0,.row 49 7 (vwK G i').length (waa (atF (vwK G i'))) false)])/\P i':Prop);wab (decide ((k:Int)<(z1:Int))) (((0:Int)<=(k:Int)/\(k:Int)<(z1:Int)/\7=7)/\(TEq [(6,.view 7 z1 z4),(7,.own 0 z3),(10,.ptr 1 0),(11,.bool true),(34,.view 7 z1 z4),(35,.q (z1:Int)),(36,.q (k:Int)),(40,.view 7 z1 z4),(41,.q (z1:Int)),(42,.q 0)] [(6,.view 7 z1 z4),(7,.own 0 z3),(10,.ptr 1 0),(11,.bool (nwS G (atF G k) 0)),(34,.view 7 z1 z4),(35,.q (z1:Int)),(36,.q (k:Int)),(40,.view 7 z1 z4),(41,.q (z1:Int)),(42,.q (↑0:Int))]/\wae [(0,.row 49 7 z3 z5 false),(1,.cells [.str z2.id,.q z2.ver,.q z2.day,.q z2.kind,.view 15 z2.ms.length (waf (atM z2.ms)),.view 5 z2.rs.length (wah (atR z2.rs)),.view 5 z2.ts.length (wag (atT z2.ts))] 49)] [(0,.row 49 7 z3 z5 false),(1,.cells [.str (atF G k).id,.q (atF G k).ver,.q (atF G k).day,.q (atF G k).kind,.view 15 z7.length (waf (atM z7)),.view 5 z8.length (wah (atR z8)),.view 5 z9.length (wag (atT z9))] 49)])/\G.length<=1000/\wab (nwS G (atF G k) z1) z0 (wab (decide ((atF G k).kind=1)) z0 (inR .i64 ((k:Int)+1)/\∃(i':Nat),(TEq [(6,.view 7 z1 z4),(7,.own 0 z3),(34,.view 7 z1 z4),(35,.q (z1:Int)),(36,.q ((k:Int)+1))] [(6,.view 7 z1 z4),(7,.own 0 (vwK G i').length),(34,.view 7 z1 z4),(35,.q (z1:Int)),(36,.q (i':Int))]/\wae [(0,.row 49 7 z3 z5 false)] [(0,.row 49 7 (vwK G i').length (waa (atF (vwK G i'))) false)])/\P i'))) ((∀(i:Nat),i<(vwK G k).length->true=true)/\∃(O':oL7),wae [(0,.row 49 7 z3 z5 false)] O'/\R (.exit 2) (St.mk [(7,.own 0 z3)] O' 1 []))):=by kernel_rfl
theorem wj4{q:Nat->Bool}{L:List FL}{k:Nat}(h:q k=true):selK q L (k+1)=selK q L k++[atF L k]:=by rw[selK,h];rfl
theorem wj6{q:Nat->Bool}{L:List FL}{k:Nat}(h:q k=false):selK q L (k+1)=selK q L k:=by rw[selK,h];rfl
theorem wtl(p:FL->Bool)(L:List FL):∀k,k<=L.length->selK (λi=>p (atF L i)) L k=(L.take k).filter p
 |0,_=>rfl
 |k+1,h=>by
  have e:L.take (k+1)=L.take k++[atF L k]:=by rw[whl (show k<L.length by omega),List.take_append_getElem (by omega)]
  rw[selK,wtl p L k (by omega),e,List.filter_append]
  cases hp:p (atF L k)<;>simp[hp]
theorem wtn(p:FL->Bool)(L:List FL):selK (λi=>p (atF L i)) L L.length=L.filter p:=by
 rw[wtl p L L.length (lR7 _),List.take_length]
theorem nrmV_ok(hP:C.P=Tryz.prog):wai C 41 wmw:=by
 rintro args objs U Os vc h hvc;unfold wmw at h;split at h<;>cases h;rename_i n f;obtain⟨hn,hf,hg⟩:=hvc;generalize flOf f=g at *;subst hf;refine wan.frzO 0 ((nrmR_at hP g n hn hg).mono ?_);rintro u O ⟨rfl,rfl⟩;have hb:Nat.ble (nrmL okV g n).length (nrmL okV g n).length=true:=Nat.ble_eq_true_of_le (lR7 _);exact⟨λ_ _=>rfl,by simp[frzC,frzA,frz,hb],rfl⟩
theorem kn_loop(hP:C.P=Tryz.prog)(N:List FL)(d:Int):waj C 0 25 (wal Tryz.f102 3) (wpc N d):=by
 have _:C.Loose:=inferInstance;rintro st Q ⟨h0,hn,hQ⟩;refine AWP.ownNil 5 49 7 ?_;refine waj.mk (prg hP) [] 0 .nil [1,5,9,10,11] [5] [] (S_kn N d) (λk=>k<=N.length) (λk=>N.length - k) 0 (zL7 _) h0 (λk hk=>?_) (λi=>⟨λ_ _=>rfl,trivial⟩);have hl:(selD N d k).length<=k:=we1 _ _ k;rw[w1r,tN7];refine wak (λh1=>⟨⟨by omega,by omega,rfl⟩,wak (λhd=>?_) (λhd=>?_)⟩) (λh1=>?_)
 ·have e:selD N d (k+1)=selD N d k++[atF N k]:=wj4 (decide_eq_true hd);refine⟨⟨by omega,rfl,by omega⟩,⟨⟨lR7 _,rfl⟩,lR7 _,rfl,rfl,rfl,by omega,?_⟩,by simp only[inR];omega,k+1,?_,by omega,by omega⟩
  ·show ((selD N d k).length+1) * 112<=_;omega
  ·rw[e,lA7];exact⟨rfl,⟨rfl,rfl,rfl,rfl,rfl,wey _ _ _ rfl⟩,trivial⟩
 ·have e:selD N d (k+1)=selD N d k:=wj6 (decide_eq_false hd);refine⟨by simp only[inR];omega,k+1,?_,by omega,by omega⟩;rw[e];exact⟨rfl,rQ7,trivial⟩
 ·have:k=N.length:=by omega
  subst this;exact⟨λ_ _=>rfl,_,wam _,hQ⟩
theorem knV_ok(hP:C.P=Tryz.prog):wai C 102 whs:=by
 rintro args objs U Os vc h hvc;unfold whs at h;split at h<;>cases h;rename_i n f d;obtain⟨hn,hf,hg⟩:=hvc;generalize flOf f=g at *;subst hf;refine wan.frzO 0 ?_;refine wa5.wpL (prg hP) [(41,.det wmw)] [(3,wpc (nrmL okV g n) d)] 0 (.cons (nrmV_ok hP) .nil) (hP ▸ Tryz.func102) rfl rfl rfl [(wal Tryz.f102 3,wpc (nrmL okV g n) d)] (by kernel_rfl) ⟨kn_loop hP _ _,trivial⟩ ?_;rw[nf_kn,wcy];have hl:=wqq g n;have e:selD (nrmL okV g n) d (nrmL okV g n).length=knwL okV g n d:=wtn (λF=>decide (F.day<=d)) _;rw[e];have hb:Nat.ble (knwL okV g n d).length (knwL okV g n d).length=true:=Nat.ble_eq_true_of_le (lR7 _);exact⟨⟨hn,rfl,hg⟩,⟨rfl,⟨rfl,rfl,rfl,rfl,rfl,λi hi=>absurd hi (nZ7 i)⟩,trivial⟩,by omega,λ_ _=>rfl,_,wam _,λ_ _=>rfl,by simp[frzC,frzA,frz,hb],rfl⟩
theorem wwu{L:List FL}{i k:Nat}(e:conS L i (k+1)=true):∀n,k<n->conS L i n=true
 |0,hn=>absurd hn (nZ7 k)
 |n+1,hn=>by
  by_cases q:n=k
  ·subst q;exact e
  ·rw[conS,wwu e n (by omega),Bool.true_or]
theorem cn_loop(hP:C.P=Tryz.prog)(L:List FL)(i:Nat):waj C 0 41 (wal Tryz.f103 2) (wpq L i):=by
 have _:C.Loose:=inferInstance;rintro st Q ⟨h0,hi,hn,hQ⟩;have hR:=wbs hQ;refine waj.mk (prg hP) [] 0 .nil [0,1,7,8] [] [4] (S_cn L i) (λk=>k<=L.length/\conS L i k=false) (λk=>L.length - k) 0 ⟨zL7 _,rfl⟩ h0 (λk hk=>?_);obtain⟨hkn,hok⟩:=hk;rw[w2j,tN7,tN7];refine wak (λq=>?_) (λq=>hR.2 (by rw[show L.length=k by omega];exact hok));have go:(!decide (k=i) && wfg (atF L k) (atF L i))=false->conS L i (k+1)=false:=λe=>by rw[conS,hok,e];rfl
 refine wbj (λq1=>⟨⟨by omega,by omega,rfl⟩,⟨by omega,by omega,rfl⟩,wak (λq2=>⟨⟨by omega,by omega,rfl⟩,⟨by omega,by omega,rfl⟩,wak (λq3=>?_) (λq3=>?_)⟩) (λq2=>?_)⟩) (λq1=>?_)
 ·exact hR.1 (wwu (k:=k) (by rw[conS,hok,wfg,decide_eq_true q2,decide_eq_true q3,decide_eq_false (show ¬ k=i by omega)];rfl) _ (by omega))
 ·exact⟨by simp only[inR];omega,k+1,rfl,⟨by omega,go (by rw[wfg,decide_eq_false q3,Bool.and_false,Bool.and_false])⟩,by omega⟩
 ·exact⟨by simp only[inR];omega,k+1,rfl,⟨by omega,go (by rw[wfg,decide_eq_false q2,Bool.false_and,Bool.and_false])⟩,by omega⟩
 ·exact⟨by simp only[inR];omega,k+1,rfl,⟨by omega,go (by rw[decide_eq_true (show k=i by omega)];rfl)⟩,by omega⟩
theorem cnf_ok(hP:C.P=Tryz.prog):wa5 C 103 wh3:=by
 rintro args objs R h;unfold wh3 at h;split at h
 ·rename_i n f i;obtain⟨L,rfl,rfl,h1,h2,hn,hR⟩:=h;obtain⟨j,rfl⟩:∃j:Nat,i=(j:Int):=⟨i.toNat,by omega⟩;rw[tN7] at hR;refine wa5.wpL (prg hP) [] [(2,wpq L j)] 0 .nil (hP ▸ Tryz.func103) rfl rfl rfl [(wal Tryz.f103 2,wpq L j)] (by kernel_rfl) ⟨cn_loop hP L j,trivial⟩ ?_;rw[nf_cnf];refine⟨rfl,by omega,hn,?_⟩;rw[conS_cf (by omega)]
  cases hc:cfB L j with
  |true=>rw[hc] at hR;exact hR
  |false=>rw[hc] at hR;exact hR
 ·exact h.elim
theorem cs_loop(hP:C.P=Tryz.prog)(K:List FL):waj C 0 28 (wal Tryz.f47 4) (wpp K):=by
 rintro st Q ⟨h0,hn,hQ⟩;refine AWP.ownNil 6 49 7 ?_;refine waj.mk (prg hP) [(103,.rel wh3)] 0 (.cons (cnf_ok hP) .nil) [5,6,12,13] [6] [] (S_cs K) (λk=>k<=K.length) (λk=>K.length - k) 0 (zL7 _) h0 (λk hk=>?_) (λi=>⟨λ_ _=>rfl,trivial⟩);have hl:(selK (cfB K) K k).length<=k:=we1 _ _ k;rw[w2f,tN7];refine wak (λh1=>⟨K,rfl,rfl,by omega,by omega,hn,?_⟩) (λh1=>?_)
 ·cases hc:cfB K k with
  |true=>
   have e:selK (cfB K) K (k+1)=selK (cfB K) K k++[atF K k]:=wj4 hc;refine⟨⟨by omega,by omega,rfl⟩,⟨by omega,rfl,by omega⟩,⟨⟨lR7 _,rfl⟩,lR7 _,rfl,rfl,rfl,by omega,?_⟩,by simp only[inR];omega,k+1,?_,by omega,by omega⟩
   ·show ((selK (cfB K) K k).length+1) * 112<=_;omega
   ·rw[e,lA7];exact⟨rfl,⟨rfl,rfl,rfl,rfl,rfl,wey _ _ _ rfl⟩,trivial⟩
  |false=>
   have e:selK (cfB K) K (k+1)=selK (cfB K) K k:=wj6 hc;refine⟨by simp only[inR];omega,k+1,?_,by omega,by omega⟩;rw[e];exact⟨rfl,rQ7,trivial⟩
 ·have:k=K.length:=by omega
  subst this;exact⟨λ_ _=>rfl,_,wam _,hQ⟩
theorem wwt(hP:C.P=Tryz.prog):wai C 47 wdt:=by
 rintro args objs U Os vc h hvc;unfold wdt at h;split at h<;>cases h;rename_i n f d;obtain⟨hn,hf,hg⟩:=hvc;generalize flOf f=g at *;subst hf;refine wan.frzO 0 ?_;refine wa5.wpL (prg hP) [(102,.det whs)] [(4,wpp (knwL okV g n d))] 0 (.cons (knV_ok hP) .nil) (hP ▸ Tryz.func47) rfl rfl rfl [(wal Tryz.f47 4,wpp (knwL okV g n d))] (by kernel_rfl) ⟨cs_loop hP _,trivial⟩ ?_;rw[nf_cs,wcy];have hl:=wir g n d;have hb:Nat.ble (cfL okV g n d).length (cfL okV g n d).length=true:=Nat.ble_eq_true_of_le (lR7 _);have e:badL (knwL okV g n d)=cfL okV g n d:=rfl;rw[e];exact⟨⟨hn,rfl,hg⟩,⟨rfl,⟨rfl,rfl,rfl,rfl,rfl,λi hi=>absurd hi (nZ7 i)⟩,trivial⟩,by omega,λ_ _=>rfl,_,wam _,λ_ _=>rfl,by simp[frzC,frzA,frz,hb],rfl⟩
theorem w4_loop(hP:C.P=Tryz.prog)(K:List FL):waj C 0 76 (wal Tryz.f45 4) (L_w4 K):=by
 rintro st Q ⟨h0,hn,hQ⟩;refine AWP.ownNil 6 49 7 (AWP.frzQ 0 ?_);refine waj.mk (prg hP) [(103,.rel wh3)] 0 (.cons (cnf_ok hP) .nil) [5,6,7,18,19] [6,7] [] (S_w4 K) (λk=>k<=K.length) (λk=>K.length - k) 0 (zL7 _) h0 (λk hk=>?_) (λi=>⟨λ_ _=>rfl,trivial⟩);have hl:(wbu K k).length<=k:=we1 _ _ k;rw[wzv,tN7];refine wak (λh1=>⟨K,rfl,rfl,by omega,by omega,hn,?_⟩) (λh1=>?_)
 ·cases hc:cfB K k with
  |false=>
   have e:wbu K (k+1)=wbu K k++[atF K k]:=wj4 (by rw[hc];rfl);refine⟨⟨by omega,by omega,rfl⟩,⟨by omega,rfl,by omega⟩,⟨⟨lR7 _,rfl⟩,lR7 _,rfl,rfl,rfl,by omega,?_⟩,by simp only[inR];omega,k+1,?_,by omega,by omega⟩
   ·show ((wbu K k).length+1) * 112<=_;omega
   ·rw[e,lA7];exact⟨rfl,⟨rfl,rfl,rfl,rfl,rfl,wey _ _ _ rfl⟩,trivial⟩
  |true=>
   have e:wbu K (k+1)=wbu K k:=wj6 (by rw[hc];rfl);refine⟨by simp only[inR];omega,k+1,?_,by omega,by omega⟩;rw[e];exact⟨rfl,rQ7,trivial⟩
 ·have:k=K.length:=by omega
  subst this;have hb:Nat.ble (wa6 K).length (wa6 K).length=true:=Nat.ble_eq_true_of_le (lR7 _);refine⟨λ_ _=>rfl,_,wam _,λ_ _=>rfl,?_⟩;have e:wi4 0 ⟨[(6,.own 0 (wa6 K).length),(7,.nil)],[(0,.row 49 7 (wa6 K).length (waa (atF (wa6 K))) false)],1,[]⟩=⟨[(6,.view 7 (wa6 K).length (waa (atF (wa6 K)))),(7,.nil)],[],1,[]⟩:=by
   show (⟨[(6,frz 0 7 (wa6 K).length (waa (atF (wa6 K))) (.own 0 (wa6 K).length)),(7,.nil)],[],1,[]⟩:St)=_;simp only[frz,hb];rfl
  show Q (.exit 0) (wi4 0 ⟨[(6,.own 0 (wa6 K).length),(7,.nil)],[(0,.row 49 7 (wa6 K).length (waa (atF (wa6 K))) false)],1,[]⟩);rw[e];exact hQ
theorem wxx(hP:C.P=Tryz.prog)(G:List FL)(k:Nat):waj C 0 76 (wal Tryz.f45 14) (wol G k):=by
 have _:C.Loose:=inferInstance;rintro st Q ⟨h0,hn,hQ⟩;refine waj.mk (prg hP) [] 0 .nil [6,7,10,11,34,35,36,40,41,42] [6,7,10,11,34,35,36] [] (wjo G k) (λj=>j<=G.length) (λj=>G.length - j) 0 (zL7 _) h0 (λj hj=>?_) (λi=>⟨λ_ _=>rfl,trivial⟩);rw[wzz,tN7];refine wak (λh1=>⟨⟨by omega,by omega,rfl⟩,wbj (λq1=>wak (λq2=>wak (λq3=>?_) (λq3=>?_)) (λq2=>?_)) (λq1=>?_)⟩) (λh1=>?_)
 ·have e:nwS G (atF G k) (j+1)=false:=by rw[nwS,decide_eq_false q1,decide_eq_true q2,decide_eq_true q3,Bool.and_eq_false_iff];exact .inr rfl
  refine⟨by simp only[inR];omega,j+1,?_,by omega,by omega⟩;rw[e];exact⟨rfl,rQ7,rfl,trivial⟩
 ·have e:nwS G (atF G k) (j+1)=nwS G (atF G k) j:=by rw[nwS,decide_eq_false q3,Bool.and_false,Bool.and_false,Bool.not_false,Bool.and_true]
  refine⟨by simp only[inR];omega,j+1,?_,by omega,by omega⟩;rw[e];exact⟨rfl,rQ7,rfl,trivial⟩
 ·have e:nwS G (atF G k) (j+1)=nwS G (atF G k) j:=by rw[nwS,decide_eq_false q2,Bool.false_and,Bool.and_false,Bool.not_false,Bool.and_true]
  refine⟨by simp only[inR];omega,j+1,?_,by omega,by omega⟩;rw[e];exact⟨rfl,rQ7,rfl,trivial⟩
 ·have e:nwS G (atF G k) (j+1)=nwS G (atF G k) j:=by rw[nwS,decide_eq_true q1,Bool.not_true,Bool.false_and,Bool.not_false,Bool.and_true]
  refine⟨by simp only[inR];omega,j+1,?_,by omega,by omega⟩;rw[e];exact⟨rfl,rQ7,rfl,trivial⟩
 ·have:j=G.length:=by omega
  subst this;exact⟨λ_ _=>rfl,_,wam _,hQ⟩
theorem wxy(hP:C.P=Tryz.prog)(G:List FL):waj C 0 76 (wal Tryz.f45 10) (wom G):=by
 rintro st Q ⟨h0,hn,hQ⟩;refine AWP.ownNil 7 49 7 ?_;refine waj.mkI (prg hP) [] (λk=>[(14,wol G k)]) 0 .nil (λk=>[(wal Tryz.f45 14,wol G k)]) (λk=>by kernel_rfl) (λk=>⟨wxx hP G k,trivial⟩) [6,7,34,35,36] [7] [] (wl6 G) (λk=>k<=G.length) (λk=>G.length - k) 0 (zL7 _) h0 (λk hk=>?_) (λi=>⟨λ_ _=>rfl,trivial⟩);have hl:(vwK G k).length<=k:=we1 _ _ k;rw[wz0,tN7];have add:(nwS G (atF G k) G.length || decide ((atF G k).kind=1))=true->vwK G (k+1)=vwK G k++[atF G k]:=λh=>wj4 h;refine wak (λh1=>⟨⟨by omega,by omega,rfl⟩,⟨rfl,rQ7,rfl,trivial⟩,hn,?_⟩) (λh1=>?_)
 ·cases hw:nwS G (atF G k) G.length with
  |true=>
   have e:=add (by rw[hw];rfl);refine⟨⟨by omega,rfl,by omega⟩,⟨⟨lR7 _,rfl⟩,lR7 _,rfl,rfl,rfl,by omega,?_⟩,by simp only[inR];omega,k+1,?_,by omega,by omega⟩
   ·show ((vwK G k).length+1) * 112<=_;omega
   ·rw[e,lA7];exact⟨rfl,⟨rfl,rfl,rfl,rfl,rfl,wey _ _ _ rfl⟩,trivial⟩
  |false=>
   refine wak (λq=>?_) (λq=>?_)
   ·have e:=add (by rw[hw,decide_eq_true q];rfl);refine⟨⟨by omega,rfl,by omega⟩,⟨⟨lR7 _,rfl⟩,lR7 _,rfl,rfl,rfl,by omega,?_⟩,by simp only[inR];omega,k+1,?_,by omega,by omega⟩
    ·show ((vwK G k).length+1) * 112<=_;omega
    ·rw[e,lA7];exact⟨rfl,⟨rfl,rfl,rfl,rfl,rfl,wey _ _ _ rfl⟩,trivial⟩
   ·have e:vwK G (k+1)=vwK G k:=wj6 (by show (nwS G (atF G k) G.length || decide ((atF G k).kind=1))=false;rw[hw,decide_eq_false q];rfl);refine⟨by simp only[inR];omega,k+1,?_,by omega,by omega⟩;rw[e];exact⟨rfl,rQ7,trivial⟩
 ·have:k=G.length:=by omega
  subst this;exact⟨λ_ _=>rfl,_,wam _,hQ⟩
theorem vwK_all{G:List FL}(h:∀F∈G,0<=F.ver):vwK G G.length=wfc G:=by
 have e:vwK G G.length=selK (λi=>vwB G (atF G i)) G G.length:=wtm λi hi=>vwB_ref (h _ (wd1 hi));rw[e,wtn];rfl
theorem wtt(hP:C.P=Tryz.prog):wai C 45 wdp:=by
 rintro args objs U Os vc h hvc;unfold wdp at h;split at h<;>cases h;rename_i n f d;obtain⟨hn,hf,hg⟩:=hvc;generalize flOf f=g at *;subst hf;refine wan.frzO 0 ?_;refine wa5.wpL (prg hP) [(102,.det whs)] [(4,L_w4 (knwL okV g n d)),(10,wom (wa6 (knwL okV g n d)))] 0 (.cons (knV_ok hP) .nil) (hP ▸ Tryz.func45) rfl rfl rfl [(wal Tryz.f45 4,L_w4 (knwL okV g n d)),(wal Tryz.f45 10,wom (wa6 (knwL okV g n d)))] (by kernel_rfl) ⟨w4_loop hP _,wxy hP _,trivial⟩ ?_;rw[nf_rvw,wcy];have hl:=wir g n d;have hl2:=wrp (knwL okV g n d);have e:vwK (wa6 (knwL okV g n d)) (wa6 (knwL okV g n d)).length=vwL okV g n d:=vwK_all λF hF=>by
  have:=wuf (nrm_ok (List.mem_filter.1 (wk5 hF)).1);omega
 rw[e];have hb:Nat.ble (vwL okV g n d).length (vwL okV g n d).length=true:=Nat.ble_eq_true_of_le (lR7 _);exact⟨⟨hn,rfl,hg⟩,⟨rfl,⟨rfl,rfl,rfl,rfl,rfl,λi hi=>absurd hi (nZ7 i)⟩,trivial⟩,by omega,⟨rfl,⟨rfl,rfl,rfl,rfl,rfl,λi hi=>absurd hi (nZ7 i)⟩,trivial⟩,by omega,λ_ _=>rfl,_,wam _,λ_ _=>rfl,by simp[frzC,frzA,frz,hb],rfl⟩
end Go.Eng
