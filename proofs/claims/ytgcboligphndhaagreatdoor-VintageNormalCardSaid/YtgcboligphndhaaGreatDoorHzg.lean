/- The laws of normal forms, views, changes and orders. -/
import Derived.Test.YtgcboligphndhaaGreatDoorHzf
import Derived.Test.YtgcboligphndhaaGreatDoorHze
namespace Go.Eng
open Go.Proofs Go.RowKit
variable {C:Ctx} [C.Loose]
set_option maxRecDepth 20000
theorem nf_vw(g:Nat->FL)(n:Nat)(d:Int)(R:oR7):letI z1:=wbo (knwL okV (flOf (wac g)) n d);letI z4:=z1.length;letI z0:=wbo (knwL okV g n d);letI z5:=wac (atF z0);letI z3:=z0.length;letI z2:=(List.map (λ(p:AV×AV)=>(AV.rn (idxN [0,1,2]) p.1,AV.rn (idxN [0,1,2]) p.2)) (nwE z0 z3));wpFn te [(99,.det wl9),(100,.rel woa)] [(4,L_v4 z0)] 0 Tryz.f44 [.view 7 n (wac g),.q d] [] R=((n<=1000/\wac g=wac (flOf (wac g))/\∀(i:Nat),i<n->FL.Gd (flOf (wac g) i))/\(∀(i:Nat),i<z1.length->true=true)/\(∀(i:Nat),i<(badL (knwL okV (flOf (wac g)) n d)).length->true=true)/\(TEq [(5,.own 0 z4),(7,.ptr 1 0),(17,.own 0 z4),(18,.q (z4:Int)),(19,.q 0)] [(5,.own 0 z3),(7,.ptr 1 0),(17,.own 0 z3),(18,.q (z3:Int)),(19,.q (↑0:Int))]/\waf [(0,.row 49 7 z4 (wac (atF z1)) false),(1,.cells [.map 2] 132),(2,.amap (List.map (λ(p:AV×AV)=>(AV.rn (ren 0 [(0,0),(17,1),(16,2)]) p.1,AV.rn (ren 0 [(0,0),(17,1),(16,2)]) p.2)) []))] [(0,.row 49 7 z3 z5 false),(1,.cells [.map 2] 132),(2,.amap (nwE z0 0))])/\z0.length<=1000/\(∀(F:FL),F∈wbo (knwL okV g n d)->(0:Int)<=F.ver)/\(∀(i:Nat),i<z0.length->true=true)/\49=49/\132=132/\false=false/\z0.length=z0.length/\z0.length<=1000/\wac (atF z0)=wac (flOf z5)/\(∀(i:Nat),i<z0.length->FL.Rg (flOf z5 i))/\EsV z2/\∀(k:Nat) (h:Nat->FL),k<=z0.length->lst h k=kfL (qV z2) (flOf z5) z3->(∀(i:Nat),i<k->true=true)/\(∀(i:Nat),i<k->true=true)/\∃(O':oL7),waf [(0,.row 49 7 k (wac h) false)] O'/\R (.own 0 k) O'):=by kernel_rfl
theorem wzh(G:List FL)(k:Nat)(P:Nat->Prop)(R:eR7):wa0 ⟨te,[],[],0,40,0⟩ (wa1 Tryz.f44 4) [5,7,17,18,19] [5,7] [] (S_v4 G) P R (S_v4 G k)=(letI z5:=TI.desc (TI.mk TypeDesc.string 1 16 (Value.string (ByteArray.mk #[])) false);letI z4:=ren 0 [(0,0),(1,1),(2,2)];letI z2:=(atF G (k:Int).toNat);letI z6:=war (Option.getD (mget (nwE G k) (.str z2.id)) (zvA (.q 0)));letI z1:=G.length;letI z3:=([(5,.own 0 z1),(7,.ptr 1 0),(17,.own 0 z1),(18,.q (z1:Int)),(19,.q ((k:Int)+1))]:tL7);letI z0:=([(0,.row 49 7 z1 (wac (atF G)) false),(1,.cells [.map 2] 132),(2,.amap (List.map (λ(p:AV×AV)=>(AV.rn z4 p.1,AV.rn z4 p.2)) (nwE G k)))]:oL7);wab (decide ((k:Int)<(z1:Int))) (((0:Int)<=(k:Int)/\(k:Int)<(z1:Int))/\((k:Int).toNat<G.length/\7=7)/\wab (!decide (z2.kind=1)) ((wbu z5 (nwE G k)/\.q z6=Option.getD (mget (nwE G k) (.str z2.id)) (zvA (.q 0)))/\wbu z5 (nwE G k)/\inR .i64 ((k:Int)+1)/\∃(i':Nat),(TEq z3 [(5,.own 0 z1),(7,.ptr 1 0),(17,.own 0 z1),(18,.q (z1:Int)),(19,.q (i':Int))]/\waf [(0,.row 49 7 z1 (wac (atF G)) false),(1,.cells [.map 2] 132),(2,.amap (List.map (λ(p:AV×AV)=>(AV.rn z4 p.1,AV.rn z4 p.2)) (mset (nwE G k) (.str z2.id) (.q (max z6 z2.ver)))))] [(0,.row 49 7 z1 (wac (atF G)) false),(1,.cells [.map 2] 132),(2,.amap (nwE G i'))])/\P i') (inR .i64 ((k:Int)+1)/\∃(i':Nat),(TEq z3 [(5,.own 0 z1),(7,.ptr 1 0),(17,.own 0 z1),(18,.q (z1:Int)),(19,.q (i':Int))]/\waf z0 [(0,.row 49 7 z1 (wac (atF G)) false),(1,.cells [.map 2] 132),(2,.amap (nwE G i'))])/\P i')) ((∀(i:Nat),i<G.length->true=true)/\∃(O':oL7),waf z0 O'/\R (.exit 0) (St.mk [(5,.own 0 z1),(7,.ptr 1 0)] O' 3 []))):=by kernel_rfl
theorem wua(v:List UInt8->Int)(x:List UInt8)(y:Int):∀K,x ∉ K->mset (entI K v) (.str x) (.q y)=entI (K++[x]) (λt=>if t=x then y else v t)
 |[],_=>by simp[entI,mset]
 |t::K,h=>by
  have h1:¬ t=x:=λe=>h (by simp[e]);have ih:=wua v x y K (λe=>h (by simp[e]));show (match keq (.str t) (.str x) with | true=>(AV.str x,AV.q y)::entI K v | false=>(AV.str t,AV.q (v t))::mset (entI K v) (.str x) (.q y))=_
  rw[wg6,decide_eq_false h1,ih];show _=(AV.str t,AV.q (if t=x then y else v t))::entI (K++[x]) _
  rw[if_neg h1]
theorem wk9{K:List (List UInt8)}{v v':List UInt8->Int}(h:∀t∈K,v t=v' t):entI K v=entI K v':=List.map_congr_left λt ht=>by rw[h t ht]
theorem wt8(v:List UInt8->Int)(x:List UInt8)(y:Int):∀K,K.Nodup->x∈K->mset (entI K v) (.str x) (.q y)=entI K (λt=>if t=x then y else v t)
 |[],_,h=>by cases h
 |t::K,hd,h=>by
  rw[List.nodup_cons] at hd;show (match keq (.str t) (.str x) with | true=>(AV.str x,AV.q y)::entI K v | false=>(AV.str t,AV.q (v t))::mset (entI K v) (.str x) (.q y))=(AV.str t,AV.q (if t=x then y else v t))::entI K (λt=>if t=x then y else v t)
  rw[wg6]
  by_cases e:t=x
  ·subst e;rw[decide_eq_true rfl,if_pos rfl];show _::_=_::_;rw[wk9 (v:=v) (v':=λs=>if s=t then y else v s) λs hs=>by
    rw[if_neg];intro q;subst q;exact hd.1 hs]
  ·rw[decide_eq_false e,if_neg e];have hx:x∈K:=by
    rcases List.mem_cons.1 h with q | q
    ·exact absurd q.symm e
    ·exact q
   show _::_=_::_;rw[wt8 v x y K hd.2 hx]
theorem wir(G:List FL):∀k,(idK G k).Nodup
 |0=>List.nodup_nil
 |k+1=>by
  rw[idK]
  cases q: !decide ((atF G k).kind=1) && !decide ((atF G k).id∈idK G k) with
  |false=>exact wir G k
  |true=>
   rw[bA7,Bool.not_eq_true',Bool.not_eq_true',decide_eq_false_iff_not,decide_eq_false_iff_not] at q;show (idK G k++[(atF G k).id]).Nodup;rw[List.nodup_append];refine⟨wir G k,by simp,λa ha b hb=>?_⟩;rw[List.mem_singleton] at hb;subst hb;intro e;subst e;exact q.2 ha
theorem wj6{G:List FL}{t:List UInt8}:∀ {k},t ∉ idK G k->nwF G t k=0
 |0,_=>rfl
 |k+1,h=>by
  rw[idK] at h;rw[nwF]
  cases q: !decide ((atF G k).kind=1) with
  |false=>
   rw[q,Bool.false_and,cond_false] at h;rw[Bool.false_and,cond_false];exact wj6 h
  |true=>
   rw[q,Bool.true_and] at h
   by_cases e:(atF G k).id∈idK G k
   ·rw[decide_eq_true e] at h;have h:t ∉ idK G k:=h;have ne:¬ (atF G k).id=t:=λz=>h (z ▸ e);rw[decide_eq_false ne];exact wj6 h
   ·rw[decide_eq_false e] at h;have h:t ∉ idK G k++[(atF G k).id]:=h;rw[List.mem_append,List.mem_singleton,not_or] at h;rw[decide_eq_false λz=>h.2 z.symm];exact wj6 h.1
theorem wtt(G:List FL)(k:Nat)(x:List UInt8):Option.getD (mget (nwE G k) (.str x)) (.q 0)= .q (nwF G x k):=by
 unfold nwE;rw[wqj]
 by_cases h:x∈idK G k
 ·rw[if_pos h]
 ·rw[if_neg h,wj6 h]
theorem wts(G:List FL)(k:Nat):wbu .string (nwE G k):=wvx (wir G k)
theorem wp8(σ:Nat->Option Nat)(G:List FL)(k:Nat):(nwE G k).map (λp=>(AV.rn σ p.1,AV.rn σ p.2))=nwE G k:=whb σ _ _
theorem nwE_msg{G:List FL}{k:Nat}(h:(atF G k).kind=1):nwE G (k+1)=nwE G k:=by
 unfold nwE;rw[idK,decide_eq_true h];refine wk9 λt _=>?_;rw[nwF,decide_eq_true h];rfl
theorem nwE_set{G:List FL}{k:Nat}(h:¬ (atF G k).kind=1):mset (nwE G k) (.str (atF G k).id) (.q (max (nwF G (atF G k).id k) (atF G k).ver))=nwE G (k+1):=by
 unfold nwE;have st:∀t,nwF G t (k+1)=if t=(atF G k).id then max (nwF G (atF G k).id k) (atF G k).ver else nwF G t k:=λt=>by
  rw[nwF,decide_eq_false h]
  by_cases e:t=(atF G k).id
  ·subst e;rw[if_pos rfl,decide_eq_true rfl];rfl
  ·rw[if_neg e,decide_eq_false λz=>e z.symm];rfl
 rw[idK,decide_eq_false h]
 by_cases e:(atF G k).id∈idK G k
 ·rw[decide_eq_true e,wt8 _ _ _ _ (wir G k) e];exact wk9 λt _=>(st t).symm
 ·rw[decide_eq_false e,wua _ _ _ _ e];exact wk9 λt _=>(st t).symm
theorem v4_loop(hP:C.P=Tryz.prog)(G:List FL):waj C 0 40 (wal Tryz.f44 4) (L_v4 G):=by
 have _:C.Loose:=inferInstance;rintro st Q ⟨h0,hn,hv,hQ⟩;refine waj.mk (prg hP) [] 0 .nil [5,7,17,18,19] [5,7] [] (S_v4 G) (λk=>k<=G.length) (λk=>G.length - k) 0 (zL7 _) h0 (λk hk=>?_) (λ_=>⟨λ_ _=>rfl,trivial⟩);have zz:zvA (.q 0)= .q 0:=rfl;rw[wzh,tN7,zz,wtt,wp8];refine wak (λh1=>⟨⟨by omega,by omega⟩,⟨by omega,rfl⟩,wbh (λh2=>?_) (λh2=>?_)⟩) (λh1=>?_)
 ·have e:=nwE_set (G:=G) (k:=k) h2;refine⟨⟨wts G k,rfl⟩,wts G k,by simp only[inR];omega,k+1,⟨rfl,?_⟩,by omega,by omega⟩;have e':mset (nwE G k) (.str (atF G k).id) (.q (max (war (.q (nwF G (atF G k).id k))) (atF G k).ver))=nwE G (k+1):=e;rw[e',wp8];exact wam _
 ·exact⟨by simp only[inR];omega,k+1,⟨rfl,by rw[nwE_msg h2];exact wam _⟩,by omega,by omega⟩
 ·have:k=G.length:=by omega
  subst this;exact⟨λ_ _=>rfl,_,wam _,hQ⟩
theorem kf_view(G:List FL):kfL (qV (nwE G G.length)) (atF G) G.length=wf3 G:=by
 unfold kfL wf3;rw[show lst (atF G) G.length=G from wd4 G _];refine List.filter_congr λx _=>?_;unfold qV vwB;rw[wtt];rfl
theorem knw_len(g:Nat->FL)(n:Nat)(d:Int):(knwL okV g n d).length<=n:=Nat.le_trans (List.length_filter_le _ _) (wj9 g n)
theorem w3i(L:List FL):(wbo L).length<=L.length:=wjx _ L _
theorem knw_gd{g:Nat->FL}{n:Nat}{d:Int}(hg:∀i,i<n->(g i).Gd):∀x∈knwL okV g n d,x.Gd:=λx hx=>wka hg x (List.mem_filter.1 hx).1
theorem view_at(hP:C.P=Tryz.prog)(hL:∀w,C.laid w->LaidW w)(g:Nat->FL)(n:Nat)(d:Int)(hn:n<=1000)(hg:∀i,i<n->(g i).Gd):ADet C 44 [.view 7 n (wac g),.q d] [] (.own 0 (vwL okV g n d).length) [(0,.row 49 7 (vwL okV g n d).length (wac (atF (vwL okV g n d))) false)]:=by
 refine wa6.wpL (prg hP) [(99,.det wl9),(100,.rel woa)] [(4,L_v4 (wbo (knwL okV g n d)))] 0 (.cons (spl_ok hP hL) (.cons (delV_ok hP) .nil)) (hP ▸ Tryz.func44) rfl rfl rfl
  [(wal Tryz.f44 4,L_v4 (wbo (knwL okV g n d)))] (by kernel_rfl) ⟨v4_loop hP _,trivial⟩ ?_
 rw[nf_vw,wea,wea,wp8];have h1:=knw_len g n d;have h2:=w3i (knwL okV g n d);have hv:∀F∈wbo (knwL okV g n d),0<=F.ver:=λF hF=>by
  have:=wyx (nrm_ok (List.mem_filter.1 (wu1 hF)).1);omega
 have hgd:∀F∈wbo (knwL okV g n d),F.Gd:=λF hF=>knw_gd hg F (wu1 hF);have hk:=kf_view (wbo (knwL okV g n d));have hw:vwL okV g n d=wf3 (wbo (knwL okV g n d)):=rfl;rw[hk,hw];generalize wbo (knwL okV g n d)=G at *;refine⟨⟨hn,rfl,hg⟩,λ_ _=>rfl,λ_ _=>rfl,⟨rfl,wam _⟩,by omega,hv,λ_ _=>rfl,rfl,rfl,rfl,rfl,by omega,rfl,λi hi=>(hgd _ (weg hi)).rg,⟨_,_,rfl,wir G _⟩,λk h hkn hlst=>?_⟩;obtain⟨e1,e2⟩:=lst_at hlst wde;subst e1;refine⟨λ_ _=>rfl,λ_ _=>rfl,[(0,.row 49 7 (wf3 G).length (wac (atF (wf3 G))) false)],⟨⟨rfl,rfl,rfl,rfl,rfl,λi hi=>?_⟩,trivial⟩,rfl,rfl⟩;show wbb (h i)=wbb ((wf3 G).getD i wde);rw[e2 i hi]
theorem nf_aw15(R:oR7):wpFn te [] [(1002,wpg)] 0 Tryz.f31 [] [] R=(letI z0:=([.str [(97:UInt8)],.q 1,.q 10,.q 2,.view 15 0 (wae (atM [])),.own 1 1,.view 5 0 (wag (atT []))]:List AV);(5<=16777216/\5=5/\1<=9223372036854775807)/\(TEq [(0,.bool false),(1,.ptr 0 0)] [(0,.bool false),(1,.ptr 0 0)]/\waf [(0,.cells z0 49),(1,.row 61 5 1 (wap (TI.sz wc5) (.str [(111:UInt8)]:: .str [(57:UInt8),54,51,56,53,48,55,52]:: .q 5:: .q 2:: .q 300::List.append [] wfb)) false)] [(0,.cells z0 49),(1,.row 61 5 1 (wah (atR [awR])) false)])/\R (.bool true) []):=by kernel_rfl
theorem nf_aw2(Q:eR7):regP ⟨te,[(33,.det wc2),(44,.det wlz)],[],0,22,0⟩ (regC Tryz.f31 2) [0] Q S_awc=(letI z6:=(7<=16777216/\7=7/\1<=9223372036854775807:Prop);letI z5:=wag (atT awFl.ts);letI z4:=wah (atR awFl.rs);letI z3:=wae (atM awFl.ms);letI z2:=(flV [(97:UInt8)] awFl.ver awFl.day awFl.kind 0 z3 1 z4 0 z5);letI z1:=(1=1/\1<=1000/\FM (wap (TI.sz wbr) (.str [(97:UInt8)]:: .q awFl.ver:: .q awFl.day:: .q awFl.kind:: .view 15 0 z3:: .view 5 1 z4:: .view 5 0 z5::List.append [] wdi)) 1:Prop);letI z0:=(∀(i:Nat),i<1->nrefL (wap (TI.sz wbr) (.str [(97:UInt8)]:: .q awFl.ver:: .q awFl.day:: .q awFl.kind:: .view 15 0 z3:: .view 5 1 z4:: .view 5 0 z5::List.append [] wdi) i)=true:Prop);(FlC 0 z3 1 z4 0 z5/\FL.Rg z2)/\wab (decide (encF z2=[(49:UInt8),58,97,44,49,44,50,44,48,44,49,44,49,58,111,44,56,58,57,54,51,56,53,48,55,52,44,53,44,50,44,51,48,48,44,48,44])) (z6/\z0/\z1/\z6/\z0/\z1/\Q .normal (St.mk [(0,.bool true)] [] 0 [])) (Q .normal (St.mk [(0,.bool false)] [] 0 []))):=by kernel_rfl
open Go.Lib in
theorem wwm:encF awFl=[49,58,97,44,49,44,50,44,48,44,49,44,49,58,111,44,56,58,57,54,51,56,53,48,55,52,44,53,44,50,44,51,48,48,44,48,44]:=by
 have d1:∀u,u<10->decDigits u=[UInt8.ofNat (48+u)]:=λu h=>by rw[decDigits,dif_pos h]
 have d3:decDigits 300=[51,48,48]:=by
  rw[decDigits,dif_neg (by omega),show 300 / 10=30 from rfl,decDigits,dif_neg (by omega),show 30 / 10=3 from rfl,d1 3 (by omega)];rfl
 have i1:∀u:Nat,u<10->itoa (u:Int)=[UInt8.ofNat (48+u)]:=λu h=>by
  unfold itoa;rw[if_neg (by omega),tN7,d1 u h]
 have i3:itoa (300:Int)=[51,48,48]:=by
  unfold itoa;rw[if_neg (by omega)];exact d3
 have e0:=i1 0 (by omega);have e1:=i1 1 (by omega);have e2:=i1 2 (by omega);have e5:=i1 5 (by omega);have e8:=i1 8 (by omega);show (itoa ((1:Nat):Int)++58::([97]++[44]))++((itoa ((1:Nat):Int)++[44])++((itoa ((2:Nat):Int)++[44])++((itoa ((0:Nat):Int)++[44])++([]++((itoa ((1:Nat):Int)++[44])++(((itoa ((1:Nat):Int)++58::([111]++[44]))++((itoa ((8:Nat):Int)++58::([57,54,51,56,53,48,55,52]++[44]))++((itoa ((5:Nat):Int)++[44])++((itoa ((2:Nat):Int)++[44])++(itoa (300:Int)++[44]))))++[])++((itoa ((0:Nat):Int)++[44])++[])))))))=_;rw[e0,e1,e2,e5,e8,i3];rfl
theorem wwk:awFl.Rg:=⟨by simp only[inR,awFl];omega,by simp only[inR,awFl];omega,by decide,by decide,by decide,λm hm=>(by cases hm),λr hr=>(by
 rw[List.mem_singleton.1 hr];exact⟨by simp only[inR,awR];omega,by simp only[inR,awR];omega,by simp only[inR,awR];omega⟩),λt ht=>(by cases ht),by rw[wwm];decide⟩
theorem wwl:awFl.Gd:=⟨⟨by decide,⟨by decide,λm hm=>(by cases hm)⟩,⟨by decide,λr hr=>by
 rw[List.mem_singleton.1 hr];decide⟩,⟨by decide,λt ht=>(by cases ht)⟩⟩,wwk⟩
theorem fm_one{f:Nat->List AV}{F:FL}(h:f 0=wbb F)(hg:F.Gd):FM f 1:=by
 have e:flOf f 0=F:=by
  unfold flOf;rw[h];exact wcg F
 refine⟨λi hi=>?_,λi hi=>?_⟩
 ·obtain rfl:i=0:=by omega
  show f 0=wbb (flOf f 0);rw[e,h]
 ·obtain rfl:i=0:=by omega
  rw[e];exact hg
theorem wxc(hP:C.P=Tryz.prog)(hL:∀w,C.laid w->LaidW w):wai C 44 www:=by
 rintro args objs U Os vc h hvc;unfold www at h;split at h<;>cases h;rename_i n f d;obtain⟨hn,hf,hg⟩:=hvc;generalize flOf f=g at *;subst hf;refine wan.frzO 0 ((view_at hP hL g n d hn hg).mono ?_);rintro u O ⟨rfl,rfl⟩;refine⟨λ_ _=>rfl,?_⟩;have hb:Nat.ble (vwL okV g n d).length (vwL okV g n d).length=true:=Nat.ble_eq_true_of_le (lR7 _)
 constructor
 ·simp[frzC,frzA,frz,hb]
 ·rfl
theorem wxd(hP:C.P=Tryz.prog)(hL:∀w,C.laid w->LaidW w):wai C 44 wlz:=by
 rintro args objs U Os vc h hvc;unfold wlz at h;split at h<;>cases h;rename_i n d t m f fr;obtain⟨rfl,hn,hf,hs⟩:=hvc;refine wan.rowEq 0 (f':=wac (flOf f)) rfl (λi hi=>(hf i hi).symm) ?_;have hb:Nat.ble n n=true:=Nat.ble_eq_true_of_le (lR7 _);have hh:=wxc hP hL [.view 7 n (wac (flOf f)),.q d] [] _ _ _ rfl ⟨hn,by rw[wea],by rw[wea];exact hs⟩;rw[wea] at hh;exact ADet.give hh (by simp[frzC,frzA,frz,hb]) rfl rfl (λ_ _=>rfl)
theorem aw2_ok(hP:C.P=Tryz.prog)(hL:∀w,C.laid w->LaidW w):waj C 0 22 (regC Tryz.f31 2) wpg:=by
 rintro st Q ⟨h0,hQ⟩;refine AWP.nilVP 1 6 5 (wag (atT [])) (AWP.nilVP 1 4 15 (wae (atM [])) (AWP.canonIs (te:=te) [0,1] h0 (AWP.frzX 1 [] (λ_ _=>rfl) ?_) ⟨λ_ _=>rfl,trivial⟩));refine waj.reg (S:=S_awc) (prg hP) [(33,.det wc2),(44,.det wlz)] 0 (.cons (enc_ok hP hL) (.cons (wxd hP hL) .nil)) [0,1] [0] rfl ?_ trivial;rw[nf_aw2];have e:flV [97] awFl.ver awFl.day awFl.kind 0 (wae (atM awFl.ms)) 1 (wah (atR awFl.rs)) 0 (wag (atT awFl.ts))=awFl:=wcg awFl;rw[e];refine⟨⟨wcl awFl,wwk⟩,wak (λ_=>?_) (λh=>absurd wwm h)⟩;have one:∀ {p:Nat->Prop},p 0->∀i,i<1->p i:=λh i hi=>by
  obtain rfl:i=0:=by omega
  exact h
 exact⟨⟨by omega,rfl,by omega⟩,one rfl,⟨rfl,by omega,fm_one (F:=awFl) rfl wwl⟩,⟨by omega,rfl,by omega⟩,one rfl,⟨rfl,by omega,fm_one (F:=awFl) rfl wwl⟩,hQ⟩
theorem w48(hP:C.P=Tryz.prog)(hL:∀w,C.laid w->LaidW w):wai C 31 wnx:=by
 rintro args objs U Os vc h hvc;unfold wnx at h;split at h<;>cases h;refine wai.wpL (prg hP) [] [(1002,wpg)] 0 .nil (hP ▸ Tryz.func31) rfl rfl rfl [(regC Tryz.f31 2,wpg)] (by kernel_rfl) ⟨aw2_ok hP hL,trivial⟩ ?_;rw[nf_aw15];exact⟨⟨by omega,rfl,by omega⟩,⟨rfl,rfl,⟨rfl,rfl,rfl,rfl,rfl,λi hi=>by
  obtain rfl:i=0:=by omega
  rfl⟩,trivial⟩,rfl,rfl⟩
theorem nrmV_ok(hP:C.P=Tryz.prog):wai C 41 wfw:=by
 rintro args objs U Os vc h hvc;unfold wfw at h;split at h<;>cases h;rename_i n f;obtain⟨hn,hf,hg⟩:=hvc;generalize flOf f=g at *;subst hf;refine wan.frzO 0 ((nrmR_at hP g n hn hg).mono ?_);rintro u O ⟨rfl,rfl⟩;have hb:Nat.ble (nrmL okV g n).length (nrmL okV g n).length=true:=Nat.ble_eq_true_of_le (lR7 _);exact⟨λ_ _=>rfl,by simp[frzC,frzA,frz,hb],rfl⟩
theorem wz4(g:Nat->FL)(n k:Nat)(F:FL)(c j:Nat)(P:Nat->Prop)(R:eR7):wa0 ⟨te,[],[],0,221,0⟩ (wa1 Tryz.f28 7) [3,5,6,17,18,19,43,44,45] [3,5,6,17,18,19] [] (wmg g n k F c) P R (wmg g n k F c j)=(letI z10:=List.take 30 F.id;letI z9:=atM F.ms;letI z1:=([.str F.id,.q F.ver,.q F.day,.q F.kind,.view 15 F.ms.length (wae z9),.view 5 F.rs.length (wah (atR F.rs)),.view 5 F.ts.length (wag (atT F.ts))]:List AV);letI z0:=(atM F.ms (j:Int).toNat);letI z8:=(z0.dev.length:Int);letI z7:=(z0.d.p.length:Int);letI z6:=(z0.v.p.length:Int);letI z5:=(z0.d.o.length:Int);letI z4:=(z0.v.o.length:Int);letI z3:=(z0.d.dev.length:Int);letI z2:=(z0.v.rep.length:Int);wab (decide ((j:Int)<(c:Int))) (((0:Int)<=(j:Int)/\(j:Int)<(c:Int)/\15=15)/\((0:Int)<=min z8 (30:Int)/\min z8 (30:Int)<=z8)/\((0:Int)<=min z4 (30:Int)/\min z4 (30:Int)<=z4)/\((0:Int)<=min z5 (30:Int)/\min z5 (30:Int)<=z5)/\((0:Int)<=min z6 (30:Int)/\min z6 (30:Int)<=z6)/\((0:Int)<=min z7 (30:Int)/\min z7 (30:Int)<=z7)/\((0:Int)<=min z2 (30:Int)/\min z2 (30:Int)<=z2)/\((0:Int)<=min z3 (30:Int)/\min z3 (30:Int)<=z3)/\(15<=16777216/\15=15/\1<=9223372036854775807)/\((1<=1/\15=15)/\j<=j/\15=15/\40=40/\15=15/\j+1<=9223372036854775807/\(j+1) * TI.bytes wey<=140737488355328)/\inR .i64 ((j:Int)+1)/\∃(i':Nat),(TEq [(3,.own 0 k),(5,.ptr 1 0),(6,.ptr 2 0),(17,.view 7 n (wac g)),(18,.q (n:Int)),(19,.q (k:Int)),(43,.view 15 c (wae z9)),(44,.q (c:Int)),(45,.q ((j:Int)+1))] [(3,.own 0 k),(5,.ptr 1 0),(6,.ptr 2 0),(17,.view 7 n (wac g)),(18,.q (n:Int)),(19,.q (k:Int)),(43,.view 15 c (wae z9)),(44,.q (c:Int)),(45,.q (i':Int))]/\waf [(0,.row 49 7 k (wac (cutG g)) false),(1,.cells z1 49),(2,.cells [.str z10,.q F.ver,.q F.day,.q F.kind,.own 3 (j+1),.nil,.nil] 49),(3,.row 40 15 (j+1) (apF j (wae (cutM z9)) (wap (TI.sz wey) (.str (List.take (min z8 (30:Int)).toNat z0.dev):: .q z0.seq:: .q z0.kind:: .str (List.take (min z4 (30:Int)).toNat z0.v.o):: .str (List.take (min z6 (30:Int)).toNat z0.v.p):: .q z0.v.per:: .q z0.v.day:: .q z0.v.st:: .q z0.v.pr:: .str (List.take (min z2 (30:Int)).toNat z0.v.rep):: .str (List.take (min z5 (30:Int)).toNat z0.d.o):: .str (List.take (min z7 (30:Int)).toNat z0.d.p):: .q z0.d.per:: .str (List.take (min z3 (30:Int)).toNat z0.d.dev):: .q z0.d.num::List.append [] (List.flatten (List.replicate (nat_lit 0) [.str ([]),.q 0,.q 0,.str ([]),.str ([]),.q 0,.q 0,.q 0,.q 0,.str ([]),.str ([]),.str ([]),.q 0,.str ([]),.q 0]))))) false)] [(0,.row 49 7 k (wac (cutG g)) false),(1,.cells z1 49),(2,.cells [.str z10,.q F.ver,.q F.day,.q F.kind,.own 3 i',.nil,.nil] 49),(3,.row 40 15 i' (wae (cutM z9)) false)])/\P i') ((∀(i:Nat),i<k->true=true)/\(∀(i:Nat),i<j->true=true)/\∃(O':oL7),waf [(0,.row 49 7 k (wac (cutG g)) false),(1,.cells z1 49),(2,.cells [.str z10,.q F.ver,.q F.day,.q F.kind,.own 3 j,.nil,.nil] 49),(3,.row 40 15 j (wae (cutM z9)) false)] O'/\R (.exit 2) (St.mk [(3,.own 0 k),(5,.ptr 1 0),(6,.ptr 2 0),(17,.view 7 n (wac g)),(18,.q (n:Int)),(19,.q (k:Int))] O' 4 []))):=by kernel_rfl
theorem wz3(g:Nat->FL)(n k:Nat)(F:FL)(c j:Nat)(P:Nat->Prop)(R:eR7):wa0 ⟨te,[],[],0,221,0⟩ (wa1 Tryz.f28 15) [3,5,6,17,18,19,136,137,138] [3,5,6,17,18,19] [] (wmf g n k F c) P R (wmf g n k F c j)=(letI z7:=List.take 30 F.id;letI z6:=wae (atM (cutF F).ms);letI z5:=atR F.rs;letI z2:=(cutF F).ms.length;letI z1:=(atR F.rs (j:Int).toNat);letI z4:=(z1.p.length:Int);letI z3:=(z1.o.length:Int);letI z0:=([.str F.id,.q F.ver,.q F.day,.q F.kind,.view 15 F.ms.length (wae (atM F.ms)),.view 5 F.rs.length (wah z5),.view 5 F.ts.length (wag (atT F.ts))]:List AV);wab (decide ((j:Int)<(c:Int))) (((0:Int)<=(j:Int)/\(j:Int)<(c:Int)/\5=5)/\((0:Int)<=min z3 (30:Int)/\min z3 (30:Int)<=z3)/\((0:Int)<=min z4 (30:Int)/\min z4 (30:Int)<=z4)/\(5<=16777216/\5=5/\1<=9223372036854775807)/\((1<=1/\5=5)/\j<=j/\5=5/\61=61/\5=5/\j+1<=9223372036854775807/\(j+1) * TI.bytes wc5<=140737488355328)/\inR .i64 ((j:Int)+1)/\∃(i':Nat),(TEq [(3,.own 0 k),(5,.ptr 1 0),(6,.ptr 2 0),(17,.view 7 n (wac g)),(18,.q (n:Int)),(19,.q (k:Int)),(136,.view 5 c (wah z5)),(137,.q (c:Int)),(138,.q ((j:Int)+1))] [(3,.own 0 k),(5,.ptr 1 0),(6,.ptr 2 0),(17,.view 7 n (wac g)),(18,.q (n:Int)),(19,.q (k:Int)),(136,.view 5 c (wah z5)),(137,.q (c:Int)),(138,.q (i':Int))]/\waf [(0,.row 49 7 k (wac (cutG g)) false),(1,.cells z0 49),(2,.cells [.str z7,.q F.ver,.q F.day,.q F.kind,.own 3 z2,.own 4 (j+1),.nil] 49),(3,.row 40 15 z2 z6 false),(4,.row 61 5 (j+1) (apF j (wah (cutR z5)) (wap (TI.sz wc5) (.str (List.take (min z3 (30:Int)).toNat z1.o):: .str (List.take (min z4 (30:Int)).toNat z1.p):: .q z1.per:: .q z1.u:: .q z1.tv::List.append [] wfb))) false)] [(0,.row 49 7 k (wac (cutG g)) false),(1,.cells z0 49),(2,.cells [.str z7,.q F.ver,.q F.day,.q F.kind,.own 3 z2,.own 4 i',.nil] 49),(3,.row 40 15 z2 z6 false),(4,.row 61 5 i' (wah (cutR z5)) false)])/\P i') ((∀(i:Nat),i<k->true=true)/\(∀(i:Nat),i<(cutF F).ms.length->true=true)/\(∀(i:Nat),i<j->true=true)/\∃(O':oL7),waf [(0,.row 49 7 k (wac (cutG g)) false),(1,.cells z0 49),(2,.cells [.str z7,.q F.ver,.q F.day,.q F.kind,.own 3 z2,.own 4 j,.nil] 49),(3,.row 40 15 z2 z6 false),(4,.row 61 5 j (wah (cutR z5)) false)] O'/\R (.exit 4) (St.mk [(3,.own 0 k),(5,.ptr 1 0),(6,.ptr 2 0),(17,.view 7 n (wac g)),(18,.q (n:Int)),(19,.q (k:Int))] O' 5 []))):=by kernel_rfl
theorem wz1(g:Nat->FL)(n k:Nat)(F:FL)(c j:Nat)(P:Nat->Prop)(R:eR7):wa0 ⟨te,[],[(1024,woo g n k F c j)],0,221,0⟩ (wa1 Tryz.f28 21) [3,6,17,18,19,171,172,173] [3,6,17,18,19] [] (whm g n k F c) P R (whm g n k F c j)=(letI z16:=wac (cutG g);letI z15:=wag (atT F.ts);letI z14:=List.take 30 F.id;letI z13:=(wb8 (atT F.ts j)).bs;letI z11:=wag (cutT (atT F.ts));letI z10:=wah (atR (cutF F).rs);letI z9:=wae (atM (cutF F).ms);letI z5:=(cutF F).rs.length;letI z4:=(cutF F).ms.length;letI z6:=([.str z14,.q F.ver,.q F.day,.q F.kind,.own 2 z4,.own 3 z5,.own 4 (j+1)]:List AV);letI z3:=([(3,.own 0 k),(6,.ptr 1 0),(17,.view 7 n (wac g)),(18,.q (n:Int)),(19,.q (k:Int)),(171,.view 5 c z15),(172,.q (c:Int)),(173,.q (j:Int))]:tL7);letI z1:=([(0,.row 49 7 k z16 false),(1,.cells z6 49),(2,.row 40 15 z4 z9 false),(3,.row 61 5 z5 z10 false),(4,.row 97 5 (j+1) z11 false)]:oL7);letI z0:=(atT F.ts (j:Int).toNat);letI z8:=(z0.p.length:Int);letI z7:=(z0.o.length:Int);letI z2:=(z0.bs.length:Int);letI z12:=(min z2 (9:Int));wab (decide ((j:Int)<(c:Int))) (((0:Int)<=(j:Int)/\(j:Int)<(c:Int)/\5=5)/\((0:Int)<=min z7 (30:Int)/\min z7 (30:Int)<=z7)/\((0:Int)<=min z8 (30:Int)/\min z8 (30:Int)<=z8)/\(0<=16777216/\2=2/\0<=9223372036854775807)/\((0:Int)<=min z2 (9:Int)/\min z2 (9:Int)<=z2)/\(2=2/\0<=0/\2=2/\115=115/\2=2/\0+z12.toNat<=9223372036854775807/\(0+z12.toNat) * TI.bytes wf5<=140737488355328)/\(5<=16777216/\5=5/\1<=9223372036854775807)/\((1<=1/\5=5)/\j<=j/\5=5/\97=97/\5=5/\j+1<=9223372036854775807/\(j+1) * TI.bytes wex<=140737488355328)/\(∀(i:Nat),i<0+z12.toNat->[AV.q (atB z13 i).up,.q (atB z13 i).pr]=[.q (atB z0.bs (i - 0)).up,.q (atB z0.bs (i - 0)).pr])/\(∀(i:Nat),i<0+z12.toNat->true=true)/\(TEq z3 z3/\waf [(0,.row 49 7 k z16 false),(1,.cells z6 49),(2,.row 40 15 z4 z9 false),(3,.row 61 5 z5 z10 false),(4,.row 97 5 (j+1) (λ(i:Nat)=>List.map (frz 503 2 (0+z12.toNat) (was (atB z13))) (apF j z11 (wap (TI.sz wex) (.str (List.take (min z7 (30:Int)).toNat z0.o):: .str (List.take (min z8 (30:Int)).toNat z0.p):: .q z0.per:: .q z0.st:: .own 503 (0+z12.toNat)::List.append [] (List.flatten (List.replicate (nat_lit 0) [.str ([]),.str ([]),.q 0,.q 0,.nil])))) i)) false)] z1)/\j<=100/\∃(i':Nat),(TEq [(3,.own 0 k),(6,.ptr 1 0),(17,.view 7 n (wac g)),(18,.q (n:Int)),(19,.q (k:Int)),(171,.view 5 c z15),(172,.q (c:Int)),(173,.q (↑(j+1):Int))] [(3,.own 0 k),(6,.ptr 1 0),(17,.view 7 n (wac g)),(18,.q (n:Int)),(19,.q (k:Int)),(171,.view 5 c z15),(172,.q (c:Int)),(173,.q (i':Int))]/\waf z1 [(0,.row 49 7 k z16 false),(1,.cells [.str z14,.q F.ver,.q F.day,.q F.kind,.own 2 z4,.own 3 z5,.own 4 i'] 49),(2,.row 40 15 z4 z9 false),(3,.row 61 5 z5 z10 false),(4,.row 97 5 i' z11 false)])/\P i') ((∀(i:Nat),i<k->true=true)/\(∀(i:Nat),i<(cutF F).ms.length->true=true)/\(∀(i:Nat),i<(cutF F).rs.length->true=true)/\(∀(i:Nat),i<j->true=true)/\∃(O':oL7),waf [(0,.row 49 7 k z16 false),(1,.cells [.str z14,.q F.ver,.q F.day,.q F.kind,.own 2 z4,.own 3 z5,.own 4 j] 49),(2,.row 40 15 z4 z9 false),(3,.row 61 5 z5 z10 false),(4,.row 97 5 j z11 false)] O'/\R (.exit 6) (St.mk [(3,.own 0 k),(6,.ptr 1 0),(17,.view 7 n (wac g)),(18,.q (n:Int)),(19,.q (k:Int))] O' 5 []))):=by kernel_rfl
theorem nf_rw24(g:Nat->FL)(n k:Nat)(F:FL)(c j:Nat)(Q:eR7):regP ⟨te,[],[],0,221,0⟩ (regC Tryz.f28 24) [3,6,17,18,19,171,172,173] Q (wr3 g n k F c j)=(letI z1:=(cutF F).rs;letI z0:=(cutF F).ms;inR .i64 ((j:Int)+1)/\(∀(i:Nat),i<k->true=true)/\(∀(i:Nat),i<z0.length->true=true)/\(∀(i:Nat),i<z1.length->true=true)/\(∀(i:Nat),i<j+1->true=true)/\∃(O':oL7),waf [(0,.row 49 7 k (wac (cutG g)) false),(1,.cells [.str (List.take 30 F.id),.q F.ver,.q F.day,.q F.kind,.own 2 z0.length,.own 3 z1.length,.own 4 (j+1)] 49),(2,.row 40 15 z0.length (wae (atM z0)) false),(3,.row 61 5 z1.length (wah (atR z1)) false),(4,.row 97 5 (j+1) (wag (cutT (atT F.ts))) false)] O'/\Q .normal (St.mk [(3,.own 0 k),(6,.ptr 1 0),(17,.view 7 n (wac g)),(18,.q (n:Int)),(19,.q (k:Int)),(171,.view 5 c (wag (atT F.ts))),(172,.q (c:Int)),(173,.q ((j:Int)+1))] O' 5 [])):=by kernel_rfl
theorem nf_rw25(g:Nat->FL)(n k:Nat)(F:FL)(Q:eR7):regP ⟨te,[],[],0,221,0⟩ (regC Tryz.f28 25) [3,17,18,19] Q (wmh g n k F)=(letI z0:=wap (TI.sz wbr) (.str (cutF F).id:: .q (cutF F).ver:: .q (cutF F).day:: .q (cutF F).kind:: .view 15 (cutF F).ms.length (wae (atM (cutF F).ms)):: .view 5 (cutF F).rs.length (wah (atR (cutF F).rs)):: .view 5 (cutF F).ts.length (wag (atT (cutF F).ts))::List.append [] wdi);(7<=16777216/\7=7/\1<=9223372036854775807)/\((1<=1/\7=7)/\k<=k/\7=7/\49=49/\7=7/\k+1<=9223372036854775807/\(k+1) * TI.bytes wbr<=140737488355328)/\(∀(i:Nat),i<k+1->nrefL (apF k (wac (cutG g)) z0 i)=true)/\∃(O':oL7),waf [(0,.row 49 7 (k+1) (apF k (wac (cutG g)) z0) false)] O'/\Q .normal (St.mk [(3,.own 0 (k+1)),(17,.view 7 n (wac g)),(18,.q (n:Int)),(19,.q (k:Int))] O' 1 [])):=by kernel_rfl
theorem wz8(g:Nat->FL)(n k:Nat)(P:Nat->Prop)(R:eR7):wa0 ⟨te,[],[(7,wom g n k (g k) (min (g k).ms.length 3)),(15,wol g n k (g k) (min (g k).rs.length 3)),(21,woj g n k (g k) (min (g k).ts.length 3)),(1025,won g n k (g k))],0,221,0⟩ (wa1 Tryz.f28 3) [3,17,18,19] [3] [] (wmj g n) P R (wmj g n k)=(letI z19:=atT (g k).ts;letI z18:=atR (g k).rs;letI z17:=(g k).kind;letI z16:=wah (atR (cutF (g k)).rs);letI z15:=List.take 30 (g k).id;letI z13:=(g k).ms.length;letI z12:=([(3,.own 0 k),(6,.ptr 1 0),(17,.view 7 n (wac g)),(18,.q (n:Int)),(19,.q (k:Int))]:tL7);letI z11:=wac (cutG g);letI z10:=wae (atM (cutF (g k)).ms);letI z9:=(cutF (g k)).rs.length;letI z5:=(g k).ts.length;letI z21:=(min (z5:Int) (3:Int)).toNat;letI z4:=(g k).rs.length;letI z20:=(min (z4:Int) (3:Int)).toNat;letI z3:=(cutF (g k)).ms.length;letI z7:=([.str z15,.q (g k).ver,.q (g k).day,.q z17,.own 3 z3,.own 4 0,.nil]:List AV);letI z6:=([.str z15,.q (g k).ver,.q (g k).day,.q z17,.own 2 z3,.own 3 z9,.own 4 0]:List AV);letI z2:=([(0,.row 49 7 k z11 false),(1,.cells [.str z15,.q (g k).ver,.q (g k).day,.q z17,.own 2 z3,.own 3 z9,.own 4 (cutF (g k)).ts.length] 49),(2,.row 40 15 z3 z10 false),(3,.row 61 5 z9 z16 false),(4,.row 97 5 (cutF (g k)).ts.length (wag (atT (cutF (g k)).ts)) false)]:oL7);letI z1:=(g (k:Int).toNat);letI z14:=(z1.id.length:Int);letI z8:=(z1.ms.length:Int);letI z0:=([.str (g k).id,.q (g k).ver,.q (g k).day,.q z17,.view 15 z13 (wae (atM (g k).ms)),.view 5 z4 (wah z18),.view 5 z5 (wag z19)]:List AV);wab (decide ((k:Int)<(n:Int))) (((0:Int)<=(k:Int)/\(k:Int)<(n:Int)/\7=7)/\((0:Int)<=min z14 (30:Int)/\min z14 (30:Int)<=z14)/\((0:Int)<=min z8 (3:Int)/\min z8 (3:Int)<=z8)/\(TEq [(3,.own 0 k),(5,.ptr 1 0),(6,.ptr 2 0),(17,.view 7 n (wac g)),(18,.q (n:Int)),(19,.q (k:Int)),(43,.view 15 (min z8 (3:Int)).toNat (wae (atM z1.ms))),(44,.q (↑(min z8 (3:Int)).toNat:Int)),(45,.q 0)] [(3,.own 0 k),(5,.ptr 1 0),(6,.ptr 2 0),(17,.view 7 n (wac g)),(18,.q (n:Int)),(19,.q (k:Int)),(43,.view 15 (min z13 3) (wae (atM (g k).ms))),(44,.q (↑(min z13 3):Int)),(45,.q (↑0:Int))]/\waf [(0,.row 49 7 k z11 false),(1,.cells [.str z1.id,.q z1.ver,.q z1.day,.q z1.kind,.view 15 z1.ms.length (wae (atM z1.ms)),.view 5 z1.rs.length (wah (atR z1.rs)),.view 5 z1.ts.length (wag (atT z1.ts))] 49),(2,.cells [.str (List.take (min z14 (30:Int)).toNat z1.id),.q z1.ver,.q z1.day,.q z1.kind,.own 3 0,.nil,.nil] 49),(3,.row 40 15 0 (λ(_x:Nat)=>[]) false)] [(0,.row 49 7 k z11 false),(1,.cells z0 49),(2,.cells [.str z15,.q (g k).ver,.q (g k).day,.q z17,.own 3 0,.nil,.nil] 49),(3,.row 40 15 0 (wae (cutM (atM (g k).ms))) false)])/\min z13 3=min z13 3/\((0:Int)<=min (z4:Int) (3:Int)/\min (z4:Int) (3:Int)<=(z4:Int))/\(TEq [(3,.own 0 k),(5,.ptr 1 0),(6,.ptr 2 0),(17,.view 7 n (wac g)),(18,.q (n:Int)),(19,.q (k:Int)),(136,.view 5 z20 (wah z18)),(137,.q (z20:Int)),(138,.q 0)] [(3,.own 0 k),(5,.ptr 1 0),(6,.ptr 2 0),(17,.view 7 n (wac g)),(18,.q (n:Int)),(19,.q (k:Int)),(136,.view 5 (min z4 3) (wah z18)),(137,.q (↑(min z4 3):Int)),(138,.q (↑0:Int))]/\waf [(0,.row 49 7 k z11 false),(1,.cells z0 49),(2,.cells z7 49),(3,.row 40 15 z3 z10 false),(4,.row 61 5 0 (λ(_x:Nat)=>[]) false)] [(0,.row 49 7 k z11 false),(1,.cells z0 49),(2,.cells z7 49),(3,.row 40 15 z3 z10 false),(4,.row 61 5 0 (wah (cutR z18)) false)])/\min z4 3=min z4 3/\((0:Int)<=min (z5:Int) (3:Int)/\min (z5:Int) (3:Int)<=(z5:Int))/\(TEq [(3,.own 0 k),(6,.ptr 1 0),(17,.view 7 n (wac g)),(18,.q (n:Int)),(19,.q (k:Int)),(171,.view 5 z21 (wag z19)),(172,.q (z21:Int)),(173,.q 0)] [(3,.own 0 k),(6,.ptr 1 0),(17,.view 7 n (wac g)),(18,.q (n:Int)),(19,.q (k:Int)),(171,.view 5 (min z5 3) (wag z19)),(172,.q (↑(min z5 3):Int)),(173,.q (↑0:Int))]/\waf [(0,.row 49 7 k z11 false),(1,.cells z6 49),(2,.row 40 15 z3 z10 false),(3,.row 61 5 z9 z16 false),(4,.row 97 5 0 (λ(_x:Nat)=>[]) false)] [(0,.row 49 7 k z11 false),(1,.cells z6 49),(2,.row 40 15 z3 z10 false),(3,.row 61 5 z9 z16 false),(4,.row 97 5 0 (wag (cutT z19)) false)])/\min z5 3=min z5 3/\(TEq z12 z12/\waf z2 z2)/\k<=100/\g k=g k/\inR .i64 ((k:Int)+1)/\∃(i':Nat),(TEq [(3,.own 0 (k+1)),(17,.view 7 n (wac g)),(18,.q (n:Int)),(19,.q ((k:Int)+1))] [(3,.own 0 i'),(17,.view 7 n (wac g)),(18,.q (n:Int)),(19,.q (i':Int))]/\waf [(0,.row 49 7 (k+1) z11 false)] [(0,.row 49 7 i' z11 false)])/\P i') ((∀(i:Nat),i<k->true=true)/\∃(O':oL7),waf [(0,.row 49 7 k z11 false)] O'/\R (.exit 0) (St.mk [(3,.own 0 k)] O' 1 []))):=by kernel_rfl
theorem wz5(g:Nat->FL)(n:Nat)(R:oR7):wpFn te [] [(3,wop g (min n 6))] 0 Tryz.f28 [.view 7 n (wac g)] [] R=(((0:Int)<=min (n:Int) (6:Int)/\min (n:Int) (6:Int)<=(n:Int))/\(TEq [(3,.own 0 0),(17,.view 7 (min (n:Int) (6:Int)).toNat (wac g)),(18,.q (↑(min (n:Int) (6:Int)).toNat:Int)),(19,.q 0)] [(3,.own 0 0),(17,.view 7 (min n 6) (wac g)),(18,.q (↑(min n 6):Int)),(19,.q (↑0:Int))]/\waf [(0,.row 49 7 0 (λ(_x:Nat)=>[]) false)] [(0,.row 49 7 0 (wac (cutG g)) false)])/\min n 6<=6/\(∀(i:Nat),i<min n 6->true=true)/\∃(O':oL7),waf [(0,.row 49 7 (min n 6) (wac (cutG g)) false)] O'/\R (.own 0 (min n 6)) O'):=by kernel_rfl
theorem cut_ms(F:FL):(cutF F).ms.length=min F.ms.length 3:=by
 show ((F.ms.take 3).map wgj).length=_;rw[List.length_map,List.length_take];omega
theorem cut_rs(F:FL):(cutF F).rs.length=min F.rs.length 3:=by
 show ((F.rs.take 3).map whc).length=_;rw[List.length_map,List.length_take];omega
theorem cut_ts(F:FL):(cutF F).ts.length=min F.ts.length 3:=by
 show ((F.ts.take 3).map wb8).length=_;rw[List.length_map,List.length_take];omega
theorem cut_m(F:FL){i:Nat}(h:i<(cutF F).ms.length):wae (cutM (atM F.ms)) i=wae (atM (cutF F).ms) i:=by
 rw[cut_ms] at h;have e:atM (cutF F).ms i=wgj (atM F.ms i):=wrj _ _ wgj F.ms 3 i (by omega);show mgC (wgj (atM F.ms i))=mgC (atM (cutF F).ms i);rw[e]
theorem cut_r(F:FL){i:Nat}(h:i<(cutF F).rs.length):wah (cutR (atR F.rs)) i=wah (atR (cutF F).rs) i:=by
 rw[cut_rs] at h;have e:atR (cutF F).rs i=whc (atR F.rs i):=wrj _ _ whc F.rs 3 i (by omega);unfold wah;rw[e];rfl
theorem cut_t(F:FL){i:Nat}(h:i<(cutF F).ts.length):wag (cutT (atT F.ts)) i=wag (atT (cutF F).ts) i:=by
 rw[cut_ts] at h;have e:atT (cutF F).ts i=wb8 (atT F.ts i):=wrj _ _ wb8 F.ts 3 i (by omega);unfold wag;rw[e];rfl
theorem wx8(hP:C.P=Tryz.prog)(g:Nat->FL)(n k:Nat)(F:FL)(c:Nat):waj C 0 221 (wal Tryz.f28 7) (wom g n k F c):=by
 have _:C.Loose:=inferInstance;rintro st Q ⟨h0,hc,hQ⟩;refine AWP.ownNilP 6 4 40 15 ?_;refine waj.mk (prg hP) [] 0 .nil [3,5,6,17,18,19,43,44,45] [3,5,6,17,18,19] [] (wmg g n k F c) (λj=>j<=c) (λj=>c - j) 0 (zL7 _) h0 (λj hj=>?_) (λi=>⟨λ_ _=>rfl,λ_ _=>rfl,trivial⟩);rw[wz4,tN7,wdh,wdh,wdh,wdh,wdh,wdh,wdh];refine wak (λh1=>⟨⟨by omega,by omega,rfl⟩,⟨by omega,by omega⟩,⟨by omega,by omega⟩,⟨by omega,by omega⟩,⟨by omega,by omega⟩,⟨by omega,by omega⟩,⟨by omega,by omega⟩,⟨by omega,by omega⟩,⟨by omega,rfl,by omega⟩,⟨⟨lR7 _,rfl⟩,lR7 _,rfl,rfl,rfl,by omega,?_⟩,by simp only[inR];omega,j+1,⟨rfl,rQ7,rfl,rfl,⟨rfl,rfl,rfl,rfl,rfl,λi hi=>?_⟩,trivial⟩,by omega,by omega⟩) (λh1=>?_)
 ·show (j+1) * 176<=_;omega
 ·unfold apF
  by_cases h:i<j
  ·rw[if_pos h]
  ·have:i=j:=by omega
   rw[if_neg h,this,Nat.sub_self];rfl
 ·have:j=(cutF F).ms.length:=by rw[cut_ms];omega
  subst this;refine⟨λ_ _=>rfl,λ_ _=>rfl,_,?_,hQ⟩;exact⟨rQ7,rfl,rfl,⟨rfl,rfl,rfl,rfl,rfl,λi hi=>cut_m F hi⟩,trivial⟩
theorem wx7(hP:C.P=Tryz.prog)(g:Nat->FL)(n k:Nat)(F:FL)(c:Nat):waj C 0 221 (wal Tryz.f28 15) (wol g n k F c):=by
 have _:C.Loose:=inferInstance;rintro st Q ⟨h0,hc,hQ⟩;refine AWP.ownNilP 6 5 61 5 ?_;refine waj.mk (prg hP) [] 0 .nil [3,5,6,17,18,19,136,137,138] [3,5,6,17,18,19] [] (wmf g n k F c) (λj=>j<=c) (λj=>c - j) 0 (zL7 _) h0 (λj hj=>?_) (λi=>⟨λ_ _=>rfl,λ_ _=>rfl,λ_ _=>rfl,trivial⟩);rw[wz3,tN7,wdh,wdh];refine wak (λh1=>⟨⟨by omega,by omega,rfl⟩,⟨by omega,by omega⟩,⟨by omega,by omega⟩,⟨by omega,rfl,by omega⟩,⟨⟨lR7 _,rfl⟩,lR7 _,rfl,rfl,rfl,by omega,?_⟩,by simp only[inR];omega,j+1,⟨rfl,rQ7,rfl,rfl,rQ7,⟨rfl,rfl,rfl,rfl,rfl,λi hi=>?_⟩,trivial⟩,by omega,by omega⟩) (λh1=>?_)
 ·show (j+1) * 56<=_;omega
 ·unfold apF
  by_cases h:i<j
  ·rw[if_pos h]
  ·have:i=j:=by omega
   rw[if_neg h,this,Nat.sub_self];rfl
 ·have:j=(cutF F).rs.length:=by rw[cut_rs];omega
  subst this;refine⟨λ_ _=>rfl,λ_ _=>rfl,λ_ _=>rfl,_,?_,hQ⟩;exact⟨rQ7,rfl,rfl,rQ7,⟨rfl,rfl,rfl,rfl,rfl,λi hi=>cut_r F hi⟩,trivial⟩
theorem rw24_ok(hP:C.P=Tryz.prog)(g:Nat->FL)(n k:Nat)(F:FL)(c j:Nat):waj C 0 221 (regC Tryz.f28 24) (woo g n k F c j):=by
 have _:C.Loose:=inferInstance;rintro st Q ⟨h1,h2,h3,hj,hQ⟩;refine AWP.rowFn 503 _ h1 (AWP.frzX 503 [567] h2 ?_);refine waj.reg (S:=wr3 g n k F c j) (prg hP) [] 0 .nil [3,6,17,18,19,171,172,173] [3,6,17,18,19,171,172,173] h3 ?_ ⟨λ_ _=>rfl,λ_ _=>rfl,λ_ _=>rfl,λ_ _=>rfl,trivial⟩;rw[nf_rw24];exact⟨by simp only[inR];omega,λ_ _=>rfl,λ_ _=>rfl,λ_ _=>rfl,λ_ _=>rfl,_,wam _,hQ⟩
theorem cut_b(t:RT){i:Nat}(h:i<(wb8 t).bs.length):atB (wb8 t).bs i=atB t.bs i:=by
 have h:i<(t.bs.take 9).length:=h;rw[List.length_take] at h;show (t.bs.take 9).getD i _=t.bs.getD i _;have h1:i<t.bs.length:=by omega
 have h2:i<9:=by omega
 simp[List.getD_eq_getElem?_getD,h1,h2]
theorem wx5(hP:C.P=Tryz.prog)(g:Nat->FL)(n k:Nat)(F:FL)(c:Nat):waj C 0 221 (wal Tryz.f28 21) (woj g n k F c):=by
 rintro st Q ⟨h0,hc,hQ⟩;refine AWP.ownNilP 6 6 97 5 ?_;refine waj.mkI (prg hP) [] (λj=>[(1024,woo g n k F c j)]) 0 .nil (λj=>[(regC Tryz.f28 24,woo g n k F c j)]) (λj=>by kernel_rfl) (λj=>⟨rw24_ok hP g n k F c j,trivial⟩) [3,6,17,18,19,171,172,173] [3,6,17,18,19] [] (whm g n k F c) (λj=>j<=c) (λj=>c - j) 0 (zL7 _) h0 (λj hj=>?_) (λi=>⟨λ_ _=>rfl,λ_ _=>rfl,λ_ _=>rfl,λ_ _=>rfl,trivial⟩);rw[wz1,tN7,wdh,wdh];have eb:0+Int.toNat (min (((atT F.ts j).bs.length:Nat):Int) 9)=(wb8 (atT F.ts j)).bs.length:=by
  show _=((atT F.ts j).bs.take 9).length;rw[List.length_take];omega
 rw[eb];have lb:(wb8 (atT F.ts j)).bs.length<=9:=by
  show ((atT F.ts j).bs.take 9).length<=9;rw[List.length_take];omega
 refine wak (λh1=>⟨⟨by omega,by omega,rfl⟩,⟨by omega,by omega⟩,⟨by omega,by omega⟩,⟨by omega,rfl,by omega⟩,⟨by omega,by omega⟩,⟨rfl,lR7 _,rfl,rfl,rfl,by omega,?_⟩,⟨by omega,rfl,by omega⟩,⟨⟨lR7 _,rfl⟩,lR7 _,rfl,rfl,rfl,by omega,?_⟩,λi hi=>?_,λ_ _=>rfl,⟨rfl,rQ7,rfl,rQ7,rQ7,⟨rfl,rfl,rfl,rfl,rfl,λi hi=>?_⟩,trivial⟩,by omega,j+1,⟨rfl,rQ7,rfl,rQ7,rQ7,rQ7,trivial⟩,by omega,by omega⟩) (λh1=>?_)
 ·show _ * 16<=_;omega
 ·show (j+1) * 72<=_;omega
 ·rw[Nat.sub_zero,cut_b _ hi]
 ·have bb:Nat.ble (wb8 (atT F.ts j)).bs.length (wb8 (atT F.ts j)).bs.length=true:=Nat.ble_eq_true_of_le (lR7 _);show List.map _ (apF j _ _ i)=_;unfold apF
  by_cases h:i<j
  ·rw[if_pos h];rfl
  ·have:i=j:=by omega
   subst this;rw[if_neg h,Nat.sub_self];show [AV.str _,.str _,.q _,.q _,frz 503 2 (wb8 (atT F.ts i)).bs.length (was (atB (wb8 (atT F.ts i)).bs)) (.own 503 (wb8 (atT F.ts i)).bs.length)]=_;simp only[frz,bb];rfl
 ·have:j=(cutF F).ts.length:=by rw[cut_ts];omega
  subst this;refine⟨λ_ _=>rfl,λ_ _=>rfl,λ_ _=>rfl,λ_ _=>rfl,_,?_,hQ⟩;exact⟨rQ7,rfl,rQ7,rQ7,⟨rfl,rfl,rfl,rfl,rfl,λi hi=>cut_t F hi⟩,trivial⟩
theorem rwb_frz(g:Nat->FL)(n k:Nat)(F:FL):frzX 2 [] (frzX 3 [] (frzX 4 [] (wfu g n k F)))=⟨(wmh g n k F).T,(wmh g n k F).O,5,[]⟩:=by
 have b1:Nat.ble (cutF F).ms.length (cutF F).ms.length=true:=Nat.ble_eq_true_of_le (lR7 _);have b2:Nat.ble (cutF F).rs.length (cutF F).rs.length=true:=Nat.ble_eq_true_of_le (lR7 _);have b3:Nat.ble (cutF F).ts.length (cutF F).ts.length=true:=Nat.ble_eq_true_of_le (lR7 _);have e4:frzX 4 [] (wfu g n k F)=⟨(wfu g n k F).T,[(0,.row 49 7 k (wac (cutG g)) false),
  (1,.cells [.str (F.id.take 30),.q F.ver,.q F.day,.q F.kind,.own 2 (cutF F).ms.length,.own 3 (cutF F).rs.length,.view 5 (cutF F).ts.length (wag (atT (cutF F).ts))] 49),
  (2,.row 40 15 (cutF F).ms.length (wae (atM (cutF F).ms)) false),(3,.row 61 5 (cutF F).rs.length (wah (atR (cutF F).rs)) false)],5,[]⟩:=by
   have:frzX 4 [] (wfu g n k F)=⟨(wfu g n k F).T,[(0,.row 49 7 k (wac (cutG g)) false),
    (1,.cells [.str (F.id.take 30),.q F.ver,.q F.day,.q F.kind,.own 2 (cutF F).ms.length,.own 3 (cutF F).rs.length,frz 4 5 (cutF F).ts.length (wag (atT (cutF F).ts)) (.own 4 (cutF F).ts.length)] 49),
    (2,.row 40 15 (cutF F).ms.length (wae (atM (cutF F).ms)) false),(3,.row 61 5 (cutF F).rs.length (wah (atR (cutF F).rs)) false)],5,[]⟩:=rfl
   rw[this];simp only[frz,b3];rfl
 rw[e4];have e3:frzX 3 [] ⟨(wfu g n k F).T,[(0,.row 49 7 k (wac (cutG g)) false),
  (1,.cells [.str (F.id.take 30),.q F.ver,.q F.day,.q F.kind,.own 2 (cutF F).ms.length,.own 3 (cutF F).rs.length,.view 5 (cutF F).ts.length (wag (atT (cutF F).ts))] 49),
  (2,.row 40 15 (cutF F).ms.length (wae (atM (cutF F).ms)) false),(3,.row 61 5 (cutF F).rs.length (wah (atR (cutF F).rs)) false)],5,[]⟩=⟨(wfu g n k F).T,[(0,.row 49 7 k (wac (cutG g)) false),
  (1,.cells [.str (F.id.take 30),.q F.ver,.q F.day,.q F.kind,.own 2 (cutF F).ms.length,.view 5 (cutF F).rs.length (wah (atR (cutF F).rs)),.view 5 (cutF F).ts.length (wag (atT (cutF F).ts))] 49),
  (2,.row 40 15 (cutF F).ms.length (wae (atM (cutF F).ms)) false)],5,[]⟩:=by
   show (⟨_,[_,(1,.cells [.str (F.id.take 30),.q F.ver,.q F.day,.q F.kind,.own 2 (cutF F).ms.length,frz 3 5 (cutF F).rs.length (wah (atR (cutF F).rs)) (.own 3 (cutF F).rs.length),.view 5 (cutF F).ts.length (wag (atT (cutF F).ts))] 49),_],5,[]⟩:St)=_;simp only[frz,b2];rfl
 rw[e3];show (⟨_,[_,(1,.cells [.str (F.id.take 30),.q F.ver,.q F.day,.q F.kind,frz 2 15 (cutF F).ms.length (wae (atM (cutF F).ms)) (.own 2 (cutF F).ms.length),.view 5 (cutF F).rs.length (wah (atR (cutF F).rs)),.view 5 (cutF F).ts.length (wag (atT (cutF F).ts))] 49)],5,[]⟩:St)=_;simp only[frz,b1];rfl
theorem rw25_ok(hP:C.P=Tryz.prog)(g:Nat->FL)(n k:Nat)(F:FL):waj C 0 221 (regC Tryz.f28 25) (won g n k F):=by
 have _:C.Loose:=inferInstance;rintro st Q ⟨h0,hk,hF,hQ⟩;refine AWP.canonIs (te:=te) [3,6,17,18,19] h0 (AWP.frzX 4 [] (λ_ _=>rfl) (AWP.frzX 3 [] (λ_ _=>rfl) (AWP.frzX 2 [] (λ_ _=>rfl) ?_))) ⟨λ_ _=>rfl,λ_ _=>rfl,λ_ _=>rfl,λ_ _=>rfl,trivial⟩;rw[rwb_frz];refine waj.reg (S:=wmh g n k F) (prg hP) [] 0 .nil [3,6,17,18,19] [3,17,18,19] ⟨rfl,rQ7,rfl,trivial⟩ ?_ ⟨λ_ _=>rfl,trivial⟩;rw[nf_rw25];subst hF;have H:∀ch:Nat->List AV,ch 0=wac (cutG g) k->∀i,i<k+1->apF k (wac (cutG g)) ch i=wac (cutG g) i:=λch hc i hi=>by
  unfold apF
  by_cases h:i<k
  ·rw[if_pos h]
  ·have:i=k:=by omega
   rw[if_neg h,this,Nat.sub_self,hc]
 refine⟨⟨by omega,rfl,by omega⟩,⟨⟨lR7 _,rfl⟩,lR7 _,rfl,rfl,rfl,by omega,?_⟩,λi hi=>(congrArg nrefL (H _ rfl i hi)).trans rfl,_,?_,hQ⟩
 ·show (k+1) * 112<=_;omega
 ·exact⟨⟨rfl,rfl,rfl,rfl,rfl,H _ rfl⟩,trivial⟩
theorem wyj(hP:C.P=Tryz.prog)(g:Nat->FL)(n:Nat):waj C 0 221 (wal Tryz.f28 3) (wop g n):=by
 rintro st Q ⟨h0,hn,hQ⟩;refine AWP.ownNil 3 49 7 ?_
 refine waj.mkI (prg hP) [] (λk=>[(7,wom g n k (g k) (min (g k).ms.length 3)),(15,wol g n k (g k) (min (g k).rs.length 3)),(21,woj g n k (g k) (min (g k).ts.length 3)),(1025,won g n k (g k))]) 0 .nil
  (λk=>[(wal Tryz.f28 7,wom g n k (g k) (min (g k).ms.length 3)),(wal Tryz.f28 15,wol g n k (g k) (min (g k).rs.length 3)),(wal Tryz.f28 21,woj g n k (g k) (min (g k).ts.length 3)),(regC Tryz.f28 25,won g n k (g k))]) (λk=>by kernel_rfl)
  (λk=>⟨wx8 hP _ _ _ _ _,wx7 hP _ _ _ _ _,wx5 hP _ _ _ _ _,rw25_ok hP _ _ _ _,trivial⟩) [3,17,18,19] [3] [] (wmj g n) (λk=>k<=n) (λk=>n - k) 0 (zL7 _) h0 (λk hk=>?_) (λi=>⟨λ_ _=>rfl,trivial⟩)
 have mn:∀a:Nat,(min (a:Int) 3).toNat=min a 3:=λa=>by omega
 rw[wz8,tN7,wdh,mn,mn,mn];refine wak (λh1=>⟨⟨by omega,by omega,rfl⟩,⟨by omega,by omega⟩,⟨by omega,by omega⟩,⟨rfl,rQ7,rfl,rfl,⟨rfl,rfl,rfl,rfl,rfl,λi hi=>absurd hi (nZ7 i)⟩,trivial⟩,rfl,⟨by omega,by omega⟩,
  ⟨rfl,rQ7,rfl,rfl,rQ7,⟨rfl,rfl,rfl,rfl,rfl,λi hi=>absurd hi (nZ7 i)⟩,trivial⟩,rfl,⟨by omega,by omega⟩,
  ⟨rfl,rQ7,rfl,rQ7,rQ7,⟨rfl,rfl,rfl,rfl,rfl,λi hi=>absurd hi (nZ7 i)⟩,trivial⟩,rfl,
  ⟨rfl,rQ7,rfl,rQ7,rQ7,rQ7,trivial⟩,by omega,rfl,by simp only[inR];omega,k+1,⟨rfl,rQ7,trivial⟩,by omega,by omega⟩) (λh1=>?_)
 have:k=n:=by omega
 subst this;exact⟨λ_ _=>rfl,_,wam _,hQ⟩
theorem wyg(hP:C.P=Tryz.prog):wai C 28 wmi:=by
 rintro args objs U Os vc h hvc;unfold wmi at h;split at h<;>cases h;rename_i n f;have hf:=hvc;generalize flOf f=g at *;subst hf;refine wan.frzO 0 ?_;refine wa6.wpL (prg hP) [] [(3,wop g (min n 6))] 0 .nil (hP ▸ Tryz.func28) rfl rfl rfl [(wal Tryz.f28 3,wop g (min n 6))] (by kernel_rfl) ⟨wyj hP g _,trivial⟩ ?_;rw[wz5];have hm:(min (n:Int) (6:Int)).toNat=min n 6:=by omega
 rw[hm];refine⟨⟨by omega,by omega⟩,⟨rfl,⟨rfl,rfl,rfl,rfl,rfl,λi hi=>absurd hi (nZ7 i)⟩,trivial⟩,by omega,λ_ _=>rfl,_,wam _,λ_ _=>rfl,?_⟩;have hb:Nat.ble (min n 6) (min n 6)=true:=Nat.ble_eq_true_of_le (lR7 _)
 constructor
 ·simp[frzC,frzA,frz,hb]
 ·rfl
theorem nf_vn(g:Nat->FL)(m n:Nat)(v:Nat->Int)(R:oR7):wpFn te [(38,.rel wn7),(28,.det wmi),(39,.det wfw),(41,.det wfw),(40,.det wmd),(31,.det wnx)] [] 0 Tryz.f8 [.view 7 m (wac g),.view 1 n (wad v)] [] R=(letI z7:=cutG (flOf (wac g));letI z3:=(min m 6<=1000/\wac z7=wac (flOf (wac z7))/\∀(i:Nat),i<min m 6->FL.Gd (flOf (wac z7) i));letI z1:=nrmL okV (flOf (wac z7)) (min m 6);letI z6:=wac (atF z1);27=27/\1=1/\wad v=wad (vInt (wad v))/\((0:Int)<=0/\(0:Int)<=4611686018427300000)/\∀(L:List FL) (a':Int),letI z5:=(L.length<=1000/\wac (atF L)=wac (flOf (wac (atF L)))/\∀(i:Nat),i<L.length->FL.Gd (flOf (wac (atF L)) i));letI z0:=nrmL okV (flOf (wac (atF L))) L.length;letI z4:=wac (atF z0);letI z2:=nrmL okV (flOf z4) z0.length;L.length<=8->(0:Int)<=a'/\a'<=0+25000->(∀(F:FL),F∈L->FL.Tn F)->wac g=wac (flOf (wac g))/\z5/\z3/\z3/\(z1.length<=1000000/\z1.length<=1000000/\wac (atF z1)=wac (flOf z6)/\wac (atF z1)=wac (flOf z6)/\(∀(i:Nat),i<z1.length->FL.Rg (flOf z6 i))/\∀(i:Nat),i<z1.length->FL.Rg (flOf z6 i))/\wab (decide (z1.length=z1.length) && eqFs (flOf z6) (flOf z6) z1.length) (z5/\(z0.length<=1000000/\z0.length<=1000000/\wac (atF z0)=wac (flOf z4)/\wac (atF z0)=wac (flOf z4)/\(∀(i:Nat),i<z0.length->FL.Rg (flOf z4 i))/\∀(i:Nat),i<z0.length->FL.Rg (flOf z4 i))/\wab (decide (z0.length=z0.length) && eqFs (flOf z4) (flOf z4) z0.length) ((z0.length<=1000/\wac (atF z0)=wac (flOf z4)/\∀(i:Nat),i<z0.length->FL.Gd (flOf z4 i))/\(z2.length<=1000000/\z0.length<=1000000/\wac (atF z2)=wac (flOf (wac (atF z2)))/\wac (atF z0)=wac (flOf z4)/\(∀(i:Nat),i<z2.length->FL.Rg (flOf (wac (atF z2)) i))/\∀(i:Nat),i<z0.length->FL.Rg (flOf z4 i))/\wab (decide (z2.length=z0.length) && eqFs (flOf (wac (atF z2))) (flOf z4) z2.length) (True/\R (.bool true) []) (R (.bool false) [])) (R (.bool false) [])) (R (.bool false) [])):=by kernel_rfl
theorem wyz(hP:C.P=Tryz.prog)(hL:∀w,C.laid w->LaidW w):wai C 39 wfw:=by
 rintro args objs U Os vc h hvc;unfold wfw at h;split at h<;>cases h;rename_i n f;obtain⟨hn,hf,hg⟩:=hvc;generalize flOf f=g at *;subst hf;refine wan.frzO 0 ((nrm_at hP hL g n hn hg).mono ?_);rintro u O ⟨rfl,rfl⟩;have hb:Nat.ble (nrmL okV g n).length (nrmL okV g n).length=true:=Nat.ble_eq_true_of_le (lR7 _);exact⟨λ_ _=>rfl,by simp[frzC,frzA,frz,hb],rfl⟩
theorem sameFT(X:List FL):(decide (X.length=X.length) && eqFs (atF X) (atF X) X.length)=true:=by rw[decide_eq_true rfl,wvu];rfl
theorem lGd{L:List FL}(h:∀F∈L,F.Tn):∀i,i<L.length->(atF L i).Gd:=λ_i hi=>(h _ (weg hi)).gd
theorem cGd{g:Nat->FL}{m:Nat}(h:∀i,i<m->(g i).Ri):∀i,i<min m 6->(cutG g i).Gd:=λi hi=>(cutF_tn (h i (by omega))).gd
theorem rgL{X:List FL}(h:∀x∈X,x.Gd):∀i,i<X.length->(atF X i).Rg:=λ_i hi=>(h _ (weg hi)).rg
theorem vn_ok(hP:C.P=Tryz.prog)(hL:∀w,C.laid w->LaidW w)(m:Nat)(g:Nat->FL)(hR:∀i,i<m->(g i).Ri)(n:Nat)(v:Nat->Int):ADet C 8 [.view 7 m (wac g),.view 1 n (wad v)] [] (.bool true) []:=by
 refine wai.wp0 (prg hP) [(38,.rel wn7),(28,.det wmi),(39,.det wfw),(41,.det wfw),(40,.det wmd),(31,.det wnx)] 0 (.cons (w2l hP) (.cons (wyg hP) (.cons (wyz hP hL) (.cons (nrmV_ok hP) (.cons (wx4 hP) (.cons (w48 hP hL) .nil)))))) (hP ▸ Tryz.func8) rfl rfl rfl ?_;rw[nf_vn];refine⟨rfl,rfl,rfl,⟨by omega,by omega⟩,λL a hl ha hT=>?_⟩
 repeat rw[wea]
 have gC:=cGd hR;have gL:=lGd hT;have g1:=wka gC;have g2:=wka gL;have l1:=wj9 (cutG g) (min m 6);have l2:=wj9 (atF L) L.length;rw[wy2,sameFT,sameFT]
 repeat rw[condP_true]
 exact⟨rfl,⟨by omega,rfl,gL⟩,⟨by omega,rfl,gC⟩,⟨by omega,rfl,gC⟩,⟨by omega,by omega,rfl,rfl,rgL g1,rgL g1⟩,⟨by omega,rfl,gL⟩,⟨by omega,by omega,rfl,rfl,rgL g2,rgL g2⟩,⟨by omega,rfl,λi hi=>g2 _ (weg hi)⟩,⟨by omega,by omega,rfl,rfl,rgL g2,rgL g2⟩,trivial,rfl,rfl⟩
end Go.Eng
