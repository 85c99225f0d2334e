/- The tied card of VintageValid: its statement is 'VintageValidCardSaid' of the given cards. -/
import Derived.Test.YtgcboligphndhaaGreatDoorJv
import Derived.Test.YtgcboligphndhaaGreatDoorJzg
import Derived.Test.YtgcboligphndhaaGreatDoorJw
import Derived.Test.YtgcboligphndhaaGreatDoorJz
import Derived.Test.YtgcboligphndhaaGreatDoorJza
import Derived.Test.YtgcboligphndhaaGreatDoorJzf
import Derived.Test.YtgcboligphndhaaGreatDoorJzd
import Derived.Test.YtgcboligphndhaaGreatDoorJo
import Derived.Test.YtgcboligphndhaaGreatDoorJp
import Derived.Test.YtgcboligphndhaaGreatDoorJu
import Derived.Test.YtgcboligphndhaaGreatDoorJn
import Derived.Test.YtgcboligphndhaaGreatDoorCards
import Derived.Test.YtgcboligphndhaaGreatDoorTie
import Derived.SevenTiedAt
namespace Go.Eng
open Go.Proofs Go.RowKit
variable {C:Ctx} [C.Loose]
set_option maxRecDepth 20000
theorem nf_vw (g:Nat→FL) (n:Nat) (d:Int) (R:AV→List (Nat×AObj)→Prop):wpFn te [(99,.det wlr),(100,.rel wnn)] [(4,L_v4 (wbs (knwL okV g n d)))] 0 Tryz.f44 [.view 7 n (wad g),.int .i64 d] [] R=(letI z1:=wbs (knwL okV (flOf (wad g)) n d);letI z0:=wbs (knwL okV g n d);letI z2:=(List.map (fun (p:AV×AV)=>(AV.rn (idxN [0,1,2]) (Prod.fst p),AV.rn (idxN [0,1,2]) (Prod.snd p))) (nwE z0 (List.length z0)));(n≤1000∧wad g=wad (flOf (wad g))∧∀ (i:Nat),i<n→FL.Gd (flOf (wad g) i))∧(∀ (i:Nat),i<List.length z1→true=true)∧(∀ (i:Nat),i<List.length (badL (knwL okV (flOf (wad g)) n d))→true=true)∧(TEq [(5,.own 0 (List.length z1)),(7,.ptr 1 0),(17,.own 0 (List.length z1)),(18,.int .i64 (↑(List.length z1):Int)),(19,.int .i64 0)] [(5,.own 0 (List.length z0)),(7,.ptr 1 0),(17,.own 0 (List.length z0)),(18,.int .i64 (↑(List.length z0):Int)),(19,.int .i64 (↑0:Int))]∧waf [(0,.row 49 7 (List.length z1) (wad (atF z1)) false),(1,.cells [.map 2] 132),(2,.amap (List.map (fun (p:AV×AV)=>(AV.rn (ren 0 [(0,0),(17,1),(16,2)]) (Prod.fst p),AV.rn (ren 0 [(0,0),(17,1),(16,2)]) (Prod.snd p))) []))] [(0,.row 49 7 (List.length z0) (wad (atF z0)) false),(1,.cells [.map 2] 132),(2,.amap (nwE z0 0))])∧List.length z0≤1000∧(∀ (F:FL),F∈wbs (knwL okV g n d)→(0:Int)≤FL.ver F)∧(∀ (i:Nat),i<List.length z0→true=true)∧49=49∧132=132∧false=false∧List.length z0=List.length z0∧List.length z0≤1000∧wad (atF z0)=wad (flOf (wad (atF z0)))∧(∀ (i:Nat),i<List.length z0→FL.Rg (flOf (wad (atF z0)) i))∧EsV z2∧∀ (k:Nat) (h:Nat→FL),k≤List.length z0→lst h k=kfL (qV z2) (flOf (wad (atF z0))) (List.length z0)→(∀ (i:Nat),i<k→true=true)∧(∀ (i:Nat),i<k→true=true)∧∃ (O':List (Nat×AObj)),waf [(0,.row 49 7 k (wad h) false)] O'∧R (.own 0 k) O'):=by kernel_rfl
theorem wyo (G:List FL) (k:Nat) (P:Nat→Prop) (R:Exit→St→Prop):wa3 ⟨te,[],[],0,40,0⟩ (wa4 Tryz.f44 4) [5,7,17,18,19] [5,7] [] (S_v4 G) P R (S_v4 G k)=(letI z5:=TI.desc (TI.mk TypeDesc.string 1 16 (Value.string (ByteArray.mk #[])) false);letI z4:=ren 0 [(0,0),(1,1),(2,2)];letI z3:=(↑(List.length G):Int);letI z2:=(atF G (Int.toNat (↑k:Int)));letI z6:=wao (Option.getD (mget (nwE G k) (.str (FL.id z2))) (zvA (.int .i64 0)));letI z1:=([(5,.own 0 (List.length G)),(7,.ptr 1 0),(17,.own 0 (List.length G)),(18,.int .i64 z3),(19,.int .i64 ((↑k:Int)+(1:Int)))]:List (Nat×AV));letI z0:=([(0,.row 49 7 (List.length G) (wad (atF G)) false),(1,.cells [.map 2] 132),(2,.amap (List.map (fun (p:AV×AV)=>(AV.rn z4 (Prod.fst p),AV.rn z4 (Prod.snd p))) (nwE G k)))]:List (Nat×AObj));wab (decide ((↑k:Int)<z3)) (((0:Int)≤(↑k:Int)∧(↑k:Int)<z3)∧(Int.toNat (↑k:Int)<List.length G∧7=7)∧wab (!decide (FL.kind z2=(1:Int))) ((wbt z5 (nwE G k)∧.int .i64 z6=Option.getD (mget (nwE G k) (.str (FL.id z2))) (zvA (.int .i64 0)))∧wbt z5 (nwE G k)∧inR .i64 ((↑k:Int)+(1:Int))∧∃ (i':Nat),(TEq z1 [(5,.own 0 (List.length G)),(7,.ptr 1 0),(17,.own 0 (List.length G)),(18,.int .i64 z3),(19,.int .i64 (↑i':Int))]∧waf [(0,.row 49 7 (List.length G) (wad (atF G)) false),(1,.cells [.map 2] 132),(2,.amap (List.map (fun (p:AV×AV)=>(AV.rn z4 (Prod.fst p),AV.rn z4 (Prod.snd p))) (mset (nwE G k) (.str (FL.id z2)) (.int .i64 (max z6 (FL.ver z2))))))] [(0,.row 49 7 (List.length G) (wad (atF G)) false),(1,.cells [.map 2] 132),(2,.amap (nwE G i'))])∧P i') (inR .i64 ((↑k:Int)+(1:Int))∧∃ (i':Nat),(TEq z1 [(5,.own 0 (List.length G)),(7,.ptr 1 0),(17,.own 0 (List.length G)),(18,.int .i64 z3),(19,.int .i64 (↑i':Int))]∧waf z0 [(0,.row 49 7 (List.length G) (wad (atF G)) false),(1,.cells [.map 2] 132),(2,.amap (nwE G i'))])∧P i')) ((∀ (i:Nat),i<List.length G→true=true)∧∃ (O':List (Nat×AObj)),waf z0 O'∧R (.exit 0) (St.mk [(5,.own 0 (List.length G)),(7,.ptr 1 0)] O' 3 []))):=by kernel_rfl
theorem wtu (v:List UInt8→Int) (x:List UInt8) (y:Int):∀ K,x ∉ K→mset (entI K v) (.str x) (.int .i64 y)=entI (K++[x]) (fun t=>if t=x then y else v t)
 |[],_=>by simp [entI,mset]
 |t::K,h=>by
  have h1:¬ t=x:=fun e=>h (by simp [e])
  have ih:=wtu v x y K (fun e=>h (by simp [e]))
  show (match keq (.str t) (.str x) with | true=>(AV.str x,AV.int .i64 y)::entI K v | false=>(AV.str t,AV.int .i64 (v t))::mset (entI K v) (.str x) (.int .i64 y))=_
  rw [wgv,decide_eq_false h1,ih]
  show _=(AV.str t,AV.int .i64 (if t=x then y else v t))::entI (K++[x]) _
  rw [if_neg h1]
theorem wkx {K:List (List UInt8)} {v v':List UInt8→Int} (h:∀ t∈K,v t=v' t):entI K v=entI K v':=List.map_congr_left fun t ht=>by rw [h t ht]
theorem wts (v:List UInt8→Int) (x:List UInt8) (y:Int):∀ K,K.Nodup→x∈K→mset (entI K v) (.str x) (.int .i64 y)=entI K (fun t=>if t=x then y else v t)
 |[],_,h=>by cases h
 |t::K,hd,h=>by
  rw [List.nodup_cons] at hd
  show (match keq (.str t) (.str x) with | true=>(AV.str x,AV.int .i64 y)::entI K v | false=>(AV.str t,AV.int .i64 (v t))::mset (entI K v) (.str x) (.int .i64 y))=(AV.str t,AV.int .i64 (if t=x then y else v t))::entI K (fun t=>if t=x then y else v t)
  rw [wgv]
  by_cases e:t=x
  ·subst e
   rw [decide_eq_true rfl,if_pos rfl]
   show _::_=_::_
   rw [wkx (v:=v) (v':=fun s=>if s=t then y else v s) fun s hs=>by
    rw [if_neg]
    intro q;subst q;exact hd.1 hs]
  ·rw [decide_eq_false e,if_neg e]
   have hx:x∈K:=by
    rcases List.mem_cons.1 h with q | q
    ·exact absurd q.symm e
    ·exact q
   show _::_=_::_
   rw [wts v x y K hd.2 hx]
theorem wih (G:List FL):∀ k,(idK G k).Nodup
 |0=>List.nodup_nil
 |k+1=>by
  rw [idK]
  cases q: !decide ((atF G k).kind=1) && !decide ((atF G k).id∈idK G k) with
  |false=>exact wih G k
  |true=>
   rw [Bool.and_eq_true,Bool.not_eq_true',Bool.not_eq_true',decide_eq_false_iff_not,decide_eq_false_iff_not] at q
   show (idK G k++[(atF G k).id]).Nodup
   rw [List.nodup_append]
   refine ⟨wih G k,by simp,fun a ha b hb=>?_⟩
   rw [List.mem_singleton] at hb
   subst hb
   intro e
   subst e
   exact q.2 ha
theorem wjy {G:List FL} {t:List UInt8}:∀ {k},t ∉ idK G k→nwF G t k=0
 |0,_=>rfl
 |k+1,h=>by
  rw [idK] at h
  rw [nwF]
  cases q: !decide ((atF G k).kind=1) with
  |false=>
   rw [q,Bool.false_and,cond_false] at h
   rw [Bool.false_and,cond_false];exact wjy h
  |true=>
   rw [q,Bool.true_and] at h
   by_cases e:(atF G k).id∈idK G k
   ·rw [decide_eq_true e] at h
    have h:t ∉ idK G k:=h
    have ne:¬ (atF G k).id=t:=fun z=>h (z ▸ e)
    rw [decide_eq_false ne];exact wjy h
   ·rw [decide_eq_false e] at h
    have h:t ∉ idK G k++[(atF G k).id]:=h
    rw [List.mem_append,List.mem_singleton,not_or] at h
    rw [decide_eq_false fun z=>h.2 z.symm];exact wjy h.1
theorem wtd (G:List FL) (k:Nat) (x:List UInt8):Option.getD (mget (nwE G k) (.str x)) (.int .i64 0)= .int .i64 (nwF G x k):=by
 unfold nwE
 rw [wpy]
 by_cases h:x∈idK G k
 ·rw [if_pos h]
 ·rw [if_neg h,wjy h]
theorem wtc (G:List FL) (k:Nat):wbt .string (nwE G k):=wve (wih G k)
theorem wpl (σ:Nat→Option Nat) (G:List FL) (k:Nat):(nwE G k).map (fun p=>(AV.rn σ p.1,AV.rn σ p.2))=nwE G k:=wg0 σ _ _
theorem nwE_msg {G:List FL} {k:Nat} (h:(atF G k).kind=1):nwE G (k+1)=nwE G k:=by
 unfold nwE
 rw [idK,decide_eq_true h]
 refine wkx fun t _=>?_
 rw [nwF,decide_eq_true h];rfl
theorem nwE_set {G:List FL} {k:Nat} (h:¬ (atF G k).kind=1):mset (nwE G k) (.str (atF G k).id) (.int .i64 (max (nwF G (atF G k).id k) (atF G k).ver))=nwE G (k+1):=by
 unfold nwE
 have st:∀ t,nwF G t (k+1)=if t=(atF G k).id then max (nwF G (atF G k).id k) (atF G k).ver else nwF G t k:=fun t=>by
  rw [nwF,decide_eq_false h]
  by_cases e:t=(atF G k).id
  ·subst e;rw [if_pos rfl,decide_eq_true rfl];rfl
  ·rw [if_neg e,decide_eq_false fun z=>e z.symm];rfl
 rw [idK,decide_eq_false h]
 by_cases e:(atF G k).id∈idK G k
 ·rw [decide_eq_true e,wts _ _ _ _ (wih G k) e]
  exact wkx fun t _=>(st t).symm
 ·rw [decide_eq_false e,wtu _ _ _ _ e]
  exact wkx fun t _=>(st t).symm
theorem v4_loop (hP:C.P=Tryz.prog) (G:List FL):wak C 0 40 (wam Tryz.f44 4) (L_v4 G):=by
 have _:C.Loose:=inferInstance
 rintro st Q ⟨h0,hn,hv,hQ⟩
 refine wak.mk (prg hP) [] 0 .nil [5,7,17,18,19] [5,7] [] (S_v4 G) (fun k=>k≤G.length) (fun k=>G.length - k) 0 (Nat.zero_le _) h0 (fun k hk=>?_) (fun _=>⟨fun _ _=>rfl,trivial⟩)
 have zz:zvA (.int .i64 0)= .int .i64 0:=rfl
 rw [wyo,Int.toNat_natCast,zz,wtd,wpl]
 refine waj (fun h1=>⟨⟨by omega,by omega⟩,⟨by omega,rfl⟩,wb3 (fun h2=>?_) (fun h2=>?_)⟩) (fun h1=>?_)
 ·have e:=nwE_set (G:=G) (k:=k) h2
  refine ⟨⟨wtc G k,rfl⟩,wtc G k,by simp only [inR];omega,k+1,⟨rfl,?_⟩,by omega,by omega⟩
  have e':mset (nwE G k) (.str (atF G k).id) (.int .i64 (max (wao (.int .i64 (nwF G (atF G k).id k))) (atF G k).ver))=nwE G (k+1):=e
  rw [e',wpl]
  exact wap _
 ·exact ⟨by simp only [inR];omega,k+1,⟨rfl,by rw [nwE_msg h2];exact wap _⟩,by omega,by omega⟩
 ·have:k=G.length:=by omega
  subst this
  exact ⟨fun _ _=>rfl,_,wap _,hQ⟩
theorem kf_view (G:List FL):kfL (qV (nwE G G.length)) (atF G) G.length=wfx G:=by
 unfold kfL wfx
 rw [show lst (atF G) G.length=G from wdu G _]
 refine List.filter_congr fun x _=>?_
 unfold qV vwB
 rw [wtd];rfl
theorem knw_len (g:Nat→FL) (n:Nat) (d:Int):(knwL okV g n d).length≤n:=Nat.le_trans (List.length_filter_le _ _) (wtg g n)
theorem w2a (L:List FL):(wbs L).length≤L.length:=wjm _ L _
theorem knw_gd {g:Nat→FL} {n:Nat} {d:Int} (hg:∀ i,i<n→(g i).Gd):∀ x∈knwL okV g n d,x.Gd:=fun x hx=>nrm_gd hg x (List.mem_filter.1 hx).1
theorem view_at (hP:C.P=Tryz.prog) (hL:∀ w,C.laid w→LaidW w) (g:Nat→FL) (n:Nat) (d:Int) (hn:n≤1000) (hg:∀ i,i<n→(g i).Gd):ADet C 44 [.view 7 n (wad g),.int .i64 d] [] (.own 0 (vwL okV g n d).length) [(0,.row 49 7 (vwL okV g n d).length (wad (atF (vwL okV g n d))) false)]:=by
 refine wbd.wpL (prg hP) [(99,.det wlr),(100,.rel wnn)] [(4,L_v4 (wbs (knwL okV g n d)))] 0 (.cons (spl_ok hP hL) (.cons (delV_ok hP) .nil)) (hP ▸ Tryz.func44) rfl rfl rfl
  [(wam Tryz.f44 4,L_v4 (wbs (knwL okV g n d)))] (by kernel_rfl) ⟨v4_loop hP _,trivial⟩ ?_
 rw [nf_vw,wdl,wdl,wpl]
 have h1:=knw_len g n d
 have h2:=w2a (knwL okV g n d)
 have hv:∀ F∈wbs (knwL okV g n d),0≤F.ver:=fun F hF=>by
  have:=wya (nrm_ok (List.mem_filter.1 (wuk hF)).1)
  omega
 have hgd:∀ F∈wbs (knwL okV g n d),F.Gd:=fun F hF=>knw_gd hg F (wuk hF)
 have hk:=kf_view (wbs (knwL okV g n d))
 have hw:vwL okV g n d=wfx (wbs (knwL okV g n d)):=rfl
 rw [hk,hw]
 generalize wbs (knwL okV g n d)=G at *
 refine ⟨⟨hn,rfl,hg⟩,fun _ _=>rfl,fun _ _=>rfl,⟨rfl,wap _⟩,by omega,hv,fun _ _=>rfl,rfl,rfl,rfl,rfl,by omega,rfl,fun i hi=>(hgd _ (wlb hi)).rg,⟨_,_,rfl,wih G _⟩,fun k h hkn hlst=>?_⟩
 obtain ⟨e1,e2⟩:=lst_at hlst we1
 subst e1
 refine ⟨fun _ _=>rfl,fun _ _=>rfl,[(0,.row 49 7 (wfx G).length (wad (atF (wfx G))) false)],⟨⟨rfl,rfl,rfl,rfl,rfl,fun i hi=>?_⟩,trivial⟩,rfl,rfl⟩
 show wbb (h i)=wbb ((wfx G).getD i we1)
 rw [e2 i hi]
theorem nf_aw15 (R:AV→List (Nat×AObj)→Prop):wpFn te [] [(1002,woq)] 0 Tryz.f31 [] [] R=(letI z0:=([.str [(97:UInt8)],.int .i64 1,.int .i64 10,.int .i64 2,.view 15 0 (wae (atM [])),.own 1 1,.view 5 0 (wah (atT []))]:List AV);(5≤16777216∧5=5∧1≤9223372036854775807)∧(TEq [(0,.bool false),(1,.ptr 0 0)] [(0,.bool false),(1,.ptr 0 0)]∧waf [(0,.cells z0 49),(1,.row 61 5 1 (way (TI.sz wcw) (.str [(111:UInt8)]:: .str [(57:UInt8),54,51,56,53,48,55,52]:: .int .i64 5:: .int .i64 2:: .int .i64 300::List.append [] we6)) false)] [(0,.cells z0 49),(1,.row 61 5 1 (wai (atR [awR])) false)])∧R (.bool true) []):=by kernel_rfl
theorem nf_aw2 (Q:Exit→St→Prop):regP ⟨te,[(33,.det whh),(44,.det wli)],[],0,22,0⟩ (regC Tryz.f31 2) [0] Q S_awc=(letI z7:=(7≤16777216∧7=7∧1≤9223372036854775807:Prop);letI z6:=wah (atT (FL.ts awFl));letI z5:=wai (atR (FL.rs awFl));letI z4:=wae (atM (FL.ms awFl));letI z3:=(List.flatten (List.replicate (nat_lit 0) [.str ([]),.int .i64 0,.int .i64 0,.int .i64 0,.nil,.nil,.nil]):List AV);letI z2:=(flV [(97:UInt8)] (FL.ver awFl) (FL.day awFl) (FL.kind awFl) 0 z4 1 z5 0 z6);letI z1:=(1=1∧1≤1000∧FM (way (TI.sz wdh) (.str [(97:UInt8)]:: .int .i64 (FL.ver awFl):: .int .i64 (FL.day awFl):: .int .i64 (FL.kind awFl):: .view 15 0 z4:: .view 5 1 z5:: .view 5 0 z6::List.append [] z3)) 1:Prop);letI z0:=(∀ (i:Nat),i<1→nrefL (way (TI.sz wdh) (.str [(97:UInt8)]:: .int .i64 (FL.ver awFl):: .int .i64 (FL.day awFl):: .int .i64 (FL.kind awFl):: .view 15 0 z4:: .view 5 1 z5:: .view 5 0 z6::List.append [] z3) i)=true:Prop);(FlC 0 z4 1 z5 0 z6∧FL.Rg z2)∧wab (decide (encF z2=[(49:UInt8),58,97,44,49,44,50,44,48,44,49,44,49,58,111,44,56,58,57,54,51,56,53,48,55,52,44,53,44,50,44,51,48,48,44,48,44])) (z7∧z0∧z1∧z7∧z0∧z1∧Q .normal (St.mk [(0,.bool true)] [] 0 [])) (Q .normal (St.mk [(0,.bool false)] [] 0 []))):=by kernel_rfl
open Go.Lib in
theorem wv1:encF awFl=[49,58,97,44,49,44,50,44,48,44,49,44,49,58,111,44,56,58,57,54,51,56,53,48,55,52,44,53,44,50,44,51,48,48,44,48,44]:=by
 have d1:∀ u,u<10→decDigits u=[UInt8.ofNat (48+u)]:=fun u h=>by rw [decDigits,dif_pos h]
 have d3:decDigits 300=[51,48,48]:=by
  rw [decDigits,dif_neg (by omega),show 300 / 10=30 from rfl,decDigits,dif_neg (by omega),show 30 / 10=3 from rfl,d1 3 (by omega)];rfl
 have i1:∀ u:Nat,u<10→itoa (u:Int)=[UInt8.ofNat (48+u)]:=fun u h=>by
  unfold itoa
  rw [if_neg (by omega),Int.toNat_natCast,d1 u h]
 have i3:itoa (300:Int)=[51,48,48]:=by
  unfold itoa
  rw [if_neg (by omega)];exact d3
 have e0:=i1 0 (by omega)
 have e1:=i1 1 (by omega)
 have e2:=i1 2 (by omega)
 have e5:=i1 5 (by omega)
 have e8:=i1 8 (by omega)
 show (itoa ((1:Nat):Int)++58::([97]++[44]))++((itoa ((1:Nat):Int)++[44])++((itoa ((2:Nat):Int)++[44])++((itoa ((0:Nat):Int)++[44])++([]++((itoa ((1:Nat):Int)++[44])++(((itoa ((1:Nat):Int)++58::([111]++[44]))++((itoa ((8:Nat):Int)++58::([57,54,51,56,53,48,55,52]++[44]))++((itoa ((5:Nat):Int)++[44])++((itoa ((2:Nat):Int)++[44])++(itoa (300:Int)++[44]))))++[])++((itoa ((0:Nat):Int)++[44])++[])))))))=_
 rw [e0,e1,e2,e5,e8,i3];rfl
theorem wvz:awFl.Rg:=⟨by simp only [inR,awFl];omega,by simp only [inR,awFl];omega,by decide,by decide,by decide,fun m hm=>(by cases hm),fun r hr=>(by
 rw [List.mem_singleton.1 hr]
 exact ⟨by simp only [inR,awR];omega,by simp only [inR,awR];omega,by simp only [inR,awR];omega⟩),fun t ht=>(by cases ht),by rw [wv1];decide⟩
theorem wv0:awFl.Gd:=⟨⟨by decide,⟨by decide,fun m hm=>(by cases hm)⟩,⟨by decide,fun r hr=>by
 rw [List.mem_singleton.1 hr]
 decide⟩,⟨by decide,fun t ht=>(by cases ht)⟩⟩,wvz⟩
theorem fm_one {f:Nat→List AV} {F:FL} (h:f 0=wbb F) (hg:F.Gd):FM f 1:=by
 have e:flOf f 0=F:=by
  unfold flOf
  rw [h];exact wd2 F
 refine ⟨fun i hi=>?_,fun i hi=>?_⟩
 ·obtain rfl:i=0:=by omega
  show f 0=wbb (flOf f 0)
  rw [e,h]
 ·obtain rfl:i=0:=by omega
  rw [e];exact hg
theorem wwq (hP:C.P=Tryz.prog) (hL:∀ w,C.laid w→LaidW w):wag C 44 wwb:=by
 rintro args objs U Os vc h hvc
 unfold wwb at h
 split at h<;>simp only [Option.some.injEq,Prod.mk.injEq,reduceCtorEq] at h
 rename_i n f d
 obtain ⟨rfl,rfl,rfl⟩:=h
 obtain ⟨hn,hf,hg⟩:=hvc
 generalize flOf f=g at *
 subst hf
 refine wal.frzO 0 ((view_at hP hL g n d hn hg).mono ?_)
 rintro u O ⟨rfl,rfl⟩
 refine ⟨fun _ _=>rfl,?_⟩
 have hb:Nat.ble (vwL okV g n d).length (vwL okV g n d).length=true:=Nat.ble_eq_true_of_le (Nat.le_refl _)
 constructor
 ·simp [frzC,frzA,frz,hb]
 ·rfl
theorem wwr (hP:C.P=Tryz.prog) (hL:∀ w,C.laid w→LaidW w):wag C 44 wli:=by
 rintro args objs U Os vc h hvc
 unfold wli at h
 split at h<;>simp only [Option.some.injEq,Prod.mk.injEq,reduceCtorEq] at h
 rename_i n d t m f fr
 obtain ⟨rfl,rfl,rfl⟩:=h
 obtain ⟨rfl,hn,hf,hs⟩:=hvc
 refine wal.rowEq 0 (f':=wad (flOf f)) rfl (fun i hi=>(hf i hi).symm) ?_
 have hb:Nat.ble n n=true:=Nat.ble_eq_true_of_le (Nat.le_refl _)
 have hh:=wwq hP hL [.view 7 n (wad (flOf f)),.int .i64 d] [] _ _ _ rfl ⟨hn,by rw [wdl],by rw [wdl];exact hs⟩
 rw [wdl] at hh
 exact ADet.give hh (by simp [frzC,frzA,frz,hb]) rfl rfl (fun _ _=>rfl)
theorem aw2_ok (hP:C.P=Tryz.prog) (hL:∀ w,C.laid w→LaidW w):wak C 0 22 (regC Tryz.f31 2) woq:=by
 rintro st Q ⟨h0,hQ⟩
 refine AWP.nilVP 1 6 5 (wah (atT [])) (AWP.nilVP 1 4 15 (wae (atM [])) (AWP.canonIs (te:=te) [0,1] h0 (AWP.frzX 1 [] (fun _ _=>rfl) ?_) ⟨fun _ _=>rfl,trivial⟩))
 refine wak.reg (S:=S_awc) (prg hP) [(33,.det whh),(44,.det wli)] 0 (.cons (enc_ok hP hL) (.cons (wwr hP hL) .nil)) [0,1] [0] rfl ?_ trivial
 rw [nf_aw2]
 have e:flV [97] awFl.ver awFl.day awFl.kind 0 (wae (atM awFl.ms)) 1 (wai (atR awFl.rs)) 0 (wah (atT awFl.ts))=awFl:=wd2 awFl
 rw [e]
 refine ⟨⟨wew awFl,wvz⟩,waj (fun _=>?_) (fun h=>absurd wv1 h)⟩
 have one:∀ {p:Nat→Prop},p 0→∀ i,i<1→p i:=fun h i hi=>by
  obtain rfl:i=0:=by omega
  exact h
 exact ⟨⟨by omega,rfl,by omega⟩,one rfl,⟨rfl,by omega,fm_one (F:=awFl) rfl wv0⟩,⟨by omega,rfl,by omega⟩,one rfl,⟨rfl,by omega,fm_one (F:=awFl) rfl wv0⟩,hQ⟩
theorem w3y (hP:C.P=Tryz.prog) (hL:∀ w,C.laid w→LaidW w):wag C 31 wnb:=by
 rintro args objs U Os vc h hvc
 unfold wnb at h
 split at h<;>simp only [Option.some.injEq,Prod.mk.injEq,reduceCtorEq] at h
 obtain ⟨rfl,rfl,rfl⟩:=h
 refine wag.wpL (prg hP) [] [(1002,woq)] 0 .nil (hP ▸ Tryz.func31) rfl rfl rfl [(regC Tryz.f31 2,woq)] (by kernel_rfl) ⟨aw2_ok hP hL,trivial⟩ ?_
 rw [nf_aw15]
 exact ⟨⟨by omega,rfl,by omega⟩,⟨rfl,rfl,⟨rfl,rfl,rfl,rfl,rfl,fun i hi=>by
  obtain rfl:i=0:=by omega
  rfl⟩,trivial⟩,rfl,rfl⟩
theorem nf_vl (F:FL) (n:Nat) (v:Nat→Int) (R:AV→List (Nat×AObj)→Prop):wpFn te [(27,.rel wng),(28,.rel wnj),(29,.det wd8),(30,.det wd8),(31,.det wnb)] [] 0 Tryz.f5 [.agg [.str F.id,.int .i64 F.ver,.int .i64 F.day,.int .i64 F.kind,.view 15 F.ms.length (wae (atM F.ms)),.view 5 F.rs.length (wai (atR F.rs)),.view 5 F.ts.length (wah (atT F.ts))],.view 1 n (waa v)] [] R=(letI z5:=(List.flatten (List.replicate (nat_lit 0) [.str ([]),.int .i64 0,.int .i64 0,.int .i64 0,.nil,.nil,.nil]):List AV);letI z4:=(Int.toNat (0:Int));27=27∧1=1∧waa v=waa (vInt (waa v))∧((0:Int)≤(0:Int)∧(0:Int)≤(4611686018427350000:Int))∧∀ (F_1:FL) (a':Int),letI z1:=flV (FL.id F_1) (FL.ver F_1) (FL.day F_1) (FL.kind F_1) (List.length (FL.ms F_1)) (wae (atM (FL.ms F_1))) (List.length (FL.rs F_1)) (wai (atR (FL.rs F_1))) (List.length (FL.ts F_1)) (wah (atT (FL.ts F_1)));letI z3:=FlC (List.length (FL.ms F_1)) (wae (atM (FL.ms F_1))) (List.length (FL.rs F_1)) (wai (atR (FL.rs F_1))) (List.length (FL.ts F_1)) (wah (atT (FL.ts F_1)))∧FL.Sm z1;FL.Tn F_1→(0:Int)≤a'∧a'≤(0:Int)+(1200:Int)→(7≤16777216∧7=7∧1≤9223372036854775807)∧(∀ (i:Nat),i<1→nrefL (way (TI.sz wdh) (.str (FL.id F):: .int .i64 (FL.ver F):: .int .i64 (FL.day F):: .int .i64 (FL.kind F):: .view 15 (List.length (FL.ms F)) (wae (atM (FL.ms F))):: .view 5 (List.length (FL.rs F)) (wai (atR (FL.rs F))):: .view 5 (List.length (FL.ts F)) (wah (atT (FL.ts F)))::List.append [] z5) i)=true)∧1=1∧1=1∧∃ (G:FL),letI z2:=FlC (List.length (FL.ms (cutF G))) (wae (atM (FL.ms (cutF G)))) (List.length (FL.rs (cutF G))) (wai (atR (FL.rs (cutF G)))) (List.length (FL.ts (cutF G))) (wah (atT (FL.ts (cutF G))))∧FL.Sm (flV (FL.id (cutF G)) (FL.ver (cutF G)) (FL.day (cutF G)) (FL.kind (cutF G)) (List.length (FL.ms (cutF G))) (wae (atM (FL.ms (cutF G)))) (List.length (FL.rs (cutF G))) (wai (atR (FL.rs (cutF G)))) (List.length (FL.ts (cutF G))) (wah (atT (FL.ts (cutF G)))));letI z0:=(flV (FL.id ((fun (_x:Nat)=>cutF G) z4)) (FL.ver ((fun (_x:Nat)=>cutF G) z4)) (FL.day ((fun (_x:Nat)=>cutF G) z4)) (FL.kind ((fun (_x:Nat)=>cutF G) z4)) (List.length (FL.ms ((fun (_x:Nat)=>cutF G) z4))) (wae (atM (FL.ms ((fun (_x:Nat)=>cutF G) z4)))) (List.length (FL.rs ((fun (_x:Nat)=>cutF G) z4))) (wai (atR (FL.rs ((fun (_x:Nat)=>cutF G) z4)))) (List.length (FL.ts ((fun (_x:Nat)=>cutF G) z4))) (wah (atT (FL.ts ((fun (_x:Nat)=>cutF G) z4)))));IsFl (way (TI.sz wdh) (.str (FL.id F):: .int .i64 (FL.ver F):: .int .i64 (FL.day F):: .int .i64 (FL.kind F):: .view 15 (List.length (FL.ms F)) (wae (atM (FL.ms F))):: .view 5 (List.length (FL.rs F)) (wai (atR (FL.rs F))):: .view 5 (List.length (FL.ts F)) (wah (atT (FL.ts F)))::List.append [] z5)) G∧((0:Int)≤(0:Int)∧(0:Int)<(↑1:Int)∧7=7)∧z2∧z2∧wab (decide (vinF z0=vinF z0)) (z3∧z3∧wab (decide (vinF z1=vinF z1)) (True∧R (.bool true) []) (R (.bool false) [])) (R (.bool false) [])):=by kernel_rfl
theorem vinA (F:FL) (h:F.Tn):FlC F.ms.length (wae (atM F.ms)) F.rs.length (wai (atR F.rs)) F.ts.length (wah (atT F.ts))∧(flV F.id F.ver F.day F.kind F.ms.length (wae (atM F.ms)) F.rs.length (wai (atR F.rs)) F.ts.length (wah (atT F.ts))).Sm:=
 ⟨wew F,by rw [wd2];exact h.gd.1⟩
theorem vl_ok (hP:C.P=Tryz.prog) (hL:∀ w,C.laid w→LaidW w) (F:FL) (hF:F.Ri) (n:Nat) (v:Nat→Int):ADet C 5 [.agg (wbb F),.view 1 n (waa v)] [] (.bool true) []:=by
 refine wag.wp0 (prg hP) [(27,.rel wng),(28,.rel wnj),(29,.det wd8),(30,.det wd8),(31,.det wnb)] 0
  (.cons (sp15_ok hP) (.cons (raw1_ok hP) (.cons (vin_ok hP hL) (.cons (vinR_ok hP) (.cons (w3y hP hL) .nil))))) (hP ▸ Tryz.func5) rfl rfl rfl ?_
 unfold wbb
 rw [nf_vl]
 have one:∀ {p:Nat→Prop},p 0→∀ i,i<1→p i:=fun h i hi=>by
  obtain rfl:i=0:=by omega
  exact h
 have hc:=vinA (cutF F) (cutF_tn hF)
 exact ⟨rfl,rfl,rfl,⟨by omega,by omega⟩,fun G a' hG _=>⟨⟨by omega,rfl,by omega⟩,one rfl,rfl,rfl,F,rfl,⟨by omega,by omega,rfl⟩,hc,hc,
  waj (fun _=>⟨vinA G hG,vinA G hG,waj (fun _=>⟨trivial,rfl,rfl⟩) (fun h=>absurd rfl h)⟩) (fun h=>absurd rfl h)⟩⟩
end Go.Eng
namespace Go.Eng
open Go.Proofs Go.RowKit Go.ChangeShapes Go.WideShapes Go.ChangeAt
theorem params_Vd:Tryz.f5.params=#[49,23]:=by kernel_rfl
set_option maxRecDepth 100000 in
theorem w1f (os:Os) (started:os.Started) (H:Type) (enc:TypeId×Value→H):
  ReturnsInHanded {} Tryz.checked os 5 .any (fun w args=>(Go.Proofs.YtgcboligphndhaaGreatDoor.Rows.vintageValidSpec.pre enc Tryz.prog Tryz.f5 [] false w args∧laidMetH Tryz.prog Go.Proofs.YtgcboligphndhaaGreatDoor.Rows.vintageValidRow.laid w)∧sizedMet enc Tryz.prog Tryz.f5 (OpenSpec.ofChange Go.Proofs.YtgcboligphndhaaGreatDoor.Rows.vintageValidSpec) false w args)
   (Go.Proofs.YtgcboligphndhaaGreatDoor.Rows.vintageValidSpec.post enc Tryz.prog Tryz.f5 false true false false):=by
 refine w19 (C:=Tryz.checked) (X:=fun w _=>laidMetH Tryz.prog Go.Proofs.YtgcboligphndhaaGreatDoor.Rows.vintageValidRow.laid w) (fun _ _ _ hh h=>h.of_heap hh) ownK started (by kernel_rfl) Tryz.func5
  (ChangeSpec.witness_at (enc:=enc) (C:=Tryz.checked) (os:=os) (X:=fun w _=>laidMetH Tryz.prog Go.Proofs.YtgcboligphndhaaGreatDoor.Rows.vintageValidRow.laid w) false (wt9 os) #[.agg #[.string ⟨#[]⟩,.int .i64 0,.int .i64 0,.int .i64 0,.slice none 0 0,.slice none 0 0,.slice none 0 0],.slice none 0 0] 8 rfl (by kernel_rfl) (by kernel_rfl) (by kernel_rfl) (by kernel_rfl) (by kernel_rfl) (w1k os _)) ?_
 intro W base args ds gs before hval0 hW hL hsh
 have hval:∀ (j:Nat) t v,Tryz.f5.params[j]?=some t→args[j]?=some v→Value.okWide Tryz.prog W .any base t v:=hval0
 have hW':=hW
 obtain ⟨p,q,hA0,hV,rfl,hfz,hnd⟩:=hW
 have hA:DataW.TrodAll enc Tryz.prog W 0 (fun _=>true) true Tryz.f5.params.toList args.toList ds p:=hA0
 rw [params_Vd] at hA hval
 obtain ⟨v0,vs0,d0,ds0,p0,q0,hargs,rfl,rfl,h0,r0⟩:=trodAll_cons hA
 obtain ⟨v1,vs1,d1,ds1,p1,q1,rfl,rfl,rfl,h1,r1⟩:=trodAll_cons r0
 obtain ⟨rfl,rfl,rfl⟩:=trodAll_nil r1
 obtain rfl:args=#[v0,v1]:=by cases args;simp_all
 obtain ⟨rfl,rfl⟩:=trodVars_none hV
 obtain ⟨cs0,rfl,hsz0⟩:=okWide_struct undFl (hval 0 _ v0 rfl rfl)
 obtain ⟨a1,len1,cap1,rfl⟩:=okWide_slice undIs (hval 1 23 v1 rfl rfl)
 have k0:=h0
 have k1:=h1
 have lt0:∀ x∈p0,x.block<W.heap.size:=by obtain ⟨m,hm⟩:=k0;exact DataW.trod_lt m _ _ _ hm
 have lt1:∀ x∈p1,x.block<W.heap.size:=by obtain ⟨m,hm⟩:=k1;exact DataW.trod_lt m _ _ _ hm
 obtain ⟨m0,hm0⟩:=h0
 obtain ⟨m1,hm1⟩:=h1
 have hm0:DataW.trod enc Tryz.prog W 0 (fun _=>true) true m0 49 cs0.toList=some (d0,p0):=hm0
 obtain ⟨F0,R0,V0⟩:=wxs hm0
 obtain ⟨A1,n1,c1,w1,e1,V1⟩:=wxr hm1
 have e1:[Value.slice a1 len1 cap1]=[Value.slice A1 n1 c1]:=e1
 simp only [List.cons.injEq,and_true] at e1
 rw [← e1] at V1
 have lw:=w1l hL hsh
 refine (ADet.top (C:=cx) (vl_ok rfl (fun _ h=>h) F0 R0 n1 w1) lw (gsz_le lw) (cargs:=[.agg cs0,.slice a1 len1 cap1]) rfl (fun j x u hx hu=>?_)).mono fun e W' ⟨he,bel⟩=>?_
 ·match j with
  |0=>obtain rfl:=Option.some.inj hx;obtain rfl:=Option.some.inj hu;exact V0
  |1=>obtain rfl:=Option.some.inj hx;obtain rfl:=Option.some.inj hu;exact V1
  |j+2=>simp at hx
 ·subst he
  exact ⟨_,rfl,_,_,_,[],_,[],hW',trodAll_mk1 (shut_bool (show Tryz.prog.underlying 4=some .bool by kernel_rfl) _),(trodAll_cons_mk (Below.trod wqb (by kernel_rfl) (of_decide_eq_true (by kernel_rfl)) k0 bel lt0) (trodAll_cons_mk (Below.trod wqb (by kernel_rfl) (of_decide_eq_true (by kernel_rfl)) k1 bel lt1) trodAll_mk0)),rfl,bel.frame _,fun h=>by cases h⟩
set_option maxRecDepth 100000 in
theorem over_Vd:Go.Proofs.YtgcboligphndhaaGreatDoor.Rows.vintageValidRow.holds Go.Proofs.YtgcboligphndhaaGreatDoor.Tryz.pinned (OpenSpec.ofChange Go.Proofs.YtgcboligphndhaaGreatDoor.Rows.vintageValidSpec):=
 OpenClaim.holds_of_wide 5 Tryz.f5 rfl rfl rfl rfl rfl rfl rfl ⟨rfl,rfl,rfl,rfl,rfl⟩ rfl rfl rfl rfl rfl (by kernel_rfl) Tryz.func5 w3b
  inst_Vd (by unfold Func.isWrapper;rw [if_neg (of_decide_eq_false (by kernel_rfl))];exact ⟨rfl,rfl⟩)
  (fun os started H enc _=>w1f os started H enc)
end Go.Eng
namespace Go.Proofs.YtgcboligphndhaaGreatDoor
open Go
def harB : Bool × String := (true, "40fb3bd35b79f194dc6e91eb15eecf1db62dc7e1bded180275d4dc3755fccfaf")
set_option maxRecDepth 100000 in
theorem mainB:Tryz.prog.mainIs=some (harB.1,harB.2.toList):=by kernel_rfl
set_option maxRecDepth 100000 in
theorem looksB:true=Tryz.prog.looks []:=by kernel_rfl
end Go.Proofs.YtgcboligphndhaaGreatDoor
namespace Go.Proofs.YtgcboligphndhaaGreatDoor
open Go
set_option maxRecDepth 100000 in
theorem wf_Vd:Rows.vintageValidRow.wfByText (OpenSpec.ofChange Rows.vintageValidSpec)=true:=by kernel_rfl
set_option maxRecDepth 100000 in
theorem goes_Vd:false=Rows.vintageValidRow.goesBy Tryz.prog:=by kernel_rfl
theorem w0t : Tryz.prog.funcNamed "priceoffice/priceofficelaw15.VintageValid" = some 5 := by kernel_rfl
theorem ww7:Tryz.prog.wantsStandIn 49=false:=by kernel_rfl
theorem ww6:Tryz.prog.wantsStandIn 23=false:=by kernel_rfl
theorem card_Vd:Rows.VintageValidCardSaid:=
 Claim7.holds_tied_plain_at .later [] [.data,.data,.data,.data,.sentinel,.sentinel,.pinned] true harB true
  Go.Eng.over_Vd (fun _ h=>by cases h) wf_Vd (fun _ h=>by cases h) vintageValid_row_tie rfl ⟨rfl,rfl⟩ mainB rfl
  (fun f fn hf hfn=>by
   obtain rfl:f=5:=Option.some.inj (w0t.symm.trans hf) |>.symm
   obtain rfl:fn=Tryz.f5:=(Option.some.inj (Tryz.func5.symm.trans hfn)).symm
   exact ⟨looksB,fun j t ht=>by
    rw [Go.Eng.params_Vd] at ht
    have h3:t=49∨t=23:=by
     rcases j with _ | _ | j
     ·exact .inl (by simpa using ht.symm)
     ·exact .inr ((by simpa using ht.symm))
     ·simp at ht
    rcases h3 with rfl | rfl
    ·exact ww7
    ·exact ww6⟩)
  goes_Vd
end Go.Proofs.YtgcboligphndhaaGreatDoor
