/- The tied card of VisitDisputes: its statement is 'VisitDisputesCardSaid' of the given cards. -/
import Derived.Test.YtmcdngcjakjnmaaGreatDoorJtze
import Derived.Test.YtmcdngcjakjnmaaGreatDoorJto
import Derived.Test.YtmcdngcjakjnmaaGreatDoorCards
import Derived.Test.YtmcdngcjakjnmaaGreatDoorTie
import Derived.SevenTiedAt
namespace Go.Eng
open Go.Proofs Go.RowKit
variable {C:Ctx} [C.Loose]
set_option maxRecDepth 20000
set_option maxHeartbeats 4000000
theorem nf_aw12(R:oR7):wpFn te [(17,.det wl6),(22,.det we9),(21,.det wlt)] [] 0 Tryz.f19 [] [] R=(letI z2:=((0:Int)<=0/\(0:Int)<(↑1:Int)/\6=6:Prop);letI z0:=(waq 15 (.str [(97:UInt8)]:: .q 1:: .q 1:: .str [(111:UInt8),49]:: .str [(57:UInt8),54,51,56,53,48,55,52]:: .q 5:: .q 160:: .q 1:: .q 100:: .str []:: .str []:: .str []:: .q 0:: .str []:: .q 0::List.append [] wbm));letI z1:=(lmF (obP (wae (mgOf z0) 1) (atS (obL (wae (mgOf z0) 1)) (0:Int).toNat)));(15<=16777216/\15=15/\1<=9223372036854775807)/\(∀(i:Nat),i<1->nrefL (waq 15 (.str [(97:UInt8)]:: .q 1:: .q 1:: .str [(111:UInt8),49]:: .str [(57:UInt8),54,51,56,53,48,55,52]:: .q 5:: .q 160:: .q 1:: .q 100:: .str []:: .str []:: .str []:: .q 0:: .str []:: .q 0::List.append [] wbm) i)=true)/\(1=1/\1<=100000/\RM z0 1)/\z2/\z2/\((0:Int)<=100/\(100:Int)<9223372036854775808)/\(1<=1000/\1<=1000/\uRow z1=uRow (uOf (uRow z1))/\uRow (lmF (100:Int))=uRow (uOf (uRow (lmF (100:Int)))))/\R (.bool true) []):=by kernel_rfl
theorem ww2(hP:C.P=Tryz.prog):wa8 C 14 wnj:=by
 rintro args objs R h;unfold wnj at h;split at h
 ·obtain⟨rfl,rfl,hf,ha,hR⟩:=h;refine war.frzO 1 (ww1 hP _ _ _ ⟨rfl,rfl,hf,ha,λc g a' h1 h2 h3=>⟨λ_ _=>rfl,?_⟩⟩);have hb:Nat.ble c c=true:=Nat.ble_eq_true_of_le (lR7 _);have e:frzC 1 15 c (waa g) (.own 1 c)= .view 15 c (waa g):=by simp[frzC,frzA,frz,hb]
  rw[e];exact hR c g a' h1 h2 h3
 ·exact h.elim
theorem obsO_ok(hP:C.P=Tryz.prog)(hL:∀w,C.laid w->LaidW w):wad C 17 wl6:=by
 rintro args objs U Os vc h hvc;unfold wl6 at h;split at h<;>cases h;rename_i n t m f fr;obtain⟨rfl,hn,⟨hf,hs⟩⟩:=hvc;refine war.rowEq 0 (f':=waa (mgOf f)) rfl (λi hi=>(hf i hi).symm) ?_;have hb:Nat.ble n n=true:=Nat.ble_eq_true_of_le (lR7 _);exact ADet.give (obs_ok hP hL [.view 15 n (waa (mgOf f))] [] _ _ _ rfl ⟨hn,rfl,hs⟩) (by simp[frzC,frzA,frz,hb]) rfl rfl (λ_ _=>rfl)
theorem w47(hP:C.P=Tryz.prog)(hL:∀w,C.laid w->LaidW w):wad C 19 wne:=by
 rintro args objs U Os vc h hvc;unfold wne at h;split at h<;>cases h;refine wad.wp0 (prg hP) [(17,.det wl6),(22,.det we9),(21,.det wlt)] 0 (.cons (obsO_ok hP hL) (.cons (wxy hP) (.cons (wxj hP) .nil))) (hP ▸ Tryz.func19) rfl rfl rfl ?_;rw[nf_aw12];generalize hf:waq _ _=f;have f0:f 0=waa (atM [awM]) 0:=by rw[← hf];rfl
 have one:∀ {p:Nat->Prop},p 0->∀i,i<1->p i:=λh0 i hi=>by
  match i,hi with
  |0,_=>exact h0
 have r0:mgOf f 0=atM [awM] 0:=by unfold mgOf;rw[f0];rfl
 exact⟨⟨by omega,rfl,by omega⟩,one (by rw[f0];rfl),⟨rfl,by omega,⟨one (by show f 0=mgC (mgOf f 0);rw[r0,f0];rfl),one (by rw[r0];exact⟨by decide,by decide,by decide,by decide⟩)⟩⟩,⟨by omega,by omega,rfl⟩,⟨by omega,by omega,rfl⟩,⟨by omega,by omega⟩,⟨by omega,by omega,rfl,rfl⟩,rfl,rfl⟩
theorem obL_len(R:List MG):(obL R).length<=2 * R.length:=by
 have h1:=obU_len R;have h2:=weg R;have h3:=wo8 R;have h4:=List.length_filter_le (λt=>decide (0<obP R t)) (obU R);unfold obL;omega
theorem StM.sm{m:MG}(h:StM m):m.Sm:=by
 have h1:=h.dev;have h2:m.v.o.length=2:=by rw[h.o];rfl
 have h3:m.d.o.length=0:=by rw[h.d];rfl
 have h4:m.d.dev.length=0:=by rw[h.d];rfl
 exact⟨by omega,by omega,by omega,by omega⟩
theorem cutV_sm{g:Nat->MG}{i:Nat}(h:(g i).d.o.length<9223372036854775808/\(g i).d.dev.length<9223372036854775808):(cutV g i).Sm:=by
 refine⟨?_,?_,h.1,h.2⟩
 ·show ((g i).dev.take 30).length<_;rw[List.length_take];omega
 ·show ((g i).v.o.take 30).length<_;rw[List.length_take];omega
theorem w03(z:DP)(k j:Nat)(P:Nat->Prop)(R:eR7):wat ⟨te,[],[],0,67,0⟩ (wau Tryz.f5 8) [0,5,6,8,20,21,22,26,27,28] [0,5,6,20,21,22] [4] (wm2 z k) P R (wm2 z k j)=(letI z7:=wb5 (DP.q z) (DP.pr z);letI z6:=(atX (DP.l z) (j:Int).toNat);letI z5:=was (atX (DP.l z));letI z4:=atS (DP.q z) k;letI z3:=(DP.q z).length;letI z2:=(DP.l z).length;letI z1:=([(0,.cells [.str (SL.o z4),.str (SL.p z4),.q (SL.per z4),.bool false,.view 1 (lmN (DP.pr z z4)) (uRow (lmF (DP.pr z z4))),.nil] 41)]:oL7);letI z0:=(inR .i64 ((j:Int)+1)/\∃(i':Nat),some (St.mk [(0,.view 15 (DP.n z) (waa (DP.g z))),(5,.view 15 (DP.m z) (waa (DP.h z))),(6,.view 7 z2 z5),(8,.ptr 0 0),(20,.view 6 z3 z7),(21,.q (z3:Int)),(22,.q (k:Int)),(26,.view 7 z2 z5),(27,.q (z2:Int)),(28,.q ((j:Int)+1))] z1 1 [])=some (St.mk [(0,.view 15 (DP.n z) (waa (DP.g z))),(5,.view 15 (DP.m z) (waa (DP.h z))),(6,.view 7 z2 z5),(8,.ptr 0 0),(20,.view 6 z3 z7),(21,.q (z3:Int)),(22,.q (k:Int)),(26,.view 7 z2 z5),(27,.q (z2:Int)),(28,.q (i':Int))] z1 1 [])/\P i');wab (decide ((j:Int)<(z2:Int))) (((0:Int)<=(j:Int)/\(j:Int)<(z2:Int)/\7=7)/\wab (decide (z6.o=SL.o z4)) (wab (decide (z6.p=SL.p z4)) (wab (decide (z6.per=SL.per z4)) (R .ret (St.mk [(4,.bool false)] [] 0 [])) z0) z0) z0) (R (.exit 2) (St.mk [(0,.view 15 (DP.n z) (waa (DP.g z))),(5,.view 15 (DP.m z) (waa (DP.h z))),(6,.view 7 z2 z5),(20,.view 6 z3 z7),(21,.q (z3:Int)),(22,.q (k:Int))] [] 0 []))):=by kernel_rfl
theorem w02(z:DP)(k:Nat)(P:Nat->Prop)(R:eR7):wat ⟨te,[],[(8,woj z k)],0,67,0⟩ (wau Tryz.f5 5) [0,5,6,20,21,22] [0,5,6] [4] (wm1 z) P R (wm1 z k)=(letI z7:=atS (DP.q z) k;letI z6:=waa (DP.h z);letI z5:=waa (DP.g z);letI z4:=wb5 (DP.q z) (DP.pr z);letI z3:=was (atX (DP.l z));letI z2:=(atS (DP.q z) (k:Int).toNat);letI z1:=(DP.l z).length;letI z0:=(DP.q z).length;wab (decide ((k:Int)<(z0:Int))) (((0:Int)<=(k:Int)/\(k:Int)<(z0:Int)/\6=6)/\some (St.mk [(0,.view 15 (DP.n z) z5),(5,.view 15 (DP.m z) z6),(6,.view 7 z1 z3),(8,.ptr 0 0),(20,.view 6 z0 z4),(21,.q (z0:Int)),(22,.q (k:Int)),(26,.view 7 z1 z3),(27,.q (z1:Int)),(28,.q 0)] [(0,.cells [.str (SL.o z2),.str (SL.p z2),.q (SL.per z2),.bool false,.view 1 (lmN (DP.pr z z2)) (uRow (lmF (DP.pr z z2))),.nil] 41)] 1 [])=some (St.mk [(0,.view 15 (DP.n z) z5),(5,.view 15 (DP.m z) z6),(6,.view 7 z1 z3),(8,.ptr 0 0),(20,.view 6 z0 z4),(21,.q (z0:Int)),(22,.q (k:Int)),(26,.view 7 z1 z3),(27,.q (z1:Int)),(28,.q (↑0:Int))] [(0,.cells [.str (SL.o z7),.str (SL.p z7),.q (SL.per z7),.bool false,.view 1 (lmN (DP.pr z z7)) (uRow (lmF (DP.pr z z7))),.nil] 41)] 1 [])/\NoDp z/\k<(DP.q z).length/\inR .i64 ((k:Int)+1)/\∃(i':Nat),some (St.mk [(0,.view 15 (DP.n z) z5),(5,.view 15 (DP.m z) z6),(6,.view 7 z1 z3),(20,.view 6 z0 z4),(21,.q (z0:Int)),(22,.q ((k:Int)+1))] [] 0 [])=some (St.mk [(0,.view 15 (DP.n z) z5),(5,.view 15 (DP.m z) z6),(6,.view 7 z1 z3),(20,.view 6 z0 z4),(21,.q (z0:Int)),(22,.q (i':Int))] [] 0 [])/\P i') (R (.exit 0) (St.mk [(0,.view 15 (DP.n z) z5),(5,.view 15 (DP.m z) z6),(6,.view 7 z1 z3)] [] 0 []))):=by kernel_rfl
theorem nf_ldp(na:Nat)(ga:Nat->MG)(n:Nat)(v:Nat->Int)(R:oR7):wpFn te [(13,.det wlz),(14,.rel wnj),(17,.det wl7),(23,.det wfa),(25,.det wfa),(24,.det wls),(19,.det wne)] [(5,woi)] 0 Tryz.f5 [.view 15 na (waa ga),.view 1 n (waj v)] [] R=(26=26/\1=1/\waj v=waj (vInt (waj v))/\((0:Int)<=0/\(0:Int)<=4611686018427360000)/\∀(c:Nat) (g:Nat->MG) (a':Int),letI z3:=(c<=100000/\waa g=waa (mgOf (waa g))/\∀(i:Nat),i<c->MG.Sm (mgOf (waa g) i));letI z2:=wae (mgOf (waa g)) c;c<=24->(0:Int)<=a'/\a'<=0+120->(∀(j:Nat),j<c->StM (g j))->waa ga=waa (mgOf (waa ga))/\z3/\z3/\∃(z:DP),letI z5:=waa (DP.g z);letI z4:=waa (DP.h z);letI z1:=(DP.n z<=100000/\waa (DP.g z)=waa (mgOf z5)/\∀(i:Nat),i<DP.n z->MG.Sm (mgOf z5 i));letI z0:=dspV (wae (mgOf z5) (DP.n z));some (St.mk [(0,.view 15 (min na 12) (waa (cutV (mgOf (waa ga))))),(5,.view 15 c (waa g)),(6,.view 7 (dspV z2).length (was (atX (dspV z2)))),(20,.view 6 (obL z2).length (wb5 (obL z2) (obP z2))),(21,.q (↑(obL z2).length:Int)),(22,.q 0)] [] 0 [])=some (St.mk [(0,.view 15 (DP.n z) z5),(5,.view 15 (DP.m z) z4),(6,.view 7 (DP.l z).length (was (atX (DP.l z)))),(20,.view 6 (DP.q z).length (wb5 (DP.q z) (DP.pr z))),(21,.q (↑(DP.q z).length:Int)),(22,.q (↑0:Int))] [] 0 [])/\NoDp z/\(DP.m z<=100000/\waa (DP.h z)=waa (mgOf z4)/\∀(i:Nat),i<DP.m z->MG.Sm (mgOf z4 i))/\((DP.l z).length=(dspV (wae (mgOf z4) (DP.m z))).length/\was (atX (DP.l z))=was (atX (dspV (wae (mgOf z4) (DP.m z))))/\(DP.l z).length<=1000000/\was (atX (DP.l z))=was (vtOf (was (atX (DP.l z)))))/\z1/\z1/\(z0.length=z0.length/\was (atX z0)=was (atX z0)/\z0.length<=1000000/\was (atX z0)=was (vtOf (was (atX z0))))/\True/\R (.bool true) []):=by kernel_rfl
theorem w34(hP:C.P=Tryz.prog)(z:DP)(k:Nat):waf C 0 67 (wah Tryz.f5 8) (woj z k):=by
 have _:C.Loose:=inferInstance;rintro st Q ⟨h0,hN,hk,hQ⟩;obtain⟨hl,hq,hne⟩:=hN;refine waf.mk (prg hP) [] 0 .nil [0,5,6,8,20,21,22,26,27,28] [0,5,6,20,21,22] [4] (wm2 z k) (λj=>j<=z.l.length) (λj=>z.l.length - j) 0 (zL7 _) h0 (λj hj=>?_);rw[w03,tN7];refine wag (λh1=>⟨⟨by omega,by omega,rfl⟩,wag (λh2=>wag (λh3=>wag (λh4=>absurd ⟨h2,h3,h4⟩ (hne j (by omega) k hk)) (λh4=>⟨by simp only[inR];omega,j+1,rfl,by omega,by omega⟩)) (λh3=>⟨by simp only[inR];omega,j+1,rfl,by omega,by omega⟩)) (λh2=>⟨by simp only[inR];omega,j+1,rfl,by omega,by omega⟩)⟩) (λh1=>hQ)
theorem w33(hP:C.P=Tryz.prog):waf C 0 67 (wah Tryz.f5 5) woi:=by
 rintro st Q ⟨z,h0,hN,hQ⟩;have hN':=hN;obtain⟨hl,hq,hne⟩:=hN;refine waf.mkI (prg hP) [] (λk=>[(8,woj z k)]) 0 .nil (λk=>[(wah Tryz.f5 8,woj z k)]) (λk=>by kernel_rfl) (λk=>⟨w34 hP z k,trivial⟩) [0,5,6,20,21,22] [0,5,6] [4] (wm1 z) (λk=>k<=z.q.length) (λk=>z.q.length - k) 0 (zL7 _) h0 (λk hk=>?_);rw[w02,tN7];exact wag (λh1=>⟨⟨by omega,by omega,rfl⟩,rfl,hN',by omega,by simp only[inR];omega,k+1,rfl,by omega,by omega⟩) (λh1=>hQ)
theorem ldp_ok(hP:C.P=Tryz.prog)(hL:∀w,C.laid w->LaidW w)(na:Nat)(ga:Nat->MG)(n:Nat)(v:Nat->Int)(hd:∀i,i<na->(ga i).d.o.length<9223372036854775808/\(ga i).d.dev.length<9223372036854775808):ADet C 5 [.view 15 na (waa ga),.view 1 n (waj v)] [] (.bool true) []:=by
 refine wad.wpL (prg hP) [(13,.det wlz),(14,.rel wnj),(17,.det wl7),(23,.det wfa),(25,.det wfa),(24,.det wls),(19,.det wne)] [(5,woi)] 0 (.cons (wya hP) (.cons (ww2 hP) (.cons (obs_ok hP hL) (.cons (disp_ok hP hL) (.cons (rdi_ok hP) (.cons (svv_ok hP) (.cons (w47 hP hL) .nil))))))) (hP ▸ Tryz.func5) rfl rfl rfl [(wah Tryz.f5 5,woi)] (by kernel_rfl) ⟨w33 hP,trivial⟩ ?_;rw[nf_ldp];have hs:∀i,i<min na 12->(cutV ga i).Sm:=λi hi=>cutV_sm (hd i (by omega));have dl:∀(g:Nat->MG) (m:Nat),m<=1000->(dspV (wae g m)).length<=1000000:=λg m hm=>by
  have h1:=wen g m;have h2:=weg (wae g m);have h3:(dspV (wae g m)).length<=(visL (wae g m)).length:=wku _ _ _;omega
 refine⟨rfl,rfl,rfl,⟨by omega,by omega⟩,λc g a' hc ha hgm=>?_⟩;have hrl:=wen g c;have hol:=obL_len (wae g c);have hsg:∀j,j<c->(g j).Sm:=λj hj=>(hgm j hj).sm;refine⟨rfl,⟨by omega,rfl,hsg⟩,⟨by omega,rfl,hsg⟩,⟨cutV ga,min na 12,g,c,dspV (wae g c),obL (wae g c),obP (wae g c)⟩,rfl,⟨dl g c (by omega),by show (obL (wae g c)).length<=1000000;omega,λi hi k hk hh=>?_⟩,⟨by show c<=100000;omega,rfl,hsg⟩,⟨rfl,rfl,dl g c (by omega),rfl⟩,⟨by show min na 12<=100000;omega,rfl,hs⟩,⟨by show min na 12<=100000;omega,rfl,hs⟩,⟨rfl,rfl,dl (cutV ga) (min na 12) (by omega),rfl⟩,trivial,rfl,rfl⟩;have hi:i<(dspV (wae g c)).length:=hi;have hk:k<(obL (wae g c)).length:=hk;have hm:=atX_mem hi;rw[wu8,List.mem_map] at hm;obtain⟨s,hs1,hs2⟩:=hm;have hh:(atX (dspV (wae g c)) i).o=(atS (obL (wae g c)) k).o/\(atX (dspV (wae g c)) i).p=(atS (obL (wae g c)) k).p/\(atX (dspV (wae g c)) i).per=(atS (obL (wae g c)) k).per:=hh;rw[← wu8] at hs2;rw[← hs2] at hh;refine dsp_ob hs1 (wed hk) ?_;generalize atS (obL (wae g c)) k=y at *;obtain⟨e1,e2,e3⟩:=hh
 cases s;cases y;simp only[slV] at e1 e2 e3;subst e1;subst e2;subst e3;rfl
end Go.Eng
namespace Go.Eng
open Go.Proofs Go.RowKit Go.ChangeShapes Go.WideShapes Go.ChangeAt
theorem params_Bd:Tryz.f5.params=#[22,23]:=by kernel_rfl
set_option maxRecDepth 100000 in
theorem w2j(os:Os)(started:os.Started)(H:Type)(enc:TypeId×Value->H):
  ReturnsInHanded {} Tryz.checked os 5 .any (λw args=>(Go.Proofs.YtmcdngcjakjnmaaGreatDoor.Rows.visitDisputesSpec.pre enc Tryz.prog Tryz.f5 [] false w args/\laidMetH Tryz.prog Go.Proofs.YtmcdngcjakjnmaaGreatDoor.Rows.visitDisputesRow.laid w)/\sizedMet enc Tryz.prog Tryz.f5 (OpenSpec.ofChange Go.Proofs.YtmcdngcjakjnmaaGreatDoor.Rows.visitDisputesSpec) false w args)
   (Go.Proofs.YtmcdngcjakjnmaaGreatDoor.Rows.visitDisputesSpec.post enc Tryz.prog Tryz.f5 false true false false):=by
 refine w3a (C:=Tryz.checked) (X:=λw _=>laidMetH Tryz.prog Go.Proofs.YtmcdngcjakjnmaaGreatDoor.Rows.visitDisputesRow.laid w) (λ_ _ _ hh h=>h.of_heap hh) ownK started (by kernel_rfl) Tryz.func5
  (ChangeSpec.witness_at (enc:=enc) (C:=Tryz.checked) (os:=os) (X:=λw _=>laidMetH Tryz.prog Go.Proofs.YtmcdngcjakjnmaaGreatDoor.Rows.visitDisputesRow.laid w) false (wtt os) #[.slice none 0 0,.slice none 0 0] 8 rfl (by kernel_rfl) (by kernel_rfl) (by kernel_rfl) (by kernel_rfl) (by kernel_rfl) (w2p os _)) ?_
 intro W base args ds gs before hval0 hW hL hsh;have hval:∀(j:Nat) t v,Tryz.f5.params[j]?=some t->args[j]?=some v->Value.okWide Tryz.prog W .any base t v:=hval0;have hW':=hW;obtain⟨p,q,hA0,hV,rfl,hfz,hnd⟩:=hW;have hA:DataW.TrodAll enc Tryz.prog W 0 (λ_=>true) true Tryz.f5.params.toList args.toList ds p:=hA0;rw[params_Bd] at hA hval;obtain⟨v0,vs0,d0,ds0,p0,q0,hargs,rfl,rfl,h0,r0⟩:=trodAll_cons hA;obtain⟨v1,vs1,d1,ds1,p1,q1,rfl,rfl,rfl,h1,r1⟩:=trodAll_cons r0;obtain⟨rfl,rfl,rfl⟩:=trodAll_nil r1;obtain rfl:args=#[v0,v1]:=by cases args;simp_all
 obtain⟨rfl,rfl⟩:=trodVars_none hV;obtain⟨a0,len0,cap0,rfl⟩:=okWide_slice undMs (hval 0 22 v0 rfl rfl);obtain⟨a1,len1,cap1,rfl⟩:=okWide_slice undIs (hval 1 23 v1 rfl rfl);have k0:=h0;have k1:=h1;have lt0:∀x∈p0,x.block<W.heap.size:=by obtain⟨m,hm⟩:=k0;exact DataW.trod_lt m _ _ _ hm
 have lt1:∀x∈p1,x.block<W.heap.size:=by obtain⟨m,hm⟩:=k1;exact DataW.trod_lt m _ _ _ hm
 obtain⟨m0,hm0⟩:=h0;obtain⟨m1,hm1⟩:=h1;obtain⟨A0,n0,c0,w0,e0,V0,D0⟩:=wx5 hm0;have e0:[Value.slice a0 len0 cap0]=[Value.slice A0 n0 c0]:=e0;simp only[List.cons.injEq,and_true] at e0;rw[← e0] at V0;obtain⟨A1,n1,c1,w1,e1,V1⟩:=wx7 hm1;have e1:[Value.slice a1 len1 cap1]=[Value.slice A1 n1 c1]:=e1;simp only[List.cons.injEq,and_true] at e1;rw[← e1] at V1;have lw:=w2q hL hsh;refine(ADet.top (C:=cx) (ldp_ok rfl (λ_ h=>h) n0 w0 n1 w1 D0) lw (gsz_le lw) (cargs:=[.slice a0 len0 cap0,.slice a1 len1 cap1]) rfl (λj x u hx hu=>?_)).mono λe W' ⟨he,bel⟩=>?_
 ·match j with
  |0=>obtain rfl:=Option.some.inj hx;obtain rfl:=Option.some.inj hu;exact V0
  |1=>obtain rfl:=Option.some.inj hx;obtain rfl:=Option.some.inj hu;exact V1
  |j+2=>simp at hx
 ·subst he;exact⟨_,rfl,_,_,_,[],_,[],hW',trodAll_mk1 (shut_bool (show Tryz.prog.underlying 4=some .bool by kernel_rfl) _),(trodAll_cons_mk (Below.trod wp2 (by kernel_rfl) (of_decide_eq_true (by kernel_rfl)) k0 bel lt0) (trodAll_cons_mk (Below.trod wp2 (by kernel_rfl) (of_decide_eq_true (by kernel_rfl)) k1 bel lt1) trodAll_mk0)),rfl,bel.frame _,λh=>by cases h⟩
set_option maxRecDepth 100000 in
theorem over_Bd:Go.Proofs.YtmcdngcjakjnmaaGreatDoor.Rows.visitDisputesRow.holds Go.Proofs.YtmcdngcjakjnmaaGreatDoor.Tryz.pinned (OpenSpec.ofChange Go.Proofs.YtmcdngcjakjnmaaGreatDoor.Rows.visitDisputesSpec):=
 OpenClaim.holds_of_wide 5 Tryz.f5 rfl rfl rfl rfl rfl rfl rfl ⟨rfl,rfl,rfl,rfl,rfl⟩ rfl rfl rfl rfl rfl (by kernel_rfl) Tryz.func5 w4g
  inst_Bd (by unfold Func.isWrapper;rw[if_neg (of_decide_eq_false (by kernel_rfl))];exact⟨rfl,rfl⟩)
  (λos started H enc _=>w2j os started H enc)
end Go.Eng
namespace Go.Proofs.YtmcdngcjakjnmaaGreatDoor
open Go
def harB : Bool × String := (true, "45df5a8c9ecb56705658ebb30df4076f5d25be7071adf32bdc6d321a36dc9da9")
set_option maxRecDepth 100000 in
theorem mainB:Tryz.prog.mainIs=some (harB.1,harB.2.toList):=by kernel_rfl
set_option maxRecDepth 100000 in
theorem looksB:true=Tryz.prog.looks []:=by kernel_rfl
end Go.Proofs.YtmcdngcjakjnmaaGreatDoor
namespace Go.Proofs.YtmcdngcjakjnmaaGreatDoor
open Go
set_option maxRecDepth 100000 in
theorem wf_Bd:Rows.visitDisputesRow.wfByText (OpenSpec.ofChange Rows.visitDisputesSpec)=true:=by kernel_rfl
set_option maxRecDepth 100000 in
theorem goes_Bd:false=Rows.visitDisputesRow.goesBy Tryz.prog:=by kernel_rfl
theorem w1s : Tryz.prog.funcNamed "priceoffice/priceofficelaw12.VisitDisputes" = some 5 := by kernel_rfl
theorem ww4:Tryz.prog.wantsStandIn 22=false:=by kernel_rfl
theorem ww3:Tryz.prog.wantsStandIn 23=false:=by kernel_rfl
theorem card_Bd:Rows.VisitDisputesCardSaid:=
 Claim7.holds_tied_plain_at .later [] [.data,.data,.data,.data,.sentinel,.sentinel,.pinned] true harB true
  Go.Eng.over_Bd (λ_ h=>by cases h) wf_Bd (λ_ h=>by cases h) visitDisputes_row_tie rfl ⟨rfl,rfl⟩ mainB rfl
  (λf fn hf hfn=>by
   obtain rfl:f=5:=Option.some.inj (w1s.symm.trans hf) |>.symm;obtain rfl:fn=Tryz.f5:=(Option.some.inj (Tryz.func5.symm.trans hfn)).symm;exact⟨looksB,λj t ht=>by
    rw[Go.Eng.params_Bd] at ht;have h3:t=22∨t=23:=by
     rcases j with _ | _ | j
     ·exact .inl (by simpa using ht.symm)
     ·exact .inr ((by simpa using ht.symm))
     ·simp at ht
    rcases h3 with rfl | rfl
    ·exact ww4
    ·exact ww3⟩)
  goes_Bd
end Go.Proofs.YtmcdngcjakjnmaaGreatDoor
