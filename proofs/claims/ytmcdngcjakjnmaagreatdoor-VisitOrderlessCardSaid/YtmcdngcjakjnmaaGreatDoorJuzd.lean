/- The tied card of VisitOrderless: its statement is 'VisitOrderlessCardSaid' of the given cards. -/
import Derived.Test.YtmcdngcjakjnmaaGreatDoorJuzc
import Derived.Test.YtmcdngcjakjnmaaGreatDoorJuo
import Derived.Test.YtmcdngcjakjnmaaGreatDoorCards
import Derived.Test.YtmcdngcjakjnmaaGreatDoorTie
import Derived.SevenTiedAt
namespace Go.Eng
open Go.Proofs Go.RowKit
variable {C:Ctx} [C.Loose]
set_option maxRecDepth 20000
set_option maxHeartbeats 4000000
theorem nf_aw12(R:oR7):wpFn te [(17,.det wlm),(22,.det wex),(21,.det wgj)] [] 0 Tryz.f19 [] [] R=(letI z2:=((0:Int)<=0/\(0:Int)<(↑1:Int)/\6=6:Prop);letI z0:=(wau 15 (.str [(97:UInt8)]:: .q 1:: .q 1:: .str [(111:UInt8),49]:: .str [(57:UInt8),54,51,56,53,48,55,52]:: .q 5:: .q 160:: .q 1:: .q 100:: .str []:: .str []:: .str []:: .q 0:: .str []:: .q 0::List.append [] wbo));letI z1:=(lmF (obP (wah (mgOf z0) 1) (atS (obL (wah (mgOf z0) 1)) (0:Int).toNat)));(15<=16777216/\15=15/\1<=9223372036854775807)/\(∀(i:Nat),i<1->nrefL (wau 15 (.str [(97:UInt8)]:: .q 1:: .q 1:: .str [(111:UInt8),49]:: .str [(57:UInt8),54,51,56,53,48,55,52]:: .q 5:: .q 160:: .q 1:: .q 100:: .str []:: .str []:: .str []:: .q 0:: .str []:: .q 0::List.append [] wbo) i)=true)/\(1=1/\1<=100000/\RM z0 1)/\z2/\z2/\((0:Int)<=100/\(100:Int)<9223372036854775808)/\(1<=1000/\1<=1000/\uRow z1=uRow (uOf (uRow z1))/\uRow (lmF (100:Int))=uRow (uOf (uRow (lmF (100:Int)))))/\R (.bool true) []):=by kernel_rfl
theorem w0i(hP:C.P=Tryz.prog):wa8 C 15 wm0:=by
 rintro args objs R h;unfold wm0 at h;split at h
 ·obtain⟨rfl,rfl,hf,ha,hm,hR⟩:=h;refine wat.frzO 1 (msgs_ok hP _ _ _ ⟨rfl,rfl,hf,ha,hm,λc g a' h1 h2 h3=>⟨λ_ _=>rfl,?_⟩⟩);have hb:Nat.ble c c=true:=Nat.ble_eq_true_of_le (lR7 _);have e:frzC 1 15 c (waa g) (.own 1 c)= .view 15 c (waa g):=by simp[frzC,frzA,frz,hb]
  rw[e];exact hR c g a' h1 h2 h3
 ·exact h.elim
theorem obsO_ok(hP:C.P=Tryz.prog)(hL:∀w,C.laid w->LaidW w):wae C 17 wlm:=by
 rintro args objs U Os vc h hvc;unfold wlm at h;split at h<;>cases h;rename_i n t m f fr;obtain⟨rfl,hn,⟨hf,hs⟩⟩:=hvc;refine wat.rowEq 0 (f':=waa (mgOf f)) rfl (λi hi=>(hf i hi).symm) ?_;have hb:Nat.ble n n=true:=Nat.ble_eq_true_of_le (lR7 _);exact ADet.give (obs_ok hP hL [.view 15 n (waa (mgOf f))] [] _ _ _ rfl ⟨hn,rfl,hs⟩) (by simp[frzC,frzA,frz,hb]) rfl rfl (λ_ _=>rfl)
theorem w3p(hP:C.P=Tryz.prog)(hL:∀w,C.laid w->LaidW w):wae C 19 wmq:=by
 rintro args objs U Os vc h hvc;unfold wmq at h;split at h<;>cases h;refine wae.wp0 (prg hP) [(17,.det wlm),(22,.det wex),(21,.det wgj)] 0 (.cons (obsO_ok hP hL) (.cons (ww5 hP) (.cons (wrg hP) .nil))) (hP ▸ Tryz.func19) rfl rfl rfl ?_;rw[nf_aw12];generalize hf:wau _ _=f;have f0:f 0=waa (atM [awM]) 0:=by rw[← hf];rfl
 have one:∀ {p:Nat->Prop},p 0->∀i,i<1->p i:=λh0 i hi=>by
  match i,hi with
  |0,_=>exact h0
 have r0:mgOf f 0=atM [awM] 0:=by unfold mgOf;rw[f0];rfl
 exact⟨⟨by omega,rfl,by omega⟩,one (by rw[f0];rfl),⟨rfl,by omega,⟨one (by show f 0=mgC (mgOf f 0);rw[r0,f0];rfl),one (by rw[r0];exact⟨by decide,by decide,by decide,by decide⟩)⟩⟩,⟨by omega,by omega,rfl⟩,⟨by omega,by omega,rfl⟩,⟨by omega,by omega⟩,⟨by omega,by omega,rfl,rfl⟩,rfl,rfl⟩
theorem obL_len(R:List MG):(obL R).length<=2 * R.length:=by
 have h1:=obU_len R;have h2:=wdt R;have h3:=wok R;have h4:=List.length_filter_le (λt=>decide (0<obP R t)) (obU R);unfold obL;omega
theorem lmN_le(v:Int):lmN v<=2:=wjf _ 2
theorem StM.sm{m:MG}(h:StM m):m.Sm:=by
 have h1:=h.dev;have h2:m.v.o.length=2:=by rw[h.o];rfl
 have h3:m.d.o.length=0:=by rw[h.d];rfl
 have h4:m.d.dev.length=0:=by rw[h.d];rfl
 exact⟨by omega,by omega,by omega,by omega⟩
theorem w00{m:MG}(h:m.Made):m.Sm:=⟨by have:=h.dev;omega,by have:=h.o;omega,by have:=h.o';omega,by have:=h.dd;omega⟩
theorem wy7(n:Nat)(v:Nat->Int)(g:Nat->MG)(N:Nat)(i:OJr)(P:OJr->Prop)(R:eR7):wav ⟨te,[(30,.det wb1)],[],0,69,0⟩ (wax Tryz.f8 5) [3,4,5,16,17] [4,5] [] (wlv n v g N) P R (wlv n v g N i)=(letI z6:=(15<=16777216/\15=15/\1<=9223372036854775807:Prop);letI z5:=(OJr.a i+1);letI z4:=vInt (wad v);letI z3:=(↑(OJr.k i):Int);letI z7:=(z3+1);letI z1:=(g (wag n z4 z5 (N:Int)).toNat);letI z0:=(g ((N:Int) - (1:Int) - z3).toNat);letI z2:=apF (OJr.c i) (waa (OJr.h i)) (wau 15 (.str z0.dev:: .q z0.seq:: .q z0.kind:: .str z0.v.o:: .str z0.v.p:: .q z0.v.per:: .q z0.v.day:: .q z0.v.st:: .q z0.v.pr:: .str z0.v.rep:: .str z0.d.o:: .str z0.d.p:: .q z0.d.per:: .str z0.d.dev:: .q z0.d.num::List.append [] wbo));wab (decide (z3<(N:Int))) (inR .i64 ((N:Int) - (1:Int))/\inR .i64 ((N:Int) - (1:Int) - z3)/\((0:Int)<=(N:Int) - (1:Int) - z3/\(N:Int) - (1:Int) - z3<(N:Int))/\(((N:Int) - (1:Int) - z3).toNat<N/\15=15)/\z6/\((1<=1/\15=15)/\OJr.c i<=OJr.c i/\15=15/\47=47/\15=15/\OJr.c i+1<=9223372036854775807/\(OJr.c i+1) * 176<=140737488355328)/\(26=26/\1=1/\wad v=wad z4/\((1:Int)<=3/\(3:Int)<=1000000)/\(0:Int)<=OJr.a i/\OJr.a i<=4611686018427387904)/\wab (decide (wag n z4 (OJr.a i) (3:Int)=0)) ((26=26/\1=1/\wad v=wad z4/\((1:Int)<=(N:Int)/\(N:Int)<=1000000)/\(0:Int)<=OJr.a i+1/\OJr.a i+1<=4611686018427387904)/\((0:Int)<=wag n z4 z5 (N:Int)/\wag n z4 z5 (N:Int)<(N:Int))/\((wag n z4 z5 (N:Int)).toNat<N/\15=15)/\z6/\((1<=1/\15=15)/\OJr.c i+1<=OJr.c i+1/\15=15/\47=47/\15=15/\OJr.c i+1+1<=9223372036854775807/\(OJr.c i+1+1) * 176<=140737488355328)/\inR .i64 z7/\∃(i':OJr),(TEq [(3,.ptr 0 0),(4,.own 1 N),(5,.own 2 (OJr.c i+1+1)),(16,.q (N:Int)),(17,.q z7)] [(3,.ptr 0 0),(4,.own 1 N),(5,.own 2 (OJr.c i')),(16,.q (N:Int)),(17,.q (↑(OJr.k i'):Int))]/\wac [(0,.cells [.view 1 n (wad v),.q (OJr.a i+1+1)] 26),(1,.row 47 15 N (waa g) false),(2,.row 47 15 (OJr.c i+1+1) (apF (OJr.c i+1) z2 (wau 15 (.str z1.dev:: .q z1.seq:: .q z1.kind:: .str z1.v.o:: .str z1.v.p:: .q z1.v.per:: .q z1.v.day:: .q z1.v.st:: .q z1.v.pr:: .str z1.v.rep:: .str z1.d.o:: .str z1.d.p:: .q z1.d.per:: .str z1.d.dev:: .q z1.d.num::List.append [] wbo))) false)] [(0,.cells [.view 1 n (wad v),.q (OJr.a i')] 26),(1,.row 47 15 N (waa g) false),(2,.row 47 15 (OJr.c i') (waa (OJr.h i')) false)])/\P i') (inR .i64 z7/\∃(i':OJr),(TEq [(3,.ptr 0 0),(4,.own 1 N),(5,.own 2 (OJr.c i+1)),(16,.q (N:Int)),(17,.q z7)] [(3,.ptr 0 0),(4,.own 1 N),(5,.own 2 (OJr.c i')),(16,.q (N:Int)),(17,.q (↑(OJr.k i'):Int))]/\wac [(0,.cells [.view 1 n (wad v),.q z5] 26),(1,.row 47 15 N (waa g) false),(2,.row 47 15 (OJr.c i+1) z2 false)] [(0,.cells [.view 1 n (wad v),.q (OJr.a i')] 26),(1,.row 47 15 N (waa g) false),(2,.row 47 15 (OJr.c i') (waa (OJr.h i')) false)])/\P i')) ((∀(i:Nat),i<N->true=true)/\(∀(i_1:Nat),i_1<OJr.c i->true=true)/\∃(O':oL7),wac [(0,.row 47 15 N (waa g) false),(1,.row 47 15 (OJr.c i) (waa (OJr.h i)) false)] O'/\R (.exit 0) (St.mk [(4,.own 0 N),(5,.own 1 (OJr.c i))] O' 2 []))):=by kernel_rfl
theorem nf_lord(n:Nat)(v:Nat->Int)(R:oR7):wpFn te [(14,.rel wmx),(15,.rel wm0),(17,.det wln),(16,.det wld),(23,.det wmf),(24,.det wlc),(27,.det S_id),(26,.det wms),(19,.det wmq)] [(5,wnj n v)] 0 Tryz.f8 [.view 1 n (wad v)] [] R=(letI z7:=((48:Int)+(cdF (id7 (0:Int))).1).toNat;letI z3:=(idV (0:Int));26=26/\1=1/\wad v=wad (vInt (wad v))/\((0:Int)<=0/\(0:Int)<=4611686018427360000)/\∀(c:Nat) (g:Nat->MG) (a':Int),c<=24->(0:Int)<=a'/\a'<=0+120->(∀(j:Nat),j<c->StM (g j))->(∀(i:Nat),i<c->true=true)/\26=26/\1=1/\wad v=wad (vInt (wad v))/\((0:Int)<=a'/\a'<=4611686018427370000)/\((0:Int)<=5/\(5:Int)<=90)/\∀(c_1:Nat) (g_1:Nat->MG) (a'_1:Int),c_1<=(5:Int).toNat->a'<=a'_1/\a'_1<=a'+1000->(∀(j:Nat),j<c_1->MG.Made (g_1 j))->(15=15/\c<=c/\15=15/\47=47/\15=15/\c+c_1<=9223372036854775807/\(c+c_1) * 176<=140737488355328)/\∃(N:Nat),∃(g_2:Nat->MG),letI z4:=(N<=100000/\waa g_2=waa (mgOf (waa g_2))/\∀(i:Nat),i<N->MG.Sm (mgOf (waa g_2) i));letI z2:=wah (mgOf (waa g_2)) N;letI z0:=(serL z2 ([(111:UInt8),49]) [(λ(i:Nat)=>UInt8.ofNat (wam (List.headD (waw z3 i) .any)).toNat) (nat_lit 0),(λ(i:Nat)=>UInt8.ofNat (wam (List.headD (waw z3 i) .any)).toNat) (nat_lit 1),(λ(i:Nat)=>UInt8.ofNat (wam (List.headD (waw z3 i) .any)).toNat) (nat_lit 2),(λ(i:Nat)=>UInt8.ofNat (wam (List.headD (waw z3 i) .any)).toNat) (nat_lit 3),(λ(i:Nat)=>UInt8.ofNat (wam (List.headD (waw z3 i) .any)).toNat) (nat_lit 4),(λ(i:Nat)=>UInt8.ofNat (wam (List.headD (waw z3 i) .any)).toNat) (nat_lit 5),(λ(i:Nat)=>UInt8.ofNat (wam (List.headD (waw z3 i) .any)).toNat) (nat_lit 6),UInt8.ofNat z7]);∃(a:Int),letI z8:=(OJr.mk 0 0 (λ(_x:Nat)=>default) a);(TEq [(3,.ptr 0 0),(4,.own 1 (c+c_1)),(5,.own 2 0),(16,.q (↑(c+c_1):Int)),(17,.q 0)] [(3,.ptr 0 0),(4,.own 1 N),(5,.own 2 0),(16,.q (N:Int)),(17,.q (↑(OJr.k z8):Int))]/\wac [(0,.cells [.view 1 n (wad v),.q a'_1] 26),(1,.row 47 15 (c+c_1) (apF c (waa g) (waa g_1)) false),(2,.row 47 15 0 (λ(_x:Nat)=>[]) false)] [(0,.cells [.view 1 n (wad v),.q (OJr.a z8)] 26),(1,.row 47 15 N (waa g_2) false),(2,.row 47 15 0 (waa (OJr.h z8)) false)])/\N<=100/\((0:Int)<=a/\a<=4611686018427380000)/\∀(c:Nat) (h:Nat->MG),letI z6:=wah (mgOf (waa h)) c;letI z5:=(c<=100000/\waa h=waa (mgOf (waa h))/\∀(i:Nat),i<c->MG.Sm (mgOf (waa h) i));letI z1:=(serL z6 ([(111:UInt8),49]) [(λ(i:Nat)=>UInt8.ofNat (wam (List.headD (waw z3 i) .any)).toNat) (nat_lit 0),(λ(i:Nat)=>UInt8.ofNat (wam (List.headD (waw z3 i) .any)).toNat) (nat_lit 1),(λ(i:Nat)=>UInt8.ofNat (wam (List.headD (waw z3 i) .any)).toNat) (nat_lit 2),(λ(i:Nat)=>UInt8.ofNat (wam (List.headD (waw z3 i) .any)).toNat) (nat_lit 3),(λ(i:Nat)=>UInt8.ofNat (wam (List.headD (waw z3 i) .any)).toNat) (nat_lit 4),(λ(i:Nat)=>UInt8.ofNat (wam (List.headD (waw z3 i) .any)).toNat) (nat_lit 5),(λ(i:Nat)=>UInt8.ofNat (wam (List.headD (waw z3 i) .any)).toNat) (nat_lit 6),UInt8.ofNat z7]);c<=200->(∀(x:MG),x∈lst h c↔x∈lst g_2 N)->z4/\z5/\((obL z2).length=(obL z6).length/\wck (obL z2) (obP z2)=wck (obL z6) (obP z6)/\(obL z2).length<=1000000/\wck (obL z2) (obP z2)=wcj (whd (wck (obL z2) (obP z2)))/\∀(i:Nat),i<(obL z2).length->(whd (wck (obL z2) (obP z2)) i).n<=1000)/\z4/\z5/\((dspV z2).length=(dspV z6).length/\was (atX (dspV z2))=was (atX (dspV z6))/\(dspV z2).length<=1000000/\was (atX (dspV z2))=was (vtOf (was (atX (dspV z2)))))/\True/\z4/\True/\z5/\(z0.length=z1.length/\was (atX z0)=was (atX z1)/\(serL z2 ([(111:UInt8),49]) [UInt8.ofNat (wam (List.headD (waw z3 (nat_lit 0)) .any)).toNat,UInt8.ofNat (wam (List.headD (waw z3 (nat_lit 1)) .any)).toNat,UInt8.ofNat (wam (List.headD (waw z3 (nat_lit 2)) .any)).toNat,UInt8.ofNat (wam (List.headD (waw z3 (nat_lit 3)) .any)).toNat,UInt8.ofNat (wam (List.headD (waw z3 (nat_lit 4)) .any)).toNat,UInt8.ofNat (wam (List.headD (waw z3 (nat_lit 5)) .any)).toNat,UInt8.ofNat (wam (List.headD (waw z3 (nat_lit 6)) .any)).toNat,UInt8.ofNat z7]).length<=1000000/\was (atX z0)=was (vtOf (was (atX z0))))/\True/\R (.bool true) []):=by kernel_rfl
theorem w0r(g:Nat->MG)(c:Nat)(r1 r2:MG)(ch1 ch2:Nat->List AV)(h1:ch1 0=mgC r1)(h2:ch2 0=mgC r2)(j:Nat)(hj:j<c+1+1):apF (c+1) (apF c (waa g) ch1) ch2 j=waa (MG.put (MG.put g c r1) (c+1) r2) j:=by
 rw[← wf0 (MG.put g c r1) (c+1) r2 ch2 h2 j hj]
 by_cases h:j<c+1
 ·unfold apF;rw[if_pos h,if_pos h];exact wf0 g c r1 ch1 h1 j h
 ·unfold apF;rw[if_neg h,if_neg h]
theorem putIn{g h:Nat->MG}{N c q0:Nat}(h4:∀j,j<c->∃q,q<N/\g q=h j)(hq:q0<N):∀j,j<c+1->∃q,q<N/\g q=MG.put h c (g q0) j:=λj hj=>by
 unfold MG.put
 by_cases w:j<c
 ·rw[if_pos w];exact h4 j w
 ·rw[if_neg w];exact⟨q0,hq,rfl⟩
theorem putHas{h:Nat->MG}{c:Nat}{m y:MG}(e:∃j,j<c/\h j=y):∃j,j<c+1/\MG.put h c m j=y:=by
 obtain⟨j,hj,e⟩:=e;exact⟨j,by omega,by unfold MG.put;rw[if_pos hj];exact e⟩
theorem putNew(h:Nat->MG)(c:Nat)(m:MG):∃j,j<c+1/\MG.put h c m j=m:=
 ⟨c,by omega,by unfold MG.put;rw[if_neg (Nat.lt_irrefl c)]⟩
theorem w02(hP:C.P=Tryz.prog)(n:Nat)(v:Nat->Int):wai C 0 69 (wak Tryz.f8 5) (wnj n v):=by
 rintro st Q ⟨N,g,a,h0,hN,ha,hQ⟩;refine AWP.ownNil 5 47 15 (AWP.frzQ 1 (AWP.frzQ 0 ?_))
 refine wai.mk (prg hP) [(30,.det wb1)] 0 (.cons (wee hP) .nil) [3,4,5,16,17] [4,5] [] (wlv n v g N) (λi=>i.k<=N/\i.c<=2 * i.k/\(a<=i.a/\i.a<=a+2 * i.k)/\(∀j,j<i.c->∃q,q<N/\g q=i.h j)/\∀q,q<i.k->∃j,j<i.c/\i.h j=g (N - 1 - q)) (λi=>N - i.k) ⟨0,0,λ_=>default,a⟩
  ⟨zL7 _,zL7 _,by show a<=a/\a<=a+2 * ((0:Nat):Int);omega,λj hj=>absurd hj (nZ7 j),λq hq=>absurd hq (nZ7 q)⟩ h0 (λi hi=>?_) (λi=>⟨λ_ _=>rfl,λ_ _=>rfl,trivial⟩)
 obtain⟨k,c,h,b⟩:=i;obtain⟨h1,h2,h3,h4,h5⟩:=hi;have hw:vInt (wad v)=v:=rfl;rw[wy7,hw];have h1:k<=N:=h1;have h2:c<=2 * k:=h2;have h3:a<=b/\b<=a+2 * (k:Int):=h3;have h4:∀j,j<c->∃q,q<N/\g q=h j:=h4;have h5:∀q,q<k->∃j,j<c/\h j=g (N - 1 - q):=h5;dsimp only
 refine waj (λw=>?_) (λw=>?_)
 ·have e1:Int.toNat ((N:Int) - 1 - (k:Int))=N - 1 - k:=by omega
  rw[e1];have r2:=wbp (show (1:Int)<=(N:Int) by omega) n v (b+1);obtain⟨p,hp⟩:∃p:Nat,wag n v (b+1) (N:Int)=(p:Int):=⟨(wag n v (b+1) (N:Int)).toNat,by omega⟩;rw[hp] at r2;rw[hp,tN7];have hq0:N - 1 - k<N:=by omega
  have hpN:p<N:=by omega
  have i4:=putIn h4 hq0;have i5:∀q,q<k+1->∃j,j<c+1/\MG.put h c (g (N - 1 - k)) j=g (N - 1 - q):=λq hq=>by
   by_cases e:q<k
   ·exact putHas (h5 q e)
   ·have:q=k:=by omega
    subst this;exact putNew h c _
  refine⟨by simp only[inR];omega,by simp only[inR];omega,⟨by omega,by omega⟩,⟨hq0,rfl⟩,⟨by omega,rfl,by omega⟩,⟨⟨lR7 _,rfl⟩,lR7 _,rfl,rfl,rfl,by omega,by omega⟩,⟨rfl,rfl,rfl,⟨by omega,by omega⟩,by omega,by omega⟩,waj (λ_=>?_) (λ_=>?_)⟩
  ·refine⟨⟨rfl,rfl,rfl,⟨by omega,by omega⟩,by omega,by omega⟩,⟨by omega,by omega⟩,⟨hpN,rfl⟩,⟨by omega,rfl,by omega⟩,⟨⟨lR7 _,rfl⟩,lR7 _,rfl,rfl,rfl,by omega,by omega⟩,by simp only[inR];omega,⟨k+1,c+1+1,MG.put (MG.put h c (g (N - 1 - k))) (c+1) (g p),b+1+1⟩,⟨rfl,rfl,rQ7,⟨rfl,rfl,rfl,rfl,rfl,λj hj=>w0r h c (g (N - 1 - k)) (g p) _ _ rfl rfl j hj⟩,trivial⟩,⟨by show k+1<=N;omega,by show c+1+1<=2 * (k+1);omega,by show a<=b+1+1/\b+1+1<=a+2 * ((k+1:Nat):Int);omega,putIn i4 hpN,λq hq=>putHas (i5 q hq)⟩,by show N - (k+1)<N - k;omega⟩
  ·exact⟨by simp only[inR];omega,⟨k+1,c+1,MG.put h c (g (N - 1 - k)),b+1⟩,⟨rfl,rfl,rQ7,⟨rfl,rfl,rfl,rfl,rfl,λj hj=>wf0 h c (g (N - 1 - k)) _ rfl j hj⟩,trivial⟩,⟨by show k+1<=N;omega,by show c+1<=2 * (k+1);omega,by show a<=b+1/\b+1<=a+2 * ((k+1:Nat):Int);omega,i4,i5⟩,by show N - (k+1)<N - k;omega⟩
 ·have hkN:k=N:=by omega
  rw[hkN] at h5 h2;refine⟨λ_ _=>rfl,λ_ _=>rfl,_,wa1 _,λ_ _=>rfl,?_⟩;have hb1:Nat.ble N N=true:=Nat.ble_eq_true_of_le (lR7 _);have hb2:Nat.ble c c=true:=Nat.ble_eq_true_of_le (lR7 _);have e0:whv 0 ⟨[(4,.own 0 N),(5,.own 1 c)],[(0,.row 47 15 N (waa g) false),(1,.row 47 15 c (waa h) false)],2,[]⟩=⟨[(4,.view 15 N (waa g)),(5,.own 1 c)],[(1,.row 47 15 c (waa h) false)],2,[]⟩:=by
   show (⟨[(4,frz 0 15 N (waa g) (.own 0 N)),_],_,2,[]⟩:St)=_;simp only[frz,hb1];rfl
  have e1:whv 1 ⟨[(4,.view 15 N (waa g)),(5,.own 1 c)],[(1,.row 47 15 c (waa h) false)],2,[]⟩=⟨[(4,.view 15 N (waa g)),(5,.view 15 c (waa h))],[],2,[]⟩:=by
   show (⟨[_,(5,frz 1 15 c (waa h) (.own 1 c))],_,2,[]⟩:St)=_;simp only[frz,hb2];rfl
  rw[e0];refine⟨λ_ _=>rfl,?_⟩;rw[e1];refine hQ c h (by omega) λx=>⟨λhx=>?_,λhx=>?_⟩
  ·obtain⟨j,hj,rfl⟩:=List.mem_map.1 hx;obtain⟨q,hq,e⟩:=h4 j (List.mem_range.1 hj);exact List.mem_map.2 ⟨q,List.mem_range.2 hq,e⟩
  ·obtain⟨q,hq,rfl⟩:=List.mem_map.1 hx;have hq:=List.mem_range.1 hq;obtain⟨j,hj,e⟩:=h5 (N - 1 - q) (by omega);rw[show N - 1 - (N - 1 - q)=q by omega] at e;exact List.mem_map.2 ⟨j,List.mem_range.2 hj,e⟩
theorem lord_ok(hP:C.P=Tryz.prog)(hL:∀w,C.laid w->LaidW w)(n:Nat)(v:Nat->Int):ADet C 8 [.view 1 n (wad v)] [] (.bool true) []:=by
 refine wae.wpL (prg hP) [(14,.rel wmx),(15,.rel wm0),(17,.det wln),(16,.det wld),(23,.det wmf),(24,.det wlc),(27,.det S_id),(26,.det wms),(19,.det wmq)] [(5,wnj n v)] 0 (.cons (wv9 hP) (.cons (w0i hP) (.cons (obs_ok hP hL) (.cons (so_ok hP) (.cons (disp_ok hP hL) (.cons (svv_ok hP) (.cons (wjs hP) (.cons (Ser_ok hP hL) (.cons (w3p hP hL) .nil))))))))) (hP ▸ Tryz.func8) rfl rfl rfl [(wak Tryz.f8 5,wnj n v)] (by kernel_rfl) ⟨w02 hP n v,trivial⟩ ?_;rw[nf_lord];refine⟨rfl,rfl,rfl,⟨by omega,by omega⟩,λc g a' hc ha hgm=>⟨λ_ _=>rfl,rfl,rfl,rfl,⟨by omega,by omega⟩,⟨by omega,by omega⟩,λc1 g1 a1 hc1 ha1 hg1=>?_⟩⟩;have hc1:c1<=5:=hc1;have hsm:∀i,i<c+c1->(apG g c g1 i).Sm:=λi hi=>by
  unfold apG
  by_cases w:i<c
  ·rw[if_pos w];exact(hgm i w).sm
  ·rw[if_neg w];exact w00 (hg1 _ (by omega))
 refine⟨⟨rfl,by omega,rfl,rfl,rfl,by omega,by omega⟩,c+c1,apG g c g1,a1,⟨rfl,rfl,⟨rfl,rfl,rfl,rfl,rfl,λj hj=>?_⟩,⟨rfl,rfl,rfl,rfl,rfl,λj hj=>absurd hj (nZ7 j)⟩,trivial⟩,by omega,⟨by omega,by omega⟩,λk h hk hm=>?_⟩
 ·show apF c (waa g) (waa g1) j=mgC (apG g c g1 j);unfold apF apG
  by_cases w:j<c
  ·rw[if_pos w,if_pos w];rfl
  ·rw[if_neg w,if_neg w];rfl
 generalize apG g c g1=G at *;have hsh:∀i,i<k->(h i).Sm:=λi hi=>by
  have:h i∈lst G (c+c1):=(hm _).1 (List.mem_map.2 ⟨i,List.mem_range.2 hi,rfl⟩);obtain⟨q,hq,e⟩:=List.mem_map.1 this;rw[← e];exact hsm q (List.mem_range.1 hq)
 have hg:∀g:Nat->MG,mgOf (waa g)=g:=λ_=>rfl;simp only[hg];rw[ww1 hm];have hrl:=wof G (c+c1);have hol:=obL_len (wah G (c+c1));have hdl:(dspV (wah G (c+c1))).length<=1000000:=by
  have h2:=wdt (wah G (c+c1));have h3:(dspV (wah G (c+c1))).length<=(visL (wah G (c+c1))).length:=wp4 _ _ _;omega
 have hsl:∀o p,(serL (wah G (c+c1)) o p).length<=1000000:=λo p=>Nat.le_trans (wwn _ _ _) (by omega);exact⟨⟨by omega,by trivial,hsm⟩,⟨by omega,by trivial,hsh⟩,⟨by trivial,by trivial,by omega,by trivial,λi _=>Nat.le_trans (lmN_le _) (by omega)⟩,⟨by omega,by trivial,hsm⟩,⟨by omega,by trivial,hsh⟩,⟨by trivial,by trivial,hdl,by trivial⟩,trivial,⟨by omega,by trivial,hsm⟩,trivial,⟨by omega,by trivial,hsh⟩,⟨by trivial,by trivial,hsl _ _,by trivial⟩,trivial,by trivial,by trivial⟩
end Go.Eng
namespace Go.Eng
open Go.Proofs Go.RowKit Go.ChangeShapes Go.WideShapes Go.ChangeAt
theorem params_Bor:Tryz.f8.params=#[23]:=by kernel_rfl
set_option maxRecDepth 100000 in
theorem w05(os:Os)(started:os.Started)(H:Type)(enc:TypeId×Value->H):
  ReturnsInHanded {} Tryz.checked os 8 .any (λw args=>(Go.Proofs.YtmcdngcjakjnmaaGreatDoor.Rows.visitOrderlessSpec.pre enc Tryz.prog Tryz.f8 [] false w args/\laidMetH Tryz.prog Go.Proofs.YtmcdngcjakjnmaaGreatDoor.Rows.visitOrderlessRow.laid w)/\sizedMet enc Tryz.prog Tryz.f8 (OpenSpec.ofChange Go.Proofs.YtmcdngcjakjnmaaGreatDoor.Rows.visitOrderlessSpec) false w args)
   (Go.Proofs.YtmcdngcjakjnmaaGreatDoor.Rows.visitOrderlessSpec.post enc Tryz.prog Tryz.f8 false true false false):=by
 refine w1w (C:=Tryz.checked) (X:=λw _=>laidMetH Tryz.prog Go.Proofs.YtmcdngcjakjnmaaGreatDoor.Rows.visitOrderlessRow.laid w) (λ_ _ _ hh h=>h.of_heap hh) ownK started (by kernel_rfl) Tryz.func8
  (ChangeSpec.witness_at (enc:=enc) (C:=Tryz.checked) (os:=os) (X:=λw _=>laidMetH Tryz.prog Go.Proofs.YtmcdngcjakjnmaaGreatDoor.Rows.visitOrderlessRow.laid w) false (ws3 os) #[.slice none 0 0] 8 rfl (by kernel_rfl) (by kernel_rfl) (by kernel_rfl) (by kernel_rfl) (by kernel_rfl) (w1b os _)) ?_
 intro W base args ds gs before hval0 hW hL hsh;have hval:∀(j:Nat) t v,Tryz.f8.params[j]?=some t->args[j]?=some v->Value.okWide Tryz.prog W .any base t v:=hval0;have hW':=hW;obtain⟨p,q,hA0,hV,rfl,hfz,hnd⟩:=hW;have hA:DataW.TrodAll enc Tryz.prog W 0 (λ_=>true) true Tryz.f8.params.toList args.toList ds p:=hA0;rw[params_Bor] at hA hval;obtain⟨v0,vs0,d0,ds0,p0,q0,hargs,rfl,rfl,h0,r0⟩:=trodAll_cons hA;obtain⟨rfl,rfl,rfl⟩:=trodAll_nil r0;obtain rfl:args=#[v0]:=by cases args;simp_all
 obtain⟨rfl,rfl⟩:=trodVars_none hV;obtain⟨a0,len0,cap0,rfl⟩:=okWide_slice undIs (hval 0 23 v0 rfl rfl);have k0:=h0;have lt0:∀x∈p0,x.block<W.heap.size:=by obtain⟨m,hm⟩:=k0;exact DataW.trod_lt m _ _ _ hm
 obtain⟨m0,hm0⟩:=h0;obtain⟨A0,n0,c0,w0,e0,V0⟩:=wxc hm0;have e0:[Value.slice a0 len0 cap0]=[Value.slice A0 n0 c0]:=e0;simp only[List.cons.injEq,and_true] at e0;rw[← e0] at V0;have lw:=w1c hL hsh;refine(ADet.top (C:=cx) (lord_ok rfl (λ_ h=>h) n0 w0) lw (gsz_le lw) (cargs:=[.slice a0 len0 cap0]) rfl (λj x u hx hu=>?_)).mono λe W' ⟨he,bel⟩=>?_
 ·match j with
  |0=>obtain rfl:=Option.some.inj hx;obtain rfl:=Option.some.inj hu;exact V0
  |j+1=>simp at hx
 ·subst he;exact⟨_,rfl,_,_,_,[],_,[],hW',trodAll_mk1 (shut_bool (show Tryz.prog.underlying 4=some .bool by kernel_rfl) _),(trodAll_cons_mk (Below.trod ws4 (by kernel_rfl) (of_decide_eq_true (by kernel_rfl)) k0 bel lt0) trodAll_mk0),rfl,bel.frame _,λh=>by cases h⟩
set_option maxRecDepth 100000 in
theorem over_Bor:Go.Proofs.YtmcdngcjakjnmaaGreatDoor.Rows.visitOrderlessRow.holds Go.Proofs.YtmcdngcjakjnmaaGreatDoor.Tryz.pinned (OpenSpec.ofChange Go.Proofs.YtmcdngcjakjnmaaGreatDoor.Rows.visitOrderlessSpec):=
 OpenClaim.holds_of_wide 8 Tryz.f8 rfl rfl rfl rfl rfl rfl rfl ⟨rfl,rfl,rfl,rfl,rfl⟩ rfl rfl rfl rfl rfl (by kernel_rfl) Tryz.func8 w22
  w1n (by unfold Func.isWrapper;rw[if_neg (of_decide_eq_false (by kernel_rfl))];exact⟨rfl,rfl⟩)
  (λos started H enc _=>w05 os started H enc)
end Go.Eng
namespace Go.Proofs.YtmcdngcjakjnmaaGreatDoor
open Go
def harB : Bool × String := (true, "45df5a8c9ecb56705658ebb30df4076f5d25be7071adf32bdc6d321a36dc9da9")
set_option maxRecDepth 100000 in
theorem mainB:Tryz.prog.mainIs=some (harB.1,harB.2.toList):=by kernel_rfl
set_option maxRecDepth 100000 in
theorem looksB:true=Tryz.prog.looks []:=by kernel_rfl
end Go.Proofs.YtmcdngcjakjnmaaGreatDoor
namespace Go.Proofs.YtmcdngcjakjnmaaGreatDoor
open Go
set_option maxRecDepth 100000 in
theorem wf_Bor:Rows.visitOrderlessRow.wfByText (OpenSpec.ofChange Rows.visitOrderlessSpec)=true:=by kernel_rfl
set_option maxRecDepth 100000 in
theorem w10:false=Rows.visitOrderlessRow.goesBy Tryz.prog:=by kernel_rfl
theorem w0a : Tryz.prog.funcNamed "priceoffice/priceofficelaw12.VisitOrderless" = some 8 := by kernel_rfl
theorem wwa:Tryz.prog.wantsStandIn 23=false:=by kernel_rfl
theorem card_Bor:Rows.VisitOrderlessCardSaid:=
 Claim7.holds_tied_plain_at .later [] [.data,.data,.data,.data,.sentinel,.sentinel,.pinned] true harB true
  Go.Eng.over_Bor (λ_ h=>by cases h) wf_Bor (λ_ h=>by cases h) visitOrderless_row_tie rfl ⟨rfl,rfl⟩ mainB rfl
  (λf fn hf hfn=>by
   obtain rfl:f=8:=Option.some.inj (w0a.symm.trans hf) |>.symm;obtain rfl:fn=Tryz.f8:=(Option.some.inj (Tryz.func8.symm.trans hfn)).symm;exact⟨looksB,λj t ht=>by
    rw[Go.Eng.params_Bor] at ht;have h3:t=23:=by
     rcases j with _ | j
     ·exact by simpa using ht.symm
     ·simp at ht
    rcases h3 with rfl
    ·exact wwa⟩)
  w10
end Go.Proofs.YtmcdngcjakjnmaaGreatDoor
