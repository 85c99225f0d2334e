/- The tape. -/
import Derived.Test.YtmcdngcjakjnmaaGreatDoorJrzb
namespace Go.Eng
open Go.Proofs Go.RowKit
variable {C:Ctx} [C.Loose]
set_option maxRecDepth 20000
theorem nf_ici(v:Nat->Int)(x:Int)(n:Nat)(Q:AV->oL7->Prop):wpFn te [] [(2,wnl v x n)] 0 Tryz.f94 [.own 0 n,.q x] [.row 3 1 n (waf v) false] Q=(letI z0:=([(0,.row 3 1 n (waf v) false)]:oL7);(TEq [(0,.own 0 n),(1,.q x),(7,.q (n:Int)),(8,.q 0)] [(0,.own 0 n),(1,.q x),(7,.q (n:Int)),(8,.q (↑0:Int))]/\wad z0 z0)/\n<=100000/\wab (decide (fstB (λ(i:Nat)=>decide (x=v i)) n<n)) ((∀(i:Nat),i<n->true=true)/\∃(O':oL7),wad z0 O'/\Q (.q (↑(fstB (λ(i:Nat)=>decide (x=v i)) n):Int)) O') ((∀(i:Nat),i<n->true=true)/\∃(O':oL7),wad z0 O'/\Q (.q (-1:Int)) O')):=by kernel_rfl
theorem nf_icl(v:Nat->Int)(x:Int)(n k:Nat)(P:Nat->Prop)(Q:eR7):wav ⟨te,[],[],1,19,0⟩ (wax Tryz.f94 2) [0,1,7,8] [] [4] (wl9 v x n) P Q (wl9 v x n k)=(letI z0:=([(0,.row 3 1 n (waf v) false)]:oL7);wab (decide ((k:Int)<(n:Int))) (((0:Int)<=(k:Int)/\(k:Int)<(n:Int))/\((k:Int).toNat<n/\1=1)/\wab (decide (x=v (k:Int).toNat)) ((∀(i:Nat),i<n->true=true)/\∃(O':oL7),wad z0 O'/\Q .ret (St.mk [(4,.q (k:Int))] O' 1 [])) (inR .i64 ((k:Int)+1)/\∃(i':Nat),(TEq [(0,.own 0 n),(1,.q x),(7,.q (n:Int)),(8,.q ((k:Int)+1))] [(0,.own 0 n),(1,.q x),(7,.q (n:Int)),(8,.q (i':Int))]/\wad z0 z0)/\P i')) ((∀(i:Nat),i<n->true=true)/\∃(O':oL7),wad z0 O'/\Q (.exit 0) (St.mk [] O' 1 []))):=by kernel_rfl
theorem nf_cti(v:Nat->Int)(x:Int)(n:Nat)(Q:AV->oL7->Prop):wpFn te [(94,.det wma)] [] 0 Tryz.f71 [.own 0 n,.q x] [.row 3 1 n (waf v) false] Q=(letI z0:=(∀(i:Nat),i<n->true=true:Prop);z0/\(3=3/\false=false/\n=n/\n<=100000/\waf v=waf (vInt (waf v)))/\z0/\z0/\∃(O':oL7),wad [(0,.row 3 1 n (waf (vInt (waf v))) false)] O'/\Q (.bool (decide ((0:Int)<=ixB (λ(i:Nat)=>decide (x=vInt (waf v) i)) n))) O'):=by kernel_rfl
theorem nf_upTo(g:Nat->VT)(n:Nat)(Q:AV->oL7->Prop):wpFn te [(65,.det wlu)] [] 0 Tryz.f69 [.view 7 n (wae g)] [] Q=(letI z0:=(ixB (λ(i:Nat)=>finB (vtOf (wae g) i)) n+1);(n<=1000000/\wae g=wae (vtOf (wae g)))/\wab (decide ((0:Int)<=ixB (λ(i:Nat)=>finB (vtOf (wae g) i)) n)) (inR .i64 z0/\((0:Int)<=ixB (λ(i:Nat)=>finB (vtOf (wae g) i)) n+1/\ixB (λ(i:Nat)=>finB (vtOf (wae g) i)) n+1<=(n:Int))/\Q (.view 7 z0.toNat (wae g)) []) (Q (.view 7 n (wae g)) [])):=by kernel_rfl
theorem wyf(v:Nat->Int)(m:Nat)(g:Nat->VT)(n:Nat)(Q:AV->oL7->Prop):wpFn te [] [(2,wm4 v m g n)] 0 Tryz.f70 [.own 0 m,.ptr 1 0] [.row 3 1 m (waf v) false,.cells [.view 7 n (wae g)] 53] Q=(letI z1:=(↑(sncG v m g (n - 1)):Int);letI z0:=([(0,.row 3 1 m (waf v) false),(1,.cells [.view 7 n (wae g)] 53)]:oL7);inR .i64 ((n:Int) - (1:Int))/\(TEq [(0,.own 0 m),(1,.ptr 1 0),(4,.q ((n:Int) - (1:Int)))] [(0,.own 0 m),(1,.ptr 1 0),(4,.q (↑(n - 1):Int))]/\wad z0 z0)/\n<=1000000/\0<n/\m<=100/\((0:Int)<=z1/\z1<(n:Int)/\7=7)/\(∀(i:Nat),i<m->true=true)/\∃(O':oL7),wad z0 O'/\Q (.q (g z1.toNat).per) O'):=by kernel_rfl
theorem nf_snl(v:Nat->Int)(m:Nat)(g:Nat->VT)(n i:Nat)(P:Nat->Prop)(Q:eR7):wav ⟨te,[(71,.det wmf)],[],2,27,0⟩ (wax Tryz.f70 2) [0,1,4] [1,4] [] (wk2 v m g n) P Q (wk2 v m g n i)=(letI z3:=([(1,.ptr 1 0),(4,.q (i:Int))]:tL7);letI z2:=([(0,.row 3 1 m (waf v) false),(1,.cells [.view 7 n (wae g)] 53)]:oL7);letI z1:=([(0,.row 3 1 m (waf (vInt (waf v))) false),(1,.cells [.view 7 n (wae g)] 53)]:oL7);letI z0:=(∀(i:Nat),i<m->true=true:Prop);wab (decide ((0:Int)<(i:Int))) (inR .i64 ((i:Int) - (1:Int))/\((0:Int)<=(i:Int) - (1:Int)/\(i:Int) - (1:Int)<(n:Int)/\7=7)/\z0/\(3=3/\false=false/\m=m/\m<=100000/\waf v=waf (vInt (waf v)))/\z0/\wab (decide ((0:Int)<=ixB (λ(i_1:Nat)=>decide ((g ((i:Int) - (1:Int)).toNat).st=vInt (waf v) i_1)) m)) (inR .i64 ((i:Int) - (1:Int))/\∃(i':Nat),(TEq [(0,.own 0 m),(1,.ptr 1 0),(4,.q ((i:Int) - (1:Int)))] [(0,.own 0 m),(1,.ptr 1 0),(4,.q (i':Int))]/\wad z1 z2)/\P i') (z0/\∃(O':oL7),wad z1 O'/\Q (.exit 0) (St.mk z3 O' 2 []))) (z0/\∃(O':oL7),wad z2 O'/\Q (.exit 0) (St.mk z3 O' 2 []))):=by kernel_rfl
theorem nf_sa(g:Nat->VT)(n:Nat)(per:Int)(k:Nat)(P:Nat->Prop)(Q:eR7):wav ⟨te,[],[],0,66,0⟩ (wax Tryz.f35 3) [1,4,5,10,11,12] [4,5] [] (S_sa g n per) P Q (S_sa g n per k)=(letI z5:=(knK g per k).length;letI z4:=(knK g per k).length+1;letI z3:=([.q 0,.q 0,.str []]:List AV);letI z2:=([(1,.q per),(4,.ptr 0 0),(5,.ptr 1 0),(10,.view 7 n (wae g)),(11,.q (n:Int)),(12,.q ((k:Int)+1))]:tL7);letI z1:=(g (k:Int).toNat);letI z0:=([(0,.cells z3 65),(1,.cells [.own 2 z5] 53),(2,.row 43 7 z5 (wae (atX (knK g per k))) false)]:oL7);wab (decide ((k:Int)<(n:Int))) (((0:Int)<=(k:Int)/\(k:Int)<(n:Int)/\7=7)/\wab (decide (z1.per<=per)) ((7<=16777216/\7=7/\1<=9223372036854775807)/\((1<=1/\7=7)/\(knK g per k).length<=(knK g per k).length/\7=7/\43=43/\7=7/\(knK g per k).length+1<=9223372036854775807/\z4 * 80<=140737488355328)/\inR .i64 ((k:Int)+1)/\∃(i':Nat),(TEq z2 [(1,.q per),(4,.ptr 0 0),(5,.ptr 1 0),(10,.view 7 n (wae g)),(11,.q (n:Int)),(12,.q (i':Int))]/\wad [(0,.cells z3 65),(1,.cells [.own 2 z4] 53),(2,.row 43 7 z4 (apF z5 (wae (atX (knK g per k))) (waw 7 (.str z1.o:: .str z1.p:: .q z1.per:: .q z1.day:: .q z1.st:: .q z1.pr:: .str z1.rep::List.append [] (List.flatten (List.replicate (nat_lit 0) [.str ([]),.str ([]),.q 0,.q 0,.q 0,.q 0,.str ([])]))))) false)] [(0,.cells z3 65),(1,.cells [.own 2 (knK g per i').length] 53),(2,.row 43 7 (knK g per i').length (wae (atX (knK g per i'))) false)])/\P i') (inR .i64 ((k:Int)+1)/\∃(i':Nat),(TEq z2 [(1,.q per),(4,.ptr 0 0),(5,.ptr 1 0),(10,.view 7 n (wae g)),(11,.q (n:Int)),(12,.q (i':Int))]/\wad z0 [(0,.cells z3 65),(1,.cells [.own 2 (knK g per i').length] 53),(2,.row 43 7 (knK g per i').length (wae (atX (knK g per i'))) false)])/\P i')) ((∀(i:Nat),i<(knK g per k).length->true=true)/\∃(O':oL7),wad z0 O'/\Q (.exit 0) (St.mk [(4,.ptr 0 0),(5,.ptr 1 0)] O' 3 []))):=by kernel_rfl
theorem wz7(g:Nat->VT)(n:Nat)(per:Int)(Q:AV->oL7->Prop):wpFn te [(69,.det wkx),(70,.det wk5)] [(3,L_sa g n per)] 0 Tryz.f35 [.view 7 n (wae g),.q per] [] Q=(letI z6:=([.q 0,.q 0,.str []]:List AV);letI z5:=(knK g per n).length;letI z4:=(List.flatten (List.replicate (nat_lit 0) [.q 0]):List AV);letI z9:=vInt (waw 1 (.q 3::List.append [] z4));letI z8:=vInt (waw 1 (.q 1:: .q 2::List.append [] z4));letI z3:=vtOf (wae (atX (knK g per n)));letI z10:=vtOf (wae z3);letI z7:=(↑(upN z3 z5):Int);letI z2:=(vtOf (wae (atX (knK g per n))) (z7 - (1:Int)).toNat);letI z1:=((2<=16777216/\1=1/\2<=9223372036854775807)/\(∀(i:Nat),i<2->true=true)/\(3=3/\53=53/\false=false/\2=2/\2<=100/\waw 1 (.q 1:: .q 2::List.append [] z4)=waf z8/\upN z3 z5<=1000000/\0<upN z3 z5/\wae z3=wae z10)/\(∀(i:Nat),i<2->true=true)/\(True/\True)/\Q (.agg [.q 1,.q (vtOf (wae z3) (sncG z8 2 z10 (upN z3 z5 - 1))).per,.str []]) []:Prop);letI z0:=(wab (decide (z2.st=3)) ((1<=16777216/\1=1/\1<=9223372036854775807)/\(∀(i:Nat),i<1->true=true)/\(3=3/\53=53/\false=false/\1=1/\1<=100/\waw 1 (.q 3::List.append [] z4)=waf z9/\upN z3 z5<=1000000/\0<upN z3 z5/\wae z3=wae z10)/\(∀(i:Nat),i<1->true=true)/\(True/\True)/\Q (.agg [.q 2,.q (vtOf (wae z3) (sncG z9 1 z10 (upN z3 z5 - 1))).per,.str []]) []) (wab (decide (z2.st=4)) ((True/\True)/\Q (.agg [.q 3,.q z2.per,.str []]) []) (wab (decide (z2.st=5)) ((True/\True)/\Q (.agg [.q 4,.q z2.per,.str z2.rep]) []) ((True/\True)/\Q (.agg z6) []))));(TEq [(1,.q per),(4,.ptr 0 0),(5,.ptr 1 0),(10,.view 7 n (wae g)),(11,.q (n:Int)),(12,.q 0)] [(1,.q per),(4,.ptr 0 0),(5,.ptr 1 0),(10,.view 7 n (wae g)),(11,.q (n:Int)),(12,.q (↑0:Int))]/\wad [(0,.cells z6 65),(1,.cells [.own 2 0] 53),(2,.row 43 7 0 (λ(_x:Nat)=>[]) false)] [(0,.cells z6 65),(1,.cells [.own 2 0] 53),(2,.row 43 7 0 (wae (atX (knK g per 0))) false)])/\n<=1000000/\((knK g per n).length<=1000000/\wae (atX (knK g per n))=wae z3)/\wab (decide (z7=0)) ((True/\True)/\Q (.agg z6) []) (inR .i64 (z7 - (1:Int))/\((0:Int)<=z7 - (1:Int)/\z7 - (1:Int)<z7/\7=7)/\wab (decide (z2.st=1)) (wab (decide (z2.st=1)) z1 z0) (wab (decide (z2.st=2)) z1 z0))):=by kernel_rfl
theorem w07(g:Nat->VT)(per:Int)(k:Nat):knK g per (k+1)=bif decide ((g k).per<=per) then knK g per k++[g k] else knK g per k:=by
 unfold knK;rw[wfy,List.filter_append]
 cases h:decide ((g k).per<=per)<;>simp[h]
theorem ws0(g:Nat->VT)(per:Int)(k:Nat):(knK g per k).length<=k:=by
 have:=List.length_filter_le (λv:VT=>decide (v.per<=per)) (lst g k);simp[lst] at this ⊢;exact this
theorem ixB_one(q:Nat->Bool):decide (0<=ixB q 1)=q 0:=by
 rcases Bool.eq_false_or_eq_true (q 0) with h | h<;>simp[ixB,fstB,h]
theorem ixB_two(q:Nat->Bool):decide (0<=ixB q 2)=(q 0 || q 1):=by
 rcases Bool.eq_false_or_eq_true (q 0) with h | h<;>rcases Bool.eq_false_or_eq_true (q 1) with h1 | h1<;>simp[ixB,fstB,h,h1]
theorem ix_one(x a:Int):decide (0<=ixB (λj=>decide (x=vInt (waw 1 [.q a]) j)) 1)=decide (x=a):=ixB_one _
theorem ix_two(x a b:Int):decide (0<=ixB (λj=>decide (x=vInt (waw 1 [.q a,.q b]) j)) 2)=(decide (x=a) || decide (x=b)):=ixB_two _
theorem snc_G(q:Int->Bool)(v:Nat->Int)(m:Nat)(l:List VT)(h:∀x,decide (0<=ixB (λj=>decide (x=v j)) m)=q x):∀i,sncG v m (atX l) i=snc q l i
 |0=>rfl
 |i+1=>by
  rw[sncG,snc,h,snc_G q v m l h i]
theorem wvv(l:List VT):∃r,l=upTo l++r/\(upTo l).length=upN (atX l) l.length:=by
 unfold upTo upN
 by_cases h:fstB (λi=>finB (atX l i)) l.length<l.length
 ·rw[decide_eq_true h];refine⟨l.drop (fstB (λi=>finB (atX l i)) l.length+1),(List.take_append_drop _ _).symm,?_⟩;rw[cond_true,cond_true,List.length_take];omega
 ·rw[decide_eq_false h];exact⟨[],(List.append_nil _).symm,rfl⟩
theorem upN_le(g:Nat->VT)(n:Nat):upN g n<=n:=by
 unfold upN
 by_cases h:fstB (λi=>finB (g i)) n<n
 ·rw[decide_eq_true h,cond_true];omega
 ·rw[decide_eq_false h];exact lR7 _
theorem stp_up(l:List VT):stpP (upTo l)=bif decide (upN (atX l) l.length=0) then wbu else
  bif q12 (atX l (upN (atX l) l.length - 1)).st then ⟨1,(atX l (snc q12 l (upN (atX l) l.length - 1))).per,[]⟩ else
  bif q3 (atX l (upN (atX l) l.length - 1)).st then ⟨2,(atX l (snc q3 l (upN (atX l) l.length - 1))).per,[]⟩ else
  bif decide ((atX l (upN (atX l) l.length - 1)).st=4) then ⟨3,(atX l (upN (atX l) l.length - 1)).per,[]⟩ else
  bif decide ((atX l (upN (atX l) l.length - 1)).st=5) then ⟨4,(atX l (upN (atX l) l.length - 1)).per,(atX l (upN (atX l) l.length - 1)).rep⟩ else wbu:=by
 obtain⟨r,e,hn⟩:=wvv l;unfold stpP;rw[hn]
 by_cases h0:upN (atX l) l.length=0
 ·rw[decide_eq_true h0];rfl
 rw[decide_eq_false h0,cond_false,cond_false];have e1:atX (upTo l) (upN (atX l) l.length - 1)=atX l (upN (atX l) l.length - 1):=by
  rw[← wh4 (r:=r) (show upN (atX l) l.length - 1<(upTo l).length by omega), ← e]
 have e2:∀q:Int->Bool,atX (upTo l) (snc q (upTo l) (upN (atX l) l.length - 1))=atX l (snc q l (upN (atX l) l.length - 1)):=λq=>by
  have h1:snc q (upTo l) (upN (atX l) l.length - 1)=snc q l (upN (atX l) l.length - 1):=by
   rw[← wij q (upTo l) r _ (show upN (atX l) l.length - 1<=(upTo l).length by omega), ← e]
  have h2:=wii q l (upN (atX l) l.length - 1);rw[h1, ← wh4 (r:=r) (show snc q l (upN (atX l) l.length - 1)<(upTo l).length by omega), ← e]
 rw[e1,e2,e2]
theorem w1s(hP:C.P=Tryz.prog)(v:Nat->Int)(x:Int)(n:Nat):wah C 1 19 (waj Tryz.f94 2) (wnl v x n):=by
 have _:C.Loose:=inferInstance;rintro st Q ⟨h0,hn,hQ⟩;have hR:=wbt hQ;refine wah.mk (prg hP) [] 0 .nil [0,1,7,8] [] [4] (wl9 v x n) (λk=>k<=n/\fstB (λi=>decide (x=v i)) k=k) (λk=>n - k) 0 ⟨zL7 _,rfl⟩ h0 (λk hk=>?_) (λi=>⟨λ_ _=>rfl,trivial⟩);obtain⟨hkn,hok⟩:=hk;rw[nf_icl,tN7];refine wag (λh1=>?_) (λh1=>?_)
 ·refine⟨⟨by omega,by omega⟩,⟨by omega,rfl⟩,wam (λh2=>⟨λ_ _=>rfl,_,wa0 _,?_⟩) (λh2=>⟨by simp only[inR];omega,k+1,⟨rfl,rQ7,trivial⟩,⟨by omega,weg hok h2⟩,by omega⟩)⟩;have e:=weh hok h2 n (by omega);have:=hR.1 (by rw[e,decide_eq_true];omega);rw[e] at this;exact this
 ·have:k=n:=by omega
  subst this;exact⟨λ_ _=>rfl,_,wa0 _,hR.2 (by rw[hok,decide_eq_false];omega)⟩
theorem ici_ok(hP:C.P=Tryz.prog):wac C 94 wma:=by
 rintro args objs U Os vc h hvc;unfold wma at h;split at h<;>cases h;rename_i n x t m f fr;obtain⟨rfl,rfl,rfl,hn,hf⟩:=hvc;generalize vInt f=v at *;subst hf;refine wac.wpL (prg hP) [] [(2,wnl v x n)] 0 .nil (hP ▸ Tryz.func94) rfl rfl rfl [(waj Tryz.f94 2,wnl v x n)] (by kernel_rfl) ⟨w1s hP v x n,trivial⟩ ?_;rw[nf_ici];unfold ixB;refine⟨⟨rfl,rQ7,trivial⟩,hn,wag (λh=>⟨λ_ _=>rfl,_,wa0 _,?_⟩) (λh=>⟨λ_ _=>rfl,_,wa0 _,?_⟩)⟩
 ·rw[decide_eq_true h];exact⟨rfl,rfl⟩
 ·rw[decide_eq_false h];exact⟨rfl,rfl⟩
theorem cti_ok(hP:C.P=Tryz.prog):wac C 71 wmf:=by
 rintro args objs U Os vc h hvc;unfold wmf at h;split at h<;>cases h;rename_i n x t m f fr;obtain⟨rfl,rfl,rfl,hn,hf⟩:=hvc;generalize vInt f=v at *;subst hf;refine wac.wp0 (prg hP) [(94,.det wma)] 0 (.cons (ici_ok hP) .nil) (hP ▸ Tryz.func71) rfl rfl rfl ?_;rw[nf_cti];exact⟨λ_ _=>rfl,⟨rfl,rfl,rfl,hn,rfl⟩,λ_ _=>rfl,λ_ _=>rfl,_,wa0 _,rfl,rfl⟩
theorem upTo_ok(hP:C.P=Tryz.prog):wac C 69 wkx:=by
 have _:C.Loose:=inferInstance;rintro args objs U Os vc h hvc;unfold wkx at h;split at h<;>cases h;rename_i n f;obtain⟨hn,hf⟩:=hvc;generalize vtOf f=g at *;subst hf;refine wac.wp0 (prg hP) [(65,.det wlu)] 0 (.cons (ixv_ok hP) .nil) (hP ▸ Tryz.func69) rfl rfl rfl ?_;rw[nf_upTo];have hg:vtOf (wae g)=g:=rfl;rw[hg];have hix:ixB (λi=>finB (g i)) n=bif decide (fstB (λi=>finB (g i)) n<n) then (fstB (λi=>finB (g i)) n:Int) else -1:=rfl
 unfold upN
 by_cases h:fstB (λi=>finB (g i)) n<n
 ·rw[decide_eq_true h,cond_true] at hix;rw[hix,decide_eq_true h];refine⟨⟨hn,rfl⟩,wag (λ_=>⟨by simp only[inR];omega,⟨by omega,by omega⟩,?_⟩) (λh'=>absurd (Int.natCast_nonneg _) h')⟩;exact⟨congrArg (λk=>AV.view 7 k (wae g)) (by rw[cond_true];omega),rfl⟩
 ·rw[decide_eq_false h,cond_false] at hix;rw[hix,decide_eq_false h];exact⟨⟨hn,rfl⟩,wag (λh'=>absurd h' (by decide)) (λ_=>⟨rfl,rfl⟩)⟩
theorem wwh(hP:C.P=Tryz.prog)(v:Nat->Int)(m:Nat)(g:Nat->VT)(n:Nat):wah C 2 27 (waj Tryz.f70 2) (wm4 v m g n):=by
 rintro st Q ⟨h0,hn,hn0,hm,hQ⟩;refine wah.mk (prg hP) [(71,.det wmf)] 0 (.cons (cti_ok hP) .nil) [0,1,4] [1,4] [] (wk2 v m g n) (λi=>i<n/\sncG v m g i=sncG v m g (n - 1)) (λi=>i) (n - 1) ⟨by omega,rfl⟩ h0 (λi hi=>?_) (λi=>⟨λ_ _=>rfl,trivial⟩);obtain⟨hi,he⟩:=hi;have hw:vInt (waf v)=v:=rfl;rw[nf_snl,hw];have fin:sncG v m g i=i->(∀j,j<m->true=true)/\∃O',wad [(0,AObj.row 3 1 m (waf v) false),(1,.cells [.view 7 n (wae g)] 53)] O'/\Q (.exit 0) (St.mk [(1,.ptr 1 0),(4,.q i)] O' 2 []):=λe=>by
  rw[← he,e] at hQ;exact⟨λ_ _=>rfl,_,wa0 _,hQ⟩
 refine wag (λh1=>?_) (λh1=>?_)
 ·obtain⟨k,rfl⟩:∃k,i=k+1:=⟨i - 1,by omega⟩;have e1:((k+1:Nat):Int) - 1=(k:Int):=by omega
  rw[e1,tN7];refine⟨by simp only[inR];omega,⟨by omega,by omega,rfl⟩,λ_ _=>rfl,⟨rfl,rfl,rfl,by omega,rfl⟩,λ_ _=>rfl,wam (λh2=>⟨by simp only[inR];omega,k,⟨rfl,rQ7,rfl,trivial⟩,⟨by omega,?_⟩,by omega⟩) (λh2=>fin ?_)⟩
  ·rw[← he,sncG,h2];rfl
  ·rw[sncG,h2];rfl
 ·exact fin (by rw[show i=0 by omega];rfl)
theorem wq5(v:Nat->Int)(m:Nat)(g:Nat->VT):∀i,sncG v m g i<=i
 |0=>lR7 _
 |i+1=>by
  have:=wq5 v m g i;rw[sncG]
  cases decide (0<=ixB (λj=>decide ((g i).st=v j)) m) with
  |true=>show sncG v m g i<=_;omega
  |false=>exact lR7 _
theorem wwl(hP:C.P=Tryz.prog):wac C 70 wk5:=by
 rintro args objs U Os vc h hvc;unfold wk5 at h;split at h<;>simp only[sI7,pI7,reduceCtorEq] at h;rename_i m t m' f fr n h' u;obtain⟨rfl,rfl,rfl⟩:=h;obtain⟨rfl,rfl,rfl,rfl,hm,hf,hn,hn0,hh⟩:=hvc;generalize vtOf h'=g at *;subst hh;generalize vInt f=v at *;subst hf;refine wac.wpL (prg hP) [] [(2,wm4 v m g n)] 0 .nil (hP ▸ Tryz.func70) rfl rfl rfl [(waj Tryz.f70 2,wm4 v m g n)] (by kernel_rfl) ⟨wwh hP v m g n,trivial⟩ ?_;have e1:(n:Int) - 1=((n - 1:Nat):Int):=by omega
 have hle:=wq5 v m g (n - 1);rw[wyf,e1,tN7];exact⟨by simp only[inR];omega,⟨rfl,rQ7,rfl,trivial⟩,hn,hn0,hm,⟨by omega,by omega,rfl⟩,λ_ _=>rfl,_,wa0 _,rfl,rfl⟩
theorem sa_loop(hP:C.P=Tryz.prog)(g:Nat->VT)(n:Nat)(per:Int):wah C 0 66 (waj Tryz.f35 3) (L_sa g n per):=by
 have _:C.Loose:=inferInstance;rintro st Q ⟨h0,hn,hQ⟩;refine AWP.ownNilC 1 0 43 7 (AWP.frzXQ 2 [] ?_);refine wah.mk (prg hP) [] 0 .nil [1,4,5,10,11,12] [4,5] [] (S_sa g n per) (λk=>k<=n) (λk=>n - k) 0 (zL7 _) h0 (λk hk=>?_) (λi=>⟨λ_ _=>rfl,trivial⟩);have hl:=ws0 g per k;have hst:=w07 g per k;rw[nf_sa,tN7];refine wag (λh1=>?_) (λh1=>?_)
 ·refine⟨⟨by omega,by omega,rfl⟩,wag (λh2=>?_) (λh2=>?_)⟩
  ·rw[decide_eq_true h2,cond_true] at hst;refine⟨⟨by omega,rfl,by omega⟩,⟨⟨lR7 _,rfl⟩,lR7 _,rfl,rfl,rfl,by omega,by omega⟩,by simp only[inR];omega,k+1,?_,by omega,by omega⟩;rw[hst,lA7];exact⟨rfl,rfl,rfl,⟨rfl,rfl,rfl,rfl,rfl,λj hj=>snocE vtC default _ _ _ rfl j hj⟩,trivial⟩
  ·rw[decide_eq_false h2,cond_false] at hst;refine⟨by simp only[inR];omega,k+1,?_,by omega,by omega⟩;rw[hst];exact⟨rfl,rfl,rfl,⟨rfl,rfl,rfl,rfl,rfl,λj hj=>rfl⟩,trivial⟩
 ·have:k=n:=by omega
  subst this;refine⟨λ_ _=>rfl,_,wa0 _,λ_ _=>rfl,?_⟩;have hb:Nat.ble (knK g per k).length (knK g per k).length=true:=Nat.ble_eq_true_of_le (lR7 _);have e:frzX 2 [] ⟨[(4,.ptr 0 0),(5,.ptr 1 0)],(S_sa g k per k).O,3,[]⟩=⟨[(4,.ptr 0 0),(5,.ptr 1 0)],[(0,.cells [.q 0,.q 0,.str []] 65),(1,.cells [.view 7 (knK g per k).length (wae (atX (knK g per k)))] 53)],3,[]⟩:=by
   show (⟨_,[_,(1,.cells [frz 2 7 (knK g per k).length (wae (atX (knK g per k))) (.own 2 (knK g per k).length)] 53)],3,[]⟩:St)=_;simp only[frz,hb];rfl
  exact e ▸ hQ
theorem wve(hP:C.P=Tryz.prog):wac C 35 wcv:=by
 rintro args objs U Os vc h hvc;unfold wcv at h;split at h<;>cases h;rename_i n f per;obtain⟨hn,hf⟩:=hvc;generalize vtOf f=g at *;subst hf;refine wac.wpL (prg hP) [(69,.det wkx),(70,.det wk5)] [(3,L_sa g n per)] 0 (.cons (upTo_ok hP) (.cons (wwl hP) .nil)) (hP ▸ Tryz.func35) rfl rfl rfl [(waj Tryz.f35 3,L_sa g n per)] (by kernel_rfl) ⟨sa_loop hP g n per,trivial⟩ ?_;rw[wz7];have hg:∀g:Nat->VT,vtOf (wae g)=g:=λ_=>rfl;have e:staP per (lst g n)=stpP (upTo (knK g per n)):=rfl;have h12:∀i,sncG (vInt (waw 1 (.q 1:: .q 2::List.append [] (List.flatten (List.replicate (nat_lit 0) [.q 0]))))) 2 (atX (knK g per n)) i=snc q12 (knK g per n) i:=snc_G q12 _ _ _ λx=>ix_two x 1 2;have h3:∀i,sncG (vInt (waw 1 (.q 3::List.append [] (List.flatten (List.replicate (nat_lit 0) [.q 0]))))) 1 (atX (knK g per n)) i=snc q3 (knK g per n) i:=snc_G q3 _ _ _ λx=>ix_one x 3;have hlen:=ws0 g per n;have hup:=upN_le (atX (knK g per n)) (knK g per n).length;have hZ:=stp_up (knK g per n);rw[e];simp only[hg,h12,h3];generalize stpP (upTo (knK g per n))=Z at *;generalize knK g per n=K at *;generalize upN (atX K) K.length=u at *;refine⟨⟨rfl,rfl,rfl,⟨rfl,rfl,rfl,rfl,rfl,λi hi=>absurd hi (nZ7 i)⟩,trivial⟩,hn,⟨by omega,by trivial⟩,wag (λh0=>?_) (λh0=>?_)⟩
 ·have h0:u=0:=by omega
  rw[decide_eq_true h0] at hZ;rw[hZ];exact⟨⟨trivial,trivial⟩,rfl,trivial⟩
 have h0:¬ u=0:=by omega
 have e1:(u:Int) - 1=((u - 1:Nat):Int):=by omega
 rw[decide_eq_false h0,cond_false] at hZ;rw[e1,tN7];generalize atX K (u - 1)=x at *;have c12:q12 x.st=(decide (x.st=1) || decide (x.st=2)):=rfl;have c3:q3 x.st=decide (x.st=3):=rfl;refine⟨by simp only[inR];omega,⟨by omega,by omega,by trivial⟩,wag (λs1=>wag (λ_=>?_) (λn1=>absurd s1 n1)) (λn1=>wag (λs2=>?_) (λn2=>wag (λs3=>?_) (λn3=>wag (λs4=>?_) (λn4=>wag (λs5=>?_) (λn5=>?_)))))⟩
 ·rw[c12,decide_eq_true s1,Bool.true_or,cond_true] at hZ;rw[hZ];exact⟨⟨by omega,by trivial,by omega⟩,λ_ _=>by trivial,⟨by trivial,by trivial,by trivial,by trivial,by omega,rfl,by omega,by omega,by trivial⟩,λ_ _=>by trivial,⟨trivial,trivial⟩,rfl,trivial⟩
 ·rw[c12,decide_eq_true s2,Bool.or_true,cond_true] at hZ;rw[hZ];exact⟨⟨by omega,by trivial,by omega⟩,λ_ _=>by trivial,⟨by trivial,by trivial,by trivial,by trivial,by omega,rfl,by omega,by omega,by trivial⟩,λ_ _=>by trivial,⟨trivial,trivial⟩,rfl,trivial⟩
 all_goals rw[c12,decide_eq_false n1,decide_eq_false n2,Bool.or_false,cond_false] at hZ
 ·rw[c3,decide_eq_true s3,cond_true] at hZ;rw[hZ];exact⟨⟨by omega,by trivial,by omega⟩,λ_ _=>by trivial,⟨by trivial,by trivial,by trivial,by trivial,by omega,rfl,by omega,by omega,by trivial⟩,λ_ _=>by trivial,⟨trivial,trivial⟩,rfl,trivial⟩
 all_goals rw[c3,decide_eq_false n3,cond_false] at hZ
 ·rw[decide_eq_true s4,cond_true] at hZ;rw[hZ];exact⟨⟨trivial,trivial⟩,rfl,trivial⟩
 all_goals rw[decide_eq_false n4,cond_false] at hZ
 ·rw[decide_eq_true s5,cond_true] at hZ;rw[hZ];exact⟨⟨trivial,trivial⟩,rfl,trivial⟩
 ·rw[decide_eq_false n5,cond_false] at hZ;rw[hZ];exact⟨⟨trivial,trivial⟩,rfl,trivial⟩
theorem wyi(g:Nat->Int)(n k:Nat)(P:Nat->Prop)(Q:eR7):wav ⟨te,[],[],1,19,0⟩ (wax Tryz.f136 2) [0,3] [3] [] (wk8 g n) P Q (wk8 g n k)=(letI z1:=([(0,.row 124 1 n (uRow g) false)]:oL7);letI z0:=((∀(i:Nat),i<n->true=true)/\∃(O':oL7),wad z1 O'/\Q (.exit 0) (St.mk [(3,.q (k:Int))] O' 1 []):Prop);wab (decide ((0:Int)<(k:Int))) (inR .i64 ((k:Int) - (1:Int))/\((0:Int)<=(k:Int) - (1:Int)/\(k:Int) - (1:Int)<(n:Int))/\(((k:Int) - (1:Int)).toNat<n/\1=1)/\wab (decide (g ((k:Int) - (1:Int)).toNat=0)) (inR .i64 ((k:Int) - (1:Int))/\∃(i':Nat),(TEq [(0,.own 0 n),(3,.q ((k:Int) - (1:Int)))] [(0,.own 0 n),(3,.q (i':Int))]/\wad z1 z1)/\P i') z0) z0):=by kernel_rfl
theorem nf_rlow(f:Nat->List AV)(n:Nat)(Q:AV->oL7->Prop):wpFn te [] [(2,wm8 (uOf f) n)] 0 Tryz.f136 [.own 0 n] [.row 124 1 n f false] Q=(letI z0:=([(0,.own 0 n),(3,.q (n:Int))]:tL7);(TEq z0 z0/\wad [(0,.row 124 1 n f false)] [(0,.row 124 1 n (uRow (uOf f)) false)])/\n<=1000/\(∀(i:Nat),i<n->true=true)/\∃(O':oL7),wad [(0,.row 124 1 n (uRow (uOf f)) false)] O'/\Q (.q (↑(lowI (uOf f) n):Int)) O'):=by kernel_rfl
theorem wyg(f:Nat->List AV)(n:Nat)(Q:AV->oL7->Prop):wpFn te [(136,.det wk9)] [] 0 Tryz.f115 [.own 0 n] [.row 124 1 n f false] Q=(letI z2:=waw 1 (List.flatten (List.replicate 0 [.int .u32 0]));letI z1:=(∀(i:Nat),i<n->nrefL (f i)=true:Prop);letI z0:=(↑(lowI (uOf f) n):Int);(0<=16777216/\1=1/\0<=9223372036854775807)/\z1/\(124=124/\false=false/\n=n/\n<=1000/\∀(i:Nat),i<n->f i=[.int .u32 (uOf f i)])/\z1/\((0:Int)<=z0/\z0<=(n:Int))/\((z0.toNat<=n/\1=1)/\0<=0/\1=1/\124=124/\1=1/\0+z0.toNat<=9223372036854775807/\(0+z0.toNat) * 4<=140737488355328)/\z1/\(∀(i:Nat),i<0+z0.toNat->nrefL (apF 0 z2 f i)=true)/\∃(O':oL7),wad [(0,.row 124 1 n f false),(1,.row 124 1 (0+z0.toNat) (apF 0 z2 f) false)] O'/\Q (.own 1 (0+z0.toNat)) O'):=by kernel_rfl
theorem wym(v:Int)(Q:AV->oL7->Prop):wpFn te [(115,.det weq)] [] 0 Tryz.f89 [.int .u64 v] [] Q=(letI z4:=(List.flatten (List.replicate (nat_lit 0) [.int .u32 0]):List AV);letI z3:=(IntKind.wrap IntKind.u32 (v / (2:Int) ^ (32:Int).toNat));letI z2:=(IntKind.wrap IntKind.u32 (bits BinOp.and IntKind.u64 v (4294967295:Int)));letI z1:=(∀(i:Nat),i<2->nrefL (waw 1 (.int .u32 z2:: .int .u32 z3::List.append [] z4) i)=true:Prop);letI z0:=(waw 1 (.int .u32 z2:: .int .u32 z3::List.append [] z4));True/\True/\((0:Int)<=32/\(32:Int)<=(↑(IntKind.bits IntKind.u64):Int))/\True/\(2<=16777216/\1=1/\2<=9223372036854775807)/\z1/\(124=124/\false=false/\2=2/\2<=1000/\∀(i:Nat),i<2->waw 1 (.int .u32 z2:: .int .u32 z3::List.append [] z4) i=[.int .u32 (uOf z0 i)])/\z1/\Q (.view 1 (lowI (uOf z0) 2) (uRow (uOf z0))) []):=by kernel_rfl
theorem wxw(v:Int)(Q:AV->oL7->Prop):wpFn te [(89,.det wet)] [] 0 Tryz.f54 [.q v] [] Q=(letI z1:=18446744073709551616;letI z0:=(IntKind.wrap IntKind.u64 ((0:Int) - (v+1))+1);wab (decide (v<0)) (inR .i64 (v+1)/\inR .i64 ((0:Int) - (v+1))/\True/\((0:Int)<=z0 % z1/\z0 % z1<z1)/\Q (.view 1 (lmN (z0 % z1)) (uRow (lmF (z0 % z1)))) []) (True/\((0:Int)<=IntKind.wrap IntKind.u64 v/\IntKind.wrap IntKind.u64 v<z1)/\Q (.view 1 (lmN (IntKind.wrap IntKind.u64 v)) (uRow (lmF (IntKind.wrap IntKind.u64 v)))) [])):=by kernel_rfl
theorem wyn(v:Int)(Q:AV->oL7->Prop):wpFn te [(54,.det weo)] [] 0 Tryz.f22 [.q v] [] Q=(((0:Int)<=v/\v<9223372036854775808)/\(True/\True)/\Q (.agg [.bool (decide (v<0)),.view 1 (lmN v) (uRow (lmF v)),.nil]) []):=by kernel_rfl
theorem wyd(n:Nat)(u w:Nat->Int)(k:Nat)(P:Nat->Prop)(Q:eR7):wav ⟨te,[],[],0,26,0⟩ (wax Tryz.f53 4) [0,1,12,13] [] [4] (wk4 n u w) P Q (wk4 n u w k)=(letI z0:=((0:Int)<=(k:Int)/\(k:Int)<(n:Int)/\1=1:Prop);wab (decide ((k:Int)<(n:Int))) (z0/\z0/\wab (!decide (u (k:Int).toNat=w (k:Int).toNat)) (Q .ret (St.mk [(4,.bool false)] [] 0 [])) (inR .i64 ((k:Int)+1)/\∃(i':Nat),some (St.mk [(0,.view 1 n (uRow u)),(1,.view 1 n (uRow w)),(12,.q (n:Int)),(13,.q ((k:Int)+1))] [] 0 [])=some (St.mk [(0,.view 1 n (uRow u)),(1,.view 1 n (uRow w)),(12,.q (n:Int)),(13,.q (i':Int))] [] 0 [])/\P i')) (Q (.exit 0) (St.mk [] [] 0 []))):=by kernel_rfl
theorem wyc(P:Nat->Prop)(Q:eR7):wav ⟨te,[],[],0,26,0⟩ (wax Tryz.f53 4) [0,1,12,13] [] [4] wk3 P Q (wk3 0)=(Q (.exit 0) (St.mk [] [] 0 [])):=by kernel_rfl
theorem nf_sm1(n m:Nat)(u w:Nat->Int)(Q:AV->oL7->Prop):wpFn te [] [(4,wm6 n u w)] 0 Tryz.f53 [.view 1 n (uRow u),.view 1 m (uRow w)] [] Q=(wab (!decide ((n:Int)=(m:Int))) (Q (.bool false) []) (some (St.mk [(0,.view 1 n (uRow u)),(1,.view 1 m (uRow w)),(12,.q (n:Int)),(13,.q 0)] [] 0 [])=some (St.mk [(0,.view 1 n (uRow u)),(1,.view 1 n (uRow w)),(12,.q (n:Int)),(13,.q (↑0:Int))] [] 0 [])/\n<=1000/\wab (decide (fstB (λ(i:Nat)=> !decide (u i=w i)) n=n)) (Q (.bool true) []) (Q (.bool false) []))):=by kernel_rfl
theorem nf_sm1n(Q:AV->oL7->Prop):wpFn te [] [(4,wm5)] 0 Tryz.f53 [.nil,.nil] [] Q=(some (St.mk [(0,.nil),(1,.nil),(12,.q 0),(13,.q 0)] [] 0 [])=some (St.mk [(0,.nil),(1,.nil),(12,.q 0),(13,.q (↑0:Int))] [] 0 [])/\Q (.bool true) []):=by kernel_rfl
theorem nf_sm2(a b:Bool)(n m:Nat)(u w:Nat->Int)(Q:AV->oL7->Prop):wpFn te [(53,.det wk7)] [] 0 Tryz.f21 [.agg [.bool a,.view 1 n (uRow u),.nil],.agg [.bool b,.view 1 m (uRow w),.nil]] [] Q=(wab (decide (a=b)) ((n<=1000/\m<=1000/\uRow u=uRow (uOf (uRow u))/\uRow w=uRow (uOf (uRow w)))/\wab (wil n (uOf (uRow u)) m (uOf (uRow w))) (True/\Q (.bool true) []) (Q (.bool false) [])) (Q (.bool false) [])):=by kernel_rfl
theorem nf_ends(a:VT)(Q:AV->oL7->Prop):wpFn te [] [] 0 Tryz.f73 [.agg [.str a.o,.str a.p,.q a.per,.q a.day,.q a.st,.q a.pr,.str a.rep]] [] Q=(wab (decide (a.st=4)) (Q (.bool true) []) (Q (.bool (decide (a.st=5))) [])):=by kernel_rfl
theorem wyb(st:Int)(Q:AV->oL7->Prop):wpFn te [] [] 0 Tryz.f72 [.q st] [] Q=(letI z0:=(wab (decide (st=3)) (Q (.q 2) []) (wab (decide (st=4)) (Q (.q 3) []) (wab (decide (st=5)) (Q (.q 4) []) (Q (.q 0) []))));wab (decide (st=1)) (wab (decide (st=1)) (Q (.q 1) []) z0) (wab (decide (st=2)) (Q (.q 1) []) z0)):=by kernel_rfl
theorem and_lim{v:Int}(h0:0<=v)(h1:v<18446744073709551616):bits .and .u64 v 4294967295=v % 4294967296:=by
 obtain⟨a,rfl⟩:=Int.eq_ofNat_of_zero_le h0;have e1:(BitVec.ofInt 64 (a:Int)).toNat=a:=by
  rw[BitVec.ofInt_natCast,BitVec.toNat_ofNat];exact Nat.mod_eq_of_lt (by omega)
 have e2:(BitVec.ofInt 64 4294967295).toNat=2 ^ 32 - 1:=by decide
 show IntKind.u64.wrap ((BitVec.ofInt 64 (a:Int) &&& BitVec.ofInt 64 4294967295).toNat:Int)=_;rw[BitVec.toNat_and,e1,e2,Nat.and_two_pow_sub_one_eq_mod];show ((a % 4294967296:Nat):Int) % 18446744073709551616=_;omega
theorem ww0(hP:C.P=Tryz.prog)(g:Nat->Int)(n:Nat):wah C 1 19 (waj Tryz.f136 2) (wm8 g n):=by
 have _:C.Loose:=inferInstance;rintro st Q ⟨h0,hn,hQ⟩;refine wah.mk (prg hP) [] 0 .nil [0,3] [3] [] (wk8 g n) (λk=>k<=n/\lowI g n=lowI g k) (λk=>k) n ⟨lR7 _,rfl⟩ h0 (λk hk=>?_) (λi=>⟨λ_ _=>rfl,trivial⟩);obtain⟨hkn,hz⟩:=hk;have fin:lowI g k=k->(∀i,i<n->true=true)/\∃O',wad [(0,AObj.row 124 1 n (uRow g) false)] O'/\Q (.exit 0) (St.mk [(3,.q k)] O' 1 []):=λh=>by
  rw[hz,h] at hQ;exact⟨λ_ _=>rfl,_,wa0 _,hQ⟩
 rw[wyi];refine wag (λh1=>?_) (λh1=>fin (by rw[show k=0 by omega];rfl));obtain⟨j,rfl⟩:∃j,k=j+1:=⟨k - 1,by omega⟩;have e1:((j+1:Nat):Int) - 1=(j:Int):=by omega
 rw[e1,tN7];refine⟨by simp only[inR];omega,⟨by omega,by omega⟩,⟨by omega,rfl⟩,wag (λh2=>⟨by simp only[inR];omega,j,⟨rfl,wa0 _⟩,⟨by omega,?_⟩,by omega⟩) (λh2=>fin ?_)⟩
 ·rw[hz,lowI,decide_eq_true h2];rfl
 ·rw[lowI,decide_eq_false h2];rfl
theorem rlow_ok(hP:C.P=Tryz.prog):wac C 136 wk9:=by
 rintro args objs U Os vc h hvc;unfold wk9 at h;split at h<;>cases h;rename_i n t m f fr;obtain⟨rfl,rfl,rfl,hn,hf⟩:=hvc;refine wac.wpL (prg hP) [] [(2,wm8 (uOf f) n)] 0 .nil (hP ▸ Tryz.func136) rfl rfl rfl [(waj Tryz.f136 2,wm8 (uOf f) n)] (by kernel_rfl) ⟨ww0 hP _ n,trivial⟩ ?_;rw[nf_rlow];have hrow:wad [(0,AObj.row 124 1 n (uRow (uOf f)) false)] [(0,.row 124 1 n f false)]:=⟨⟨rfl,rfl,rfl,rfl,rfl,λi hi=>(hf i hi).symm⟩,trivial⟩;exact⟨⟨rfl,⟨rfl,rfl,rfl,rfl,rfl,hf⟩,trivial⟩,hn,λ_ _=>rfl,_,hrow,rfl,rfl⟩
theorem wwv(hP:C.P=Tryz.prog):wac C 115 weq:=by
 rintro args objs U Os vc h hvc;unfold weq at h;split at h<;>cases h;rename_i n t m f fr;obtain⟨rfl,rfl,rfl,hn,hf⟩:=hvc;refine war.frzO 1 ?_;refine wbi.wpL (prg hP) [(136,.det wk9)] [] 0 (.cons (rlow_ok hP) .nil) (hP ▸ Tryz.func115) rfl rfl rfl [] (wcq _) trivial ?_;rw[wyg,tN7,Nat.zero_add];have hle:=wow (uOf f) n;have hnr:∀i,i<n->nrefL (f i)=true:=λi hi=>by rw[hf i hi];rfl
 have hap:∀i,i<lowI (uOf f) n->apF 0 (waw 1 (List.flatten (List.replicate 0 [.int .u32 0]))) f i=uRow (uOf f) i:=λi hi=>by
  unfold apF;rw[if_neg (nZ7 i),Nat.sub_zero];exact hf i (by omega)
 refine⟨⟨by omega,rfl,by omega⟩,hnr,⟨rfl,rfl,rfl,hn,hf⟩,hnr,⟨by omega,by omega⟩,⟨⟨hle,rfl⟩,lR7 _,rfl,rfl,rfl,by omega,by omega⟩,hnr,λi hi=>by rw[hap i hi];rfl,[(0,.row 124 1 n f false),(1,.row 124 1 (lowI (uOf f) n) (uRow (uOf f)) false)],⟨rQ7,⟨rfl,rfl,rfl,rfl,rfl,hap⟩,trivial⟩,λ_ _=>rfl,?_⟩;generalize lowI (uOf f) n=c at *;have hb:Nat.ble c c=true:=Nat.ble_eq_true_of_le (lR7 _)
 constructor
 ·simp[frzC,frzA,frz,hb]
 ·rfl
theorem ww5(hP:C.P=Tryz.prog):wac C 89 wet:=by
 rintro args objs U Os vc h hvc;unfold wet at h;split at h<;>cases h;rename_i v;obtain⟨h0,h1⟩:=hvc;refine wac.wp0 (prg hP) [(115,.det weq)] 0 (.cons (wwv hP) .nil) (hP ▸ Tryz.func89) rfl rfl rfl ?_;rw[wym,and_lim h0 h1];have w1:IntKind.wrap .u32 (v % 4294967296)=v % 4294967296:=by
  show (v % 4294967296) % 4294967296=v % 4294967296;omega
 have w2:IntKind.wrap .u32 (v / (2:Int) ^ Int.toNat (32:Int))=v / 4294967296:=by
  show (v / 4294967296) % 4294967296=v / 4294967296;omega
 rw[w1,w2];have e:uOf (waw 1 (.int .u32 (v % 4294967296):: .int .u32 (v / 4294967296)::List.append [] (List.flatten (List.replicate 0 [.int .u32 0]))))=lmF v:=by
  funext i
  match i with
  |0=>rfl
  |1=>rfl
  |i+2=>simp[uOf,waw,lmF,wds,wc7]
 have two:∀ {p:Nat->Prop},p 0->p 1->∀i,i<2->p i:=λh0 h1 i hi=>by
  match i,hi with
  |0,_=>exact h0
  |1,_=>exact h1
 refine⟨trivial,trivial,⟨by decide,by decide⟩,trivial,⟨by omega,rfl,by omega⟩,two rfl rfl,⟨rfl,rfl,rfl,by omega,two rfl rfl⟩,two rfl rfl,?_,rfl⟩;show AV.view 1 (lowI (uOf _) 2) (uRow (uOf _))=_;rw[e];rfl
theorem wvn(hP:C.P=Tryz.prog):wac C 54 weo:=by
 rintro args objs U Os vc h hvc;unfold weo at h;split at h<;>cases h;rename_i v;obtain⟨h0,h1⟩:=hvc;refine wac.wp0 (prg hP) [(89,.det wet)] 0 (.cons (ww5 hP) .nil) (hP ▸ Tryz.func54) rfl rfl rfl ?_;rw[wxw];have w:IntKind.wrap .u64 v=v:=by
  show v % 18446744073709551616=v;omega
 rw[w];exact wag (λh=>absurd h (by omega)) (λ_=>⟨trivial,⟨h0,by omega⟩,rfl,rfl⟩)
theorem ww6(hP:C.P=Tryz.prog):wac C 22 weu:=by
 rintro args objs U Os vc h hvc;unfold weu at h;split at h<;>cases h;rename_i v;obtain⟨h0,h1⟩:=hvc;refine wac.wp0 (prg hP) [(54,.det weo)] 0 (.cons (wvn hP) .nil) (hP ▸ Tryz.func22) rfl rfl rfl ?_;rw[wyn,decide_eq_false (show ¬ v<0 by omega)];exact⟨⟨h0,h1⟩,⟨trivial,trivial⟩,rfl,rfl⟩
theorem wwj(hP:C.P=Tryz.prog)(n:Nat)(u w:Nat->Int):wah C 0 26 (waj Tryz.f53 4) (wm6 n u w):=by
 have _:C.Loose:=inferInstance;rintro st Q ⟨h0,hn,hQ⟩;have hR:=wbt hQ;refine wah.mk (prg hP) [] 0 .nil [0,1,12,13] [] [4] (wk4 n u w) (λk=>k<=n/\fstB (λi=> !decide (u i=w i)) k=k) (λk=>n - k) 0 ⟨zL7 _,rfl⟩ h0 (λk hk=>?_);obtain⟨hkn,hok⟩:=hk;rw[wyd,tN7];refine wag (λh1=>⟨⟨by omega,by omega,rfl⟩,⟨by omega,by omega,rfl⟩,wam (λh2=>hR.2 ?_) (λh2=>⟨by simp only[inR];omega,k+1,rfl,⟨by omega,weg hok h2⟩,by omega⟩)⟩) (λh1=>hR.1 ?_)
 ·rw[weh hok h2 n (by omega),decide_eq_false];omega
 ·rw[show k=n by omega] at hok;rw[hok,decide_eq_true rfl]
theorem wwi(hP:C.P=Tryz.prog):wah C 0 26 (waj Tryz.f53 4) wm5:=by
 have _:C.Loose:=inferInstance;rintro st Q ⟨h0,hQ⟩;refine wah.mk (prg hP) [] 0 .nil [0,1,12,13] [] [4] wk3 (λk=>k=0) (λ_=>0) 0 rfl h0 (λk hk=>?_);subst hk;rw[wyc];exact hQ
theorem wwr(hP:C.P=Tryz.prog):wac C 53 wk7:=by
 rintro args objs U Os vc h hvc;unfold wk7 at h;split at h<;>simp only[sI7,pI7,reduceCtorEq] at h
 ·rename_i n f m g;obtain⟨rfl,rfl,rfl⟩:=h;obtain⟨hn,hm,hf,hg⟩:=hvc;generalize uOf f=u at *;generalize uOf g=w at *;subst hf;subst hg;refine wac.wpL (prg hP) [] [(4,wm6 n u w)] 0 .nil (hP ▸ Tryz.func53) rfl rfl rfl [(waj Tryz.f53 4,wm6 n u w)] (by kernel_rfl) ⟨wwj hP n u w,trivial⟩ ?_;rw[nf_sm1];unfold wil;refine wbf (λh=>?_) (λh=>?_)
  ·rw[decide_eq_false (show ¬ n=m by omega)];exact⟨rfl,rfl⟩
  ·have:n=m:=by omega
   subst this;rw[decide_eq_true rfl,Bool.true_and];refine⟨rfl,hn,wam (λh=>?_) (λh=>?_)⟩
   ·rw[h];exact⟨rfl,rfl⟩
   ·rw[h];exact⟨rfl,rfl⟩
 ·obtain⟨rfl,rfl,rfl⟩:=h;refine wac.wpL (prg hP) [] [(4,wm5)] 0 .nil (hP ▸ Tryz.func53) rfl rfl rfl [(waj Tryz.f53 4,wm5)] (by kernel_rfl) ⟨wwi hP,trivial⟩ ?_;rw[nf_sm1n];exact⟨rfl,rfl,rfl⟩
theorem wwq(hP:C.P=Tryz.prog):wac C 21 wk6:=by
 rintro args objs U Os vc h hvc;unfold wk6 at h;split at h<;>cases h;rename_i a n f b m g;obtain⟨hn,hm,hf,hg⟩:=hvc;generalize uOf f=u at *;generalize uOf g=w at *;subst hf;subst hg;refine wac.wp0 (prg hP) [(53,.det wk7)] 0 (.cons (wwr hP) .nil) (hP ▸ Tryz.func21) rfl rfl rfl ?_;have hu:∀u:Nat->Int,uOf (uRow u)=u:=λ_=>rfl;rw[nf_sm2,hu,hu];refine wam (λh=>⟨⟨hn,hm,rfl,rfl⟩,wam (λh2=>⟨trivial,?_,rfl⟩) (λh2=>⟨?_,rfl⟩)⟩) (λh=>⟨?_,rfl⟩)
 ·rw[h,h2];rfl
 ·rw[h,h2];rfl
 ·rw[h];rfl
theorem ends_ok(hP:C.P=Tryz.prog):wac C 73 wme:=by
 have _:C.Loose:=inferInstance;rintro args objs U Os vc h hvc;unfold wme at h;split at h<;>cases h;rename_i o p per d st pr rep;have hnf:=λQ=>nf_ends ⟨o,p,per,d,st,pr,rep⟩ Q;dsimp only at hnf;refine wac.wp0 (prg hP) [] 0 .nil (hP ▸ Tryz.func73) rfl rfl rfl ?_;rw[hnf];refine wam (λh1=>?_) (λh1=>?_)
 ·rw[h1];exact⟨rfl,rfl⟩
 ·rw[h1];exact⟨rfl,rfl⟩
theorem wv9(hP:C.P=Tryz.prog):wac C 72 wk0:=by
 have _:C.Loose:=inferInstance;rintro args objs U Os vc h hvc;unfold wk0 at h;split at h<;>cases h;rename_i st;refine wac.wp0 (prg hP) [] 0 .nil (hP ▸ Tryz.func72) rfl rfl rfl ?_;rw[wyb];have hk:kndF st=bif decide (st=1) || decide (st=2) then 1 else bif decide (st=3) then 2 else bif decide (st=4) then 3 else bif decide (st=5) then 4 else 0:=rfl
 refine wam (λs1=>wam (λ_=>?_) (λn1=>by rw[s1] at n1;cases n1)) (λn1=>wam (λs2=>?_) (λn2=>wam (λs3=>?_) (λn3=>wam (λs4=>?_) (λn4=>wam (λs5=>?_) (λn5=>?_)))))
 ·rw[hk,s1];exact⟨rfl,rfl⟩
 ·rw[hk,s2,Bool.or_true];exact⟨rfl,rfl⟩
 ·rw[hk,n1,n2,s3];exact⟨rfl,rfl⟩
 ·rw[hk,n1,n2,n3,s4];exact⟨rfl,rfl⟩
 ·rw[hk,n1,n2,n3,n4,s5];exact⟨rfl,rfl⟩
 ·rw[hk,n1,n2,n3,n4,n5];exact⟨rfl,rfl⟩
end Go.Eng
namespace Go.Eng
end Go.Eng
namespace Go.Eng
open Go.Proofs Go.RowKit
set_option maxRecDepth 20000
theorem nf_cdR(s:List UInt8)(R:oR7):wpFn te [] [(5,wno s)] 0 Tryz.f57 [.str s] [] R=(letI z2:=R (.tuple [.q 0,.bool false]) [];letI z1:=(s.length:Int);letI z0:=(some (St.mk [(0,.str s),(4,.q 0),(16,.q z1),(17,.q 0)] [] 0 [])=some (St.mk [(0,.str s),(4,.q (wa3 s 0)),(16,.q z1),(17,.q (↑0:Int))] [] 0 [])/\s.length<=12/\wab (List.all s wbo) ((10:Int)≠(0:Int)/\inR .i64 ((10:Int) - Int.tmod (wa3 s s.length) (10:Int))/\(10:Int)≠(0:Int)/\R (.tuple [.q (Int.tmod ((10:Int) - Int.tmod (wa3 s s.length) (10:Int)) (10:Int)),.bool true]) []) z2);wab (!decide (z1=7)) (wab (!decide (z1=12)) z2 z0) z0):=by kernel_rfl
theorem wz2(s:List UInt8)(k:Nat)(P:Nat->Prop)(R:eR7):wav ⟨te,[],[],0,50,0⟩ (wax Tryz.f57 5) [0,4,16,17] [4] [2,3] (wml s) P R (wml s k)=(letI z5:=R .ret (St.mk [(2,.q 0),(3,.bool false)] [] 0 []);letI z1:=(s.length:Int);letI z2:=((0:Int)<=(k:Int)/\(k:Int)<z1:Prop);letI z0:=(↑(UInt8.toNat (List.getD s (k:Int).toNat (0:UInt8))):Int);letI z3:=(z0 - (48:Int));letI z4:=(z3 % (256:Int));wab (decide ((k:Int)<z1)) (z2/\wab (decide (z0<48)) z5 (z2/\wab (decide ((57:Int)<z0)) z5 (inR .i64 (z1 - (k:Int))/\(2:Int)≠(0:Int)/\wab (decide (Int.tmod (z1 - (k:Int)) (2:Int)=1)) (z2/\inR .i64 z4/\inR .i64 ((3:Int) * z4)/\inR .i64 (wa3 s k+3 * z4)/\inR .i64 ((k:Int)+1)/\∃(i':Nat),some (St.mk [(0,.str s),(4,.q (wa3 s k+3 * z4)),(16,.q z1),(17,.q ((k:Int)+1))] [] 0 [])=some (St.mk [(0,.str s),(4,.q (wa3 s i')),(16,.q z1),(17,.q (i':Int))] [] 0 [])/\P i') (z2/\inR .i64 z4/\inR .i64 ((1:Int) * z4)/\inR .i64 (wa3 s k+1 * z4)/\inR .i64 ((k:Int)+1)/\∃(i':Nat),some (St.mk [(0,.str s),(4,.q (wa3 s k+1 * z4)),(16,.q z1),(17,.q ((k:Int)+1))] [] 0 [])=some (St.mk [(0,.str s),(4,.q (wa3 s i')),(16,.q z1),(17,.q (i':Int))] [] 0 [])/\P i')))) (R (.exit 0) (St.mk [(4,.q (wa3 s k))] [] 0 []))):=by kernel_rfl
variable {C:Ctx} [C.Loose]
theorem w25(hP:C.P=Tryz.prog)(s:List UInt8):wah C 0 50 (waj Tryz.f57 5) (wno s):=by
 have _:C.Loose:=inferInstance;rintro st Q ⟨h0,hlen,hQ⟩;have hQ:=wbt hQ;refine wah.mk (prg hP) [] 0 .nil [0,4,16,17] [4] [2,3] (wml s) (λk=>k<=s.length/\∀j,j<k->48<=(s.getD j 0).toNat/\(s.getD j 0).toNat<=57) (λk=>s.length - k) 0 ⟨zL7 _,λj h=>by omega⟩ h0 λk ⟨hk,hall⟩=>?_;rw[wz2];have hb:=wuv k hk hall;refine wag (λh=>?_) (λh=>?_)
 ·have hlt:k<s.length:=by omega
  have hret:¬ (48<=(s.getD k 0).toNat/\(s.getD k 0).toNat<=57)->Q .ret ⟨[(2,.q 0),(3,.bool false)],[],0,[]⟩:=λhno=>hQ.2 (by
   cases ha:s.all wbo with
   |false=>rfl
   |true=>exact absurd (wjn ha k hlt) hno)
  have e:Int.tmod (↑s.length - ↑k) 2=(↑s.length - ↑k) % 2:=Int.tmod_eq_emod_of_nonneg (by omega);have hs:wa3 s (k+1)=wa3 s k+(1+2 * ((↑s.length - ↑k) % 2)) * (↑(s.getD k 0).toNat - 48):=rfl;have hgo:(48<=(s.getD k 0).toNat/\(s.getD k 0).toNat<=57)->(k+1<=s.length/\∀j,j<k+1->48<=(s.getD j 0).toNat/\(s.getD j 0).toNat<=57)/\s.length - (k+1)<s.length - k:=λhok=>
   ⟨⟨by omega,λj hj=>by
    rcases Nat.lt_succ_iff_lt_or_eq.1 hj with hj | rfl
    ·exact hall j hj
    ·exact hok⟩,by omega⟩
  simp only[tN7,inR,e];refine⟨by omega,wag (λh1=>hret (by omega)) (λh1=>⟨by omega,wag (λh2=>hret (by omega)) (λh2=>⟨by omega,by omega,?_⟩)⟩)⟩;have hgo:=hgo (by omega);have e3:((s.getD k 0).toNat - 48:Int) % 256=(s.getD k 0).toNat - 48:=by omega
  rw[e3];refine wag (λh3=>?_) (λh3=>?_)
  ·rw[h3] at hs;exact⟨by omega,by omega,by omega,by omega,by omega,k+1,by rw[hs];rfl,hgo⟩
  ·have h3:(↑s.length - ↑k:Int) % 2=0:=by omega
   rw[h3] at hs;exact⟨by omega,by omega,by omega,by omega,by omega,k+1,by rw[hs];rfl,hgo⟩
 ·have hks:k=s.length:=by omega
  rw[hks];exact hQ.1 (w3u λj hj=>hall j (by omega))
theorem cdR_ok(hP:C.P=Tryz.prog):wac C 57 wew:=by
 rintro args objs U Os vc h hvc;unfold wew at h;split at h<;>cases h;rename_i s;refine wac.wpL (prg hP) [] [(5,wno s)] 0 .nil (hP ▸ Tryz.func57) rfl rfl rfl [(waj Tryz.f57 5,wno s)] (by kernel_rfl) ⟨w25 hP s,trivial⟩ ?_;rw[nf_cdR]
 have main:(s.length=7∨s.length=12)->wab (s.all wbo) ((10:Int)≠0/\inR .i64 (10 - Int.tmod (wa3 s s.length) 10)/\(10:Int)≠0/\AV.tuple [.q (Int.tmod (10 - Int.tmod (wa3 s s.length) 10) 10),.bool true]= .tuple [.q (cdF s).1,.bool (cdF s).2]/\([]:List (Nat×AObj))=[])
   (AV.tuple [.q 0,.bool false]= .tuple [.q (cdF s).1,.bool (cdF s).2]/\([]:List (Nat×AObj))=[]):=by
  intro hl;have hd:wbs s 7 12=s.all wbo:=by
   unfold wbs
   rcases hl with h | h<;>simp[h]
  refine wam (λha=>?_) (λha=>?_)
  ·have hb:=wki ha s.length (lR7 _);have e:Int.tmod (wa3 s s.length) 10=wa3 s s.length % 10:=Int.tmod_eq_emod_of_nonneg (by omega);rw[e,Int.tmod_eq_emod_of_nonneg (by omega)];refine⟨by omega,by simp only[inR];omega,by omega,?_,rfl⟩;simp[cdF,hd,ha]
  ·refine⟨?_,rfl⟩;simp[cdF,hd,ha]
 refine wbf (λh1=>wbf (λh2=>⟨?_,rfl⟩) (λh2=>⟨rfl,by omega,main (by omega)⟩)) (λh1=>⟨rfl,by omega,main (by omega)⟩);have hd:wbs s 7 12=false:=by unfold wbs;rw[decide_eq_false h1,decide_eq_false h2];rfl
 simp[cdF,hd]
end Go.Eng
namespace Go.Eng
open Go.Proofs Go.RowKit
variable {C:Ctx} [C.Loose]
set_option maxRecDepth 20000
theorem nf_fold(n k:Int)(R:oR7):wpFn te [] [] 0 Tryz.f56 [.q n,.q k] [] R=(letI z0:=(Int.tmod (IntKind.wrap IntKind.u64 n) (IntKind.wrap IntKind.u64 (max k (1:Int))));True/\True/\IntKind.wrap IntKind.u64 (max k (1:Int))≠(0:Int)/\inR .i64 z0/\R (.q z0) []):=by kernel_rfl
theorem nf_next(n:Nat)(v:Nat->Int)(a k:Int)(R:oR7):wpFn te [] [] 0 Tryz.f30 [.ptr 0 0,.q k] [.cells [.view 1 n (waf v),.q a] 26] R=(letI z1:=([(0,.cells [.view 1 n (waf v),.q (a+1)] 26)]:oL7);letI z0:=(IntKind.wrap IntKind.u64 (max k (1:Int)));letI z3:=Int.tmod (IntKind.wrap IntKind.u64 0) z0;letI z2:=Int.tmod (IntKind.wrap IntKind.u64 (v a.toNat)) z0;wab (decide (a<(n:Int))) (((0:Int)<=a/\a<(n:Int)/\1=1)/\inR .i64 (a+1)/\True/\True/\IntKind.wrap IntKind.u64 (max k (1:Int))≠(0:Int)/\inR .i64 z2/\R (.q z2) z1) (inR .i64 (a+1)/\True/\True/\IntKind.wrap IntKind.u64 (max k (1:Int))≠(0:Int)/\inR .i64 z3/\R (.q z3) z1)):=by kernel_rfl
theorem wqj(n:Int):IntKind.wrap .u64 n=n % 18446744073709551616:=by
 show n % (2:Int) ^ 64=_;rfl
theorem wom{k:Int}(h:1<=k/\k<=1000000)(x:Int):IntKind.wrap .u64 (max k 1)≠0/\Int.tmod (IntKind.wrap .u64 x) (IntKind.wrap .u64 (max k 1))=wc9 x k:=by
 have e:IntKind.wrap .u64 (max k 1)=k:=by
  rw[wqj,Int.max_eq_left h.1];omega
 rw[e,wqj];have hx:0<=x % 18446744073709551616:=by omega
 rw[Int.tmod_eq_emod_of_nonneg hx];exact⟨by omega,rfl⟩
theorem fold_ok(hP:C.P=Tryz.prog):wac C 56 wmc:=by
 have _:C.Loose:=inferInstance;rintro args objs U Os vc h hvc;unfold wmc at h;split at h<;>cases h;rename_i n k;refine wac.wp0 (prg hP) [] 0 .nil (hP ▸ Tryz.func56) rfl rfl rfl ?_;rw[nf_fold];obtain⟨h1,h2⟩:=wom hvc n;have h3:=whp hvc.1 n;rw[h2];exact⟨trivial,trivial,h1,by simp only[inR];omega,rfl,rfl⟩
theorem wi1(hP:C.P=Tryz.prog):wac C 30 wdj:=by
 have _:C.Loose:=inferInstance;rintro args objs U Os vc h hvc;unfold wdj at h;split at h<;>cases h;rename_i k sz n f a t;obtain⟨rfl,rfl,hf,hk,ha⟩:=hvc;rw[hf];have hv:vInt (waf (vInt f))=vInt f:=rfl;rw[hv];generalize vInt f=v at *;refine wac.wp0 (prg hP) [] 0 .nil (hP ▸ Tryz.func30) rfl rfl rfl ?_;rw[nf_next];unfold was;refine wag (λh=>?_) (λh=>?_)
 ·obtain⟨h1,h2⟩:=wom hk (v a.toNat);have h3:=whp hk.1 (v a.toNat);rw[h2,decide_eq_true h];exact⟨⟨by omega,by omega,rfl⟩,by simp only[inR];omega,trivial,trivial,h1,by simp only[inR];omega,rfl,rfl⟩
 ·obtain⟨h1,h2⟩:=wom hk 0;have h3:=whp hk.1 0;rw[h2,decide_eq_false h];exact⟨by simp only[inR];omega,trivial,trivial,h1,by simp only[inR];omega,rfl,rfl⟩
theorem wzj(V j:Nat)(P:Nat->Prop)(R:eR7):wav ⟨te,[],[],0,39,0⟩ (wax Tryz.f27 4) [3,4,5] [4] [] (wl8 V) P R (wl8 V j)=(letI z0:=(↑(pw V j):Int);wab (decide ((0:Int)<=6 - (j:Int))) ((10:Int)≠(0:Int)/\inR .i64 ((48:Int)+Int.tmod z0 (10:Int))/\inR .u8 ((48:Int)+Int.tmod z0 (10:Int))/\((0:Int)<=6 - (j:Int)/\(6:Int) - (j:Int)<(↑7:Int))/\(List.length [AV.int .u8 ((48:Int)+Int.tmod z0 (10:Int))]=1/\((6:Int) - (j:Int)).toNat<7/\1=1)/\((10:Int)≠(0:Int)/\inR .i64 (Int.tdiv z0 (10:Int)))/\inR .i64 ((6:Int) - (j:Int) - (1:Int))/\∃(i':Nat),(TEq [(3,.q (Int.tdiv z0 (10:Int))),(4,.own 0 7),(5,.q ((6:Int) - (j:Int) - (1:Int)))] [(3,.q (↑(pw V i'):Int)),(4,.own 0 7),(5,.q ((6:Int) - (i':Int)))]/\wad [(0,.row 5 1 7 (λ(k:Nat)=>if k=Int.toNat ((6:Int) - (j:Int)) then [.int .u8 ((48:Int)+Int.tmod z0 (10:Int))] else [.int .u8 (bif decide (7<=k+j) then dgI V k else (0:Int))]) false)] [(0,.row 5 1 7 (λ(k:Nat)=>[.int .u8 (bif decide (7<=k+i') then dgI V k else (0:Int))]) false)])/\P i') ((∀(i:Nat),i<7->true=true)/\∃(O':oL7),wad [(0,.row 5 1 7 (λ(k:Nat)=>[.int .u8 (bif decide (7<=k+j) then dgI V k else (0:Int))]) false)] O'/\R (.exit 0) (St.mk [(4,.own 0 7)] O' 1 []))):=by kernel_rfl
theorem nf_id(n:Int)(V:Nat)(R:oR7):wpFn te [(56,.det wmc),(57,.det wew)] [(4,L_id V)] 2 Tryz.f27 [.q n] [] R=(letI z4:=(List.flatten (List.replicate (nat_lit 0) [.int .u8 0]):List AV);letI z3:=cdF (wa7 7 (wa8 V));letI z2:=((7<=7/\1=1)/\∀(i:Nat),i<7->isU8 (wa8 V i)=true:Prop);letI z1:=1000000;letI z0:=(waw 1 (.int .u8 ((48:Int)+z3.1)::List.append [] z4));((1:Int)<=z1/\z1<=z1)/\inR .i64 (z1+wc9 n z1)/\((0:Int)<=7/\(7:Int)<=7/\(↑1:Int) * (7:Int)<=281474976710656/\(7:Int)<=9223372036854775807)/\(TEq [(3,.q (z1+wc9 n z1)),(4,.own 0 7),(5,.q 6)] [(3,.q (↑(pw V 0):Int)),(4,.own 0 7),(5,.q ((6:Int) - (↑0:Int)))]/\wad [(0,.row 5 1 7 (λ(_x:Nat)=>[.int .u8 0]) false)] [(0,.row 5 1 7 (λ(k:Nat)=>[.int .u8 (bif decide (7<=k+0) then dgI V k else (0:Int))]) false)])/\V<2000000/\z2/\True/\z2/\inR .i64 ((48:Int)+z3.1)/\inR .u8 ((48:Int)+z3.1)/\(1<=16777216/\1=1/\1<=9223372036854775807)/\((1<=1/\1=1)/\∀(i:Nat),i<1->isU8 (waw 1 (.int .u8 ((48:Int)+z3.1)::List.append [] z4) i)=true)/\(wa7 7 (wa8 V)).length+(wa7 1 z0).length<=9223372036854775807/\R (.str (wa7 7 (wa8 V)++wa7 1 z0)) []):=by kernel_rfl
theorem pw_step(V j:Nat):Int.tdiv (pw V j:Nat) 10=(pw V (j+1):Nat):=by
 rw[Int.tdiv_eq_ediv_of_nonneg (Int.natCast_nonneg _)];unfold pw;rw[Nat.pow_succ, ← Nat.div_div_eq_div_mul];rfl
theorem pw_le(V j:Nat):pw V j<=V:=Nat.div_le_self _ _
theorem id_loop(hP:C.P=Tryz.prog)(V:Nat):wah C 0 39 (waj Tryz.f27 4) (L_id V):=by
 have _:C.Loose:=inferInstance;rintro st Q ⟨h0,hv,hQ⟩;refine wah.mk (prg hP) [] 0 .nil [3,4,5] [4] [] (wl8 V) (λj=>j<=7) (λj=>7 - j) 0 (by omega) h0 (λj hj=>?_) (λi=>⟨λ_ _=>rfl,trivial⟩);rw[wzj];have hle:=pw_le V j;have ht:Int.tmod (pw V j:Nat) 10=((pw V j % 10:Nat):Int):=by
  rw[Int.tmod_eq_emod_of_nonneg (Int.natCast_nonneg _)];rfl
 rw[ht,pw_step];have hle':=pw_le V (j+1);have hm:=Nat.mod_lt (pw V j) (show 0<10 by omega);refine wag (λh=>?_) (λh=>⟨λ_ _=>rfl,_,?_,hQ⟩)
 ·refine⟨by omega,by simp only[inR];omega,by simp only[inR];omega,⟨h,by omega⟩,⟨rfl,by omega,rfl⟩,⟨by omega,by simp only[inR];omega⟩,by simp only[inR];omega,j+1,⟨?_,⟨rfl,rfl,rfl,rfl,rfl,λk hk=>?_⟩,trivial⟩,by omega,by omega⟩
  ·rw[show (6:Int) - (j:Int) - 1=6 - ((j+1:Nat):Int) by omega];rfl
  ·dsimp only
   split
   ·rename_i e;have e':6 - k=j:=by omega
    rw[decide_eq_true (show 7<=k+(j+1) by omega)];unfold dgI;rw[e'];rfl
   ·rename_i e
    by_cases h7:7<=k+j
    ·rw[decide_eq_true h7,decide_eq_true (show 7<=k+(j+1) by omega)]
    ·rw[decide_eq_false h7,decide_eq_false (show ¬ 7<=k+(j+1) by omega)]
 ·have:j=7:=by omega
  subst this;refine⟨⟨rfl,rfl,rfl,rfl,rfl,λk hk=>?_⟩,trivial⟩;dsimp only
  rw[decide_eq_true (show 7<=k+7 by omega)];rfl
theorem id_ok(hP:C.P=Tryz.prog):wac C 27 S_id:=by
 rintro args objs U Os vc h hvc;unfold S_id at h;split at h<;>cases h;rename_i n;refine wac.wpL (prg hP) [(56,.det wmc),(57,.det wew)] [(4,L_id (idV n))] 2 (.cons (fold_ok hP) (.cons (cdR_ok hP) .nil)) (hP ▸ Tryz.func27) rfl rfl rfl [(waj Tryz.f27 4,L_id (idV n))] (by kernel_rfl) ⟨id_loop hP _,trivial⟩ ?_;rw[nf_id];have hf:=whp (show (1:Int)<=1000000 by omega) n;have hV:((idV n:Nat):Int)=1000000+wc9 n 1000000:=by unfold idV;omega
 have hl:=whl n;have hc:=wuw (id7 n);refine⟨⟨by omega,by omega⟩,by simp only[inR];omega,⟨by omega,by omega,by decide,by omega⟩,⟨?_,⟨rfl,rfl,rfl,rfl,rfl,λk hk=>?_⟩,trivial⟩,by omega,⟨⟨by omega,rfl⟩,λ_ _=>rfl⟩,trivial,⟨⟨by omega,rfl⟩,λ_ _=>rfl⟩,?_,?_,⟨by omega,rfl,by omega⟩,⟨⟨by omega,rfl⟩,λi hi=>?_⟩,?_,rfl,rfl⟩
 ·rw[← hV];show TEq [(3,.q ((idV n:Nat):Int)),(4,.own 0 7),(5,.q 6)] [(3,.q ((idV n / 1:Nat):Int)),(4,.own 0 7),(5,.q 6)];rw[Nat.div_one];rfl
 ·dsimp only
  rw[decide_eq_false (show ¬ 7<=k+0 by omega)];rfl
 ·show inR .i64 (48+(cdF (id7 n)).1);simp only[inR];omega
 ·show inR .u8 (48+(cdF (id7 n)).1);simp only[inR];omega
 ·obtain rfl:i=0:=by omega
  rfl
 ·show (id7 n).length+_<=_;rw[hl];simp[wa7]
end Go.Eng
