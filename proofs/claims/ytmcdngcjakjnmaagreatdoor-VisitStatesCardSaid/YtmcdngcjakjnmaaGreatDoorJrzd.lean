/- The tied card of VisitStates: its statement is 'VisitStatesCardSaid' of the given cards. -/
import Derived.Test.YtmcdngcjakjnmaaGreatDoorJrzc
import Derived.Test.YtmcdngcjakjnmaaGreatDoorJro
import Derived.Test.YtmcdngcjakjnmaaGreatDoorCards
import Derived.Test.YtmcdngcjakjnmaaGreatDoorTie
import Derived.SevenTiedAt
namespace Go.Eng
open Go.Proofs Go.RowKit
variable {C:Ctx} [C.Loose]
set_option maxRecDepth 20000
theorem wyr(n:Nat)(v:Nat->Int)(a:Int)(R:oR7):wpFn te [(30,.det wdj)] [] 0 Tryz.f67 [.ptr 0 0] [.cells [.view 1 n (waf v),.q a] 26] R=(letI z0:=vInt (waf v);(3<=16777216/\1=1/\3<=9223372036854775807)/\(26=26/\1=1/\waf v=waf z0/\((1:Int)<=3/\(3:Int)<=1000000)/\(0:Int)<=a/\a<=4611686018427387904)/\((0:Int)<=was n z0 a (3:Int)/\was n z0 a (3:Int)<(↑3:Int))/\((was n z0 a (3:Int)).toNat<3/\1=1)/\R (.str (List.getD [[(111:UInt8),49],[(111:UInt8),50],[(112:UInt8)]] (was n z0 a (3:Int)).toNat [])) [(0,.cells [.view 1 n (waf v),.q (a+1)] 26)]):=by kernel_rfl
theorem wya(n:Nat)(v:Nat->Int)(a:Int)(R:oR7):wpFn te [(30,.det wdj),(27,.det S_id)] [] 0 Tryz.f68 [.ptr 0 0] [.cells [.view 1 n (waf v),.q a] 26] R=((26=26/\1=1/\waf v=waf (vInt (waf v))/\((1:Int)<=4/\(4:Int)<=1000000)/\(0:Int)<=a/\a<=4611686018427387904)/\True/\R (.str (idF (was n (vInt (waf v)) a (4:Int)))) [(0,.cells [.view 1 n (waf v),.q (a+1)] 26)]):=by kernel_rfl
theorem wxp(hP:C.P=Tryz.prog):wac C 67 wlg:=by
 rintro args objs U Os vc h hvc;unfold wlg at h;split at h<;>cases h;rename_i sz n f a t;obtain⟨rfl,rfl,hf,h1,h2⟩:=hvc;rw[hf];generalize vInt f=v;have hw:vInt (waf v)=v:=rfl;refine wac.wp0 (prg hP) [(30,.det wdj)] 0 (.cons (wi1 hP) .nil) (hP ▸ Tryz.func67) rfl rfl rfl ?_;rw[wyr];have r:=wec (show (1:Int)<=3 by omega) n v a;exact⟨⟨by omega,rfl,by omega⟩,⟨rfl,rfl,rfl,⟨by omega,by omega⟩,by omega,by omega⟩,⟨r.1,r.2⟩,⟨by rw[hw];omega,rfl⟩,rfl,rfl⟩
theorem wv5(hP:C.P=Tryz.prog):wac C 68 wle:=by
 rintro args objs U Os vc h hvc;unfold wle at h;split at h<;>cases h;rename_i sz n f a t;obtain⟨rfl,rfl,hf,h1,h2⟩:=hvc;rw[hf];generalize vInt f=v;have hw:vInt (waf v)=v:=rfl;refine wac.wp0 (prg hP) [(30,.det wdj),(27,.det S_id)] 0 (.cons (wi1 hP) (.cons (id_ok hP) .nil)) (hP ▸ Tryz.func68) rfl rfl rfl ?_;rw[wya];exact⟨⟨rfl,rfl,rfl,⟨by omega,by omega⟩,by omega,by omega⟩,trivial,rfl,rfl⟩
theorem outF_ok:∀i,i<3->wbe (List.getD [[111,49],[111,50],[112]] i [])=true/\(List.getD [[111,49],[111,50],[112]] i ([]:List UInt8)).length<=2:=by decide+kernel
theorem wyh(g:Nat->VT)(n:Nat)(per:Int)(i:SI)(P:SI->Prop)(Q:eR7):wav ⟨te,[(72,.det wk0),(73,.det wme)],[],0,44,0⟩ (wax Tryz.f36 3) [1,4,5,10,11,12] [4,5] [4] (wgi g n per) P Q (wgi g n per i)=(letI z9:=([(4,.ptr 0 0)]:tL7);letI z7:=(↑(SI.k i):Int);letI z11:=(z7+1);letI z5:=([.q (SX.kind (SI.x i)),.q (SX.since (SI.x i)),.str (SX.rep (SI.x i))]:List AV);letI z4:=([.q 0,.q 0,.str []]:List AV);letI z3:=([(1,.q per),(4,.ptr 0 0),(5,.ptr 1 0),(10,.view 7 n (wae g)),(11,.q (n:Int)),(12,.q z11)]:tL7);letI z2:=(g z7.toNat);letI z10:=([.q (kndF z2.st),.q z2.per,.str []]:List AV);letI z8:=(decide (kndF z2.st=4));letI z6:=(decide (z2.st=4) || decide (z2.st=5));letI z1:=(inR .i64 z11/\∃(i':SI),some (St.mk z3 [(0,.cells z4 65),(1,.cells z5 65)] 2 [])=some (St.mk [(1,.q per),(4,.ptr 0 0),(5,.ptr 1 0),(10,.view 7 n (wae g)),(11,.q (n:Int)),(12,.q (↑(SI.k i'):Int))] [(0,.cells z4 65),(1,.cells [.q (SX.kind (SI.x i')),.q (SX.since (SI.x i')),.str (SX.rep (SI.x i'))] 65)] 2 [])/\P i');letI z0:=(True/\wab z6 (wab z8 (Q .ret (St.mk z9 [(0,.cells [.q 0,.q 0,.str z2.rep] 65)] 1 [])) (Q .ret (St.mk z9 [(0,.cells z4 65)] 1 []))) (inR .i64 z11/\∃(i':SI),some (St.mk z3 [(0,.cells z4 65),(1,.cells z4 65)] 2 [])=some (St.mk [(1,.q per),(4,.ptr 0 0),(5,.ptr 1 0),(10,.view 7 n (wae g)),(11,.q (n:Int)),(12,.q (↑(SI.k i'):Int))] [(0,.cells z4 65),(1,.cells [.q (SX.kind (SI.x i')),.q (SX.since (SI.x i')),.str (SX.rep (SI.x i'))] 65)] 2 [])/\P i'));wab (decide (z7<(n:Int))) (((0:Int)<=z7/\z7<(n:Int)/\7=7)/\wab (decide (per<z2.per)) z1 (True/\wab (!decide (kndF z2.st=SX.kind (SI.x i))) (wab (decide (kndF z2.st=0)) z0 (True/\wab z6 (wab z8 (Q .ret (St.mk z9 [(0,.cells [.q (kndF z2.st),.q z2.per,.str z2.rep] 65)] 1 [])) (Q .ret (St.mk z9 [(0,.cells z10 65)] 1 []))) (inR .i64 z11/\∃(i':SI),some (St.mk z3 [(0,.cells z4 65),(1,.cells z10 65)] 2 [])=some (St.mk [(1,.q per),(4,.ptr 0 0),(5,.ptr 1 0),(10,.view 7 n (wae g)),(11,.q (n:Int)),(12,.q (↑(SI.k i'):Int))] [(0,.cells z4 65),(1,.cells [.q (SX.kind (SI.x i')),.q (SX.since (SI.x i')),.str (SX.rep (SI.x i'))] 65)] 2 [])/\P i'))) (wab (decide (kndF z2.st=0)) z0 (True/\wab z6 (wab z8 (Q .ret (St.mk z9 [(0,.cells [.q (SX.kind (SI.x i)),.q (SX.since (SI.x i)),.str z2.rep] 65)] 1 [])) (Q .ret (St.mk z9 [(0,.cells z5 65)] 1 []))) z1)))) (Q (.exit 0) (St.mk [(4,.ptr 0 0),(5,.ptr 1 0)] [(0,.cells z4 65),(1,.cells z5 65)] 2 []))):=by kernel_rfl
theorem nf_rst(g:Nat->VT)(n:Nat)(per:Int)(Q:AV->oL7->Prop):wpFn te [] [(3,wm7 g n per)] 0 Tryz.f36 [.view 7 n (wae g),.q per] [] Q=(letI z1:=([.q 0,.q 0,.str []]:List AV);letI z0:=([.q (SX.kind (staP per (lst g n))),.q (SX.since (staP per (lst g n))),.str (SX.rep (staP per (lst g n)))]:List AV);some (St.mk [(1,.q per),(4,.ptr 0 0),(5,.ptr 1 0),(10,.view 7 n (wae g)),(11,.q (n:Int)),(12,.q 0)] [(0,.cells z1 65),(1,.cells z1 65)] 2 [])=some (St.mk [(1,.q per),(4,.ptr 0 0),(5,.ptr 1 0),(10,.view 7 n (wae g)),(11,.q (n:Int)),(12,.q (↑(SI.k (SI.mk 0 wbu)):Int))] [(0,.cells z1 65),(1,.cells [.q (SX.kind (SI.x (SI.mk 0 wbu))),.q (SX.since (SI.x (SI.mk 0 wbu))),.str []] 65)] 2 [])/\n<=1000000/\((True/\True)/\Q (.agg z0) [])/\(True/\True)/\Q (.agg z0) []):=by kernel_rfl
theorem staX_at{per:Int}{g:Nat->VT}{n k:Nat}(hk:k<n)(x:SX):staX per x ((lst g n).drop k)=bif decide (per<(g k).per) then staX per x ((lst g n).drop (k+1)) else bif finB (g k) then endX (stpX x (g k)) (g k) else staX per (stpX x (g k)) ((lst g n).drop (k+1)):=by
 have hl:(lst g n).length=n:=by simp[lst]
 rw[List.drop_eq_getElem_cons (by omega)];have e:(lst g n)[k]'(by omega)=g k:=by simp[lst]
 rw[e];rfl
theorem www(hP:C.P=Tryz.prog)(g:Nat->VT)(n:Nat)(per:Int):wah C 0 44 (waj Tryz.f36 3) (wm7 g n per):=by
 rintro st Q ⟨h0,hn,hR,hQ⟩;refine wah.mk (prg hP) [(72,.det wk0),(73,.det wme)] 0 (.cons (wv9 hP) (.cons (ends_ok hP) .nil)) [1,4,5,10,11,12] [4,5] [4] (wgi g n per) (λi=>i.k<=n/\staX per i.x ((lst g n).drop i.k)=staP per (lst g n)) (λi=>n - i.k) ⟨0,wbu⟩ ⟨zL7 _,sta_eq per _⟩ h0 (λi hi=>?_);obtain⟨k,x⟩:=i;obtain⟨hk,he⟩:=hi;have hk:k<=n:=hk;have he:staX per x ((lst g n).drop k)=staP per (lst g n):=he;have hl:(lst g n).length=n:=by simp[lst]
 rw[wyh];dsimp only
 rw[tN7];refine wag (λh1=>?_) (λh1=>?_)
 ·have hk1:k<n:=by omega
  rw[staX_at hk1] at he;generalize g k=v at *;generalize staP per (lst g n)=z at *;have go:∀y:SX,staX per y ((lst g n).drop (k+1))=z->inR .i64 ((k:Int)+1)/\∃i':SI,some (St.mk [(1,.q per),(4,.ptr 0 0),(5,.ptr 1 0),(10,.view 7 n (wae g)),(11,.q n),(12,.q ((k:Int)+1))] [(0,.cells [.q 0,.q 0,.str []] 65),(1,.cells [.q y.kind,.q y.since,.str y.rep] 65)] 2 [])=some (wgi g n per i')/\((i'.k<=n/\staX per i'.x ((lst g n).drop i'.k)=z)/\n - i'.k<n - k):=λy hy=>
   ⟨by simp only[inR];omega,⟨k+1,y⟩,rfl,⟨hk1,hy⟩,by show n - (k+1)<n - k;omega⟩
  have hfin:finB v=(decide (v.st=4) || decide (v.st=5)):=rfl
  have body:∀y:SX,stpX x v=y->wab (decide (v.st=4) || decide (v.st=5)) (wab (decide (kndF v.st=4)) (Q .ret (St.mk [(4,.ptr 0 0)] [(0,.cells [.q y.kind,.q y.since,.str v.rep] 65)] 1 [])) (Q .ret (St.mk [(4,.ptr 0 0)] [(0,.cells [.q y.kind,.q y.since,.str y.rep] 65)] 1 [])))
    (inR .i64 ((k:Int)+1)/\∃i':SI,some (St.mk [(1,.q per),(4,.ptr 0 0),(5,.ptr 1 0),(10,.view 7 n (wae g)),(11,.q n),(12,.q ((k:Int)+1))] [(0,.cells [.q 0,.q 0,.str []] 65),(1,.cells [.q y.kind,.q y.since,.str y.rep] 65)] 2 [])=some (wgi g n per i')/\((i'.k<=n/\staX per i'.x ((lst g n).drop i'.k)=z)/\n - i'.k<n - k))∨per<v.per:=λy hy=>by
   by_cases hp:per<v.per
   ·exact .inr hp
   ·left;rw[decide_eq_false hp,cond_false,hy] at he;refine wam (λh2=>?_) (λh2=>go y ?_)
    ·rw[hfin,h2,cond_true] at he;have hx:endX y v=bif decide (kndF v.st=4) then ⟨y.kind,y.since,v.rep⟩ else y:=rfl
     refine wam (λh3=>?_) (λh3=>?_)
     ·rw[hx,h3,cond_true] at he;rw[← he] at hR;exact hR
     ·rw[hx,h3,cond_false] at he;rw[← he] at hR;exact hR
    ·rw[hfin,h2,cond_false] at he;exact he
  have hy:stpX x v=bif decide (kndF v.st=0) then wbu else bif decide (kndF v.st=x.kind) then x else ⟨kndF v.st,v.per,[]⟩:=rfl
  refine⟨⟨by omega,by omega,rfl⟩,wag (λh2=>go x ?_) (λh2=>⟨trivial,wbf (λh3=>wam (λh4=>⟨trivial,?_⟩) (λh4=>⟨trivial,?_⟩)) (λh3=>wam (λh4=>⟨trivial,?_⟩) (λh4=>⟨trivial,?_⟩))⟩)⟩
  ·rw[decide_eq_true h2,cond_true] at he;exact he
  ·exact(body wbu (by rw[hy,h4];rfl)).resolve_right h2
  ·exact(body ⟨kndF v.st,v.per,[]⟩ (by rw[hy,h4,decide_eq_false h3];rfl)).resolve_right h2
  ·exact(body wbu (by rw[hy,h4];rfl)).resolve_right h2
  ·exact(body x (by rw[hy,h4,decide_eq_true h3];rfl)).resolve_right h2
 ·have:k=n:=by omega
  subst this;rw[List.drop_eq_nil_of_le (by omega)] at he;have he:x=staP per (lst g k):=he;rw[← he] at hQ;exact hQ
theorem rst_ok(hP:C.P=Tryz.prog):wac C 36 wcv:=by
 rintro args objs U Os vc h hvc;unfold wcv at h;split at h<;>cases h;rename_i n f per;obtain⟨hn,hf⟩:=hvc;generalize vtOf f=g at *;subst hf;refine wac.wpL (prg hP) [] [(3,wm7 g n per)] 0 .nil (hP ▸ Tryz.func36) rfl rfl rfl [(waj Tryz.f36 3,wm7 g n per)] (by kernel_rfl) ⟨www hP g n per,trivial⟩ ?_;rw[nf_rst];exact⟨rfl,hn,⟨⟨trivial,trivial⟩,rfl,rfl⟩,⟨trivial,trivial⟩,rfl,rfl⟩
theorem wy0(n:Nat)(v:Nat->Int)(a:Int)(R:oR7):wpFn te [(30,.det wdj),(67,.det wlg),(68,.det wle),(27,.det S_id)] [] 3 Tryz.f34 [.ptr 0 0] [.cells [.view 1 n (waf v),.q a] 26] R=(letI z20:=((1:Int)<=4/\(4:Int)<=1000000:Prop);letI z19:=4611686018427387904;letI z18:=4611686018427387000;letI z16:=((48:Int)+(cdF (id7 (4:Int))).1).toNat;letI z14:=([(0,.cells [.view 1 n (waf v),.q (a+1+1+1+1+1+1+1)] 26)]:oL7);letI z12:=(a+1+1);letI z11:=(a+1+1+1+1);letI z10:=(a+1+1+1);letI z9:=(idV (4:Int));letI z7:=(a+1+1+1+1+1+1);letI z17:=([(0,.cells [.view 1 n (waf v),.q z7] 26)]:oL7);letI z6:=(a+1+1+1+1+1);letI z5:=vInt (waf v);letI z13:=(outF (was n z5 a (3:Int)));letI z8:=(was n z5 (a+1) (4:Int));letI z4:=(was n z5 z11 (7:Int)).toNat;letI z15:=(decide ((1:Int)+List.getD [(0:Int),(0:Int),(0:Int),(1:Int),(2:Int),(3:Int),(4:Int)] z4 (0:Int)=5));letI z3:=((True/\True)/\R (.agg [.str z13,.str (idF z8),.q ((1440:Int)+was n z5 z12 (4:Int)),.q ((43830:Int)+was n z5 z10 (100:Int)),.q ((1:Int)+List.getD [(0:Int),(0:Int),(0:Int),(1:Int),(2:Int),(3:Int),(4:Int)] z4 (0:Int)),.q 0,.str [(λ(i:Nat)=>UInt8.ofNat (wau (List.headD (wa8 z9 i) .any)).toNat) (nat_lit 0),(λ(i:Nat)=>UInt8.ofNat (wau (List.headD (wa8 z9 i) .any)).toNat) (nat_lit 1),(λ(i:Nat)=>UInt8.ofNat (wau (List.headD (wa8 z9 i) .any)).toNat) (nat_lit 2),(λ(i:Nat)=>UInt8.ofNat (wau (List.headD (wa8 z9 i) .any)).toNat) (nat_lit 3),(λ(i:Nat)=>UInt8.ofNat (wau (List.headD (wa8 z9 i) .any)).toNat) (nat_lit 4),(λ(i:Nat)=>UInt8.ofNat (wau (List.headD (wa8 z9 i) .any)).toNat) (nat_lit 5),(λ(i:Nat)=>UInt8.ofNat (wau (List.headD (wa8 z9 i) .any)).toNat) (nat_lit 6),UInt8.ofNat z16]]) z17:Prop);letI z2:=((True/\True)/\R (.agg [.str z13,.str (idF z8),.q ((1440:Int)+was n z5 z12 (4:Int)),.q ((43830:Int)+was n z5 z10 (100:Int)),.q ((1:Int)+List.getD [(0:Int),(0:Int),(0:Int),(1:Int),(2:Int),(3:Int),(4:Int)] z4 (0:Int)),.q ((100:Int)+was n z5 z6 (4:Int) * (5:Int)),.str [(λ(i:Nat)=>UInt8.ofNat (wau (List.headD (wa8 z9 i) .any)).toNat) (nat_lit 0),(λ(i:Nat)=>UInt8.ofNat (wau (List.headD (wa8 z9 i) .any)).toNat) (nat_lit 1),(λ(i:Nat)=>UInt8.ofNat (wau (List.headD (wa8 z9 i) .any)).toNat) (nat_lit 2),(λ(i:Nat)=>UInt8.ofNat (wau (List.headD (wa8 z9 i) .any)).toNat) (nat_lit 3),(λ(i:Nat)=>UInt8.ofNat (wau (List.headD (wa8 z9 i) .any)).toNat) (nat_lit 4),(λ(i:Nat)=>UInt8.ofNat (wau (List.headD (wa8 z9 i) .any)).toNat) (nat_lit 5),(λ(i:Nat)=>UInt8.ofNat (wau (List.headD (wa8 z9 i) .any)).toNat) (nat_lit 6),UInt8.ofNat z16]]) z14:Prop);letI z1:=(decide ([(λ(i:Nat)=>UInt8.ofNat (wau (List.headD (wa8 z9 i) .any)).toNat) (nat_lit 0),(λ(i:Nat)=>UInt8.ofNat (wau (List.headD (wa8 z9 i) .any)).toNat) (nat_lit 1),(λ(i:Nat)=>UInt8.ofNat (wau (List.headD (wa8 z9 i) .any)).toNat) (nat_lit 2),(λ(i:Nat)=>UInt8.ofNat (wau (List.headD (wa8 z9 i) .any)).toNat) (nat_lit 3),(λ(i:Nat)=>UInt8.ofNat (wau (List.headD (wa8 z9 i) .any)).toNat) (nat_lit 4),(λ(i:Nat)=>UInt8.ofNat (wau (List.headD (wa8 z9 i) .any)).toNat) (nat_lit 5),(λ(i:Nat)=>UInt8.ofNat (wau (List.headD (wa8 z9 i) .any)).toNat) (nat_lit 6),UInt8.ofNat z16]=idF z8));letI z0:=(wab z15 ((26=26/\1=1/\waf v=waf z5/\(0:Int)<=a+1+1+1+1+1/\a+1+1+1+1+1<=z18)/\wab (decide (idF (was n z5 z6 (4:Int))=idF z8)) (True/\wab z1 (True/\wab z1 (True/\False) z3) z3) ((True/\True)/\R (.agg [.str z13,.str (idF z8),.q ((1440:Int)+was n z5 z12 (4:Int)),.q ((43830:Int)+was n z5 z10 (100:Int)),.q ((1:Int)+List.getD [(0:Int),(0:Int),(0:Int),(1:Int),(2:Int),(3:Int),(4:Int)] z4 (0:Int)),.q 0,.str (idF (was n z5 z6 (4:Int)))]) z17)) ((True/\True)/\R (.agg [.str z13,.str (idF z8),.q ((1440:Int)+was n z5 z12 (4:Int)),.q ((43830:Int)+was n z5 z10 (100:Int)),.q ((1:Int)+List.getD [(0:Int),(0:Int),(0:Int),(1:Int),(2:Int),(3:Int),(4:Int)] z4 (0:Int)),.q 0,.str []]) [(0,.cells [.view 1 n (waf v),.q z6] 26)]));(26=26/\1=1/\waf v=waf z5/\(0:Int)<=a/\a<=z18)/\(26=26/\1=1/\waf v=waf z5/\(0:Int)<=a+1/\a+1<=z18)/\(26=26/\1=1/\waf v=waf z5/\z20/\(0:Int)<=a+1+1/\a+1+1<=z19)/\inR .i64 ((1440:Int)+was n z5 z12 (4:Int))/\(26=26/\1=1/\waf v=waf z5/\((1:Int)<=100/\(100:Int)<=1000000)/\(0:Int)<=a+1+1+1/\a+1+1+1<=z19)/\inR .i64 ((43830:Int)+was n z5 z10 (100:Int))/\(7<=16777216/\1=1/\7<=9223372036854775807)/\(26=26/\1=1/\waf v=waf z5/\((1:Int)<=7/\(7:Int)<=1000000)/\(0:Int)<=a+1+1+1+1/\a+1+1+1+1<=z19)/\((0:Int)<=was n z5 z11 (7:Int)/\was n z5 z11 (7:Int)<(↑7:Int))/\((was n z5 z11 (7:Int)).toNat<7/\1=1)/\inR .i64 ((1:Int)+List.getD [(0:Int),(0:Int),(0:Int),(1:Int),(2:Int),(3:Int),(4:Int)] z4 (0:Int))/\wab (!decide ((1:Int)+List.getD [(0:Int),(0:Int),(0:Int),(1:Int),(2:Int),(3:Int),(4:Int)] z4 (0:Int)=3)) (wab (!decide ((1:Int)+List.getD [(0:Int),(0:Int),(0:Int),(1:Int),(2:Int),(3:Int),(4:Int)] z4 (0:Int)=4)) ((26=26/\1=1/\waf v=waf z5/\z20/\(0:Int)<=a+1+1+1+1+1/\a+1+1+1+1+1<=z19)/\inR .i64 (was n z5 z6 (4:Int) * (5:Int))/\inR .i64 ((100:Int)+was n z5 z6 (4:Int) * (5:Int))/\wab z15 ((26=26/\1=1/\waf v=waf z5/\(0:Int)<=a+1+1+1+1+1+1/\a+1+1+1+1+1+1<=z18)/\wab (decide (idF (was n z5 z7 (4:Int))=idF z8)) (True/\wab z1 (True/\wab z1 (True/\False) z2) z2) ((True/\True)/\R (.agg [.str z13,.str (idF z8),.q ((1440:Int)+was n z5 z12 (4:Int)),.q ((43830:Int)+was n z5 z10 (100:Int)),.q ((1:Int)+List.getD [(0:Int),(0:Int),(0:Int),(1:Int),(2:Int),(3:Int),(4:Int)] z4 (0:Int)),.q ((100:Int)+was n z5 z6 (4:Int) * (5:Int)),.str (idF (was n z5 z7 (4:Int)))]) z14)) ((True/\True)/\R (.agg [.str z13,.str (idF z8),.q ((1440:Int)+was n z5 z12 (4:Int)),.q ((43830:Int)+was n z5 z10 (100:Int)),.q ((1:Int)+List.getD [(0:Int),(0:Int),(0:Int),(1:Int),(2:Int),(3:Int),(4:Int)] z4 (0:Int)),.q ((100:Int)+was n z5 z6 (4:Int) * (5:Int)),.str []]) z17)) z0) z0):=by kernel_rfl
theorem stF:∀i:Nat,i<7->1<=1+List.getD [(0:Int),0,0,1,2,3,4] i 0/\1+List.getD [(0:Int),0,0,1,2,3,4] i 0<=5:=by decide
theorem idF4i{x:Int}(h:0<=x/\x<4):¬ idF 4=idF x:=by
 have:=idF4 x.toNat (by omega)
 rwa [show ((x.toNat:Nat):Int)=x by omega] at this
theorem wvq{o p:List UInt8}{per day st pr:Int}{rep:List UInt8}(ho:wbe o=true)(hp:wbm p=true)(hper:0<=per/\per<=5999)(hday:0<=day/\day<=182620)
  (h:((st=1∨st=2)/\(1<=pr/\pr<=1099511627776)/\rep=[])∨((st=3∨st=4)/\pr=0/\rep=[])∨(st=5/\(1<=pr/\pr<=1099511627776)/\wbm rep=true/\¬ rep=p)):visF ⟨o,p,per,day,st,pr,rep⟩=true:=by
 unfold visF wd3;dsimp only
 rw[ho,hp,decide_eq_true hper.1,decide_eq_true hper.2,decide_eq_true hday.1,decide_eq_true hday.2]
 rcases h with⟨q | q,⟨h1,h2⟩,h3⟩ | ⟨q | q,h1,h2⟩ | ⟨q,⟨h1,h2⟩,h3,h4⟩
 ·subst q;subst h3;rw[decide_eq_true h1,decide_eq_true h2];rfl
 ·subst q;subst h3;rw[decide_eq_true h1,decide_eq_true h2];rfl
 ·subst q;subst h1;subst h2;rfl
 ·subst q;subst h1;subst h2;rfl
 ·subst q;rw[decide_eq_true h1,decide_eq_true h2,h3,decide_eq_false h4];rfl
theorem w0h(hP:C.P=Tryz.prog):wbi C 34 wmu:=by
 rintro args objs R h;unfold wmu at h;split at h
 ·rename_i sz n f a t;obtain⟨rfl,rfl,hf,ha,hR⟩:=h;rw[hf] at hR ⊢;generalize vInt f=v at *;have hw:vInt (waf v)=v:=rfl;refine wbi.wpL (prg hP) [(30,.det wdj),(67,.det wlg),(68,.det wle),(27,.det S_id)] [] 3 (.cons (wi1 hP) (.cons (wxp hP) (.cons (wv5 hP) (.cons (id_ok hP) .nil)))) (hP ▸ Tryz.func34) rfl rfl rfl [] (by kernel_rfl) trivial ?_;rw[wy0,hw];have r1:=wec (show (1:Int)<=3 by omega) n v a;have r2:=wec (show (1:Int)<=4 by omega) n v (a+1);have r3:=wec (show (1:Int)<=4 by omega) n v (a+1+1);have r4:=wec (show (1:Int)<=100 by omega) n v (a+1+1+1);have r5:=wec (show (1:Int)<=7 by omega) n v (a+1+1+1+1);have r6:=wec (show (1:Int)<=4 by omega) n v (a+1+1+1+1+1);have hst:=stF (was n v (a+1+1+1+1) 7).toNat (by omega);have ho:=outF_ok (was n v a 3).toNat (by omega);have key:∀(st pr:Int) (rep:List UInt8) (a':Int),(((st=1∨st=2)/\(1<=pr/\pr<=1099511627776)/\rep=[])∨((st=3∨st=4)/\pr=0/\rep=[])∨(st=5/\(1<=pr/\pr<=1099511627776)/\wbm rep=true/\¬ rep=idF (was n v (a+1) 4)))->(a<=a'/\a'<=a+7)->
    R (.agg [.str (outF (was n v a 3)),.str (idF (was n v (a+1) 4)),.q (1440+was n v (a+1+1) 4),.q (43830+was n v (a+1+1+1) 100),.q st,.q pr,.str rep]) [(0,.cells [.view 1 n (waf v),.q a'] 26)]:=λst pr rep a' h1 h2=>
   hR ⟨outF (was n v a 3),idF (was n v (a+1) 4),1440+was n v (a+1+1) 4,43830+was n v (a+1+1+1) 100,st,pr,rep⟩ a' ⟨wvq ho.1 (wpk _) (by omega) (by omega) h1,ho.2⟩ h2
  refine⟨⟨rfl,rfl,rfl,by omega,by omega⟩,⟨rfl,rfl,rfl,by omega,by omega⟩,⟨rfl,rfl,rfl,⟨by omega,by omega⟩,by omega,by omega⟩,by simp only[inR];omega,⟨rfl,rfl,rfl,⟨by omega,by omega⟩,by omega,by omega⟩,by simp only[inR];omega,⟨by omega,rfl,by omega⟩,⟨rfl,rfl,rfl,⟨by omega,by omega⟩,by omega,by omega⟩,⟨by omega,by omega⟩,⟨by omega,rfl⟩,?_⟩;generalize 1+List.getD [(0:Int),0,0,1,2,3,4] (was n v (a+1+1+1+1) 7).toNat 0=st at *
  refine⟨by simp only[inR];omega,wbf (λs3=>wbf (λs4=>⟨⟨rfl,rfl,rfl,⟨by omega,by omega⟩,by omega,by omega⟩,by simp only[inR];omega,by simp only[inR];omega,wag (λs5=>⟨⟨rfl,rfl,rfl,by omega,by omega⟩,wag (λq=>⟨trivial,wag (λq'=>absurd q' (idF4i r2)) (λq'=>⟨⟨trivial,trivial⟩,?_⟩)⟩) (λq=>⟨⟨trivial,trivial⟩,?_⟩)⟩) (λs5=>⟨⟨trivial,trivial⟩,?_⟩)⟩)
   (λs4=>wag (λs5=>absurd s5 (by omega)) (λs5=>⟨⟨trivial,trivial⟩,?_⟩))) (λs3=>wag (λs5=>absurd s5 (by omega)) (λs5=>⟨⟨trivial,trivial⟩,?_⟩))⟩
  ·exact key st _ (idF 4) _ (.inr (.inr ⟨s5,by omega,wpk _,idF4i r2⟩)) (by omega)
  ·exact key st _ _ _ (.inr (.inr ⟨s5,by omega,wpk _,q⟩)) (by omega)
  ·exact key st _ _ _ (.inl ⟨by omega,by omega,rfl⟩) (by omega)
  ·exact key st _ _ _ (.inr (.inl ⟨by omega,rfl,rfl⟩)) (by omega)
  ·exact key st _ _ _ (.inr (.inl ⟨by omega,rfl,rfl⟩)) (by omega)
 ·exact h.elim
def awM:MG:=⟨[97],1,1,⟨[111,49],[57,54,51,56,53,48,55,52],5,160,1,100,[]⟩,⟨[],[],0,[],0⟩⟩
end Go.Eng
namespace Go.Eng
open Go.Proofs Go.RowKit
variable {C:Ctx} [C.Loose]
set_option maxRecDepth 20000
set_option maxHeartbeats 4000000
theorem nf_aw12(R:oR7):wpFn te [(17,.det wlj),(22,.det weu),(21,.det wk6)] [] 0 Tryz.f19 [] [] R=(letI z2:=((0:Int)<=0/\(0:Int)<(↑1:Int)/\6=6:Prop);letI z0:=(waw 15 (.str [(97:UInt8)]:: .q 1:: .q 1:: .str [(111:UInt8),49]:: .str [(57:UInt8),54,51,56,53,48,55,52]:: .q 5:: .q 160:: .q 1:: .q 100:: .str []:: .str []:: .str []:: .q 0:: .str []:: .q 0::List.append [] wfr));letI z1:=(lmF (obP (wak (mgOf z0) 1) (atS (obL (wak (mgOf z0) 1)) (0:Int).toNat)));(15<=16777216/\15=15/\1<=9223372036854775807)/\(∀(i:Nat),i<1->nrefL (waw 15 (.str [(97:UInt8)]:: .q 1:: .q 1:: .str [(111:UInt8),49]:: .str [(57:UInt8),54,51,56,53,48,55,52]:: .q 5:: .q 160:: .q 1:: .q 100:: .str []:: .str []:: .str []:: .q 0:: .str []:: .q 0::List.append [] wfr) i)=true)/\(1=1/\1<=100000/\RM z0 1)/\z2/\z2/\((0:Int)<=100/\(100:Int)<9223372036854775808)/\(1<=1000/\1<=1000/\uRow z1=uRow (uOf (uRow z1))/\uRow (lmF (100:Int))=uRow (uOf (uRow (lmF (100:Int)))))/\R (.bool true) []):=by kernel_rfl
theorem obsO_ok(hP:C.P=Tryz.prog)(hL:∀w,C.laid w->LaidW w):wac C 17 wlj:=by
 rintro args objs U Os vc h hvc;unfold wlj at h;split at h<;>cases h;rename_i n t m f fr;obtain⟨rfl,hn,⟨hf,hs⟩⟩:=hvc;refine war.rowEq 0 (f':=waa (mgOf f)) rfl (λi hi=>(hf i hi).symm) ?_;have hb:Nat.ble n n=true:=Nat.ble_eq_true_of_le (lR7 _);exact ADet.give (obs_ok hP hL [.view 15 n (waa (mgOf f))] [] _ _ _ rfl ⟨hn,rfl,hs⟩) (by simp[frzC,frzA,frz,hb]) rfl rfl (λ_ _=>rfl)
theorem w3l(hP:C.P=Tryz.prog)(hL:∀w,C.laid w->LaidW w):wac C 19 wmp:=by
 rintro args objs U Os vc h hvc;unfold wmp at h;split at h<;>cases h;refine wac.wp0 (prg hP) [(17,.det wlj),(22,.det weu),(21,.det wk6)] 0 (.cons (obsO_ok hP hL) (.cons (ww6 hP) (.cons (wwq hP) .nil))) (hP ▸ Tryz.func19) rfl rfl rfl ?_;rw[nf_aw12];generalize hf:waw _ _=f;have f0:f 0=waa (atM [awM]) 0:=by rw[← hf];rfl
 have one:∀ {p:Nat->Prop},p 0->∀i,i<1->p i:=λh0 i hi=>by
  match i,hi with
  |0,_=>exact h0
 have r0:mgOf f 0=atM [awM] 0:=by unfold mgOf;rw[f0];rfl
 exact⟨⟨by omega,rfl,by omega⟩,one (by rw[f0];rfl),⟨rfl,by omega,⟨one (by show f 0=mgC (mgOf f 0);rw[r0,f0];rfl),one (by rw[r0];exact⟨by decide,by decide,by decide,by decide⟩)⟩⟩,⟨by omega,by omega,rfl⟩,⟨by omega,by omega,rfl⟩,⟨by omega,by omega⟩,⟨by omega,by omega,rfl,rfl⟩,rfl,rfl⟩
theorem wy6(n:Nat)(v:Nat->Int)(g:Nat->VT)(m:Nat)(per B:Int)(i:EJ)(P:EJ->Prop)(R:eR7):wav ⟨te,[(34,.rel wmu)],[],0,59,0⟩ (wax Tryz.f10 5) [0,1,7,8,22,23] [0,1,8] [] (wlq n v g m per B) P R (wlq n v g m per B i)=(letI z1:=(EJ.L i).length+1;letI z0:=(EJ.L i).length;wab (decide ((z0:Int)<B)) (26=26/\1=1/\waf v=waf (vInt (waf v))/\((0:Int)<=EJ.a i/\EJ.a i<=4611686018427386000)/\∀(x:VT) (a':Int),VT.Made x->EJ.a i<=a'/\a'<=EJ.a i+7->inR .i64 ((1440:Int)+(z0:Int))/\(7<=16777216/\7=7/\1<=9223372036854775807)/\((1<=1/\7=7)/\(EJ.L i).length<=(EJ.L i).length/\7=7/\43=43/\7=7/\(EJ.L i).length+1<=9223372036854775807/\z1 * 80<=140737488355328)/\inR .i64 ((z0:Int)+1)/\∃(i':EJ),letI z2:=(EJ.L i').length;(TEq [(0,.view 7 m (wae g)),(1,.q per),(7,.ptr 0 0),(8,.own 1 z1),(22,.q B),(23,.q ((z0:Int)+1))] [(0,.view 7 m (wae g)),(1,.q per),(7,.ptr 0 0),(8,.own 1 z2),(22,.q B),(23,.q (z2:Int))]/\wad [(0,.cells [.view 1 n (waf v),.q a'] 26),(1,.row 43 7 z1 (apF z0 (wae (atX (EJ.L i))) (waw 7 (.str x.o:: .str x.p:: .q ((1440:Int)+(z0:Int)):: .q x.day:: .q x.st:: .q x.pr:: .str x.rep::List.append [] (List.flatten (List.replicate (nat_lit 0) [.str ([]),.str ([]),.q 0,.q 0,.q 0,.q 0,.str ([])]))))) false)] [(0,.cells [.view 1 n (waf v),.q (EJ.a i')] 26),(1,.row 43 7 z2 (wae (atX (EJ.L i'))) false)])/\P i') ((∀(i_1:Nat),i_1<(EJ.L i).length->true=true)/\∃(O':oL7),wad [(0,.row 43 7 z0 (wae (atX (EJ.L i))) false)] O'/\R (.exit 0) (St.mk [(0,.view 7 m (wae g)),(1,.q per),(8,.own 0 z0)] O' 1 []))):=by kernel_rfl
theorem wy5(g:Nat->VT)(m:Nat)(per:Int)(L:List VT)(k:Nat)(P:Nat->Prop)(R:eR7):wav ⟨te,[(35,.det wcv),(36,.det wcv)],[],0,59,0⟩ (wax Tryz.f10 12) [0,1,8,36] [0,1] [6] (wlp g m per L) P R (wlp g m per L k)=(letI z1:=L.length<=1000000/\wae (atX L)=wae (vtOf (wae (atX L)));letI z0:=(staP ((1439:Int)+(k:Int)) (lst (vtOf (wae (atX L))) L.length));wab (decide ((k:Int)<9)) (inR .i64 ((1439:Int)+(k:Int))/\z1/\inR .i64 ((1439:Int)+(k:Int))/\z1/\wab (!(decide (SX.kind z0=SX.kind z0) && (decide (SX.since z0=SX.since z0) && decide (SX.rep z0=SX.rep z0)))) (R .ret (St.mk [(6,.bool false)] [] 0 [])) (inR .i64 ((k:Int)+1)/\∃(i':Nat),some (St.mk [(0,.view 7 m (wae g)),(1,.q per),(8,.view 7 L.length (wae (atX L))),(36,.q ((k:Int)+1))] [] 0 [])=some (St.mk [(0,.view 7 m (wae g)),(1,.q per),(8,.view 7 L.length (wae (atX L))),(36,.q (i':Int))] [] 0 [])/\P i')) (R (.exit 2) (St.mk [(0,.view 7 m (wae g)),(1,.q per)] [] 0 []))):=by kernel_rfl
theorem nf_lst(m:Nat)(g:Nat->VT)(per:Int)(n:Nat)(v:Nat->Int)(R:oR7):wpFn te [(30,.det wdj),(35,.det wcv),(36,.det wcv),(19,.det wmp)] [(5,wnb n v g (min m 12) per),(12,wna g (min m 12) per)] 0 Tryz.f10 [.view 7 m (wae g),.q per,.view 1 n (waf v)] [] R=(letI z1:=min m 12<=1000000/\wae g=wae (vtOf (wae g));letI z0:=staP per (lst (vtOf (wae g)) (min m 12));((0:Int)<=min (m:Int) (12:Int)/\min (m:Int) (12:Int)<=(m:Int))/\(26=26/\1=1/\waf v=waf (vInt (waf v))/\((1:Int)<=7/\(7:Int)<=1000000)/\(0:Int)<=0/\(0:Int)<=4611686018427387904)/\inR .i64 ((1:Int)+was n (vInt (waf v)) (0:Int) (7:Int))/\∃(a:Int),∃(B:Int),(TEq [(0,.view 7 (min (m:Int) (12:Int)).toNat (wae g)),(1,.q per),(7,.ptr 0 0),(8,.own 1 0),(22,.q ((1:Int)+was n (vInt (waf v)) (0:Int) (7:Int))),(23,.q 0)] [(0,.view 7 (min m 12) (wae g)),(1,.q per),(7,.ptr 0 0),(8,.own 1 0),(22,.q B),(23,.q (↑(EJ.L (EJ.mk [] a)).length:Int))]/\wad [(0,.cells [.view 1 n (waf v),.q ((0:Int)+1)] 26),(1,.row 43 7 0 (λ(_x:Nat)=>[]) false)] [(0,.cells [.view 1 n (waf v),.q (EJ.a (EJ.mk [] a))] 26),(1,.row 43 7 0 (wae (atX (EJ.L (EJ.mk [] a)))) false)])/\((1:Int)<=B/\B<=10)/\((0:Int)<=a/\a<=4611686018427380000)/\∀(L:List VT),(L.length:Int)=B->∃(L_1:List VT),some (St.mk [(0,.view 7 (min m 12) (wae g)),(1,.q per),(8,.view 7 L.length (wae (atX L))),(36,.q 0)] [] 0 [])=some (St.mk [(0,.view 7 (min m 12) (wae g)),(1,.q per),(8,.view 7 L_1.length (wae (atX L_1))),(36,.q (↑0:Int))] [] 0 [])/\L_1.length<=10/\z1/\z1/\wab (decide (SX.kind z0=SX.kind z0) && (decide (SX.since z0=SX.since z0) && decide (SX.rep z0=SX.rep z0))) (True/\R (.bool true) []) (R (.bool false) [])):=by kernel_rfl
theorem w0v(hP:C.P=Tryz.prog)(n:Nat)(v:Nat->Int)(g:Nat->VT)(m:Nat)(per:Int):wah C 0 59 (waj Tryz.f10 5) (wnb n v g m per):=by
 rintro st Q ⟨a,B,h0,hB,ha,hQ⟩;refine AWP.ownNil 8 43 7 (AWP.frzQ 0 ?_)
 refine wah.mk (prg hP) [(34,.rel wmu)] 0 (.cons (w0h hP) .nil) [0,1,7,8,22,23] [0,1,8] [] (wlq n v g m per B) (λi=>(i.L.length:Int)<=B/\(a<=i.a/\i.a<=a+10 * i.L.length)) (λi=>B.toNat - i.L.length) ⟨[],a⟩
  ⟨by show ((0:Nat):Int)<=B;omega,by show a<=a/\a<=a+10 * ((0:Nat):Int);omega⟩ h0 (λi hi=>?_) (λi=>⟨λ_ _=>rfl,trivial⟩)
 obtain⟨L,b⟩:=i;obtain⟨h1,h2⟩:=hi;have h1:(L.length:Int)<=B:=h1;have h2:a<=b/\b<=a+10 * (L.length:Int):=h2;rw[wy6];dsimp only
 refine wag (λw=>⟨rfl,rfl,rfl,⟨by omega,by omega⟩,λx a' hx ha'=>⟨by simp only[inR];omega,⟨by omega,rfl,by omega⟩,⟨⟨lR7 _,rfl⟩,lR7 _,rfl,rfl,rfl,by omega,by omega⟩,by simp only[inR];omega,⟨L++[⟨x.o,x.p,1440+(L.length:Int),x.day,x.st,x.pr,x.rep⟩],a'⟩,?_,?_⟩⟩) (λw=>?_)
 ·dsimp only
  rw[lA7];exact⟨rfl,rfl,⟨rfl,rfl,rfl,rfl,rfl,λj hj=>snocE vtC default L ⟨x.o,x.p,1440+(L.length:Int),x.day,x.st,x.pr,x.rep⟩ _ rfl j hj⟩,trivial⟩
 ·dsimp only
  rw[lA7];have e:(([⟨x.o,x.p,1440+(L.length:Int),x.day,x.st,x.pr,x.rep⟩]:List VT)).length=1:=rfl;rw[e];exact⟨⟨by omega,⟨by omega,by omega⟩⟩,by omega⟩
 ·refine⟨λ_ _=>rfl,_,wa0 _,λ_ _=>rfl,?_⟩;have hb:Nat.ble L.length L.length=true:=Nat.ble_eq_true_of_le (lR7 _);have e:wjw 0 ⟨[(0,.view 7 m (wae g)),(1,.q per),(8,.own 0 L.length)],[(0,.row 43 7 L.length (wae (atX L)) false)],1,[]⟩=⟨[(0,.view 7 m (wae g)),(1,.q per),(8,.view 7 L.length (wae (atX L)))],[],1,[]⟩:=by
   show (⟨[_,_,(8,frz 0 7 L.length (wae (atX L)) (.own 0 L.length))],_,1,[]⟩:St)=_;simp only[frz,hb];rfl
  rw[e];exact hQ L (by omega)
theorem w0u(hP:C.P=Tryz.prog)(g:Nat->VT)(m:Nat)(per:Int):wah C 0 59 (waj Tryz.f10 12) (wna g m per):=by
 rintro st Q ⟨L,h0,hl,hQ⟩;refine wah.mk (prg hP) [(35,.det wcv),(36,.det wcv)] 0 (.cons (wve hP) (.cons (rst_ok hP) .nil)) [0,1,8,36] [0,1] [6] (wlp g m per L) (λk=>k<=9) (λk=>9 - k) 0 (zL7 _) h0 (λk hk=>?_);rw[wy5];refine wag (λh1=>⟨by simp only[inR];omega,⟨by omega,rfl⟩,by simp only[inR];omega,⟨by omega,rfl⟩,wct (λq=>?_) (λ_=>⟨by simp only[inR];omega,k+1,rfl,by omega,by omega⟩)⟩) (λh1=>hQ);simp at q
theorem lst_ok(hP:C.P=Tryz.prog)(hL:∀w,C.laid w->LaidW w)(m:Nat)(g:Nat->VT)(per:Int)(n:Nat)(v:Nat->Int):ADet C 10 [.view 7 m (wae g),.q per,.view 1 n (waf v)] [] (.bool true) []:=by
 refine wac.wpL (prg hP) [(30,.det wdj),(35,.det wcv),(36,.det wcv),(19,.det wmp)] [(5,wnb n v g (min m 12) per),(12,wna g (min m 12) per)] 0 (.cons (wi1 hP) (.cons (wve hP) (.cons (rst_ok hP) (.cons (w3l hP hL) .nil)))) (hP ▸ Tryz.func10) rfl rfl rfl [(waj Tryz.f10 5,wnb n v g (min m 12) per),(waj Tryz.f10 12,wna g (min m 12) per)] (by kernel_rfl) ⟨w0v hP n v g _ per,w0u hP g _ per,trivial⟩ ?_;rw[nf_lst,show vInt (waf v)=v from rfl];have r:=wec (show (1:Int)<=7 by omega) n v 0;have hm:(min (m:Int) (12:Int)).toNat=min m 12:=by omega
 rw[hm];refine⟨⟨by omega,by omega⟩,⟨rfl,rfl,rfl,⟨by omega,by omega⟩,by omega,by omega⟩,by simp only[inR];omega,0+1,1+was n v 0 7,⟨rfl,rfl,⟨rfl,rfl,rfl,rfl,rfl,λi hi=>absurd hi (nZ7 i)⟩,trivial⟩,⟨by omega,by omega⟩,⟨by omega,by omega⟩,λL hl=>⟨L,rfl,by omega,⟨by omega,rfl⟩,⟨by omega,rfl⟩,?_⟩⟩;rw[decide_eq_true rfl,decide_eq_true rfl,decide_eq_true rfl];exact⟨trivial,rfl,rfl⟩
end Go.Eng
namespace Go.Eng
open Go.Proofs Go.RowKit Go.ChangeShapes Go.WideShapes Go.ChangeAt
theorem params_Bst:Tryz.f10.params=#[53,3,23]:=by kernel_rfl
set_option maxRecDepth 100000 in
theorem w0z(os:Os)(started:os.Started)(H:Type)(enc:TypeId×Value->H):
  ReturnsInHanded {} Tryz.checked os 10 .any (λw args=>(Go.Proofs.YtmcdngcjakjnmaaGreatDoor.Rows.visitStatesSpec.pre enc Tryz.prog Tryz.f10 [] false w args/\laidMetH Tryz.prog Go.Proofs.YtmcdngcjakjnmaaGreatDoor.Rows.visitStatesRow.laid w)/\sizedMet enc Tryz.prog Tryz.f10 (OpenSpec.ofChange Go.Proofs.YtmcdngcjakjnmaaGreatDoor.Rows.visitStatesSpec) false w args)
   (Go.Proofs.YtmcdngcjakjnmaaGreatDoor.Rows.visitStatesSpec.post enc Tryz.prog Tryz.f10 false true false false):=by
 refine w1t (C:=Tryz.checked) (X:=λw _=>laidMetH Tryz.prog Go.Proofs.YtmcdngcjakjnmaaGreatDoor.Rows.visitStatesRow.laid w) (λ_ _ _ hh h=>h.of_heap hh) ownK started (by kernel_rfl) Tryz.func10
  (ChangeSpec.witness_at (enc:=enc) (C:=Tryz.checked) (os:=os) (X:=λw _=>laidMetH Tryz.prog Go.Proofs.YtmcdngcjakjnmaaGreatDoor.Rows.visitStatesRow.laid w) false (wsz os) #[.slice none 0 0,.int .i64 0,.slice none 0 0] 8 rfl (by kernel_rfl) (by kernel_rfl) (by kernel_rfl) (by kernel_rfl) (by kernel_rfl) (w05 os _)) ?_
 intro W base args ds gs before hval0 hW hL hsh;have hval:∀(j:Nat) t v,Tryz.f10.params[j]?=some t->args[j]?=some v->Value.okWide Tryz.prog W .any base t v:=hval0;have hW':=hW;obtain⟨p,q,hA0,hV,rfl,hfz,hnd⟩:=hW;have hA:DataW.TrodAll enc Tryz.prog W 0 (λ_=>true) true Tryz.f10.params.toList args.toList ds p:=hA0;rw[params_Bst] at hA hval;obtain⟨v0,vs0,d0,ds0,p0,q0,hargs,rfl,rfl,h0,r0⟩:=trodAll_cons hA;obtain⟨v1,vs1,d1,ds1,p1,q1,rfl,rfl,rfl,h1,r1⟩:=trodAll_cons r0;obtain⟨v2,vs2,d2,ds2,p2,q2,rfl,rfl,rfl,h2,r2⟩:=trodAll_cons r1;obtain⟨rfl,rfl,rfl⟩:=trodAll_nil r2;obtain rfl:args=#[v0,v1,v2]:=by cases args;simp_all
 obtain⟨rfl,rfl⟩:=trodVars_none hV;obtain⟨a0,len0,cap0,rfl⟩:=okWide_slice undVs (hval 0 53 v0 rfl rfl);obtain⟨z1,rfl⟩:=okWide_int undI (hval 1 3 v1 rfl rfl);obtain⟨a2,len2,cap2,rfl⟩:=okWide_slice undIs (hval 2 23 v2 rfl rfl);have k0:=h0;have k1:=h1;have k2:=h2;have lt0:∀x∈p0,x.block<W.heap.size:=by obtain⟨m,hm⟩:=k0;exact DataW.trod_lt m _ _ _ hm
 have lt1:∀x∈p1,x.block<W.heap.size:=by obtain⟨m,hm⟩:=k1;exact DataW.trod_lt m _ _ _ hm
 have lt2:∀x∈p2,x.block<W.heap.size:=by obtain⟨m,hm⟩:=k2;exact DataW.trod_lt m _ _ _ hm
 obtain⟨m0,hm0⟩:=h0;obtain⟨m2,hm2⟩:=h2;obtain⟨A0,n0,c0,w0,e0,V0⟩:=wxd hm0;have e0:[Value.slice a0 len0 cap0]=[Value.slice A0 n0 c0]:=e0;simp only[List.cons.injEq,and_true] at e0;rw[← e0] at V0;obtain⟨A2,n2,c2,w2,e2,V2⟩:=wxf hm2;have e2:[Value.slice a2 len2 cap2]=[Value.slice A2 n2 c2]:=e2;simp only[List.cons.injEq,and_true] at e2;rw[← e2] at V2;have lw:=w06 hL hsh;refine(ADet.top (C:=cx) (lst_ok rfl (λ_ h=>h) n0 w0 z1 n2 w2) lw (gsz_le lw) (cargs:=[.slice a0 len0 cap0,.int .i64 z1,.slice a2 len2 cap2]) rfl (λj x u hx hu=>?_)).mono λe W' ⟨he,bel⟩=>?_
 ·match j with
  |0=>obtain rfl:=Option.some.inj hx;obtain rfl:=Option.some.inj hu;exact V0
  |1=>obtain rfl:=Option.some.inj hx;obtain rfl:=Option.some.inj hu;exact .int
  |2=>obtain rfl:=Option.some.inj hx;obtain rfl:=Option.some.inj hu;exact V2
  |j+3=>simp at hx
 ·subst he;exact⟨_,rfl,_,_,_,[],_,[],hW',trodAll_mk1 (shut_bool (show Tryz.prog.underlying 4=some .bool by kernel_rfl) _),(trodAll_cons_mk (Below.trod wjg (by kernel_rfl) (of_decide_eq_true (by kernel_rfl)) k0 bel lt0) (trodAll_cons_mk (Below.trod wjg (by kernel_rfl) (of_decide_eq_true (by kernel_rfl)) k1 bel lt1) (trodAll_cons_mk (Below.trod wjg (by kernel_rfl) (of_decide_eq_true (by kernel_rfl)) k2 bel lt2) trodAll_mk0))),rfl,bel.frame _,λh=>by cases h⟩
set_option maxRecDepth 100000 in
theorem over_Bst:Go.Proofs.YtmcdngcjakjnmaaGreatDoor.Rows.visitStatesRow.holds Go.Proofs.YtmcdngcjakjnmaaGreatDoor.Tryz.pinned (OpenSpec.ofChange Go.Proofs.YtmcdngcjakjnmaaGreatDoor.Rows.visitStatesSpec):=
 OpenClaim.holds_of_wide 10 Tryz.f10 rfl rfl rfl rfl rfl rfl rfl ⟨rfl,rfl,rfl,rfl,rfl⟩ rfl rfl rfl rfl rfl (by kernel_rfl) Tryz.func10 w2y
  w1j (by unfold Func.isWrapper;rw[if_neg (of_decide_eq_false (by kernel_rfl))];exact⟨rfl,rfl⟩)
  (λos started H enc _=>w0z os started H enc)
end Go.Eng
namespace Go.Proofs.YtmcdngcjakjnmaaGreatDoor
open Go
def harB : Bool × String := (true, "45df5a8c9ecb56705658ebb30df4076f5d25be7071adf32bdc6d321a36dc9da9")
set_option maxRecDepth 100000 in
theorem mainB:Tryz.prog.mainIs=some (harB.1,harB.2.toList):=by kernel_rfl
set_option maxRecDepth 100000 in
theorem looksB:true=Tryz.prog.looks []:=by kernel_rfl
end Go.Proofs.YtmcdngcjakjnmaaGreatDoor
namespace Go.Proofs.YtmcdngcjakjnmaaGreatDoor
open Go
set_option maxRecDepth 100000 in
theorem wf_Bst:Rows.visitStatesRow.wfByText (OpenSpec.ofChange Rows.visitStatesSpec)=true:=by kernel_rfl
set_option maxRecDepth 100000 in
theorem w1x:false=Rows.visitStatesRow.goesBy Tryz.prog:=by kernel_rfl
theorem w0b : Tryz.prog.funcNamed "priceoffice/priceofficelaw12.VisitStates" = some 10 := by kernel_rfl
theorem wwc:Tryz.prog.wantsStandIn 53=false:=by kernel_rfl
theorem wwb:Tryz.prog.wantsStandIn 3=false:=by kernel_rfl
theorem wwa:Tryz.prog.wantsStandIn 23=false:=by kernel_rfl
theorem card_Bst:Rows.VisitStatesCardSaid:=
 Claim7.holds_tied_plain_at .later [] [.data,.data,.data,.data,.sentinel,.sentinel,.pinned] true harB true
  Go.Eng.over_Bst (λ_ h=>by cases h) wf_Bst (λ_ h=>by cases h) visitStates_row_tie rfl ⟨rfl,rfl⟩ mainB rfl
  (λf fn hf hfn=>by
   obtain rfl:f=10:=Option.some.inj (w0b.symm.trans hf) |>.symm;obtain rfl:fn=Tryz.f10:=(Option.some.inj (Tryz.func10.symm.trans hfn)).symm;exact⟨looksB,λj t ht=>by
    rw[Go.Eng.params_Bst] at ht;have h3:t=53∨t=3∨t=23:=by
     rcases j with _ | _ | _ | j
     ·exact .inl (by simpa using ht.symm)
     ·exact .inr (.inl (by simpa using ht.symm))
     ·exact .inr (.inr ((by simpa using ht.symm)))
     ·simp at ht
    rcases h3 with rfl | rfl | rfl
    ·exact wwc
    ·exact wwb
    ·exact wwa⟩)
  w1x
end Go.Proofs.YtmcdngcjakjnmaaGreatDoor
