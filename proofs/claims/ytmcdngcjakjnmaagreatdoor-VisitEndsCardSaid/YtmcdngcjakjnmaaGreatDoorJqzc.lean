/- The tied card of VisitEnds: its statement is 'VisitEndsCardSaid' of the given cards. -/
import Derived.Test.YtmcdngcjakjnmaaGreatDoorJqzb
import Derived.Test.YtmcdngcjakjnmaaGreatDoorJqo
import Derived.Test.YtmcdngcjakjnmaaGreatDoorCards
import Derived.Test.YtmcdngcjakjnmaaGreatDoorTie
import Derived.SevenTiedAt
namespace Go.Eng
open Go.Proofs Go.RowKit
variable {C:Ctx} [C.Loose]
set_option maxRecDepth 20000
theorem wyl(n:Nat)(v:Nat->Int)(a:Int)(R:oR7):wpFn te [(30,.det wdh),(67,.det wlc),(68,.det wla),(27,.det S_id)] [] 3 Tryz.f34 [.ptr 0 0] [.cells [.view 1 n (waf v),.q a] 26] R=(letI z20:=((1:Int)<=4/\(4:Int)<=1000000:Prop);letI z19:=4611686018427387904;letI z18:=4611686018427387000;letI z16:=((48:Int)+(cdF (id7 (4:Int))).1).toNat;letI z14:=([(0,.cells [.view 1 n (waf v),.q (a+1+1+1+1+1+1+1)] 26)]:oL7);letI z12:=(a+1+1);letI z11:=(a+1+1+1+1);letI z10:=(a+1+1+1);letI z9:=(idV (4:Int));letI z7:=(a+1+1+1+1+1+1);letI z17:=([(0,.cells [.view 1 n (waf v),.q z7] 26)]:oL7);letI z6:=(a+1+1+1+1+1);letI z5:=vInt (waf v);letI z13:=(outF (was n z5 a (3:Int)));letI z8:=(was n z5 (a+1) (4:Int));letI z4:=(was n z5 z11 (7:Int)).toNat;letI z15:=(decide ((1:Int)+List.getD [(0:Int),(0:Int),(0:Int),(1:Int),(2:Int),(3:Int),(4:Int)] z4 (0:Int)=5));letI z3:=((True/\True)/\R (.agg [.str z13,.str (idF z8),.q ((1440:Int)+was n z5 z12 (4:Int)),.q ((43830:Int)+was n z5 z10 (100:Int)),.q ((1:Int)+List.getD [(0:Int),(0:Int),(0:Int),(1:Int),(2:Int),(3:Int),(4:Int)] z4 (0:Int)),.q 0,.str [(λ(i:Nat)=>UInt8.ofNat (wau (List.headD (wa8 z9 i) .any)).toNat) (nat_lit 0),(λ(i:Nat)=>UInt8.ofNat (wau (List.headD (wa8 z9 i) .any)).toNat) (nat_lit 1),(λ(i:Nat)=>UInt8.ofNat (wau (List.headD (wa8 z9 i) .any)).toNat) (nat_lit 2),(λ(i:Nat)=>UInt8.ofNat (wau (List.headD (wa8 z9 i) .any)).toNat) (nat_lit 3),(λ(i:Nat)=>UInt8.ofNat (wau (List.headD (wa8 z9 i) .any)).toNat) (nat_lit 4),(λ(i:Nat)=>UInt8.ofNat (wau (List.headD (wa8 z9 i) .any)).toNat) (nat_lit 5),(λ(i:Nat)=>UInt8.ofNat (wau (List.headD (wa8 z9 i) .any)).toNat) (nat_lit 6),UInt8.ofNat z16]]) z17:Prop);letI z2:=((True/\True)/\R (.agg [.str z13,.str (idF z8),.q ((1440:Int)+was n z5 z12 (4:Int)),.q ((43830:Int)+was n z5 z10 (100:Int)),.q ((1:Int)+List.getD [(0:Int),(0:Int),(0:Int),(1:Int),(2:Int),(3:Int),(4:Int)] z4 (0:Int)),.q ((100:Int)+was n z5 z6 (4:Int) * (5:Int)),.str [(λ(i:Nat)=>UInt8.ofNat (wau (List.headD (wa8 z9 i) .any)).toNat) (nat_lit 0),(λ(i:Nat)=>UInt8.ofNat (wau (List.headD (wa8 z9 i) .any)).toNat) (nat_lit 1),(λ(i:Nat)=>UInt8.ofNat (wau (List.headD (wa8 z9 i) .any)).toNat) (nat_lit 2),(λ(i:Nat)=>UInt8.ofNat (wau (List.headD (wa8 z9 i) .any)).toNat) (nat_lit 3),(λ(i:Nat)=>UInt8.ofNat (wau (List.headD (wa8 z9 i) .any)).toNat) (nat_lit 4),(λ(i:Nat)=>UInt8.ofNat (wau (List.headD (wa8 z9 i) .any)).toNat) (nat_lit 5),(λ(i:Nat)=>UInt8.ofNat (wau (List.headD (wa8 z9 i) .any)).toNat) (nat_lit 6),UInt8.ofNat z16]]) z14:Prop);letI z1:=(decide ([(λ(i:Nat)=>UInt8.ofNat (wau (List.headD (wa8 z9 i) .any)).toNat) (nat_lit 0),(λ(i:Nat)=>UInt8.ofNat (wau (List.headD (wa8 z9 i) .any)).toNat) (nat_lit 1),(λ(i:Nat)=>UInt8.ofNat (wau (List.headD (wa8 z9 i) .any)).toNat) (nat_lit 2),(λ(i:Nat)=>UInt8.ofNat (wau (List.headD (wa8 z9 i) .any)).toNat) (nat_lit 3),(λ(i:Nat)=>UInt8.ofNat (wau (List.headD (wa8 z9 i) .any)).toNat) (nat_lit 4),(λ(i:Nat)=>UInt8.ofNat (wau (List.headD (wa8 z9 i) .any)).toNat) (nat_lit 5),(λ(i:Nat)=>UInt8.ofNat (wau (List.headD (wa8 z9 i) .any)).toNat) (nat_lit 6),UInt8.ofNat z16]=idF z8));letI z0:=(wab z15 ((26=26/\1=1/\waf v=waf z5/\(0:Int)<=a+1+1+1+1+1/\a+1+1+1+1+1<=z18)/\wab (decide (idF (was n z5 z6 (4:Int))=idF z8)) (True/\wab z1 (True/\wab z1 (True/\False) z3) z3) ((True/\True)/\R (.agg [.str z13,.str (idF z8),.q ((1440:Int)+was n z5 z12 (4:Int)),.q ((43830:Int)+was n z5 z10 (100:Int)),.q ((1:Int)+List.getD [(0:Int),(0:Int),(0:Int),(1:Int),(2:Int),(3:Int),(4:Int)] z4 (0:Int)),.q 0,.str (idF (was n z5 z6 (4:Int)))]) z17)) ((True/\True)/\R (.agg [.str z13,.str (idF z8),.q ((1440:Int)+was n z5 z12 (4:Int)),.q ((43830:Int)+was n z5 z10 (100:Int)),.q ((1:Int)+List.getD [(0:Int),(0:Int),(0:Int),(1:Int),(2:Int),(3:Int),(4:Int)] z4 (0:Int)),.q 0,.str []]) [(0,.cells [.view 1 n (waf v),.q z6] 26)]));(26=26/\1=1/\waf v=waf z5/\(0:Int)<=a/\a<=z18)/\(26=26/\1=1/\waf v=waf z5/\(0:Int)<=a+1/\a+1<=z18)/\(26=26/\1=1/\waf v=waf z5/\z20/\(0:Int)<=a+1+1/\a+1+1<=z19)/\inR .i64 ((1440:Int)+was n z5 z12 (4:Int))/\(26=26/\1=1/\waf v=waf z5/\((1:Int)<=100/\(100:Int)<=1000000)/\(0:Int)<=a+1+1+1/\a+1+1+1<=z19)/\inR .i64 ((43830:Int)+was n z5 z10 (100:Int))/\(7<=16777216/\1=1/\7<=9223372036854775807)/\(26=26/\1=1/\waf v=waf z5/\((1:Int)<=7/\(7:Int)<=1000000)/\(0:Int)<=a+1+1+1+1/\a+1+1+1+1<=z19)/\((0:Int)<=was n z5 z11 (7:Int)/\was n z5 z11 (7:Int)<(↑7:Int))/\((was n z5 z11 (7:Int)).toNat<7/\1=1)/\inR .i64 ((1:Int)+List.getD [(0:Int),(0:Int),(0:Int),(1:Int),(2:Int),(3:Int),(4:Int)] z4 (0:Int))/\wab (!decide ((1:Int)+List.getD [(0:Int),(0:Int),(0:Int),(1:Int),(2:Int),(3:Int),(4:Int)] z4 (0:Int)=3)) (wab (!decide ((1:Int)+List.getD [(0:Int),(0:Int),(0:Int),(1:Int),(2:Int),(3:Int),(4:Int)] z4 (0:Int)=4)) ((26=26/\1=1/\waf v=waf z5/\z20/\(0:Int)<=a+1+1+1+1+1/\a+1+1+1+1+1<=z19)/\inR .i64 (was n z5 z6 (4:Int) * (5:Int))/\inR .i64 ((100:Int)+was n z5 z6 (4:Int) * (5:Int))/\wab z15 ((26=26/\1=1/\waf v=waf z5/\(0:Int)<=a+1+1+1+1+1+1/\a+1+1+1+1+1+1<=z18)/\wab (decide (idF (was n z5 z7 (4:Int))=idF z8)) (True/\wab z1 (True/\wab z1 (True/\False) z2) z2) ((True/\True)/\R (.agg [.str z13,.str (idF z8),.q ((1440:Int)+was n z5 z12 (4:Int)),.q ((43830:Int)+was n z5 z10 (100:Int)),.q ((1:Int)+List.getD [(0:Int),(0:Int),(0:Int),(1:Int),(2:Int),(3:Int),(4:Int)] z4 (0:Int)),.q ((100:Int)+was n z5 z6 (4:Int) * (5:Int)),.str (idF (was n z5 z7 (4:Int)))]) z14)) ((True/\True)/\R (.agg [.str z13,.str (idF z8),.q ((1440:Int)+was n z5 z12 (4:Int)),.q ((43830:Int)+was n z5 z10 (100:Int)),.q ((1:Int)+List.getD [(0:Int),(0:Int),(0:Int),(1:Int),(2:Int),(3:Int),(4:Int)] z4 (0:Int)),.q ((100:Int)+was n z5 z6 (4:Int) * (5:Int)),.str []]) z17)) z0) z0):=by kernel_rfl
theorem stF:∀i:Nat,i<7->1<=1+List.getD [(0:Int),0,0,1,2,3,4] i 0/\1+List.getD [(0:Int),0,0,1,2,3,4] i 0<=5:=by decide
theorem idF4i{x:Int}(h:0<=x/\x<4):¬ idF 4=idF x:=by
 have:=idF4 x.toNat (by omega)
 rwa [show ((x.toNat:Nat):Int)=x by omega] at this
theorem wvh{o p:List UInt8}{per day st pr:Int}{rep:List UInt8}(ho:wbe o=true)(hp:wbm p=true)(hper:0<=per/\per<=5999)(hday:0<=day/\day<=182620)
  (h:((st=1∨st=2)/\(1<=pr/\pr<=1099511627776)/\rep=[])∨((st=3∨st=4)/\pr=0/\rep=[])∨(st=5/\(1<=pr/\pr<=1099511627776)/\wbm rep=true/\¬ rep=p)):visF ⟨o,p,per,day,st,pr,rep⟩=true:=by
 unfold visF wd2;dsimp only
 rw[ho,hp,decide_eq_true hper.1,decide_eq_true hper.2,decide_eq_true hday.1,decide_eq_true hday.2]
 rcases h with⟨q | q,⟨h1,h2⟩,h3⟩ | ⟨q | q,h1,h2⟩ | ⟨q,⟨h1,h2⟩,h3,h4⟩
 ·subst q;subst h3;rw[decide_eq_true h1,decide_eq_true h2];rfl
 ·subst q;subst h3;rw[decide_eq_true h1,decide_eq_true h2];rfl
 ·subst q;subst h1;subst h2;rfl
 ·subst q;subst h1;subst h2;rfl
 ·subst q;rw[decide_eq_true h1,decide_eq_true h2,h3,decide_eq_false h4];rfl
theorem wz3(hP:C.P=Tryz.prog):wbi C 34 wmq:=by
 rintro args objs R h;unfold wmq at h;split at h
 ·rename_i sz n f a t;obtain⟨rfl,rfl,hf,ha,hR⟩:=h;rw[hf] at hR ⊢;generalize vInt f=v at *;have hw:vInt (waf v)=v:=rfl;refine wbi.wpL (prg hP) [(30,.det wdh),(67,.det wlc),(68,.det wla),(27,.det S_id)] [] 3 (.cons (wi1 hP) (.cons (wxc hP) (.cons (wvw hP) (.cons (id_ok hP) .nil)))) (hP ▸ Tryz.func34) rfl rfl rfl [] (by kernel_rfl) trivial ?_;rw[wyl,hw];have r1:=web (show (1:Int)<=3 by omega) n v a;have r2:=web (show (1:Int)<=4 by omega) n v (a+1);have r3:=web (show (1:Int)<=4 by omega) n v (a+1+1);have r4:=web (show (1:Int)<=100 by omega) n v (a+1+1+1);have r5:=web (show (1:Int)<=7 by omega) n v (a+1+1+1+1);have r6:=web (show (1:Int)<=4 by omega) n v (a+1+1+1+1+1);have hst:=stF (was n v (a+1+1+1+1) 7).toNat (by omega);have ho:=outF_ok (was n v a 3).toNat (by omega);have key:∀(st pr:Int) (rep:List UInt8) (a':Int),(((st=1∨st=2)/\(1<=pr/\pr<=1099511627776)/\rep=[])∨((st=3∨st=4)/\pr=0/\rep=[])∨(st=5/\(1<=pr/\pr<=1099511627776)/\wbm rep=true/\¬ rep=idF (was n v (a+1) 4)))->(a<=a'/\a'<=a+7)->
    R (.agg [.str (outF (was n v a 3)),.str (idF (was n v (a+1) 4)),.q (1440+was n v (a+1+1) 4),.q (43830+was n v (a+1+1+1) 100),.q st,.q pr,.str rep]) [(0,.cells [.view 1 n (waf v),.q a'] 26)]:=λst pr rep a' h1 h2=>
   hR ⟨outF (was n v a 3),idF (was n v (a+1) 4),1440+was n v (a+1+1) 4,43830+was n v (a+1+1+1) 100,st,pr,rep⟩ a' ⟨wvh ho.1 (wpg _) (by omega) (by omega) h1,ho.2⟩ h2
  refine⟨⟨rfl,rfl,rfl,by omega,by omega⟩,⟨rfl,rfl,rfl,by omega,by omega⟩,⟨rfl,rfl,rfl,⟨by omega,by omega⟩,by omega,by omega⟩,by simp only[inR];omega,⟨rfl,rfl,rfl,⟨by omega,by omega⟩,by omega,by omega⟩,by simp only[inR];omega,⟨by omega,rfl,by omega⟩,⟨rfl,rfl,rfl,⟨by omega,by omega⟩,by omega,by omega⟩,⟨by omega,by omega⟩,⟨by omega,rfl⟩,?_⟩;generalize 1+List.getD [(0:Int),0,0,1,2,3,4] (was n v (a+1+1+1+1) 7).toNat 0=st at *
  refine⟨by simp only[inR];omega,wbh (λs3=>wbh (λs4=>⟨⟨rfl,rfl,rfl,⟨by omega,by omega⟩,by omega,by omega⟩,by simp only[inR];omega,by simp only[inR];omega,wae (λs5=>⟨⟨rfl,rfl,rfl,by omega,by omega⟩,wae (λq=>⟨trivial,wae (λq'=>absurd q' (idF4i r2)) (λq'=>⟨⟨trivial,trivial⟩,?_⟩)⟩) (λq=>⟨⟨trivial,trivial⟩,?_⟩)⟩) (λs5=>⟨⟨trivial,trivial⟩,?_⟩)⟩)
   (λs4=>wae (λs5=>absurd s5 (by omega)) (λs5=>⟨⟨trivial,trivial⟩,?_⟩))) (λs3=>wae (λs5=>absurd s5 (by omega)) (λs5=>⟨⟨trivial,trivial⟩,?_⟩))⟩
  ·exact key st _ (idF 4) _ (.inr (.inr ⟨s5,by omega,wpg _,idF4i r2⟩)) (by omega)
  ·exact key st _ _ _ (.inr (.inr ⟨s5,by omega,wpg _,q⟩)) (by omega)
  ·exact key st _ _ _ (.inl ⟨by omega,by omega,rfl⟩) (by omega)
  ·exact key st _ _ _ (.inr (.inl ⟨by omega,rfl,rfl⟩)) (by omega)
  ·exact key st _ _ _ (.inr (.inl ⟨by omega,rfl,rfl⟩)) (by omega)
 ·exact h.elim
def awM:MG:=⟨[97],1,1,⟨[111,49],[57,54,51,56,53,48,55,52],5,160,1,100,[]⟩,⟨[],[],0,[],0⟩⟩
end Go.Eng
namespace Go.Eng
open Go.Proofs Go.RowKit
variable {C:Ctx} [C.Loose]
set_option maxRecDepth 20000
set_option maxHeartbeats 4000000
theorem nf_aw12(R:oR7):wpFn te [(17,.det wlf),(22,.det wet),(21,.det wk2)] [] 0 Tryz.f19 [] [] R=(letI z2:=((0:Int)<=0/\(0:Int)<(↑1:Int)/\6=6:Prop);letI z0:=(waw 15 (.str [(97:UInt8)]:: .q 1:: .q 1:: .str [(111:UInt8),49]:: .str [(57:UInt8),54,51,56,53,48,55,52]:: .q 5:: .q 160:: .q 1:: .q 100:: .str []:: .str []:: .str []:: .q 0:: .str []:: .q 0::List.append [] wfs));letI z1:=(lmF (obP (wak (mgOf z0) 1) (atS (obL (wak (mgOf z0) 1)) (0:Int).toNat)));(15<=16777216/\15=15/\1<=9223372036854775807)/\(∀(i:Nat),i<1->nrefL (waw 15 (.str [(97:UInt8)]:: .q 1:: .q 1:: .str [(111:UInt8),49]:: .str [(57:UInt8),54,51,56,53,48,55,52]:: .q 5:: .q 160:: .q 1:: .q 100:: .str []:: .str []:: .str []:: .q 0:: .str []:: .q 0::List.append [] wfs) i)=true)/\(1=1/\1<=100000/\RM z0 1)/\z2/\z2/\((0:Int)<=100/\(100:Int)<9223372036854775808)/\(1<=1000/\1<=1000/\uRow z1=uRow (uOf (uRow z1))/\uRow (lmF (100:Int))=uRow (uOf (uRow (lmF (100:Int)))))/\R (.bool true) []):=by kernel_rfl
theorem obsO_ok(hP:C.P=Tryz.prog)(hL:∀w,C.laid w->LaidW w):wac C 17 wlf:=by
 rintro args objs U Os vc h hvc;unfold wlf at h;split at h<;>cases h;rename_i n t m f fr;obtain⟨rfl,hn,⟨hf,hs⟩⟩:=hvc;refine war.rowEq 0 (f':=waa (mgOf f)) rfl (λi hi=>(hf i hi).symm) ?_;have hb:Nat.ble n n=true:=Nat.ble_eq_true_of_le (lR7 _);exact ADet.give (obs_ok hP hL [.view 15 n (waa (mgOf f))] [] _ _ _ rfl ⟨hn,rfl,hs⟩) (by simp[frzC,frzA,frz,hb]) rfl rfl (λ_ _=>rfl)
theorem w3c(hP:C.P=Tryz.prog)(hL:∀w,C.laid w->LaidW w):wac C 19 wml:=by
 rintro args objs U Os vc h hvc;unfold wml at h;split at h<;>cases h;refine wac.wp0 (prg hP) [(17,.det wlf),(22,.det wet),(21,.det wk2)] 0 (.cons (obsO_ok hP hL) (.cons (wwv hP) (.cons (wwg hP) .nil))) (hP ▸ Tryz.func19) rfl rfl rfl ?_;rw[nf_aw12];generalize hf:waw _ _=f;have f0:f 0=waa (atM [awM]) 0:=by rw[← hf];rfl
 have one:∀ {p:Nat->Prop},p 0->∀i,i<1->p i:=λh0 i hi=>by
  match i,hi with
  |0,_=>exact h0
 have r0:mgOf f 0=atM [awM] 0:=by unfold mgOf;rw[f0];rfl
 exact⟨⟨by omega,rfl,by omega⟩,one (by rw[f0];rfl),⟨rfl,by omega,⟨one (by show f 0=mgC (mgOf f 0);rw[r0,f0];rfl),one (by rw[r0];exact⟨by decide,by decide,by decide,by decide⟩)⟩⟩,⟨by omega,by omega,rfl⟩,⟨by omega,by omega,rfl⟩,⟨by omega,by omega⟩,⟨by omega,by omega,rfl,rfl⟩,rfl,rfl⟩
theorem wyu(n:Nat)(v:Nat->Int)(B:Int)(i:EJ)(P:EJ->Prop)(R:eR7):wav ⟨te,[(34,.rel wmq)],[],0,112,0⟩ (wax Tryz.f11 4) [3,4,18,19] [4] [] (wlp n v B) P R (wlp n v B i)=(letI z1:=(EJ.L i).length+1;letI z0:=(EJ.L i).length;wab (decide ((z0:Int)<B)) (26=26/\1=1/\waf v=waf (vInt (waf v))/\((0:Int)<=EJ.a i/\EJ.a i<=4611686018427386000)/\∀(x:VT) (a':Int),VT.Made x->EJ.a i<=a'/\a'<=EJ.a i+7->inR .i64 ((1440:Int)+(z0:Int))/\(7<=16777216/\7=7/\1<=9223372036854775807)/\((1<=1/\7=7)/\(EJ.L i).length<=(EJ.L i).length/\7=7/\43=43/\7=7/\(EJ.L i).length+1<=9223372036854775807/\z1 * 80<=140737488355328)/\inR .i64 ((z0:Int)+1)/\∃(i':EJ),letI z2:=(EJ.L i').length;(TEq [(3,.ptr 0 0),(4,.own 1 z1),(18,.q B),(19,.q ((z0:Int)+1))] [(3,.ptr 0 0),(4,.own 1 z2),(18,.q B),(19,.q (z2:Int))]/\wad [(0,.cells [.view 1 n (waf v),.q a'] 26),(1,.row 43 7 z1 (apF z0 (wag (atX (EJ.L i))) (waw 7 (.str x.o:: .str x.p:: .q ((1440:Int)+(z0:Int)):: .q x.day:: .q x.st:: .q x.pr:: .str x.rep::List.append [] (List.flatten (List.replicate (nat_lit 0) [.str ([]),.str ([]),.q 0,.q 0,.q 0,.q 0,.str ([])]))))) false)] [(0,.cells [.view 1 n (waf v),.q (EJ.a i')] 26),(1,.row 43 7 z2 (wag (atX (EJ.L i'))) false)])/\P i') ((∀(i_1:Nat),i_1<(EJ.L i).length->true=true)/\∃(O':oL7),wad [(0,.row 43 7 z0 (wag (atX (EJ.L i))) false)] O'/\R (.exit 0) (St.mk [(4,.own 0 z0)] O' 1 []))):=by kernel_rfl
theorem wyt(L:List VT)(k:Nat)(P:Nat->Prop)(R:eR7):wav ⟨te,[],[],0,112,0⟩ (wax Tryz.f11 12) [4,7,32,33,34] [4,7] [] (wlo L) P R (wlo L k)=(letI z4:=(ixB (λ(i:Nat)=>finB (atX L i)) k);letI z3:=wag (atX L);letI z2:=L.length;letI z1:=(inR .i64 ((k:Int)+1)/\∃(i':Nat),some (St.mk [(4,.view 7 z2 z3),(7,.q (k:Int)),(32,.view 7 z2 z3),(33,.q (z2:Int)),(34,.q ((k:Int)+1))] [] 0 [])=some (St.mk [(4,.view 7 z2 z3),(7,.q (ixB (λ(i:Nat)=>finB (atX L i)) i')),(32,.view 7 z2 z3),(33,.q (z2:Int)),(34,.q (i':Int))] [] 0 [])/\P i');letI z0:=(inR .i64 ((k:Int)+1)/\∃(i':Nat),some (St.mk [(4,.view 7 z2 z3),(7,.q z4),(32,.view 7 z2 z3),(33,.q (z2:Int)),(34,.q ((k:Int)+1))] [] 0 [])=some (St.mk [(4,.view 7 z2 z3),(7,.q (ixB (λ(i:Nat)=>finB (atX L i)) i')),(32,.view 7 z2 z3),(33,.q (z2:Int)),(34,.q (i':Int))] [] 0 [])/\P i');wab (decide ((k:Int)<(z2:Int))) (((0:Int)<=(k:Int)/\(k:Int)<(z2:Int)/\7=7)/\wab (decide (ixB (λ(i:Nat)=>finB (atX L i)) k<0)) (wab (decide ((atX L (k:Int).toNat).st=4)) z1 (wab (decide ((atX L (k:Int).toNat).st=5)) z1 z0)) z0) (R (.exit 2) (St.mk [(4,.view 7 z2 z3),(7,.q z4)] [] 0 []))):=by kernel_rfl
theorem wys(L:List VT)(x:SX)(k:Nat)(P:Nat->Prop)(R:eR7):wav ⟨te,[(35,.det wgv)],[],0,112,0⟩ (wax Tryz.f11 26) [4,11,12] [] [2] (wln L x) P R (wln L x k)=(letI z1:=([(0,.cells [.q (SX.kind x),.q (SX.since x),.str (SX.rep x)] 65)]:oL7);letI z0:=(staP ((1440:Int)+(k:Int)) (lst (vtOf (wag (atX L))) L.length));wab (decide ((k:Int)<9)) (inR .i64 ((1440:Int)+(k:Int))/\(L.length<=1000000/\wag (atX L)=wag (vtOf (wag (atX L))))/\wab (!(decide (SX.kind z0=SX.kind x) && (decide (SX.since z0=SX.since x) && decide (SX.rep z0=SX.rep x)))) (R .ret (St.mk [(2,.bool false)] [] 0 [])) (inR .i64 ((k:Int)+1)/\∃(i':Nat),some (St.mk [(4,.view 7 L.length (wag (atX L))),(11,.ptr 0 0),(12,.q ((k:Int)+1))] z1 1 [])=some (St.mk [(4,.view 7 L.length (wag (atX L))),(11,.ptr 0 0),(12,.q (i':Int))] z1 1 [])/\P i')) (R (.exit 4) (St.mk [] [] 0 []))):=by kernel_rfl
theorem nf_lenD(n:Nat)(v:Nat->Int)(R:oR7):wpFn te [(30,.det wdh),(35,.det wgv),(19,.det wml)] [(4,wm8 n v),(12,wm7),(26,wm6)] 0 Tryz.f11 [.view 1 n (waf v)] [] R=((26=26/\1=1/\waf v=waf (vInt (waf v))/\((1:Int)<=6/\(6:Int)<=1000000)/\(0:Int)<=0/\(0:Int)<=4611686018427387904)/\inR .i64 ((1:Int)+was n (vInt (waf v)) (0:Int) (6:Int))/\∃(a:Int),∃(B:Int),(TEq [(3,.ptr 0 0),(4,.own 1 0),(18,.q ((1:Int)+was n (vInt (waf v)) (0:Int) (6:Int))),(19,.q 0)] [(3,.ptr 0 0),(4,.own 1 0),(18,.q B),(19,.q (↑(EJ.L (EJ.mk [] a)).length:Int))]/\wad [(0,.cells [.view 1 n (waf v),.q ((0:Int)+1)] 26),(1,.row 43 7 0 (λ(_x:Nat)=>[]) false)] [(0,.cells [.view 1 n (waf v),.q (EJ.a (EJ.mk [] a))] 26),(1,.row 43 7 0 (wag (atX (EJ.L (EJ.mk [] a)))) false)])/\((1:Int)<=B/\B<=10)/\((0:Int)<=a/\a<=4611686018427380000)/\∀(L:List VT),(L.length:Int)=B->MdS L->∃(L_1:List VT),letI z5:=wag (atX L_1);letI z6:=L_1.length<=1000000/\wag (atX L_1)=wag (vtOf z5);letI z1:=L_1.length;letI z3:=lst (vtOf z5) z1;letI z10:=(staP (1439:Int) z3);letI z9:=(staP (1460:Int) z3);letI z4:=(wab (decide ((1440:Int)<=SX.since z9)) (True/\R (.bool true) []) (R (.bool false) []));letI z2:=(ixB (λ(i:Nat)=>finB (atX L_1 i)) z1);letI z8:=([(4,.view 7 z1 z5),(11,.ptr 0 0),(12,.q z2)]:tL7);letI z7:=atX L_1 z2.toNat;letI z0:=((0:Int)<=ixB (λ(i:Nat)=>finB (atX L_1 i)) z1/\ixB (λ(i:Nat)=>finB (atX L_1 i)) z1<(z1:Int)/\7=7:Prop);some (St.mk [(4,.view 7 L.length (wag (atX L))),(7,.q (-1:Int)),(32,.view 7 L.length (wag (atX L))),(33,.q (L.length:Int)),(34,.q 0)] [] 0 [])=some (St.mk [(4,.view 7 z1 z5),(7,.q (ixB (λ(i:Nat)=>finB (atX L_1 i)) 0)),(32,.view 7 z1 z5),(33,.q (z1:Int)),(34,.q (↑0:Int))] [] 0 [])/\L_1.length<=10/\z6/\wab (!(decide (SX.kind z10=0) && (decide (SX.since z10=0) && decide (SX.rep z10=[])))) (R (.bool false) []) (wab (decide (ixB (λ(i:Nat)=>finB (atX L_1 i)) z1<0)) (z6/\wab (decide (SX.kind z9=1)) z4 (wab (decide (SX.kind z9=2)) z4 (R (.bool false) []))) (z0/\z0/\wab (decide (z7.st=5)) (z0/\z0/\∃(L:List VT),∃(x:SX),∃(k:Nat),some (St.mk z8 [(0,.cells [.q 4,.q z7.per,.str z7.rep] 65)] 1 [])=some (St.mk [(4,.view 7 L.length (wag (atX L))),(11,.ptr 0 0),(12,.q (k:Int))] [(0,.cells [.q (SX.kind x),.q (SX.since x),.str (SX.rep x)] 65)] 1 [])/\(k<=9/\L.length<=10)/\(∀(j:Nat),k<=j->staP ((1440:Int)+(j:Int)) L=x)/\True/\R (.bool true) []) (∃(L:List VT),∃(x:SX),∃(k:Nat),some (St.mk z8 [(0,.cells [.q 3,.q z7.per,.str []] 65)] 1 [])=some (St.mk [(4,.view 7 L.length (wag (atX L))),(11,.ptr 0 0),(12,.q (k:Int))] [(0,.cells [.q (SX.kind x),.q (SX.since x),.str (SX.rep x)] 65)] 1 [])/\(k<=9/\L.length<=10)/\(∀(j:Nat),k<=j->staP ((1440:Int)+(j:Int)) L=x)/\True/\R (.bool true) [])))):=by kernel_rfl
theorem visF_st{v:VT}(h:visF v=true):v.st=1∨v.st=2∨v.st=3∨v.st=4∨v.st=5:=by
 unfold visF at h
 by_cases h1:v.st=1
 ·exact .inl h1
 by_cases h2:v.st=2
 ·exact .inr (.inl h2)
 by_cases h3:v.st=3
 ·exact .inr (.inr (.inl h3))
 by_cases h4:v.st=4
 ·exact .inr (.inr (.inr (.inl h4)))
 by_cases h5:v.st=5
 ·exact .inr (.inr (.inr (.inr h5)))
 rw[decide_eq_false h1,decide_eq_false h2,decide_eq_false h3,decide_eq_false h4,decide_eq_false h5] at h;simp at h
theorem MdS.snoc{L:List VT}(h:MdS L){v:VT}(hp:v.per=1440+L.length)(hs:v.st=1∨v.st=2∨v.st=3∨v.st=4∨v.st=5):MdS (L++[v]):=by
 refine⟨λi hi=>?_,λx hx=>?_⟩
 ·by_cases q:i<L.length
  ·rw[wge q];exact h.per i q
  ·have:i=L.length:=by simp at hi;omega
   subst this;rw[wp9];exact hp
 ·rcases List.mem_append.1 hx with hx | hx
  ·exact h.st x hx
  ·rw[List.mem_singleton.1 hx];exact hs
theorem MdS.lo{L:List VT}(h:MdS L):∀v∈L,(1440:Int)<=v.per:=λv hv=>by
 obtain⟨i,hi,rfl⟩:=List.getElem_of_mem hv;have:=h.per i hi;rw[wfj hi] at this;omega
theorem MdS.before{L:List VT}(h:MdS L):staP 1439 L=wg0:=by
 unfold staP;rw[show (1439:Int)=1440 - 1 from rfl,w0v h.lo];rfl
theorem MdS.alive{L:List VT}(h:MdS L)(h0:0<L.length)(hl:L.length<=10)(hn:∀i,i<L.length->finB (atX L i)=false):((staP 1460 L).kind=1∨(staP 1460 L).kind=2)/\1440<=(staP 1460 L).since:=by
 have hf:∀v∈L,finB v=false:=λv hv=>by
  obtain⟨i,hi,rfl⟩:=List.getElem_of_mem hv;have:=hn i hi
  rwa [wfj hi] at this
 have e:knwn 1460 L=L:=List.filter_eq_self.2 λv hv=>decide_eq_true (by
  obtain⟨i,hi,rfl⟩:=List.getElem_of_mem hv;have:=h.per i hi;rw[wfj hi] at this;omega)
 unfold staP;rw[e,wvn hf];refine wvy h0 (λv hv=>?_) h.lo;have h1:=h.st v hv;have h2:=hf v hv;unfold finB at h2;simp only[Bool.or_eq_false_iff,decide_eq_false_iff_not] at h2;omega
theorem w06{q:Nat->Bool}{n:Nat}(h:ixB q n<0):∀i,i<n->q i=false:=λi hi=>by
 obtain⟨h1,h2⟩:= @we9 q n;have hle:=wf5 q n;have:¬ fstB q n<n:=λw=>by have:=h2 w;omega
 exact(wdv q n).1 i (by omega)
theorem ixB_at{q:Nat->Bool}{n:Nat}(h:¬ ixB q n<0):∃k,k<n/\ixB q n=(k:Int)/\q k=true/\∀i,i<k->q i=false:=by
 obtain⟨h1,h2⟩:= @we9 q n;have hw:=h1.1 (by omega);exact⟨fstB q n,hw,h2 hw,(wdv q n).2 hw,(wdv q n).1⟩
theorem w05(q:Nat->Bool)(k:Nat):ixB q (k+1)=bif decide (ixB q k<0) then (bif q k then (k:Int) else -1) else ixB q k:=by
 obtain⟨h1,h2⟩:= @we9 q k;have hle:=wf5 q k
 by_cases h:fstB q k<k
 ·have e:=h2 h;rw[decide_eq_false (show ¬ ixB q k<0 by omega),cond_false,e];unfold ixB;rw[fstB,decide_eq_true h,cond_true,decide_eq_true (show fstB q k<k+1 by omega)];rfl
 ·have e:ixB q k= -1:=by unfold ixB;rw[decide_eq_false h];rfl
  rw[e,decide_eq_true (show (-1:Int)<0 by decide),cond_true];unfold ixB;rw[fstB,decide_eq_false h,cond_false]
  cases q k with
  |true=>rw[cond_true,decide_eq_true (Nat.lt_succ_self k),cond_true]
  |false=>rw[cond_false,decide_eq_false (Nat.lt_irrefl _)];rfl
theorem w0p(hP:C.P=Tryz.prog)(n:Nat)(v:Nat->Int):wah C 0 112 (waj Tryz.f11 4) (wm8 n v):=by
 rintro st Q ⟨a,B,h0,hB,ha,hQ⟩;refine AWP.ownNil 4 43 7 (AWP.frzQ 0 ?_)
 refine wah.mk (prg hP) [(34,.rel wmq)] 0 (.cons (wz3 hP) .nil) [3,4,18,19] [4] [] (wlp n v B) (λi=>(i.L.length:Int)<=B/\(a<=i.a/\i.a<=a+10 * i.L.length)/\MdS i.L) (λi=>B.toNat - i.L.length) ⟨[],a⟩
  ⟨by show ((0:Nat):Int)<=B;omega,by show a<=a/\a<=a+10 * ((0:Nat):Int);omega,⟨λi hi=>absurd hi (nZ7 i),λv hv=>absurd hv List.not_mem_nil⟩⟩ h0 (λi hi=>?_) (λi=>⟨λ_ _=>rfl,trivial⟩)
 obtain⟨L,b⟩:=i;obtain⟨h1,h2,h3⟩:=hi;have h1:(L.length:Int)<=B:=h1;have h2:a<=b/\b<=a+10 * (L.length:Int):=h2;have h3:MdS L:=h3;rw[wyu];dsimp only
 refine wae (λw=>⟨rfl,rfl,rfl,⟨by omega,by omega⟩,λx a' hx ha'=>⟨by simp only[inR];omega,⟨by omega,rfl,by omega⟩,⟨⟨lR7 _,rfl⟩,lR7 _,rfl,rfl,rfl,by omega,by omega⟩,by simp only[inR];omega,⟨L++[⟨x.o,x.p,1440+(L.length:Int),x.day,x.st,x.pr,x.rep⟩],a'⟩,?_,?_⟩⟩) (λw=>?_)
 ·dsimp only
  rw[lA7];exact⟨rfl,rfl,⟨rfl,rfl,rfl,rfl,rfl,λj hj=>snocE vtC default L ⟨x.o,x.p,1440+(L.length:Int),x.day,x.st,x.pr,x.rep⟩ _ rfl j hj⟩,trivial⟩
 ·dsimp only
  rw[lA7];have e:(([⟨x.o,x.p,1440+(L.length:Int),x.day,x.st,x.pr,x.rep⟩]:List VT)).length=1:=rfl;rw[e];exact⟨⟨by omega,⟨by omega,by omega⟩,h3.snoc rfl (by have:=visF_st hx.ok;exact this)⟩,by omega⟩
 ·refine⟨λ_ _=>rfl,_,wa0 _,λ_ _=>rfl,?_⟩;have hb:Nat.ble L.length L.length=true:=Nat.ble_eq_true_of_le (lR7 _);have e:wju 0 ⟨[(4,.own 0 L.length)],[(0,.row 43 7 L.length (wag (atX L)) false)],1,[]⟩=⟨[(4,.view 7 L.length (wag (atX L)))],[],1,[]⟩:=by
   show (⟨[(4,frz 0 7 L.length (wag (atX L)) (.own 0 L.length))],_,1,[]⟩:St)=_;simp only[frz,hb];rfl
  rw[e];exact hQ L (by omega) h3
theorem w0o(hP:C.P=Tryz.prog):wah C 0 112 (waj Tryz.f11 12) wm7:=by
 have _:C.Loose:=inferInstance;rintro st Q ⟨L,h0,hl,hQ⟩;refine wah.mk (prg hP) [] 0 .nil [4,7,32,33,34] [4,7] [] (wlo L) (λk=>k<=L.length) (λk=>L.length - k) 0 (zL7 _) h0 (λk hk=>?_);rw[wyt,tN7];have hs:=w05 (λi=>finB (atX L i)) k;have hf:finB (atX L k)=(decide ((atX L k).st=4) || decide ((atX L k).st=5)):=rfl;refine wae (λh1=>⟨⟨by omega,by omega,rfl⟩,wae (λh2=>?_) (λh2=>⟨by simp only[inR];omega,k+1,?_,by omega,by omega⟩)⟩) (λh1=>?_)
 ·rw[decide_eq_true h2,cond_true,hf] at hs;refine wae (λh4=>⟨by simp only[inR];omega,k+1,?_,by omega,by omega⟩) (λh4=>wae (λh5=>⟨by simp only[inR];omega,k+1,?_,by omega,by omega⟩) (λh5=>⟨by simp only[inR];omega,k+1,?_,by omega,by omega⟩))
  ·rw[hs,decide_eq_true h4];rfl
  ·rw[hs,decide_eq_true h5,Bool.or_true];rfl
  ·have e:ixB (λi=>finB (atX L i)) k= -1:=by
    obtain⟨p1,p2⟩:= @we9 (λi=>finB (atX L i)) k;unfold ixB at h2 ⊢
    cases q:decide (fstB (λi=>finB (atX L i)) k<k) with
    |true=>rw[q,cond_true] at h2;omega
    |false=>rfl
   rw[hs,decide_eq_false h4,decide_eq_false h5,e];rfl
 ·rw[hs,decide_eq_false h2];rfl
 ·have:k=L.length:=by omega
  rw[this];exact hQ
theorem w0n(hP:C.P=Tryz.prog):wah C 0 112 (waj Tryz.f11 26) wm6:=by
 rintro st Q ⟨L,x,k0,h0,⟨hk0,hl⟩,hx,hQ⟩;refine wah.mk (prg hP) [(35,.det wgv)] 0 (.cons (wu5 hP) .nil) [4,11,12] [] [2] (wln L x) (λk=>k0<=k/\k<=9) (λk=>9 - k) k0 ⟨lR7 _,hk0⟩ h0 (λk hk=>?_);rw[wys];have hvt:vtOf (wag (atX L))=atX L:=rfl;rw[hvt,wor];obtain⟨hk1,hk2⟩:=hk;rw[hx k hk1];refine wae (λh1=>⟨by simp only[inR];omega,⟨by omega,rfl⟩,wcn (λq=>?_) (λ_=>⟨by simp only[inR];omega,k+1,rfl,⟨by omega,by omega⟩,by omega⟩)⟩) (λh1=>hQ);simp at q
theorem lend_ok(hP:C.P=Tryz.prog)(hL:∀w,C.laid w->LaidW w)(n:Nat)(v:Nat->Int):ADet C 11 [.view 1 n (waf v)] [] (.bool true) []:=by
 refine wac.wpL (prg hP) [(30,.det wdh),(35,.det wgv),(19,.det wml)] [(4,wm8 n v),(12,wm7),(26,wm6)] 0 (.cons (wi1 hP) (.cons (wu5 hP) (.cons (w3c hP hL) .nil))) (hP ▸ Tryz.func11) rfl rfl rfl [(waj Tryz.f11 4,wm8 n v),(waj Tryz.f11 12,wm7),(waj Tryz.f11 26,wm6)] (by kernel_rfl) ⟨w0p hP n v,w0o hP,w0n hP,trivial⟩ ?_;rw[nf_lenD,show vInt (waf v)=v from rfl];have r:=web (show (1:Int)<=6 by omega) n v 0;refine⟨⟨rfl,rfl,rfl,⟨by omega,by omega⟩,by omega,by omega⟩,by simp only[inR];omega,0+1,1+was n v 0 6,⟨rfl,rfl,⟨rfl,rfl,rfl,rfl,rfl,λi hi=>absurd hi (nZ7 i)⟩,trivial⟩,⟨by omega,by omega⟩,⟨by omega,by omega⟩,λL hl hM=>⟨L,rfl,by omega,?_⟩⟩;have hvt:vtOf (wag (atX L))=atX L:=rfl;rw[hvt,wor,hM.before];refine⟨⟨by omega,rfl⟩,wcn (λq=>absurd q (by decide)) (λ_=>wae (λh=>?_) (λh=>?_))⟩
 ·obtain⟨hk,hs⟩:=hM.alive (by omega) (by omega) (w06 h);exact⟨⟨by omega,rfl⟩,wae (λ_=>wae (λ_=>⟨trivial,rfl,rfl⟩) (λq=>absurd hs q)) (λq=>wae (λ_=>wae (λ_=>⟨trivial,rfl,rfl⟩) (λq=>absurd hs q)) (λq2=>absurd hk (by omega)))⟩
 ·obtain⟨k,hk,e,hf,hlt⟩:=ixB_at h;have hov:∀j,k<=j->staP (1440+(j:Int)) L=bif decide ((atX L k).st=4) then ⟨3,(atX L k).per,[]⟩ else ⟨4,(atX L k).per,(atX L k).rep⟩:=λj hj=>wv2 hM.per hk hlt hf hj
  rw[e,tN7];have hf:(decide ((atX L k).st=4) || decide ((atX L k).st=5))=true:=hf;simp only[Bool.or_eq_true,decide_eq_true_eq] at hf;refine⟨⟨by omega,by omega,rfl⟩,⟨by omega,by omega,rfl⟩,wae (λh5=>⟨⟨by omega,by omega,rfl⟩,⟨by omega,by omega,rfl⟩,L,⟨4,(atX L k).per,(atX L k).rep⟩,k,rfl,⟨by omega,by omega⟩,λj hj=>?_,trivial,rfl,rfl⟩) (λh5=>⟨L,⟨3,(atX L k).per,[]⟩,k,rfl,⟨by omega,by omega⟩,λj hj=>?_,trivial,rfl,rfl⟩)⟩
  ·rw[hov j hj,decide_eq_false (show ¬ (atX L k).st=4 by omega)];rfl
  ·rw[hov j hj,decide_eq_true (show (atX L k).st=4 by omega)];rfl
end Go.Eng
namespace Go.Eng
open Go.Proofs Go.RowKit Go.ChangeShapes Go.WideShapes Go.ChangeAt
theorem params_Ben:Tryz.f11.params=#[23]:=by kernel_rfl
set_option maxRecDepth 100000 in
theorem w0j(os:Os)(started:os.Started)(H:Type)(enc:TypeId×Value->H):
  ReturnsInHanded {} Tryz.checked os 11 .any (λw args=>(Go.Proofs.YtmcdngcjakjnmaaGreatDoor.Rows.visitEndsSpec.pre enc Tryz.prog Tryz.f11 [] false w args/\laidMetH Tryz.prog Go.Proofs.YtmcdngcjakjnmaaGreatDoor.Rows.visitEndsRow.laid w)/\sizedMet enc Tryz.prog Tryz.f11 (OpenSpec.ofChange Go.Proofs.YtmcdngcjakjnmaaGreatDoor.Rows.visitEndsSpec) false w args)
   (Go.Proofs.YtmcdngcjakjnmaaGreatDoor.Rows.visitEndsSpec.post enc Tryz.prog Tryz.f11 false true false false):=by
 refine w1k (C:=Tryz.checked) (X:=λw _=>laidMetH Tryz.prog Go.Proofs.YtmcdngcjakjnmaaGreatDoor.Rows.visitEndsRow.laid w) (λ_ _ _ hh h=>h.of_heap hh) ownK started (by kernel_rfl) Tryz.func11
  (ChangeSpec.witness_at (enc:=enc) (C:=Tryz.checked) (os:=os) (X:=λw _=>laidMetH Tryz.prog Go.Proofs.YtmcdngcjakjnmaaGreatDoor.Rows.visitEndsRow.laid w) false (wst os) #[.slice none 0 0] 8 rfl (by kernel_rfl) (by kernel_rfl) (by kernel_rfl) (by kernel_rfl) (by kernel_rfl) (w0s os _)) ?_
 intro W base args ds gs before hval0 hW hL hsh;have hval:∀(j:Nat) t v,Tryz.f11.params[j]?=some t->args[j]?=some v->Value.okWide Tryz.prog W .any base t v:=hval0;have hW':=hW;obtain⟨p,q,hA0,hV,rfl,hfz,hnd⟩:=hW;have hA:DataW.TrodAll enc Tryz.prog W 0 (λ_=>true) true Tryz.f11.params.toList args.toList ds p:=hA0;rw[params_Ben] at hA hval;obtain⟨v0,vs0,d0,ds0,p0,q0,hargs,rfl,rfl,h0,r0⟩:=trodAll_cons hA;obtain⟨rfl,rfl,rfl⟩:=trodAll_nil r0;obtain rfl:args=#[v0]:=by cases args;simp_all
 obtain⟨rfl,rfl⟩:=trodVars_none hV;obtain⟨a0,len0,cap0,rfl⟩:=okWide_slice undIs (hval 0 23 v0 rfl rfl);have k0:=h0;have lt0:∀x∈p0,x.block<W.heap.size:=by obtain⟨m,hm⟩:=k0;exact DataW.trod_lt m _ _ _ hm
 obtain⟨m0,hm0⟩:=h0;obtain⟨A0,n0,c0,w0,e0,V0⟩:=ww2 hm0;have e0:[Value.slice a0 len0 cap0]=[Value.slice A0 n0 c0]:=e0;simp only[List.cons.injEq,and_true] at e0;rw[← e0] at V0;have lw:=w0t hL hsh;refine(ADet.top (C:=cx) (lend_ok rfl (λ_ h=>h) n0 w0) lw (gsz_le lw) (cargs:=[.slice a0 len0 cap0]) rfl (λj x u hx hu=>?_)).mono λe W' ⟨he,bel⟩=>?_
 ·match j with
  |0=>obtain rfl:=Option.some.inj hx;obtain rfl:=Option.some.inj hu;exact V0
  |j+1=>simp at hx
 ·subst he;exact⟨_,rfl,_,_,_,[],_,[],hW',trodAll_mk1 (shut_bool (show Tryz.prog.underlying 4=some .bool by kernel_rfl) _),(trodAll_cons_mk (Below.trod wsu (by kernel_rfl) (of_decide_eq_true (by kernel_rfl)) k0 bel lt0) trodAll_mk0),rfl,bel.frame _,λh=>by cases h⟩
set_option maxRecDepth 100000 in
theorem over_Ben:Go.Proofs.YtmcdngcjakjnmaaGreatDoor.Rows.visitEndsRow.holds Go.Proofs.YtmcdngcjakjnmaaGreatDoor.Tryz.pinned (OpenSpec.ofChange Go.Proofs.YtmcdngcjakjnmaaGreatDoor.Rows.visitEndsSpec):=
 OpenClaim.holds_of_wide 11 Tryz.f11 rfl rfl rfl rfl rfl rfl rfl ⟨rfl,rfl,rfl,rfl,rfl⟩ rfl rfl rfl rfl rfl (by kernel_rfl) Tryz.func11 w2p
  w1a (by unfold Func.isWrapper;rw[if_neg (of_decide_eq_false (by kernel_rfl))];exact⟨rfl,rfl⟩)
  (λos started H enc _=>w0j os started H enc)
end Go.Eng
namespace Go.Proofs.YtmcdngcjakjnmaaGreatDoor
open Go
def harB : Bool × String := (true, "45df5a8c9ecb56705658ebb30df4076f5d25be7071adf32bdc6d321a36dc9da9")
set_option maxRecDepth 100000 in
theorem mainB:Tryz.prog.mainIs=some (harB.1,harB.2.toList):=by kernel_rfl
set_option maxRecDepth 100000 in
theorem looksB:true=Tryz.prog.looks []:=by kernel_rfl
end Go.Proofs.YtmcdngcjakjnmaaGreatDoor
namespace Go.Proofs.YtmcdngcjakjnmaaGreatDoor
open Go
set_option maxRecDepth 100000 in
theorem wf_Ben:Rows.visitEndsRow.wfByText (OpenSpec.ofChange Rows.visitEndsSpec)=true:=by kernel_rfl
set_option maxRecDepth 100000 in
theorem w1o:false=Rows.visitEndsRow.goesBy Tryz.prog:=by kernel_rfl
theorem wzx : Tryz.prog.funcNamed "priceoffice/priceofficelaw12.VisitEnds" = some 11 := by kernel_rfl
theorem wv1:Tryz.prog.wantsStandIn 23=false:=by kernel_rfl
theorem card_Ben:Rows.VisitEndsCardSaid:=
 Claim7.holds_tied_plain_at .later [] [.data,.data,.data,.data,.sentinel,.sentinel,.pinned] true harB true
  Go.Eng.over_Ben (λ_ h=>by cases h) wf_Ben (λ_ h=>by cases h) visitEnds_row_tie rfl ⟨rfl,rfl⟩ mainB rfl
  (λf fn hf hfn=>by
   obtain rfl:f=11:=Option.some.inj (wzx.symm.trans hf) |>.symm;obtain rfl:fn=Tryz.f11:=(Option.some.inj (Tryz.func11.symm.trans hfn)).symm;exact⟨looksB,λj t ht=>by
    rw[Go.Eng.params_Ben] at ht;have h3:t=23:=by
     rcases j with _ | j
     ·exact by simpa using ht.symm
     ·simp at ht
    rcases h3 with rfl
    ·exact wv1⟩)
  w1o
end Go.Proofs.YtmcdngcjakjnmaaGreatDoor
