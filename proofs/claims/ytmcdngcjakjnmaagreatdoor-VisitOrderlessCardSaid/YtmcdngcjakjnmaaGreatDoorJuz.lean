/- Whole numbers as ratios; searching in a sorted list of slots. -/
import Derived.Test.YtmcdngcjakjnmaaGreatDoorJuy
namespace Go.Eng
open Go.Proofs Go.RowKit
variable {C:Ctx} [C.Loose]
set_option maxRecDepth 20000
theorem nf_res(R:List MG)(o p:List UInt8)(per:Int)(nv:Nat)(fv:Nat->List AV)(Q:AV->oL7->Prop):wpFn te [(29,.det wli)] [] 0 Tryz.f39 [.agg [.vmap (waf R).length (entF (entG keyS vwM (waf R))),.view 3 nv fv],.agg [.str o,.str p,.q per]] [] Q=(letI z2:=wfh (waf R).length (entF (entG keyS vwM (waf R)));letI z3:=mget z2 (.agg [.str o,.str p,.q per]);letI z0:=Option.getD z3 (.view 15 0 nof);letI z1:=(resF (mgOf (vF z0)) (vN z0) o p per).1;(wa6 te 78 z2/\.view 15 (vN z0) (vF z0)=Option.getD z3 (.view 15 0 nof))/\(vN z0<=100000/\vF z0=waa (mgOf (vF z0))/\∀(i:Nat),i<vN z0->MG.Sm (mgOf (vF z0) i))/\(True/\True)/\Q (.tuple [.agg [.str z1.o,.str z1.p,.q z1.per,.q z1.day,.q z1.st,.q z1.pr,.str z1.rep],.q (resF (mgOf (vF z0)) (vN z0) o p per).2]) []):=by kernel_rfl
theorem wxx(R:List MG)(o p:List UInt8)(k:Nat)(P:Nat->Prop)(Q:eR7):wav ⟨te,[(39,.det (wer R))],[],0,43,0⟩ (wax Tryz.f55 3) [1,2,3,7,13,14,15] [7] [] (wkz R o p) P Q (wkz R o p k)=(letI z7:=(waf R).length;letI z6:=entG keyS vwM (waf R);letI z5:=wal (atS (visL R));letI z4:=(visL R).length;letI z3:=(atS (visL R) (k:Int).toNat);letI z2:=serK R o p (visL R) k;letI z8:=z2.length;letI z1:=(resB R (SL.mk (SL.o z3) (SL.p z3) (SL.per z3)));letI z0:=(inR .i64 ((k:Int)+1)/\∃(i':Nat),(TEq [(1,.str o),(2,.str p),(3,.ptr 0 0),(7,.own 1 z8),(13,.view 3 z4 z5),(14,.q (z4:Int)),(15,.q ((k:Int)+1))] [(1,.str o),(2,.str p),(3,.ptr 0 0),(7,.own 1 (serK R o p (visL R) i').length),(13,.view 3 z4 z5),(14,.q (z4:Int)),(15,.q (i':Int))]/\wac [(0,.cells [AV.vmap z7 (entF z6),.view 3 z4 z5] 72),(1,.row 43 7 z8 (was (atX z2)) false)] [(0,.cells [AV.vmap z7 (entF z6),.view 3 z4 z5] 72),(1,.row 43 7 (serK R o p (visL R) i').length (was (atX (serK R o p (visL R) i'))) false)])/\P i');wab (decide ((k:Int)<(z4:Int))) (((0:Int)<=(k:Int)/\(k:Int)<(z4:Int)/\3=3)/\wab (!decide (SL.o z3=o)) z0 (wab (!decide (SL.p z3=p)) z0 (((waf R).length=(waf R).length/\entF z6=entF z6/\BkOK R/\SL.mk (SL.o z3) (SL.p z3) (SL.per z3)∈visL R)/\wab (decide (z1.2=1)) ((7<=16777216/\7=7/\1<=9223372036854775807)/\((1<=1/\7=7)/\z2.length<=z2.length/\7=7/\43=43/\7=7/\z2.length+1<=9223372036854775807/\(z2.length+1) * 80<=140737488355328)/\inR .i64 ((k:Int)+1)/\∃(i':Nat),(TEq [(1,.str o),(2,.str p),(3,.ptr 0 0),(7,.own 1 (z2.length+1)),(13,.view 3 z4 z5),(14,.q (z4:Int)),(15,.q ((k:Int)+1))] [(1,.str o),(2,.str p),(3,.ptr 0 0),(7,.own 1 (serK R o p (visL R) i').length),(13,.view 3 z4 z5),(14,.q (z4:Int)),(15,.q (i':Int))]/\wac [(0,.cells [AV.vmap z7 (entF z6),.view 3 z4 z5] 72),(1,.row 43 7 (z2.length+1) (apF z8 (was (atX z2)) (wau 7 (.str z1.1.o:: .str z1.1.p:: .q z1.1.per:: .q z1.1.day:: .q z1.1.st:: .q z1.1.pr:: .str z1.1.rep::List.append [] (List.flatten (List.replicate (nat_lit 0) [.str ([]),.str ([]),.q 0,.q 0,.q 0,.q 0,.str ([])]))))) false)] [(0,.cells [AV.vmap z7 (entF z6),.view 3 z4 z5] 72),(1,.row 43 7 (serK R o p (visL R) i').length (was (atX (serK R o p (visL R) i'))) false)])/\P i') z0))) ((∀(i:Nat),i<z2.length->true=true)/\∃(O':oL7),wac [(0,.row 43 7 z8 (was (atX z2)) false)] O'/\Q (.exit 0) (St.mk [(7,.own 0 z8)] O' 1 []))):=by kernel_rfl
theorem nf_ser(R:List MG)(o p:List UInt8)(Q:AV->oL7->Prop):letI z2:=entF (entG keyS vwM (waf R));letI z1:=wal (atS (visL R));letI z0:=(visL R).length;wpFn te [] [(3,wm7 R o p)] 0 Tryz.f55 [.agg [.vmap (waf R).length z2,.view 3 (visL R).length z1],.str o,.str p] [] Q=((TEq [(1,.str o),(2,.str p),(3,.ptr 0 0),(7,.own 1 0),(13,.view 3 z0 z1),(14,.q (z0:Int)),(15,.q 0)] [(1,.str o),(2,.str p),(3,.ptr 0 0),(7,.own 1 0),(13,.view 3 z0 z1),(14,.q (z0:Int)),(15,.q (↑0:Int))]/\wac [(0,.cells [AV.vmap (waf R).length z2,.view 3 z0 z1] 72),(1,.row 43 7 0 (λ(_x:Nat)=>[]) false)] [(0,.cells [AV.vmap (waf R).length z2,.view 3 z0 z1] 72),(1,.row 43 7 0 (was (atX (serK R o p (visL R) 0))) false)])/\BkOK R/\(∀(i:Nat),i<(serL R o p).length->true=true)/\∃(O':oL7),wac [(0,.row 43 7 (serL R o p).length (was (atX (serL R o p))) false)] O'/\Q (.own 0 (serL R o p).length) O'):=by kernel_rfl
theorem nf_Ser(g:Nat->MG)(n:Nat)(o p:List UInt8)(Q:AV->oL7->Prop):wpFn te [(38,.det wes),(55,.det (wlb (wah g n)))] [] 0 Tryz.f26 [.view 15 n (waa g),.str o,.str p] [] Q=(letI z0:=wah (mgOf (waa g)) n;(n<=100000/\waa g=waa (mgOf (waa g))/\∀(i:Nat),i<n->MG.Sm (mgOf (waa g) i))/\((waf z0).length=(waf (wah g n)).length/\entF (entG keyS vwM (waf z0))=entF (entG keyS vwM (waf (wah g n)))/\(visL z0).length=(visL (wah g n)).length/\wal (atS (visL z0))=wal (atS (visL (wah g n)))/\BkOK (wah g n))/\Q (.view 7 (serL (wah g n) o p).length (was (atX (serL (wah g n) o p)))) []):=by kernel_rfl
theorem wxz(R:List MG)(k:Nat)(P:Nat->Prop)(Q:eR7):wav ⟨te,[(39,.det (wer R))],[],0,38,0⟩ (wax Tryz.f23 4) [3,4,12,13,14] [4] [] (wk1 R) P Q (wk1 R k)=(letI z5:=(waf R).length;letI z4:=entG keyS vwM (waf R);letI z3:=wal (atS (visL R));letI z2:=dspK R (visL R) k;letI z6:=z2.length;letI z1:=(visL R).length;letI z0:=(atS (visL R) (k:Int).toNat);wab (decide ((k:Int)<(z1:Int))) (((0:Int)<=(k:Int)/\(k:Int)<(z1:Int)/\3=3)/\((waf R).length=(waf R).length/\entF z4=entF z4/\BkOK R/\SL.mk (SL.o z0) (SL.p z0) (SL.per z0)∈visL R)/\wab (decide ((resB R (SL.mk (SL.o z0) (SL.p z0) (SL.per z0))).2=2)) ((7<=16777216/\7=7/\1<=9223372036854775807)/\((1<=1/\7=7)/\z2.length<=z2.length/\7=7/\43=43/\7=7/\z2.length+1<=9223372036854775807/\(z2.length+1) * 80<=140737488355328)/\inR .i64 ((k:Int)+1)/\∃(i':Nat),(TEq [(3,.ptr 0 0),(4,.own 1 (z2.length+1)),(12,.view 3 z1 z3),(13,.q (z1:Int)),(14,.q ((k:Int)+1))] [(3,.ptr 0 0),(4,.own 1 (dspK R (visL R) i').length),(12,.view 3 z1 z3),(13,.q (z1:Int)),(14,.q (i':Int))]/\wac [(0,.cells [AV.vmap z5 (entF z4),.view 3 z1 z3] 72),(1,.row 43 7 (z2.length+1) (apF z6 (was (atX z2)) (wau 7 (.str (SL.o z0):: .str (SL.p z0):: .q (SL.per z0):: .q 0:: .q 0:: .q 0:: .str []::List.append [] (List.flatten (List.replicate (nat_lit 0) [.str ([]),.str ([]),.q 0,.q 0,.q 0,.q 0,.str ([])]))))) false)] [(0,.cells [AV.vmap z5 (entF z4),.view 3 z1 z3] 72),(1,.row 43 7 (dspK R (visL R) i').length (was (atX (dspK R (visL R) i'))) false)])/\P i') (inR .i64 ((k:Int)+1)/\∃(i':Nat),(TEq [(3,.ptr 0 0),(4,.own 1 z6),(12,.view 3 z1 z3),(13,.q (z1:Int)),(14,.q ((k:Int)+1))] [(3,.ptr 0 0),(4,.own 1 (dspK R (visL R) i').length),(12,.view 3 z1 z3),(13,.q (z1:Int)),(14,.q (i':Int))]/\wac [(0,.cells [AV.vmap z5 (entF z4),.view 3 z1 z3] 72),(1,.row 43 7 z6 (was (atX z2)) false)] [(0,.cells [AV.vmap z5 (entF z4),.view 3 z1 z3] 72),(1,.row 43 7 (dspK R (visL R) i').length (was (atX (dspK R (visL R) i'))) false)])/\P i')) ((∀(i:Nat),i<z2.length->true=true)/\∃(O':oL7),wac [(0,.row 43 7 z6 (was (atX z2)) false)] O'/\Q (.exit 0) (St.mk [(4,.own 0 z6)] O' 1 []))):=by kernel_rfl
theorem nf_disp(g:Nat->MG)(n:Nat)(R:List MG)(Q:AV->oL7->Prop):wpFn te [(38,.det wes)] [(4,wm8 R)] 0 Tryz.f23 [.view 15 n (waa g)] [] Q=(letI z2:=(visL R).length;letI z0:=wah (mgOf (waa g)) n;letI z1:=(visL z0).length;(n<=100000/\waa g=waa (mgOf (waa g))/\∀(i:Nat),i<n->MG.Sm (mgOf (waa g) i))/\(TEq [(3,.ptr 0 0),(4,.own 1 0),(12,.view 3 z1 (wal (atS (visL z0)))),(13,.q (z1:Int)),(14,.q 0)] [(3,.ptr 0 0),(4,.own 1 0),(12,.view 3 z2 (wal (atS (visL R)))),(13,.q (z2:Int)),(14,.q (↑0:Int))]/\wac [(0,.cells [AV.vmap (waf z0).length (entF (entG keyS vwM (waf z0))),.view 3 z1 (wal (atS (visL z0)))] 72),(1,.row 43 7 0 (λ(_x:Nat)=>[]) false)] [(0,.cells [AV.vmap (waf R).length (entF (entG keyS vwM (waf R))),.view 3 z2 (wal (atS (visL R)))] 72),(1,.row 43 7 0 (was (atX (dspK R (visL R) 0))) false)])/\BkOK R/\(∀(i:Nat),i<(dspV R).length->true=true)/\∃(O':oL7),wac [(0,.row 43 7 (dspV R).length (was (atX (dspV R))) false)] O'/\Q (.own 0 (dspV R).length) O'):=by kernel_rfl
theorem wtw:∀ {B:List (SL×List MG)} {s:SL},s∈B.map Prod.fst->getA B s=some (getB B s)
 |[],_,h=>by simp at h
 |x::B,s,h=>by
  rw[getA,getB]
  by_cases q:x.1=s
  ·rw[decide_eq_true q];rfl
  ·rw[decide_eq_false q,cond_false,cond_false];rw[List.map_cons,List.mem_cons] at h;exact wtw (h.resolve_left λe=>q e.symm)
theorem vis_key{R:List MG}{s:SL}(h:s∈visL R):s∈(waf R).map Prod.fst:=by
 obtain⟨m,hm,hk,e⟩:=wft.1 h;refine(wpd s R).2 ⟨m,hm,?_⟩;rw[← e,whr,decide_eq_false (by omega)];rfl
theorem entsV_S(B:List (SL×List MG)):wfh B.length (entF (entG keyS vwM B))=entG keyS vwM B:=by
 have:(entG keyS vwM B).length=B.length:=by simp[entG]
 rw[← this];exact entsV_F _
theorem woh(hP:C.P=Tryz.prog)(hL:∀w,C.laid w->LaidW w)(R:List MG):wae C 39 (wer R):=by
 rintro args objs U Os vc h hvc;unfold wer at h;split at h<;>cases h;rename_i nb fb nv fv o p per;obtain⟨rfl,rfl,hB,hs⟩:=hvc;refine wae.wp0 (prg hP) [(29,.det wli)] 0 (.cons (ww7 hP hL) .nil) (hP ▸ Tryz.func39) rfl rfl rfl ?_;have hm:mget (entG keyS vwM (waf R)) (.agg [.str o,.str p,.q per])=some (vwM (getB (waf R) ⟨o,p,per⟩)):=by
  have e:=wf1 (vv:=vwM) wfa ⟨o,p,per⟩ (waf R);rw[wtw (vis_key hs)] at e;exact e
 have hr:=ww8 hB.right ⟨o,p,per⟩;have hGR:∀m∈getB (waf R) ⟨o,p,per⟩,m∈R:=λm h=>by
  rw[wjy] at h;exact(List.mem_filter.1 h).1
 have hGl:(getB (waf R) ⟨o,p,per⟩).length<=R.length:=by
  rw[wjy];exact List.length_filter_le _ _
 have hlen:=hB.len;rw[nf_res,entsV_S,hm];generalize getB (waf R) ⟨o,p,per⟩=G at *;refine⟨⟨wh2 (λ_ _=>whp) wjm (wi4 R),rfl⟩,⟨?_,rfl,λi hi=>?_⟩,⟨trivial,trivial⟩,?_,rfl⟩
 ·show G.length<=100000;omega
 ·exact hB.sm _ (hGR _ (wks hi))
 ·have hr:resF (atM G) G.length o p per=resB R ⟨o,p,per⟩:=hr;rw[← hr];rfl
theorem snocE{α:Type}(enc:α->List AV)(d:α)(L:List α)(m:α)(ch:Nat->List AV)(hch:ch 0=enc m)(j:Nat)(hj:j<L.length+1):apF L.length (λi=>enc (L.getD i d)) ch j=enc ((L++[m]).getD j d):=by
 unfold apF
 by_cases h:j<L.length
 ·rw[if_pos h];show enc (L.getD j d)=_;rw[List.getD_eq_getElem?_getD,List.getD_eq_getElem?_getD,List.getElem?_append_left h]
 ·have:j=L.length:=by omega
  subst this;rw[if_neg h,Nat.sub_self,hch,List.getD_eq_getElem?_getD,List.getElem?_append_right (lR7 _),Nat.sub_self];rfl
theorem wvq(hP:C.P=Tryz.prog)(hL:∀w,C.laid w->LaidW w)(R:List MG)(o p:List UInt8):wai C 0 43 (wak Tryz.f55 3) (wm7 R o p):=by
 rintro st Q ⟨h0,hB,hQ⟩;refine AWP.ownNil 7 43 7 ?_;have hvl:(visL R).length<=100000:=Nat.le_trans (wdt R) hB.len;refine wai.mk (prg hP) [(39,.det (wer R))] 0 (.cons (woh hP hL R) .nil) [1,2,3,7,13,14,15] [7] [] (wkz R o p) (λk=>k<=(visL R).length) (λk=>(visL R).length - k) 0 (zL7 _) h0 (λk hk=>?_) (λi=>⟨λ_ _=>rfl,trivial⟩);have hlen:=woc R o p (visL R) k;rw[wxx,tN7];have sk:slkB R o p (atS (visL R) k)=false->serK R o p (visL R) (k+1)=serK R o p (visL R) k:=λh=>by rw[serK,h];rfl
 have go:slkB R o p (atS (visL R) k)=true->serK R o p (visL R) (k+1)=serK R o p (visL R) k++[(resB R (atS (visL R) k)).1]:=λh=>by rw[serK,h];rfl
 refine waj (λh1=>⟨⟨by omega,by omega,rfl⟩,wa7 (λq=>?_) (λq1=>wa7 (λq=>?_) (λq2=>⟨⟨rfl,rfl,hB,wem (by omega)⟩,waj (λq=>?_) (λq=>?_)⟩))⟩) (λh1=>?_)
 ·refine⟨by simp only[inR];omega,k+1,?_,by omega,by omega⟩;rw[sk (by unfold slkB keyB;rw[decide_eq_false q];rfl)];exact⟨rfl,rfl,rQ7,trivial⟩
 ·refine⟨by simp only[inR];omega,k+1,?_,by omega,by omega⟩;rw[sk (by unfold slkB keyB;rw[decide_eq_false q,Bool.and_false];rfl)];exact⟨rfl,rfl,rQ7,trivial⟩
 ·refine⟨⟨by omega,rfl,by omega⟩,⟨⟨lR7 _,rfl⟩,lR7 _,rfl,rfl,rfl,by omega,?_⟩,by simp only[inR];omega,k+1,?_,by omega,by omega⟩
  ·show ((serK R o p (visL R) k).length+1) * 80<=_;omega
  ·rw[go (wwi.2 ⟨q1,q2,q⟩),lA7];exact⟨rfl,rfl,⟨rfl,rfl,rfl,rfl,rfl,λj hj=>snocE vtC default _ _ _ rfl j hj⟩,trivial⟩
 ·refine⟨by simp only[inR];omega,k+1,?_,by omega,by omega⟩;rw[sk (by unfold slkB;rw[show decide ((resB R (atS (visL R) k)).2=1)=false from decide_eq_false q,Bool.and_false])];exact⟨rfl,rfl,rQ7,trivial⟩
 ·have:k=(visL R).length:=by omega
  subst this;exact⟨λ_ _=>rfl,_,wa1 _,hQ⟩
theorem ser_ok(hP:C.P=Tryz.prog)(hL:∀w,C.laid w->LaidW w)(R:List MG):wae C 55 (wlb R):=by
 rintro args objs U Os vc h hvc;unfold wlb at h;split at h<;>cases h;rename_i nb fb nv fv o p;obtain⟨rfl,rfl,rfl,rfl,hB⟩:=hvc;refine wat.frzO 0 ?_;refine wa8.wpL (prg hP) [] [(3,wm7 R o p)] 0 .nil (hP ▸ Tryz.func55) rfl rfl rfl [(wak Tryz.f55 3,wm7 R o p)] (by kernel_rfl) ⟨wvq hP hL R o p,trivial⟩ ?_;rw[nf_ser];generalize serL R o p=L at *;refine⟨⟨rfl,rfl,⟨rfl,rfl,rfl,rfl,rfl,λi hi=>absurd hi (nZ7 i)⟩,trivial⟩,hB,λ_ _=>rfl,_,wa1 _,λ_ _=>rfl,?_⟩;have hb:Nat.ble L.length L.length=true:=Nat.ble_eq_true_of_le (lR7 _)
 constructor
 ·simp[frzC,frzA,frz,hb]
 ·rfl
theorem wqe{g:Nat->MG}{n:Nat}(hn:n<=100000)(hs:∀i,i<n->(g i).Sm):BkOK (wah g n):=by
 refine⟨ww2 g n,Nat.le_trans (wof g n) hn,λm hm=>?_⟩;have h1:=(wi9.1 (List.mem_filter.1 hm).1).1
 rcases List.mem_append.1 h1 with h | h
 ·obtain⟨i,hi,rfl⟩:=List.mem_map.1 h;exact hs i (List.mem_range.1 hi)
 ·simp[lst] at h
theorem Ser_ok(hP:C.P=Tryz.prog)(hL:∀w,C.laid w->LaidW w):wae C 26 wms:=by
 rintro args objs U Os vc h hvc;unfold wms at h;split at h<;>cases h;rename_i n f o p;obtain⟨hn,hf,hs⟩:=hvc;generalize mgOf f=g at *;subst hf;refine wae.wp0 (prg hP) [(38,.det wes),(55,.det (wlb (wah g n)))] 0 (.cons (woq hP hL) (.cons (ser_ok hP hL _) .nil)) (hP ▸ Tryz.func26) rfl rfl rfl ?_;rw[nf_Ser];exact⟨⟨hn,rfl,hs⟩,⟨rfl,rfl,rfl,rfl,wqe hn hs⟩,rfl,rfl⟩
theorem wp4(R:List MG)(V:List SL):∀k,(dspK R V k).length<=k
 |0=>lR7 _
 |k+1=>by
  have ih:=wp4 R V k;rw[dspK]
  cases decide ((resB R (atS V k)).2=2) with
  |true=>rw[cond_true,lA7];show _+1<=_;omega
  |false=>rw[cond_false];omega
theorem wvw(hP:C.P=Tryz.prog)(hL:∀w,C.laid w->LaidW w)(R:List MG):wai C 0 38 (wak Tryz.f23 4) (wm8 R):=by
 rintro st Q ⟨h0,hB,hQ⟩;refine AWP.ownNil 4 43 7 ?_;have hvl:(visL R).length<=100000:=Nat.le_trans (wdt R) hB.len;refine wai.mk (prg hP) [(39,.det (wer R))] 0 (.cons (woh hP hL R) .nil) [3,4,12,13,14] [4] [] (wk1 R) (λk=>k<=(visL R).length) (λk=>(visL R).length - k) 0 (zL7 _) h0 (λk hk=>?_) (λi=>⟨λ_ _=>rfl,trivial⟩);have hlen:=wp4 R (visL R) k;rw[wxz,tN7];refine waj (λh1=>⟨⟨by omega,by omega,rfl⟩,⟨rfl,rfl,hB,wem (by omega)⟩,waj (λq=>?_) (λq=>?_)⟩) (λh1=>?_)
 ·refine⟨⟨by omega,rfl,by omega⟩,⟨⟨lR7 _,rfl⟩,lR7 _,rfl,rfl,rfl,by omega,?_⟩,by simp only[inR];omega,k+1,?_,by omega,by omega⟩
  ·show ((dspK R (visL R) k).length+1) * 80<=_;omega
  ·have e:dspK R (visL R) (k+1)=dspK R (visL R) k++[slV (atS (visL R) k)]:=by rw[dspK,show decide ((resB R (atS (visL R) k)).2=2)=true from decide_eq_true q];rfl
   rw[e,lA7];exact⟨rfl,rfl,⟨rfl,rfl,rfl,rfl,rfl,λj hj=>snocE vtC default _ _ _ rfl j hj⟩,trivial⟩
 ·refine⟨by simp only[inR];omega,k+1,?_,by omega,by omega⟩;have e:dspK R (visL R) (k+1)=dspK R (visL R) k:=by rw[dspK,show decide ((resB R (atS (visL R) k)).2=2)=false from decide_eq_false q];rfl
  rw[e];exact⟨rfl,rfl,rQ7,trivial⟩
 ·have:k=(visL R).length:=by omega
  subst this;exact⟨λ_ _=>rfl,_,wa1 _,hQ⟩
theorem disp_ok(hP:C.P=Tryz.prog)(hL:∀w,C.laid w->LaidW w):wae C 23 wmf:=by
 rintro args objs U Os vc h hvc;unfold wmf at h;split at h<;>cases h;rename_i n f;obtain⟨hn,hf,hs⟩:=hvc;generalize mgOf f=g at *;subst hf;refine wat.frzO 0 ?_;refine wa8.wpL (prg hP) [(38,.det wes)] [(4,wm8 (wah g n))] 0 (.cons (woq hP hL) .nil) (hP ▸ Tryz.func23) rfl rfl rfl [(wak Tryz.f23 4,wm8 (wah g n))] (by kernel_rfl) ⟨wvw hP hL _,trivial⟩ ?_;rw[nf_disp];generalize dspV (wah g n)=L at *;refine⟨⟨hn,rfl,hs⟩,⟨rfl,rfl,⟨rfl,rfl,rfl,rfl,rfl,λi hi=>absurd hi (nZ7 i)⟩,trivial⟩,wqe hn hs,λ_ _=>rfl,_,wa1 _,λ_ _=>rfl,?_⟩;have hb:Nat.ble L.length L.length=true:=Nat.ble_eq_true_of_le (lR7 _)
 constructor
 ·simp[frzC,frzA,frz,hb]
 ·rfl
theorem wy6(g:Nat->Int)(n k:Nat)(P:Nat->Prop)(Q:eR7):wav ⟨te,[],[],1,21,0⟩ (wax Tryz.f150 1) [0] [0] [] (wgr g n) P Q (wgr g n k)=(letI z1:=([(0,.row 124 1 n (uRow g) false)]:oL7);letI z0:=((∀(i:Nat),i<n->true=true)/\∃(O':oL7),wac z1 O'/\Q (.exit 0) (St.mk [(0,.own 0 k)] O' 1 []):Prop);wab (decide ((0:Int)<(k:Int))) (inR .i64 ((k:Int) - (1:Int))/\((0:Int)<=(k:Int) - (1:Int)/\(k:Int) - (1:Int)<(k:Int))/\(((k:Int) - (1:Int)).toNat<n/\1=1)/\wab (decide (g ((k:Int) - (1:Int)).toNat=0)) (inR .i64 ((k:Int) - (1:Int))/\((0:Int)<=(k:Int) - (1:Int)/\(k:Int) - (1:Int)<=(k:Int))/\∃(i':Nat),(TEq [(0,.own 0 ((k:Int) - (1:Int)).toNat)] [(0,.own 0 i')]/\wac z1 z1)/\P i') z0) z0):=by kernel_rfl
theorem nf_low(f:Nat->List AV)(n:Nat)(Q:AV->oL7->Prop):wpFn te [] [(1,wni (uOf f) n)] 0 Tryz.f150 [.own 0 n] [.row 124 1 n f false] Q=((TEq [(0,.own 0 n)] [(0,.own 0 n)]/\wac [(0,.row 124 1 n f false)] [(0,.row 124 1 n (uRow (uOf f)) false)])/\n<=1000/\(∀(i:Nat),i<n->true=true)/\∃(O':oL7),wac [(0,.row 124 1 n (uRow (uOf f)) false)] O'/\Q (.own 0 (lowI (uOf f) n)) O'):=by kernel_rfl
theorem wyx(f:Nat->List AV)(n:Nat)(Q:AV->oL7->Prop):wpFn te [(150,.det wlu)] [] 0 Tryz.f130 [.own 0 n] [.row 124 1 n f false] Q=(letI z0:=(∀(i:Nat),i<n->nrefL (f i)=true:Prop);z0/\(124=124/\false=false/\n=n/\n<=1000/\∀(i:Nat),i<n->f i=[.int .u32 (uOf f i)])/\z0/\((lowI (uOf f) n<=n/\1=1)/\1=1/\lowI (uOf f) n<=9223372036854775807/\lowI (uOf f) n * 4<=140737488355328)/\z0/\(∀(i:Nat),i<lowI (uOf f) n->nrefL (f i)=true)/\∃(O':oL7),wac [(0,.row 124 1 n f false),(1,.row 124 1 (lowI (uOf f) n) f false)] O'/\Q (.own 1 (lowI (uOf f) n)) O'):=by kernel_rfl
theorem wzk(v:Int)(Q:AV->oL7->Prop):wpFn te [(130,.det wet)] [] 0 Tryz.f112 [.int .u64 v] [] Q=(letI z4:=IntKind.wrap IntKind.u32 v;letI z3:=(List.flatten (List.replicate (nat_lit 0) [.int .u32 0]):List AV);letI z2:=(IntKind.wrap IntKind.u32 (v / (2:Int) ^ (32:Int).toNat));letI z1:=(∀(i:Nat),i<2->nrefL (wau 1 (.int .u32 z4:: .int .u32 z2::List.append [] z3) i)=true:Prop);letI z0:=(wau 1 (.int .u32 z4:: .int .u32 z2::List.append [] z3));True/\((0:Int)<=32/\(32:Int)<=(↑(IntKind.bits IntKind.u64):Int))/\True/\(2<=16777216/\1=1/\2<=9223372036854775807)/\z1/\(124=124/\false=false/\2=2/\2<=1000/\∀(i:Nat),i<2->wau 1 (.int .u32 z4:: .int .u32 z2::List.append [] z3) i=[.int .u32 (uOf z0 i)])/\z1/\Q (.view 1 (lowI (uOf z0) 2) (uRow (uOf z0))) []):=by kernel_rfl
theorem nf_size(v:Int)(Q:AV->oL7->Prop):wpFn te [(112,.det wew)] [] 0 Tryz.f84 [.q v] [] Q=(wab (decide (v<0)) (True/\inR .u64 ((0:Int) - IntKind.wrap IntKind.u64 v)/\((0:Int)<=0 - IntKind.wrap IntKind.u64 v/\(0:Int) - IntKind.wrap IntKind.u64 v<18446744073709551616)/\Q (.view 1 (lmN ((0:Int) - IntKind.wrap IntKind.u64 v)) (uRow (lmF ((0:Int) - IntKind.wrap IntKind.u64 v)))) []) (True/\((0:Int)<=IntKind.wrap IntKind.u64 v/\IntKind.wrap IntKind.u64 v<18446744073709551616)/\Q (.view 1 (lmN (IntKind.wrap IntKind.u64 v)) (uRow (lmF (IntKind.wrap IntKind.u64 v)))) [])):=by kernel_rfl
theorem wzl(v:Int)(Q:AV->oL7->Prop):wpFn te [(84,.det wep)] [] 0 Tryz.f44 [.q v] [] Q=(((0:Int)<=v/\v<9223372036854775808)/\(True/\True)/\Q (.agg [.bool (decide (v<0)),.view 1 (lmN v) (uRow (lmF v)),.nil]) []):=by kernel_rfl
theorem wz6(g:Nat->SL)(s:SL)(n:Nat)(i:BI)(P:BI->Prop)(Q:eR7):wav ⟨te,[(42,.det wgh)],[],0,49,0⟩ (wax Tryz.f41 3) [0,2,4,8,9,10] [0,2,4,8,9] [] (wmp g s n) P Q (wmp g s n i)=(letI z2:=(↑(BI.a i):Int);letI z3:=(z2+(↑(BI.b i):Int));letI z4:=(IntKind.wrap IntKind.u64 z3 / (2:Int) ^ (1:Int).toNat+1);letI z1:=([(0,.cells [.str (SL.o s),.str (SL.p s),.q (SL.per s)] 78)]:oL7);letI z0:=(IntKind.wrap IntKind.u64 z3 / (2:Int) ^ (1:Int).toNat);wab (decide (z2<(↑(BI.b i):Int))) (inR .i64 z3/\True/\((0:Int)<=1/\(1:Int)<=(↑(IntKind.bits IntKind.u64):Int))/\inR .i64 z0/\((0:Int)<=IntKind.wrap IntKind.u64 z3 / (2:Int) ^ (1:Int).toNat/\IntKind.wrap IntKind.u64 z3 / (2:Int) ^ (1:Int).toNat<(n:Int)/\3=3)/\True/\wab (decide (ordS (SL.mk (SL.o (g z0.toNat)) (SL.p (g z0.toNat)) (SL.per (g z0.toNat))) (SL.mk (SL.o s) (SL.p s) (SL.per s))<0)) (inR .i64 z4/\∃(i':BI),some (St.mk [(0,.view 3 n (wal g)),(2,.func 42 []),(4,.ptr 0 0),(8,.q (n:Int)),(9,.q z4),(10,.q (↑(BI.b i):Int))] z1 1 [])=some (St.mk [(0,.view 3 n (wal g)),(2,.func 42 []),(4,.ptr 0 0),(8,.q (n:Int)),(9,.q (↑(BI.a i'):Int)),(10,.q (↑(BI.b i'):Int))] z1 1 [])/\P i') (∃(i':BI),some (St.mk [(0,.view 3 n (wal g)),(2,.func 42 []),(4,.ptr 0 0),(8,.q (n:Int)),(9,.q z2),(10,.q z0)] z1 1 [])=some (St.mk [(0,.view 3 n (wal g)),(2,.func 42 []),(4,.ptr 0 0),(8,.q (n:Int)),(9,.q (↑(BI.a i'):Int)),(10,.q (↑(BI.b i'):Int))] z1 1 [])/\P i')) (Q (.exit 0) (St.mk [(0,.view 3 n (wal g)),(2,.func 42 []),(4,.ptr 0 0),(8,.q (n:Int)),(9,.q z2)] z1 1 []))):=by kernel_rfl
theorem nf_bs(g:Nat->SL)(s:SL)(n:Nat)(Q:AV->oL7->Prop):wpFn te [(42,.det wgh)] [(3,L_bs g s n)] 0 Tryz.f41 [.view 3 n (wal g),.agg [.str s.o,.str s.p,.q s.per],.func 42 []] [] Q=(letI z1:=([(0,.cells [.str (SL.o s),.str (SL.p s),.q (SL.per s)] 78)]:oL7);letI z0:=(↑(bsF g s n):Int);some (St.mk [(0,.view 3 n (wal g)),(2,.func 42 []),(4,.ptr 0 0),(8,.q (n:Int)),(9,.q 0),(10,.q (n:Int))] z1 1 [])=some (St.mk [(0,.view 3 n (wal g)),(2,.func 42 []),(4,.ptr 0 0),(8,.q (n:Int)),(9,.q (↑(BI.a (BI.mk 0 n)):Int)),(10,.q (↑(BI.b (BI.mk 0 n)):Int))] z1 1 [])/\n<=1000000/\(∀(i j:Nat),i<j->j<n->ordS (g i) (g j)<0)/\wab (decide (z0<(n:Int))) (((0:Int)<=z0/\z0<(n:Int)/\3=3)/\True/\Q (.tuple [.q z0,.bool (decide (ordS (SL.mk (SL.o (g z0.toNat)) (SL.p (g z0.toNat)) (SL.per (g z0.toNat))) (SL.mk (SL.o s) (SL.p s) (SL.per s))=0))]) []) (Q (.tuple [.q z0,.bool false]) [])):=by kernel_rfl
theorem wjf(g:Nat->Int):∀n,lowI g n<=n
 |0=>lR7 _
 |k+1=>by
  have:=wjf g k;rw[lowI]
  cases decide (g k=0) with
  |true=>rw[cond_true];omega
  |false=>rw[cond_false];omega
theorem wo4{g:Nat->Int}{k:Nat}:∀ {n},k<=n->(∀i,k<=i->i<n->g i=0)->lowI g n=lowI g k
 |0,hk,_=>by rw[show k=0 by omega]
 |n+1,hk,h=>by
  by_cases q:k=n+1
  ·rw[q]
  ·rw[lowI,decide_eq_true (h n (by omega) (by omega)),cond_true];exact wo4 (by omega) λi h1 h2=>h i h1 (by omega)
theorem w01(hP:C.P=Tryz.prog)(g:Nat->Int)(n:Nat):wai C 1 21 (wak Tryz.f150 1) (wni g n):=by
 have _:C.Loose:=inferInstance;rintro st Q ⟨h0,hn,hQ⟩;refine wai.mk (prg hP) [] 0 .nil [0] [0] [] (wgr g n) (λk=>k<=n/\∀i,k<=i->i<n->g i=0) (λk=>k) n ⟨lR7 _,λi h1 h2=>absurd h2 (by omega)⟩ h0 (λk hk=>?_) (λi=>⟨λ_ _=>rfl,trivial⟩);obtain⟨hkn,hz⟩:=hk;have hQ':lowI g n=k->Q (.exit 0) ⟨[(0,.own 0 k)],[(0,.row 124 1 n (uRow g) false)],1,[]⟩:=λh=>by
  have hQ:Q (.exit 0) (wgr g n (lowI g n)):=hQ;rw[h] at hQ;exact hQ
 rw[wy6];have e1:((k:Int) - 1).toNat=k - 1:=by omega
 rw[e1];refine waj (λh1=>⟨by simp only[inR];omega,⟨by omega,by omega⟩,⟨by omega,rfl⟩,waj (λh2=>⟨by simp only[inR];omega,⟨by omega,by omega⟩,k - 1,⟨rfl,wa1 _⟩,⟨by omega,λi h3 h4=>?_⟩,by omega⟩) (λh2=>⟨λ_ _=>rfl,_,wa1 _,hQ' ?_⟩)⟩) (λh1=>⟨λ_ _=>rfl,_,wa1 _,hQ' ?_⟩)
 ·by_cases q:i=k - 1
  ·rw[q];exact h2
  ·exact hz i (by omega) h4
 ·rw[wo4 hkn hz];obtain⟨j,rfl⟩:∃j,k=j+1:=⟨k - 1,by omega⟩;rw[lowI,decide_eq_false (by rw[Nat.add_sub_cancel] at h2;exact h2)];rfl
 ·rw[wo4 hkn hz,show k=0 by omega];rfl
theorem low_ok(hP:C.P=Tryz.prog):wae C 150 wlu:=by
 rintro args objs U Os vc h hvc;unfold wlu at h;split at h<;>cases h;rename_i n t m f fr;obtain⟨rfl,rfl,rfl,hn,hf⟩:=hvc;refine wae.wpL (prg hP) [] [(1,wni (uOf f) n)] 0 .nil (hP ▸ Tryz.func150) rfl rfl rfl [(wak Tryz.f150 1,wni (uOf f) n)] (by kernel_rfl) ⟨w01 hP _ n,trivial⟩ ?_;rw[nf_low];have hrow:wac [(0,AObj.row 124 1 n (uRow (uOf f)) false)] [(0,.row 124 1 n f false)]:=⟨⟨rfl,rfl,rfl,rfl,rfl,λi hi=>(hf i hi).symm⟩,trivial⟩;exact⟨⟨rfl,⟨rfl,rfl,rfl,rfl,rfl,hf⟩,trivial⟩,hn,λ_ _=>rfl,_,hrow,rfl,rfl⟩
theorem wxr(hP:C.P=Tryz.prog):wae C 130 wet:=by
 rintro args objs U Os vc h hvc;unfold wet at h;split at h<;>cases h;rename_i n t m f fr;obtain⟨rfl,rfl,rfl,hn,hf⟩:=hvc;refine wat.frzO 1 ?_;refine wa8.wpL (prg hP) [(150,.det wlu)] [] 0 (.cons (low_ok hP) .nil) (hP ▸ Tryz.func130) rfl rfl rfl [] (wcw _) trivial ?_;rw[wyx];have hle:=wjf (uOf f) n;have hnr:∀i,i<n->nrefL (f i)=true:=λi hi=>by rw[hf i hi];rfl
 refine⟨hnr,⟨rfl,rfl,rfl,hn,hf⟩,hnr,⟨⟨hle,rfl⟩,rfl,by omega,by omega⟩,hnr,λi hi=>hnr i (by omega),[(0,.row 124 1 n f false),(1,.row 124 1 (lowI (uOf f) n) (uRow (uOf f)) false)],⟨rQ7,⟨rfl,rfl,rfl,rfl,rfl,λi hi=>hf i (by omega)⟩,trivial⟩,λ_ _=>rfl,?_⟩;generalize lowI (uOf f) n=c at *;have hb:Nat.ble c c=true:=Nat.ble_eq_true_of_le (lR7 _)
 constructor
 ·simp[frzC,frzA,frz,hb]
 ·rfl
theorem w12(hP:C.P=Tryz.prog):wae C 112 wew:=by
 rintro args objs U Os vc h hvc;unfold wew at h;split at h<;>cases h;rename_i v;obtain⟨h0,h1⟩:=hvc;refine wae.wp0 (prg hP) [(130,.det wet)] 0 (.cons (wxr hP) .nil) (hP ▸ Tryz.func112) rfl rfl rfl ?_;rw[wzk];have w1:IntKind.wrap .u32 v=v % 4294967296:=rfl;have w2:IntKind.wrap .u32 (v / (2:Int) ^ Int.toNat (32:Int))=v / 4294967296:=by
  show (v / 4294967296) % 4294967296=v / 4294967296;omega
 rw[w1,w2];have e:uOf (wau 1 (.int .u32 (v % 4294967296):: .int .u32 (v / 4294967296)::List.append [] (List.flatten (List.replicate 0 [.int .u32 0]))))=lmF v:=by
  funext i
  match i with
  |0=>rfl
  |1=>rfl
  |i+2=>simp[uOf,wau,lmF,wdw,wdc]
 have two:∀ {p:Nat->Prop},p 0->p 1->∀i,i<2->p i:=λh0 h1 i hi=>by
  match i,hi with
  |0,_=>exact h0
  |1,_=>exact h1
 refine⟨trivial,⟨by decide,by decide⟩,trivial,⟨by omega,rfl,by omega⟩,two rfl rfl,⟨rfl,rfl,rfl,by omega,two rfl rfl⟩,two rfl rfl,?_,rfl⟩;show AV.view 1 (lowI (uOf _) 2) (uRow (uOf _))=_;rw[e];rfl
theorem size_ok(hP:C.P=Tryz.prog):wae C 84 wep:=by
 rintro args objs U Os vc h hvc;unfold wep at h;split at h<;>cases h;rename_i v;obtain⟨h0,h1⟩:=hvc;refine wae.wp0 (prg hP) [(112,.det wew)] 0 (.cons (w12 hP) .nil) (hP ▸ Tryz.func84) rfl rfl rfl ?_;rw[nf_size];have w:IntKind.wrap .u64 v=v:=by
  show v % 18446744073709551616=v;omega
 rw[w];exact waj (λh=>absurd h (by omega)) (λ_=>⟨trivial,⟨h0,by omega⟩,rfl,rfl⟩)
theorem w13(hP:C.P=Tryz.prog):wae C 44 wex:=by
 rintro args objs U Os vc h hvc;unfold wex at h;split at h<;>cases h;rename_i v;obtain⟨h0,h1⟩:=hvc;refine wae.wp0 (prg hP) [(84,.det wep)] 0 (.cons (size_ok hP) .nil) (hP ▸ Tryz.func44) rfl rfl rfl ?_;rw[wzl,decide_eq_false (show ¬ v<0 by omega)];exact⟨⟨h0,h1⟩,⟨trivial,trivial⟩,rfl,rfl⟩
theorem bsF_at{g:Nat->SL}{s:SL}{n a:Nat}(ha:a<=n)(h1:∀i,i<a->ordS (g i) s<0)(h2:a<n->¬ ordS (g a) s<0):bsF g s n=a:=by
 unfold bsF;obtain⟨f1,f2⟩:=wj0 (λi=> !decide (ordS (g i) s<0)) n;have f3:=wj1 (λi=> !decide (ordS (g i) s<0)) n;generalize fstB (λi=> !decide (ordS (g i) s<0)) n=p at *
 rcases Nat.lt_trichotomy p a with h | h | h
 ·have q:=f2 (by omega);have q:(!decide (ordS (g p) s<0))=true:=q;rw[decide_eq_true (h1 p h)] at q;cases q
 ·exact h
 ·have q:=f1 a h;have q:(!decide (ordS (g a) s<0))=false:=q;rw[decide_eq_false (h2 (by omega))] at q;cases q
theorem bs_loop(hP:C.P=Tryz.prog)(g:Nat->SL)(s:SL)(n:Nat):wai C 0 49 (wak Tryz.f41 3) (L_bs g s n):=by
 have _:C.Loose:=inferInstance;rintro st Q ⟨h0,hn,hs,hQ⟩;refine wai.mk (prg hP) [(42,.det wgh)] 0 (.cons (woa hP) .nil) [0,2,4,8,9,10] [0,2,4,8,9] [] (wmp g s n) (λi=>i.a<=i.b/\i.b<=n/\(∀k,k<i.a->ordS (g k) s<0)/\∀k,i.b<=k->k<n->¬ ordS (g k) s<0) (λi=>i.b - i.a) ⟨0,n⟩ ⟨zL7 _,lR7 _,λk h=>absurd h (nZ7 k),λk h1 h2=>absurd h2 (by have h1:n<=k:=h1;omega)⟩ h0 (λi hi=>?_);obtain⟨a,b⟩:=i;obtain⟨hab,hbn,hlo,hhi⟩:=hi;have hab:a<=b:=hab;have hbn:b<=n:=hbn;have hlo:∀k,k<a->ordS (g k) s<0:=hlo;have hhi:∀k,b<=k->k<n->¬ ordS (g k) s<0:=hhi;rw[wz6];show wab (decide ((a:Int)<(b:Int))) _ _;have hm:IntKind.wrap .u64 ((a:Int)+(b:Int)) / (2:Int) ^ Int.toNat (1:Int)=(((a+b) / 2:Nat):Int):=by
  show ((a:Int)+(b:Int)) % 18446744073709551616 / 2=_;omega
 show wab _ (_/\_/\_/\inR .i64 (IntKind.wrap .u64 ((a:Int)+(b:Int)) / (2:Int) ^ Int.toNat (1:Int))/\_) _;rw[hm,tN7];have up:∀i j,i<=j->j<n->¬ ordS (g i) s<0->¬ ordS (g j) s<0:=λi j hij hj h q=>by
  rcases Nat.lt_or_ge i j with w | w
  ·exact h (wci.lt_trans (hs i j w hj) q)
  ·have:i=j:=by omega
   subst this;exact h q
 refine waj (λh1=>⟨by simp only[inR];show _<=(a:Int)+(b:Int)/\(a:Int)+(b:Int)<=_;omega,trivial,⟨by decide,by decide⟩,by simp only[inR];omega,⟨by omega,by omega,rfl⟩,trivial,waj (λh2=>?_) (λh2=>?_)⟩) (λh1=>?_)
 ·refine⟨by simp only[inR];omega,⟨(a+b) / 2+1,b⟩,rfl,⟨by show (a+b) / 2+1<=b;omega,hbn,λk hk=>?_,hhi⟩,by show b - ((a+b) / 2+1)<b - a;omega⟩;have hk:k<(a+b) / 2+1:=hk
  rcases Nat.lt_or_ge k ((a+b) / 2) with w | w
  ·exact wci.lt_trans (hs k _ w (by omega)) h2
  ·have:k=(a+b) / 2:=by omega
   subst this;exact h2
 ·exact⟨⟨a,(a+b) / 2⟩,rfl,⟨by show a<=(a+b) / 2;omega,by show (a+b) / 2<=n;omega,hlo,λk hk hkn=>up _ _ hk hkn h2⟩,by show (a+b) / 2 - a<b - a;omega⟩
 ·have e:bsF g s n=a:=bsF_at (by omega) hlo λh=>hhi a (by omega) h;rw[e] at hQ;exact hQ
theorem bs_ok(hP:C.P=Tryz.prog):wae C 41 S_bs:=by
 rintro args objs U Os vc h hvc;unfold S_bs at h;split at h<;>cases h;rename_i n f o p per;obtain⟨hn,hf,hs⟩:=hvc;generalize slOf f=g at *;subst hf;have hnf:=λQ=>nf_bs g ⟨o,p,per⟩ n Q;dsimp only at hnf
 refine wae.wpL (prg hP) [(42,.det wgh)] [(3,L_bs g ⟨o,p,per⟩ n)] 0 (.cons (woa hP) .nil) (hP ▸ Tryz.func41) rfl rfl rfl
  [(wak Tryz.f41 3,L_bs g ⟨o,p,per⟩ n)] (by kernel_rfl) ⟨bs_loop hP g _ n,trivial⟩ ?_
 rw[hnf];refine⟨rfl,hn,hs,waj (λh=>?_) (λh=>?_)⟩
 ·rw[decide_eq_true (show bsF g ⟨o,p,per⟩ n<n by omega)];exact⟨⟨by omega,h,rfl⟩,trivial,rfl,rfl⟩
 ·rw[decide_eq_false (show ¬ bsF g ⟨o,p,per⟩ n<n by omega)];exact⟨rfl,rfl⟩
theorem w3h{V:List SL}(h:Asc ordS V)(s:SL):(decide (bsF (atS V) s V.length<V.length) && decide (ordS (atS V (bsF (atS V) s V.length)) s=0))=decide (s∈V):=by
 rw[Bool.eq_iff_iff,bA7,decide_eq_true_eq,decide_eq_true_eq,decide_eq_true_eq]
 constructor
 ·rintro⟨h1,h2⟩;rw[← wiz.1 h2];exact wem h1
 ·intro hm;obtain⟨i,hi,rfl⟩:=wja hm;have e:bsF (atS V) (atS V i) V.length=i:=bsF_at (by omega) (λj hj=>wic h hj hi) λ_=>by rw[wci.self];omega
  rw[e];exact⟨hi,wci.self _⟩
end Go.Eng
