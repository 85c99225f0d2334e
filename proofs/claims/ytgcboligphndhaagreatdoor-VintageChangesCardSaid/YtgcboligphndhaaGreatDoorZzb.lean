/- The reference's Normalize. -/
import Derived.Test.YtgcboligphndhaaGreatDoorZza
import Derived.Test.YtgcboligphndhaaGreatDoorZz
namespace Go.Eng
open Go.Proofs Go.RowKit
variable {C:Ctx} [C.Loose]
set_option maxRecDepth 20000
theorem nf_cpd0(F:FL)(R:oR7):wpFn te [(140,.det wh4),(141,.det wh2),(142,.det wh3)] [] 1 Tryz.f96 [.agg [.str F.id,.q F.ver,.q F.day,.q F.kind,.view 15 F.ms.length (waf (atM F.ms)),.view 5 F.rs.length (wah (atR F.rs)),.view 5 0 (wag (atT []))]] [] R=((F.ms.length<=100000/\∀(i:Nat),i<F.ms.length->true=true)/\(F.rs.length<=100000/\∀(i:Nat),i<F.rs.length->true=true)/\True/\(True/\True)/\R (.agg [.str F.id,.q F.ver,.q F.day,.q F.kind,.view 15 F.ms.length (waf (atM F.ms)),.view 5 F.rs.length (wah (atR F.rs)),.view 5 0 (wag (atT []))]) []):=by kernel_rfl
theorem nf_cpd(F:FL)(t:RT)(l:List RT)(R:oR7):wpFn te [(140,.det wh4),(141,.det wh2),(142,.det wh3)] [(3,L_kc F)] 0 Tryz.f96 [.agg [.str F.id,.q F.ver,.q F.day,.q F.kind,.view 15 F.ms.length (waf (atM F.ms)),.view 5 F.rs.length (wah (atR F.rs)),.view 5 (l.length+1) (wag (atT (t::l)))]] [] R=(letI z6:=wah (atR F.rs);letI z5:=F.rs.length;letI z4:=waf (atM F.ms);letI z3:=F.ms.length;letI z2:=l.length+1;letI z1:=([.str [],.q 0,.q 0,.q 0,.nil,.nil,.nil]:List AV);letI z0:=F.ts.length;(F.ms.length<=100000/\∀(i:Nat),i<F.ms.length->true=true)/\(F.rs.length<=100000/\∀(i:Nat),i<F.rs.length->true=true)/\(l.length+1<=100000/\∀(i:Nat),i<l.length+1->true=true)/\(∀(i:Nat),i<l.length+1->true=true)/\(TEq [(1,.ptr 0 0),(2,.ptr 1 0),(17,.own 2 z2),(18,.q (z2:Int)),(19,.q 0)] [(1,.ptr 0 0),(2,.ptr 1 0),(17,.own 2 z0),(18,.q (z0:Int)),(19,.q (↑0:Int))]/\wae [(0,.cells [.str F.id,.q F.ver,.q F.day,.q F.kind,.view 15 z3 z4,.view 5 z5 z6,.own 2 z2] 49),(1,.cells z1 49),(2,.row 97 5 z2 (wag (atT (t::l))) false)] [(0,.cells [.str F.id,.q F.ver,.q F.day,.q F.kind,.view 15 z3 z4,.view 5 z5 z6,.own 2 z0] 49),(1,.cells z1 49),(2,.row 97 5 z0 (wag (atT F.ts)) false)])/\F.ts.length<=1000/\(∀(t:RT),t∈F.ts->t.bs.length<=1000)/\(True/\True)/\(∀(i:Nat),i<F.ts.length->true=true)/\∃(O':oL7),wae [(0,.row 97 5 z0 (wag (atT F.ts)) false)] O'/\R (.agg [.str F.id,.q F.ver,.q F.day,.q F.kind,.view 15 z3 z4,.view 5 z5 z6,.own 0 z0]) O'):=by kernel_rfl
theorem w2l(F:FL)(k:Nat)(P:Nat->Prop)(R:eR7):wau ⟨te,[(109,.det wn7)],[],0,38,0⟩ (wax Tryz.f96 3) [1,2,17,18,19] [1,2] [] (S_kc F) P R (S_kc F k)=(letI z4:=([.str [],.q 0,.q 0,.q 0,.nil,.nil,.nil]:List AV);letI z2:=F.ts.length;letI z5:=((0:Int)<=(k:Int)/\(k:Int)<(z2:Int):Prop);letI z1:=(atT F.ts (k:Int).toNat);letI z0:=([.str F.id,.q F.ver,.q F.day,.q F.kind,.view 15 F.ms.length (waf (atM F.ms)),.view 5 F.rs.length (wah (atR F.rs)),.own 2 z2]:List AV);letI z3:=([(0,.cells z0 49),(1,.cells z4 49),(2,.row 97 5 z2 (wag (atT F.ts)) false)]:oL7);wac (decide ((k:Int)<(z2:Int))) (z5/\((k:Int).toNat<F.ts.length/\5=5)/\(z1.bs.length<=100000/\∀(i:Nat),i<z1.bs.length->true=true)/\z5/\(List.length [AV.view 2 z1.bs.length (was (atB z1.bs))]=1/\(k:Int).toNat<F.ts.length/\5=5)/\inR .i64 ((k:Int)+1)/\∃(i':Nat),(TEq [(1,.ptr 0 0),(2,.ptr 1 0),(17,.own 2 z2),(18,.q (z2:Int)),(19,.q ((k:Int)+1))] [(1,.ptr 0 0),(2,.ptr 1 0),(17,.own 2 z2),(18,.q (z2:Int)),(19,.q (i':Int))]/\wae [(0,.cells z0 49),(1,.cells z4 49),(2,.row 97 5 z2 (λ(k_1:Nat)=>if k_1=Int.toNat (k:Int) then [.str z1.o,.str z1.p,.q z1.per,.q z1.st,.view 2 z1.bs.length (was (atB z1.bs))] else wag (atT F.ts) k_1) false)] z3)/\P i') ((∀(i:Nat),i<F.ts.length->true=true)/\∃(O':oL7),wae z3 O'/\R (.exit 0) (St.mk [(1,.ptr 0 0),(2,.ptr 1 0)] O' 3 []))):=by kernel_rfl
theorem kc_loop(hP:C.P=Tryz.prog)(F:FL):waj C 0 38 (wal Tryz.f96 3) (L_kc F):=by
 rintro s Q ⟨h0,hn,hb,hQ⟩;refine waj.mk (prg hP) [(109,.det wn7)] 0 (.cons (w57 hP) .nil) [1,2,17,18,19] [1,2] [] (S_kc F) (λk=>k<=F.ts.length) (λk=>F.ts.length - k) 0 (zL7 _) h0 (λk hk=>?_) (λ_=>⟨λ_ _=>rfl,trivial⟩);rw[w2l,tN7];refine wak (λh1=>?_) (λh1=>?_)
 ·have hlt:k<F.ts.length:=by omega
  have hbk:(atT F.ts k).bs.length<=1000:=hb _ (by
   unfold atT;simp[List.getD,List.getElem?_eq_getElem hlt])
  refine⟨⟨by omega,by omega⟩,⟨hlt,rfl⟩,⟨by omega,λ_ _=>rfl⟩,⟨by omega,by omega⟩,⟨rfl,hlt,rfl⟩,by simp only[inR];omega,k+1,⟨rfl,?_⟩,by omega,by omega⟩;refine⟨rfl,rfl,⟨rfl,rfl,rfl,rfl,rfl,λi hi=>?_⟩,trivial⟩
  by_cases e:i=k
  ·subst e;exact if_pos rfl
  ·exact if_neg e
 ·exact⟨λ_ _=>rfl,_,wam _,hQ⟩
theorem cpd_at(hP:C.P=Tryz.prog)(F:FL)(hm:F.ms.length<=1000)(hr:F.rs.length<=1000)(ht:F.ts.length<=1000)(hb:∀t∈F.ts,t.bs.length<=1000):
  ADet C 96 [.agg [.str F.id,.q F.ver,.q F.day,.q F.kind,.view 15 F.ms.length (waf (atM F.ms)),.view 5 F.rs.length (wah (atR F.rs)),.view 5 F.ts.length (wag (atT F.ts))]] []
   (.agg [.str F.id,.q F.ver,.q F.day,.q F.kind,.view 15 F.ms.length (waf (atM F.ms)),.view 5 F.rs.length (wah (atR F.rs)),.view 5 F.ts.length (wag (atT F.ts))]) []:=by
 obtain⟨id,ver,day,kind,ms,rs,ts⟩:=F
 cases ts with
 |nil=>
  refine wa5.wpL (prg hP) [(140,.det wh4),(141,.det wh2),(142,.det wh3)] [] 1 (.cons (wxn hP) (.cons (wxl hP) (.cons (wxm hP) .nil))) (hP ▸ Tryz.func96) rfl rfl rfl [] (by kernel_rfl) trivial ?_;refine(nf_cpd0 ⟨id,ver,day,kind,ms,rs,[]⟩ _).mpr ?_;exact⟨⟨by omega,λ_ _=>rfl⟩,⟨by omega,λ_ _=>rfl⟩,trivial,⟨trivial,trivial⟩,rfl,rfl⟩
 |cons t l=>
  refine wan.frzO 0 ?_
  refine wa5.wpL (prg hP) [(140,.det wh4),(141,.det wh2),(142,.det wh3)] [(3,L_kc ⟨id,ver,day,kind,ms,rs,t::l⟩)] 0 (.cons (wxn hP) (.cons (wxl hP) (.cons (wxm hP) .nil))) (hP ▸ Tryz.func96) rfl rfl rfl
   [(wal Tryz.f96 3,L_kc ⟨id,ver,day,kind,ms,rs,t::l⟩)] (by kernel_rfl) ⟨kc_loop hP _,trivial⟩ ?_
  refine(nf_cpd ⟨id,ver,day,kind,ms,rs,t::l⟩ t l _).mpr ?_;have h3:l.length+1<=1000:=ht;refine⟨⟨by omega,λ_ _=>rfl⟩,⟨by omega,λ_ _=>rfl⟩,⟨by omega,λ_ _=>rfl⟩,λ_ _=>rfl,⟨rfl,wam _⟩,ht,hb,⟨trivial,trivial⟩,λ_ _=>rfl,_,wam _,λ_ _=>rfl,?_⟩;have hq:Nat.ble (l.length+1) (l.length+1)=true:=Nat.ble_eq_true_of_le (lR7 _)
  constructor
  ·simp[frzC,frzA,frz,hq]
  ·rfl
end Go.Eng
namespace Go.Eng
open Go.Proofs Go.RowKit Go.Sort
variable {C:Ctx} [C.Loose]
set_option maxRecDepth 20000
theorem nf_nrm(g:Nat->FL)(n:Nat)(R:oR7):wpFn te [(91,.rel wol)] [(3,L_n3 g n),(13,wpi g n),(19,wph g n)] 0 Tryz.f39 [.view 7 n (waa g)] [] R=(letI z11:=ren 0 [(0,0),(19,1),(1,2),(2,3)];letI z10:=idxN [1,0,2];letI z9:=([(3,.ptr 0 0),(9,.own 1 0),(46,.ptr 2 0)]:tL7);letI z6:=(entN g n).length;letI z5:=wa1 okV g n;letI z3:=(∀(i:Nat),i<z5.length->true=true:Prop);letI z2:=(IN.mk 0 (λ(_x:Nat)=>[]) z6 (List.range z6));letI z1:=z5.length;letI z0:=(List.map (λ(p:AV×AV)=>(AV.rn z10 p.1,AV.rn z10 p.2)) (entN g n));some (St.mk [(3,.ptr 0 0),(15,.view 7 n (waa g)),(16,.q (n:Int)),(17,.q 0)] [(0,.cells [.map 1] 121),(1,.amap (List.map (λ(p:AV×AV)=>(AV.rn (ren 0 [(1,0),(0,1)]) p.1,AV.rn (ren 0 [(1,0),(0,1)]) p.2)) []))] 2 [])=some (St.mk [(3,.ptr 0 0),(15,.view 7 n (waa g)),(16,.q (n:Int)),(17,.q (↑0:Int))] [(0,.cells [.map 1] 121),(1,.amap (entN g 0))] 2 [])/\n<=1000/\(∀(i:Nat),i<n->FL.Gd (g i))/\(TEq z9 z9/\wae [(0,.cells [.map 3] 121),(1,.row 9 1 0 (λ(_x:Nat)=>[]) false),(2,.miter 3 z6 (121::(entN g n).length::List.range z6)),(3,.amap (List.map (λ(p:AV×AV)=>(AV.rn (ren 0 [(0,0),(3,1),(2,2),(1,3)]) p.1,AV.rn (ren 0 [(0,0),(3,1),(2,2),(1,3)]) p.2)) (entN g n)))] [(0,.cells [.map 3] 121),(1,.row 9 1 0 (wa0 (IN.h z2)) false),(2,.miter 3 z6 (121::IN.c0 z2::IN.left z2)),(3,.amap (entN g n))])/\n<=1000/\∀(h:Nat->List UInt8),List.Perm (lst h z1) z5->z3/\9=9/\false=false/\z5.length=z5.length/\z5.length<=1000000/\wa0 h=wa0 (stOf (wa0 h))/\wbq TypeDesc.string z0/\(∀(x:List UInt8),letI z8:=wa2 (gotN z0 x) (0+1+1+1+1);letI z7:=wa2 (gotN z0 x) (0+1+1+1+1+1);letI z4:=wa2 (gotN z0 x) (0+1+1+1+1+1+1); .agg [.str (wb5 (wa2 (gotN z0 x) 0)),.q (war (wa2 (gotN z0 x) (0+1))),.q (war (wa2 (gotN z0 x) (0+1+1))),.q (war (wa2 (gotN z0 x) (0+1+1+1))),.view (vwS z8) (vwN z8) (vwF z8),.view (vwS z7) (vwN z7) (vwF z7),.view (vwS z4) (vwN z4) (vwF z4)]=gotN z0 x)/\(∀(p:AV×AV),p∈List.map (λ(p:AV×AV)=>(AV.rn z10 p.1,AV.rn z10 p.2)) (entN g n)->nref p.1=true/\nref p.2=true)/\∀(h_1:Nat->List UInt8),List.Perm (lst h_1 z1) (lst (stOf (wa0 h)) z1)->(∀(i j:Nat),i<j->j<z5.length->¬cmpN z0 (h_1 j) (h_1 i)<0)->z3/\∃(h:Nat->List UInt8),∃(o:Nat->FL),(TEq [(3,.ptr 0 0),(11,.own 1 0),(58,.own 2 z1),(59,.q (z1:Int)),(60,.q 0)] [(3,.ptr 0 0),(11,.own 1 0),(58,.own 2 z1),(59,.q (z1:Int)),(60,.q (↑0:Int))]/\wae [(0,.cells [.map 3] 121),(1,.row 49 7 0 (λ(_x:Nat)=>[]) false),(2,.row 9 1 z1 (wa0 h_1) false),(3,.amap (List.map (λ(p:AV×AV)=>(AV.rn z11 p.1,AV.rn z11 p.2)) (List.map (λ(p:AV×AV)=>(AV.rn (sig [1,0,2] 3) p.1,AV.rn (sig [1,0,2] 3) p.2)) z0)))] [(0,.cells [.map 3] 121),(1,.row 49 7 0 (waa o) false),(2,.row 9 1 z1 (wa0 h) false),(3,.amap (entN g n))])/\n<=1000/\(∀(i:Nat),i<z5.length->isFl (gotN (entN g n) (h i)) (o i)/\FL.Gd (o i))/\z3/\∃(O':oL7),wae [(0,.row 49 7 z1 (waa o) false)] O'/\R (.own 0 z1) O'):=by kernel_rfl
theorem w2b(g:Nat->FL)(n k:Nat)(P:Nat->Prop)(R:eR7):wau ⟨te,[(29,.det weh),(33,.det wcc)],[],0,73,0⟩ (wax Tryz.f39 3) [3,15,16,17] [3] [] (S_n3 g n) P R (S_n3 g n k)=(letI z10:=ren 0 [(0,0),(1,1)];letI z8:=TI.desc (TI.mk TypeDesc.string 1 16 (Value.string (ByteArray.mk #[])) false);letI z7:=zvA (.agg [.str ([]),.q 0,.q 0,.q 0,.nil,.nil,.nil]);letI z6:=([(3,.ptr 0 0),(15,.view 7 n (waa g)),(16,.q (n:Int)),(17,.q ((k:Int)+1))]:tL7);letI z5:=([(0,.cells [.map 1] 121),(1,.amap (List.map (λ(p:AV×AV)=>(AV.rn z10 p.1,AV.rn z10 p.2)) (entN g k)))]:oL7);letI z4:=(inR .i64 ((k:Int)+1)/\∃(i':Nat),some (St.mk z6 z5 2 [])=some (St.mk [(3,.ptr 0 0),(15,.view 7 n (waa g)),(16,.q (n:Int)),(17,.q (i':Int))] [(0,.cells [.map 1] 121),(1,.amap (entN g i'))] 2 [])/\P i');letI z3:=(g (k:Int).toNat);letI z16:=wag (atT z3.ts);letI z15:=z3.ts.length;letI z14:=wah (atR z3.rs);letI z13:=z3.rs.length;letI z12:=waf (atM z3.ms);letI z11:=z3.ms.length;letI z0:=(flV z3.id z3.ver z3.day z3.kind z11 z12 z13 z14 z15 z16);letI z17:=mget (entN g k) (.str (encF z0));letI z2:=(wbq z8 (entN g k)/\inR .i64 ((k:Int)+1)/\∃(i':Nat),some (St.mk z6 [(0,.cells [.map 1] 121),(1,.amap (List.map (λ(p:AV×AV)=>(AV.rn z10 p.1,AV.rn z10 p.2)) (mset (entN g k) (.str (encF z0)) (.agg [.str z3.id,.q z3.ver,.q z3.day,.q z3.kind,.view 15 z11 z12,.view 5 z13 z14,.view 5 z15 z16]))))] 2 [])=some (St.mk [(3,.ptr 0 0),(15,.view 7 n (waa g)),(16,.q (n:Int)),(17,.q (i':Int))] [(0,.cells [.map 1] 121),(1,.amap (entN g i'))] 2 [])/\P i');letI z1:=Option.getD z17 z7;letI z19:=wa2 z1 (0+1+1+1+1);letI z18:=wa2 z1 (0+1+1+1+1+1);letI z9:=wa2 z1 (0+1+1+1+1+1+1);wac (decide ((k:Int)<(n:Int))) (((0:Int)<=(k:Int)/\(k:Int)<(n:Int)/\7=7)/\(FlC z11 z12 z13 z14 z15 z16/\FL.Sm z0)/\wac (!decide (vinF z0=0)) z4 ((FlC z11 z12 z13 z14 z15 z16/\FL.Rg z0)/\(wbq z8 (entN g k)/\.agg [.str (wb5 (wa2 z1 0)),.q (war (wa2 z1 (0+1))),.q (war (wa2 z1 (0+1+1))),.q (war (wa2 z1 (0+1+1+1))),.view (vwS z19) (vwN z19) (vwF z19),.view (vwS z18) (vwN z18) (vwF z18),.view (vwS z9) (vwN z9) (vwF z9)]=Option.getD z17 z7)/\wac (!Option.isSome z17) z2 (wac (decide (z3.day<war (wa2 z1 (0+1+1)))) z2 z4))) (R (.exit 0) (St.mk [(3,.ptr 0 0)] z5 2 []))):=by kernel_rfl
theorem w2d(es:List (AV×AV))(i:IN)(P:IN->Prop)(R:eR7):wau ⟨te,[],[],0,73,0⟩ (wax Tryz.f39 13) [3,9,46] [3,9] [] (wm8 es) P R (wm8 es i)=(letI z6:=ren 0 [(0,0),(21,1),(2,2),(3,3)];letI z3:=TI.mk TypeDesc.string 1 16 (Value.string (ByteArray.mk #[])) false;es.length=es.length/\(IN.left i=[]->(∀(i_1:Nat),i_1<IN.c i->true=true)/\∃(O':oL7),wae [(0,.cells [.map 2] 121),(1,.row 9 1 (IN.c i) (wa0 (IN.h i)) false),(2,.amap (List.map (λ(p:AV×AV)=>(AV.rn (ren 0 [(0,0),(1,1),(3,2)]) p.1,AV.rn (ren 0 [(0,0),(1,1),(3,2)]) p.2)) es))] O'/\R (.exit 2) (St.mk [(3,.ptr 0 0),(9,.own 1 (IN.c i))] O' 3 []))/\∀(i_1:Nat),letI z1:=List.getD es i_1 (.any,.any);letI z0:=z1.2;letI z5:=wa2 z0 (0+1+1+1+1);letI z4:=wa2 z0 (0+1+1+1+1+1);letI z2:=wa2 z0 (0+1+1+1+1+1+1);i_1∈IN.left i->(es.length=es.length/\i_1<es.length/\.str (wb5 z1.1)=z1.1/\.agg [.str (wb5 (wa2 z0 0)),.q (war (wa2 z0 (0+1))),.q (war (wa2 z0 (0+1+1))),.q (war (wa2 z0 (0+1+1+1))),.view (vwS z5) (vwN z5) (vwF z5),.view (vwS z4) (vwN z4) (vwF z4),.view (vwS z2) (vwN z2) (vwF z2)]=z1.2)/\(1<=16777216/\1=1/\1<=9223372036854775807)/\((1<=1/\1=1)/\IN.c i<=IN.c i/\1=1/\9=9/\1=1/\IN.c i+1<=9223372036854775807/\(IN.c i+1) * TI.bytes z3<=140737488355328)/\∃(i':IN),(TEq [(3,.ptr 0 0),(9,.own 1 (IN.c i+1)),(46,.ptr 2 0)] [(3,.ptr 0 0),(9,.own 1 (IN.c i')),(46,.ptr 2 0)]/\wae [(0,.cells [.map 3] 121),(1,.row 9 1 (IN.c i+1) (apF (IN.c i) (wa0 (IN.h i)) (wap (TI.sz z3) (.str (wb5 z1.1)::List.append [] wcq))) false),(2,.miter 3 es.length (121::i_1::List.erase (IN.left i) i_1)),(3,.amap (List.map (λ(p:AV×AV)=>(AV.rn z6 p.1,AV.rn z6 p.2)) es))] [(0,.cells [.map 3] 121),(1,.row 9 1 (IN.c i') (wa0 (IN.h i')) false),(2,.miter 3 es.length (121::IN.c0 i'::IN.left i')),(3,.amap es)])/\P i'):=by kernel_rfl
theorem w2c(es:List (AV×AV))(m:Nat)(h:Nat->List UInt8)(o:Nat->FL)(k:Nat)(P:Nat->Prop)(R:eR7):wau ⟨te,[(96,.det wn4)],[],0,73,0⟩ (wax Tryz.f39 19) [3,11,58,59,60] [11] [] (wm7 es m h o) P R (wm7 es m h o k)=(letI z7:=ren 0 [(0,0),(37,1),(2,2),(3,3)];letI z6:=(mget es (.str (h (k:Int).toNat)));letI z5:=zvA (.agg [.str ([]),.q 0,.q 0,.q 0,.nil,.nil,.nil]);letI z0:=(Option.getD z6 z5);letI z4:=wa2 z0 (0+1+1+1+1);letI z3:=wa2 z0 (0+1+1+1+1+1);letI z2:=wa2 z0 (0+1+1+1+1+1+1);letI z1:=([.str (wb5 (wa2 z0 0)),.q (war (wa2 z0 (0+1))),.q (war (wa2 z0 (0+1+1))),.q (war (wa2 z0 (0+1+1+1))),.view (vwS z4) (vwN z4) (vwF z4),.view (vwS z3) (vwN z3) (vwF z3),.view (vwS z2) (vwN z2) (vwF z2)]:List AV);wac (decide ((k:Int)<(m:Int))) (((0:Int)<=(k:Int)/\(k:Int)<(m:Int))/\((k:Int).toNat<m/\1=1)/\(wbq (TI.desc (TI.mk TypeDesc.string 1 16 (Value.string (ByteArray.mk #[])) false)) es/\.agg z1=Option.getD z6 z5)/\(∃(F:FL),isFl (.agg z1) F/\F.ms.length<=1000/\F.rs.length<=1000/\F.ts.length<=1000/\∀(t:RT),t∈F.ts->t.bs.length<=1000)/\(7<=16777216/\7=7/\1<=9223372036854775807)/\((1<=1/\7=7)/\k<=k/\7=7/\49=49/\7=7/\k+1<=9223372036854775807/\(k+1) * TI.bytes wbi<=140737488355328)/\inR .i64 ((k:Int)+1)/\∃(i':Nat),(TEq [(3,.ptr 0 0),(11,.own 1 (k+1)),(58,.own 2 m),(59,.q (m:Int)),(60,.q ((k:Int)+1))] [(3,.ptr 0 0),(11,.own 1 i'),(58,.own 2 m),(59,.q (m:Int)),(60,.q (i':Int))]/\wae [(0,.cells [.map 3] 121),(1,.row 49 7 (k+1) (apF k (waa o) (wap (TI.sz wbi) (.str (wb5 (wa2 z0 0)):: .q (war (wa2 z0 (0+1))):: .q (war (wa2 z0 (0+1+1))):: .q (war (wa2 z0 (0+1+1+1))):: .view (vwS z4) (vwN z4) (vwF z4):: .view (vwS z3) (vwN z3) (vwF z3):: .view (vwS z2) (vwN z2) (vwF z2)::List.append [] wcp))) false),(2,.row 9 1 m (wa0 h) false),(3,.amap (List.map (λ(p:AV×AV)=>(AV.rn z7 p.1,AV.rn z7 p.2)) es))] [(0,.cells [.map 3] 121),(1,.row 49 7 i' (waa o) false),(2,.row 9 1 m (wa0 h) false),(3,.amap es)])/\P i') ((∀(i:Nat),i<k->true=true)/\∃(O':oL7),wae [(0,.row 49 7 k (waa o) false)] O'/\R (.exit 4) (St.mk [(11,.own 0 k)] O' 1 []))):=by kernel_rfl
theorem cpdO_ok(hP:C.P=Tryz.prog):wai C 96 wn4:=by
 rintro args objs U Os vc h hvc;unfold wn4 at h;split at h<;>cases h;obtain⟨F,rfl,hm,hr,ht,hb⟩:=hvc;exact cpd_at hP F hm hr ht hb
theorem n3_loop(hP:C.P=Tryz.prog)(hL:∀w,C.laid w->LaidW w)(g:Nat->FL)(n:Nat):waj C 0 73 (wal Tryz.f39 3) (L_n3 g n):=by
 rintro st Q ⟨h0,hn,hg,hQ⟩;refine waj.mk (prg hP) [(29,.det weh),(33,.det wcc)] 0 (.cons (vin_ok hP hL) (.cons (wlh hP hL) .nil)) [3,15,16,17] [3] [] (S_n3 g n) (λk=>k<=n) (λk=>n - k) 0 (zL7 _) h0 (λk hk=>?_);have er:∀(σ:Nat->Option Nat) (k:Nat),(entN g k).map (λp=>(AV.rn σ p.1,AV.rn σ p.2))=entN g k:=λσ k=>wjc σ _ _;rw[w2b,tN7,er,wbz (g k)];have hkeys:wbq .string (entN g k):=wsf (wgk k);have hgot:=gotT (wbg okV g k) (wa1 okV g k) (encF (g k));have hshape:=wwc (wbg okV g k) (wa1 okV g k) (encF (g k));have hmg:=wrg (wbg okV g k) (encF (g k)) (wa1 okV g k);rw[← wdc] at hgot hshape hmg;refine wak (λh1=>?_) (λh1=>?_)
 ·have hk':k<n:=by omega
  have hG:=hg k hk'
  have same:∀ {σ:Nat->Option Nat},entN g (k+1)=entN g k->inR .i64 ((k:Int)+1)/\∃(i':Nat),some (St.mk [(3,.ptr 0 0),(15,.view 7 n (waa g)),(16,.q (n:Int)),(17,.q ((k:Int)+1))] [(0,.cells [.map 1] 121),(1,.amap (entN g k))] 2 [])=
    some (St.mk [(3,.ptr 0 0),(15,.view 7 n (waa g)),(16,.q (n:Int)),(17,.q (i':Int))] [(0,.cells [.map 1] 121),(1,.amap (entN g i'))] 2 [])/\i'<=n/\n - i'<n - k:=λ{_} e=>
   ⟨by simp only[inR];omega,k+1,by rw[e];rfl,by omega,by omega⟩
  have upd:∀(M:List (AV×AV)),mset (entN g k) (.str (encF (g k))) (.agg (wbc (g k)))=M->M=entN g (k+1)->wbq .string (entN g k)/\inR .i64 ((k:Int)+1)/\∃(i':Nat),some (St.mk [(3,.ptr 0 0),(15,.view 7 n (waa g)),(16,.q (n:Int)),(17,.q ((k:Int)+1))] [(0,.cells [.map 1] 121),(1,.amap (M.map λp=>(AV.rn (ren 0 [(0,0),(1,1)]) p.1,AV.rn (ren 0 [(0,0),(1,1)]) p.2)))] 2 [])=
    some (St.mk [(3,.ptr 0 0),(15,.view 7 n (waa g)),(16,.q (n:Int)),(17,.q (i':Int))] [(0,.cells [.map 1] 121),(1,.amap (entN g i'))] 2 [])/\i'<=n/\n - i'<n - k:=λM hM e=>
   ⟨hkeys,by simp only[inR];omega,k+1,by rw[e,er];rfl,by omega,by omega⟩
  refine⟨⟨by omega,by omega,rfl⟩,⟨wb8 _,hG.sm⟩,wbj (λhv=>same (σ:=λ_=>none) (w5j (decide_eq_false hv))) (λhv=>?_)⟩;have hok:okV (g k)=true:=decide_eq_true hv;refine⟨⟨wb8 _,hG.rg⟩,⟨hkeys,hshape⟩,?_⟩
  by_cases hx:encF (g k)∈wa1 okV g k
  ·rw[if_pos hx] at hmg;rw[hmg];refine wak (λhd=>upd _ rfl (w5g hok hx hd)) (λhd=>same (σ:=λ_=>none) (w5i hok hx hd))
  ·rw[if_neg hx] at hmg;rw[hmg];exact upd _ rfl (w5h hok hx)
 ·have:k=n:=by omega
  subst this;exact hQ
theorem Tryz.sortStr:SlLaysF.n6 Tryz.prog Tryz.sort91_ren:={ Tryz.sort91 with a24:=Tryz.isAgg9,z24:=Tryz.sizeOf9 }
theorem wzb(hP:C.P=Tryz.prog):wa5 C 91 wol:=by
 have _:C.Loose:=inferInstance;rintro args objs R h;unfold wol at h;split at h
 ·rename_i n t m f fr ct es;obtain⟨rfl,rfl,rfl,hn,hf,hk,hs,hr,hR⟩:=h;generalize stOf f=h0 at *;subst hf
  have hS:=wan.sortM (C:=C) (cmpN es) (t:=9) (ct:=ct) (fS:=91) (g:=92)
   ⟨_,hP ▸ Tryz.func91,rfl,by decide⟩
   (λcb blk cap d w h1 h2 h3 h4=>by
    rw[hP] at h1 ⊢;exact Any.slices_SortFunc Tryz.sortStr strV (λ_=>rfl) (cmpN es) (swo_of (w54 es)) 92 cb blk 0 cap d w (enters_of Tryz.func92 (by kernel_rfl) rfl) h1 h2 h3 h4)
   (λp cap fv w=>by
    rw[hP];exact AnyF.slices_SortFunc_none Tryz.sort91 p cap fv w)
   es hr (λx y=>ncmp_ok (C:=Ctx.bare C.P C.mixed) hP es hk hs x y) (n:=n) h0 (by omega)
  refine hS.mono ?_;rintro u O ⟨rfl,f',hp,hs,rfl⟩;exact hR f' hp hs
 ·exact h.elim
theorem w35{α:Type}(L:List α)(d:α):(List.range L.length).map (λi=>L.getD i d)=L:=wdw L d
theorem w3u(hP:C.P=Tryz.prog)(g:Nat->FL)(n:Nat):waj C 0 73 (wal Tryz.f39 13) (wpi g n):=by
 have _:C.Loose:=inferInstance;rintro st Q ⟨h0,hn,hQ⟩;have hlen:=wkw g n;have hE:=wdc g n;generalize hK:wa1 okV g n=K at *;generalize wbg okV g n=F at *;rw[hE] at h0 hQ;refine AWP.ownNil 9 9 1 ?_;refine waj.mk (prg hP) [] 0 .nil [3,9,46] [3,9] [] (wm8 (entT K F)) (λi=>(lst i.h i.c++i.left.map (λj=>K.getD j [])).Perm K/\∀x∈i.left,x<K.length) (λi=>i.left.length) ⟨0,λ_=>[],(entT K F).length,List.range (entT K F).length⟩ ⟨?_,?_⟩ h0 (λi hi=>?_) (λi=>⟨λ_ _=>rfl,trivial⟩)
 ·rw[wse];show ((List.range K.length).map λj=>K.getD j []).Perm K;rw[w35]
 ·intro x hx;have hx:x∈List.range (entT K F).length:=hx;rw[wse] at hx;exact List.mem_range.1 hx
 obtain⟨hp,hlt⟩:=hi;have hl:i.c+i.left.length=K.length:=by
  have:=hp.length_eq;simpa[lst] using this
 rw[w2d,wjc,wjc];refine⟨rfl,λhnil=>⟨λ_ _=>rfl,_,wam _,?_⟩,λj hj=>?_⟩
 ·rw[hnil] at hp hl;have hc:i.c=K.length:=by simpa using hl
  rw[hc] at hp ⊢;exact hQ i.h (by simpa using hp)
 ·have hjl:=hlt j hj;rw[entT_at hjl,wse];have herase:(i.left.erase j).length+1=i.left.length:=by
   rw[List.length_erase_of_mem hj];have:=List.length_pos_of_mem hj;omega
  refine⟨⟨rfl,hjl,rfl,rfl⟩,⟨by omega,rfl,by omega⟩,⟨⟨lR7 _,rfl⟩,lR7 _,rfl,rfl,rfl,by omega,?_⟩,⟨i.c+1,λk=>if k<i.c then i.h k else K.getD j [],j,i.left.erase j⟩,⟨rfl,rfl,⟨rfl,rfl,rfl,rfl,rfl,λk hk=>?_⟩,rfl,rfl,trivial⟩,⟨?_,λx hx=>hlt x (List.mem_of_mem_erase hx)⟩,?_⟩
  ·show (i.c+1) * 16<=_;omega
  ·have hk:k<i.c+1:=hk;unfold apF wa0
   by_cases h:k<i.c
   ·simp only[h,if_true]
   ·have:k=i.c:=by omega
    subst this;simp only[Nat.lt_irrefl,if_false,Nat.sub_self];rfl
  ·show (lst (λk=>if k<i.c then i.h k else K.getD j []) (i.c+1)++(i.left.erase j).map (λj=>K.getD j [])).Perm K
   rw[whb];have e1:lst (λk=>if k<i.c then i.h k else K.getD j []) i.c=lst i.h i.c:=List.map_congr_left λk hk=>by
    rw[if_pos (List.mem_range.1 hk)]
   rw[e1,if_neg (Nat.lt_irrefl _),List.append_assoc,List.singleton_append, ← List.map_cons (f:=λj=>K.getD j [])];exact((List.perm_cons_erase hj).map (λj=>K.getD j [])).symm.append_left _ |>.trans hp
  ·show (i.left.erase j).length<i.left.length;omega
theorem w3t(hP:C.P=Tryz.prog)(g:Nat->FL)(n:Nat):waj C 0 73 (wal Tryz.f39 19) (wph g n):=by
 rintro st Q ⟨h,o,h0,hn,hg,hQ⟩;have hlen:=wkw g n;have hE:=wdc g n;have hkeys:wbq .string (entN g n):=wsf (wgk n);have er:∀(σ:Nat->Option Nat),(entN g n).map (λp=>(AV.rn σ p.1,AV.rn σ p.2))=entN g n:=λσ=>wjc σ _ _;generalize wa1 okV g n=K at *;generalize entN g n=es at *;refine AWP.ownNil 11 49 7 ?_;refine waj.mk (prg hP) [(96,.det wn4)] 0 (.cons (cpdO_ok hP) .nil) [3,11,58,59,60] [11] [] (wm7 es K.length h o) (λk=>k<=K.length) (λk=>K.length - k) 0 (zL7 _) h0 (λk hk=>?_) (λ_=>⟨λ_ _=>rfl,λ_ _=>rfl,trivial⟩);rw[w2c,tN7,er];refine wak (λh1=>?_) (λh1=>?_)
 ·have hk':k<K.length:=by omega
  obtain⟨hm,hG⟩:=hg k hk';have hm:(mget es (.str (h k))).getD (zvA (.agg [.str [],.q 0,.q 0,.q 0,.nil,.nil,.nil]))= .agg (wbc (o k)):=hm;rw[hm];refine⟨⟨by omega,by omega⟩,⟨hk',rfl⟩,⟨hkeys,rfl⟩,⟨o k,rfl,hG.rg.nm,hG.rg.nr,hG.rg.nt,λt ht=>(hG.rg.t t ht).n⟩,⟨by omega,rfl,by omega⟩,⟨⟨lR7 _,rfl⟩,lR7 _,rfl,rfl,rfl,by omega,?_⟩,by simp only[inR];omega,k+1,⟨rfl,rfl,⟨rfl,rfl,rfl,rfl,rfl,λi hi=>?_⟩,rQ7,rfl,trivial⟩,by omega,by omega⟩
  ·show (k+1) * 112<=_;omega
  ·unfold apF
   by_cases hi':i<k
   ·rw[if_pos hi']
   ·have:i=k:=by omega
    subst this;rw[if_neg hi',Nat.sub_self];rfl
 ·have:k=K.length:=by omega
  subst this;exact⟨λ_ _=>rfl,_,wam _,hQ⟩
theorem w6u{g:Nat->FL}{n:Nat}{t:List UInt8}(hg:∀i,i<n->(g i).Gd)(h:t∈wa1 okV g n):(wbg okV g n t).Gd:=by
 obtain⟨j,b,e⟩:=wjm h;rw[e];exact hg j b.lt
theorem nrm_at(hP:C.P=Tryz.prog)(hL:∀w,C.laid w->LaidW w)(g:Nat->FL)(n:Nat)(hn:n<=1000)(hg:∀i,i<n->(g i).Gd):ADet C 39 [.view 7 n (waa g)] [] (.own 0 (nrmL okV g n).length) [(0,.row 49 7 (nrmL okV g n).length (waa (atF (nrmL okV g n))) false)]:=by
 refine wa5.wpL (prg hP) [(91,.rel wol)] [(3,L_n3 g n),(13,wpi g n),(19,wph g n)] 0 (.cons (wzb hP) .nil) (hP ▸ Tryz.func39) rfl rfl rfl
  [(wal Tryz.f39 3,L_n3 g n),(wal Tryz.f39 13,wpi g n),(wal Tryz.f39 19,wph g n)] (by kernel_rfl) ⟨n3_loop hP hL g n,w3u hP g n,w3t hP g n,trivial⟩ ?_
 have er:∀(σ:Nat->Option Nat),(entN g n).map (λp=>(AV.rn σ p.1,AV.rn σ p.2))=entN g n:=λσ=>wjc σ _ _;rw[nf_nrm];simp only[er];have hkeys:wbq .string (entN g n):=wsf (wgk n);have hlen:=wkw g n;have hshape:∀x,wcr wjt (gotN (entN g n) x)=gotN (entN g n) x:=λx=>wwc _ _ x;have hnref:∀p∈entN g n,nref p.1=true/\nref p.2=true:=λp hp=>by
  obtain⟨t,_,rfl⟩:=List.mem_map.1 hp;exact⟨rfl,rfl⟩
 have hgot:∀t,t∈wa1 okV g n->gotN (entN g n) t= .agg (wbc (wbg okV g n t)):=λt ht=>by
  rw[wdc,gotT,if_pos ht]
 refine⟨rfl,hn,hg,⟨rfl,rfl,⟨rfl,rfl,rfl,rfl,rfl,λi hi=>absurd hi (nZ7 i)⟩,rfl,rfl,trivial⟩,hn,λh hp=>⟨λ_ _=>trivial,trivial,trivial,trivial,by omega,rfl,hkeys,hshape,hnref,λh1 hp1 hs1=>?_⟩⟩;have hpK:(lst h1 (wa1 okV g n).length).Perm (wa1 okV g n):=hp1.trans hp;have mem:∀i,i<(wa1 okV g n).length->h1 i∈wa1 okV g n:=λi hi=>hpK.mem_iff.1 (List.mem_map.2 ⟨i,List.mem_range.2 hi,rfl⟩);refine⟨λ_ _=>trivial,h1,λi=>wbg okV g n (h1 i),⟨rfl,rfl,⟨rfl,rfl,rfl,rfl,rfl,λi hi=>absurd hi (nZ7 i)⟩,rQ7,rfl,trivial⟩,hn,λi hi=>⟨hgot _ (mem i hi),w6u hg (mem i hi)⟩,?_⟩;have hs:(lst h1 (wa1 okV g n).length).map (wbg okV g n)=nrmL okV g n:=by
  refine w0f hpK ?_;refine wz9 λi j hij hj=>?_;rw[← w55 (mem j hj) (mem i (by omega))];exact hs1 i j hij hj
 have hl:(nrmL okV g n).length=(wa1 okV g n).length:=by
  rw[← hs,List.length_map];simp[lst]
 have at_:∀i,i<(wa1 okV g n).length->waa (λi=>wbg okV g n (h1 i)) i=waa (atF (nrmL okV g n)) i:=λi hi=>by
  have:wbg okV g n (h1 i)=atF (nrmL okV g n) i:=by
   rw[← hs];simp[atF,lst,hi]
  show waa (λ_=>wbg okV g n (h1 i)) 0=waa (λ_=>atF (nrmL okV g n) i) 0;rw[this]
 exact⟨λ_ _=>trivial,[(0,.row 49 7 (wa1 okV g n).length (waa (atF (nrmL okV g n))) false)],⟨⟨rfl,rfl,rfl,rfl,rfl,at_⟩,trivial⟩,by rw[hl],by rw[hl]⟩
theorem nrmz_ok(hP:C.P=Tryz.prog)(hL:∀w,C.laid w->LaidW w):wai C 39 wm2:=by
 rintro args objs U Os vc h hvc;unfold wm2 at h;split at h<;>cases h;rename_i n f;obtain⟨hn,hf,hg⟩:=hvc;generalize flOf f=g at *;subst hf;exact nrm_at hP hL g n hn hg
end Go.Eng
namespace Go.Eng
open Go.Proofs Go.RowKit
variable {C:Ctx} [C.Loose]
set_option maxRecDepth 20000
theorem nf_bef(F G:FL)(R:oR7):wpFn te [(34,.det wcc)] [] 0 Tryz.f97 [.agg [.str F.id,.q F.ver,.q F.day,.q F.kind,.view 15 F.ms.length (waf (atM F.ms)),.view 5 F.rs.length (wah (atR F.rs)),.view 5 F.ts.length (wag (atT F.ts))],.agg [.str G.id,.q G.ver,.q G.day,.q G.kind,.view 15 G.ms.length (waf (atM G.ms)),.view 5 G.rs.length (wah (atR G.rs)),.view 5 G.ts.length (wag (atT G.ts))]] [] R=(letI z1:=flV G.id G.ver G.day G.kind G.ms.length (waf (atM G.ms)) G.rs.length (wah (atR G.rs)) G.ts.length (wag (atT G.ts));letI z0:=flV F.id F.ver F.day F.kind F.ms.length (waf (atM F.ms)) F.rs.length (wah (atR F.rs)) F.ts.length (wag (atT F.ts));wac (!decide (F.id=G.id)) (R (.bool (Op.bytesLess F.id G.id)) []) (wac (!decide (F.ver=G.ver)) (R (.bool (decide (F.ver<G.ver))) []) (wac (!decide (F.day=G.day)) (R (.bool (decide (F.day<G.day))) []) ((FlC F.ms.length (waf (atM F.ms)) F.rs.length (wah (atR F.rs)) F.ts.length (wag (atT F.ts))/\FL.Rg z0)/\(FlC G.ms.length (waf (atM G.ms)) G.rs.length (wah (atR G.rs)) G.ts.length (wag (atT G.ts))/\FL.Rg z1)/\R (.bool (Op.bytesLess (encF z0) (encF z1))) [])))):=by kernel_rfl
theorem nf_nrmR(g:Nat->FL)(n:Nat)(R:oR7):wpFn te [] [(3,L_y3 g n)] 0 Tryz.f41 [.view 7 n (waa g)] [] R=(letI z0:=nrmK okV g n n;(TEq [(0,.view 7 n (waa g)),(3,.own 0 0),(11,.view 7 n (waa g)),(12,.q (n:Int)),(13,.q 0)] [(0,.view 7 n (waa g)),(3,.own 0 0),(11,.view 7 n (waa g)),(12,.q (n:Int)),(13,.q (↑0:Int))]/\wae [(0,.row 49 7 0 (λ(_x:Nat)=>[]) false)] [(0,.row 49 7 0 (waa (atF (nrmK okV g n 0))) false)])/\n<=1000/\(∀(i:Nat),i<n->FL.Gd (g i))/\(∀(i:Nat),i<z0.length->true=true)/\∃(O':oL7),wae [(0,.row 49 7 z0.length (waa (atF z0)) false)] O'/\R (.own 0 z0.length) O'):=by kernel_rfl
theorem w0j(g:Nat->FL)(n k:Nat)(L:List FL)(F:FL)(a:Nat)(P:Nat->Prop)(R:eR7):wau ⟨te,[(97,.det woe)],[],0,95,0⟩ (wax Tryz.f41 15) [0,3,5,9,11,12,13] [0,3,5,9,11,12,13] [] (wjo g n k L F) P R (wjo g n k L F a)=(letI z11:=wag (atT F.ts);letI z10:=F.ts.length;letI z9:=wah (atR F.rs);letI z8:=F.rs.length;letI z7:=waf (atM F.ms);letI z6:=F.ms.length;letI z5:=L.length;letI z4:=flV F.id F.ver F.day F.kind z6 z7 z8 z9 z10 z11;letI z1:=([(0,.row 49 7 z5 (waa (atF L)) false),(1,.cells [.str F.id,.q F.ver,.q F.day,.q F.kind,.view 15 z6 z7,.view 5 z8 z9,.view 5 z10 z11] 49)]:oL7);letI z2:=((∀(i:Nat),i<L.length->true=true)/\∃(O':oL7),wae z1 O'/\R (.exit 4) (St.mk [(0,.view 7 n (waa g)),(3,.own 0 z5),(5,.ptr 1 0),(9,.q (a:Int)),(11,.view 7 n (waa g)),(12,.q (n:Int)),(13,.q (k:Int))] O' 2 []):Prop);letI z0:=(atF L ((a:Int) - (1:Int)).toNat);letI z3:=flV z0.id z0.ver z0.day z0.kind z0.ms.length (waf (atM z0.ms)) z0.rs.length (wah (atR z0.rs)) z0.ts.length (wag (atT z0.ts));wac (decide ((0:Int)<(a:Int))) (inR .i64 ((a:Int) - (1:Int))/\((0:Int)<=(a:Int) - (1:Int)/\(a:Int) - (1:Int)<(z5:Int))/\(((a:Int) - (1:Int)).toNat<L.length/\7=7)/\(FlC z6 z7 z8 z9 z10 z11/\FlC z0.ms.length (waf (atM z0.ms)) z0.rs.length (wah (atR z0.rs)) z0.ts.length (wag (atT z0.ts))/\FL.Rg z4/\FL.Rg z3)/\wac (decide (ordF z4 z3<0)) (inR .i64 ((a:Int) - (1:Int))/\∃(i':Nat),(TEq [(0,.view 7 n (waa g)),(3,.own 0 z5),(5,.ptr 1 0),(9,.q ((a:Int) - (1:Int))),(11,.view 7 n (waa g)),(12,.q (n:Int)),(13,.q (k:Int))] [(0,.view 7 n (waa g)),(3,.own 0 z5),(5,.ptr 1 0),(9,.q (i':Int)),(11,.view 7 n (waa g)),(12,.q (n:Int)),(13,.q (k:Int))]/\wae z1 z1)/\P i') z2) z2):=by kernel_rfl
theorem w0h(g:Nat->FL)(n k:Nat)(L:List FL)(j:Nat)(P:Nat->Prop)(R:eR7):wau ⟨te,[(30,.det weh),(34,.det wcc)],[],0,95,0⟩ (wax Tryz.f41 8) [0,3,4,5,6,11,12,13,21,22,23] [0,3,5,6,11,12,13] [] (S_y8 g n k L) P R (S_y8 g n k L j)=(letI z12:=wag (atT (g k).ts);letI z11:=(g k).ts.length;letI z10:=wah (atR (g k).rs);letI z9:=(g k).rs.length;letI z8:=waf (atM (g k).ms);letI z7:=(g k).ms.length;letI z6:=L.length;letI z5:=flV (g k).id (g k).ver (g k).day (g k).kind z7 z8 z9 z10 z11 z12;letI z4:=(g (j:Int).toNat);letI z18:=wag (atT z4.ts);letI z17:=z4.ts.length;letI z16:=wah (atR z4.rs);letI z15:=z4.rs.length;letI z14:=waf (atM z4.ms);letI z13:=z4.ms.length;letI z2:=(flV z4.id z4.ver z4.day z4.kind z13 z14 z15 z16 z17 z18);letI z1:=([(0,.row 49 7 z6 (waa (atF L)) false),(1,.cells [.str (g k).id,.q (g k).ver,.q (g k).day,.q (g k).kind,.view 15 z7 z8,.view 5 z9 z10,.view 5 z11 z12] 49)]:oL7);letI z3:=(inR .i64 ((j:Int)+1)/\∃(i':Nat),(TEq [(0,.view 7 n (waa g)),(3,.own 0 z6),(4,.q (k:Int)),(5,.ptr 1 0),(6,.bool false),(11,.view 7 n (waa g)),(12,.q (n:Int)),(13,.q (k:Int)),(21,.view 7 n (waa g)),(22,.q (n:Int)),(23,.q ((j:Int)+1))] [(0,.view 7 n (waa g)),(3,.own 0 z6),(4,.q (k:Int)),(5,.ptr 1 0),(6,.bool (kpS okV g k i')),(11,.view 7 n (waa g)),(12,.q (n:Int)),(13,.q (k:Int)),(21,.view 7 n (waa g)),(22,.q (n:Int)),(23,.q (i':Int))]/\wae z1 z1)/\P i');letI z0:=(inR .i64 ((j:Int)+1)/\∃(i':Nat),(TEq [(0,.view 7 n (waa g)),(3,.own 0 z6),(4,.q (k:Int)),(5,.ptr 1 0),(6,.bool (kpS okV g k j)),(11,.view 7 n (waa g)),(12,.q (n:Int)),(13,.q (k:Int)),(21,.view 7 n (waa g)),(22,.q (n:Int)),(23,.q ((j:Int)+1))] [(0,.view 7 n (waa g)),(3,.own 0 z6),(4,.q (k:Int)),(5,.ptr 1 0),(6,.bool (kpS okV g k i')),(11,.view 7 n (waa g)),(12,.q (n:Int)),(13,.q (k:Int)),(21,.view 7 n (waa g)),(22,.q (n:Int)),(23,.q (i':Int))]/\wae z1 z1)/\P i');wac (decide ((j:Int)<(n:Int))) (((0:Int)<=(j:Int)/\(j:Int)<(n:Int)/\7=7)/\wac (!decide ((j:Int)=(k:Int))) ((FlC z13 z14 z15 z16 z17 z18/\FL.Sm z2)/\wac (decide (vinF z2=0)) ((FlC z13 z14 z15 z16 z17 z18/\FL.Rg z2)/\(FlC z7 z8 z9 z10 z11 z12/\FL.Rg z5)/\wac (decide (encF z2=encF z5)) (wac (decide (z4.day<(g k).day)) z3 (wac (decide (z4.day=(g k).day)) (wac (decide ((j:Int)<(k:Int))) z3 z0) z0)) z0) z0) z0) ((∀(i:Nat),i<L.length->true=true)/\∃(O':oL7),wae z1 O'/\R (.exit 2) (St.mk [(0,.view 7 n (waa g)),(3,.own 0 z6),(5,.ptr 1 0),(6,.bool (kpS okV g k j)),(11,.view 7 n (waa g)),(12,.q (n:Int)),(13,.q (k:Int))] O' 2 []))):=by kernel_rfl
theorem w0i(g:Nat->FL)(n k:Nat)(P:Nat->Prop)(R:eR7):letI z4:=nrmK okV g n k;letI z10:=waa (atF z4);letI z8:=z4.length;letI z7:=([(0,.view 7 n (waa g)),(3,.own 0 z8),(5,.ptr 1 0),(9,.q (z8:Int)),(11,.view 7 n (waa g)),(12,.q (n:Int)),(13,.q (k:Int))]:tL7);letI z3:=(inR .i64 ((k:Int)+1)/\∃(i':Nat),(TEq [(0,.view 7 n (waa g)),(3,.own 0 z8),(11,.view 7 n (waa g)),(12,.q (n:Int)),(13,.q ((k:Int)+1))] [(0,.view 7 n (waa g)),(3,.own 0 (nrmK okV g n i').length),(11,.view 7 n (waa g)),(12,.q (n:Int)),(13,.q (i':Int))]/\wae [(0,.row 49 7 z8 z10 false)] [(0,.row 49 7 (nrmK okV g n i').length (waa (atF (nrmK okV g n i'))) false)])/\P i');letI z2:=([(0,.row 49 7 z8 z10 false),(1,.cells [.str (g k).id,.q (g k).ver,.q (g k).day,.q (g k).kind,.view 15 (g k).ms.length (waf (atM (g k).ms)),.view 5 (g k).rs.length (wah (atR (g k).rs)),.view 5 (g k).ts.length (wag (atT (g k).ts))] 49)]:oL7);letI z1:=(g (k:Int).toNat);letI z16:=wag (atT z1.ts);letI z15:=z1.ts.length;letI z14:=wah (atR z1.rs);letI z13:=z1.rs.length;letI z12:=waf (atM z1.ms);letI z11:=z1.ms.length;letI z6:=flV z1.id z1.ver z1.day z1.kind z11 z12 z13 z14 z15 z16;letI z0:=(↑(dnF z4 (g k) z8):Int);letI z17:=((0:Int)<=z0/\z0<=(z8:Int):Prop);letI z9:=z4.length - z0.toNat;wau ⟨te,[(30,.det weh)],[(8,L_y8 g n k z4),(15,wow g n k z4 (g k))],0,95,0⟩ (wax Tryz.f41 3) [0,3,11,12,13] [3] [] (S_y3 g n) P R (S_y3 g n k)=(wac (decide ((k:Int)<(n:Int))) (((0:Int)<=(k:Int)/\(k:Int)<(n:Int)/\7=7)/\(FlC z11 z12 z13 z14 z15 z16/\FL.Sm z6)/\wac (!decide (vinF z6=0)) z3 ((TEq [(0,.view 7 n (waa g)),(3,.own 0 z8),(4,.q (k:Int)),(5,.ptr 1 0),(6,.bool true),(11,.view 7 n (waa g)),(12,.q (n:Int)),(13,.q (k:Int)),(21,.view 7 n (waa g)),(22,.q (n:Int)),(23,.q 0)] [(0,.view 7 n (waa g)),(3,.own 0 z8),(4,.q (k:Int)),(5,.ptr 1 0),(6,.bool (kpS okV g k 0)),(11,.view 7 n (waa g)),(12,.q (n:Int)),(13,.q (k:Int)),(21,.view 7 n (waa g)),(22,.q (n:Int)),(23,.q (↑0:Int))]/\wae [(0,.row 49 7 z8 z10 false),(1,.cells [.str z1.id,.q z1.ver,.q z1.day,.q z1.kind,.view 15 z11 z12,.view 5 z13 z14,.view 5 z15 z16] 49)] z2)/\n<=1000/\(∀(i:Nat),i<n->FL.Gd (g i))/\k<n/\wac (!kpS okV g k n) z3 ((TEq z7 z7/\wae z2 z2)/\z4.length<=1000/\FL.Rg (g k)/\(∀(x:FL),x∈nrmK okV g n k->FL.Rg x)/\(0<=16777216/\7=7/\0<=9223372036854775807)/\z17/\((z0.toNat<=z4.length/\7=7)/\0<=0/\7=7/\49=49/\7=7/\0+z0.toNat<=9223372036854775807/\(0+z0.toNat) * TI.bytes wbi<=140737488355328)/\(7<=16777216/\7=7/\1<=9223372036854775807)/\((1<=1/\7=7)/\0+z0.toNat<=0+z0.toNat/\7=7/\49=49/\7=7/\0+z0.toNat+1<=9223372036854775807/\(0+z0.toNat+1) * TI.bytes wbi<=140737488355328)/\z17/\((z0.toNat+z9<=z4.length/\7=7/\7=7)/\0+z0.toNat+1<=0+z0.toNat+1/\7=7/\49=49/\7=7/\0+z0.toNat+1+z9<=9223372036854775807/\(0+z0.toNat+1+z9) * TI.bytes wbi<=140737488355328)/\inR .i64 ((k:Int)+1)/\∃(i':Nat),(TEq [(0,.view 7 n (waa g)),(3,.own 0 (0+z0.toNat+1+z9)),(11,.view 7 n (waa g)),(12,.q (n:Int)),(13,.q ((k:Int)+1))] [(0,.view 7 n (waa g)),(3,.own 0 (nrmK okV g n i').length),(11,.view 7 n (waa g)),(12,.q (n:Int)),(13,.q (i':Int))]/\wae [(0,.row 49 7 (0+z0.toNat+1+z9) (apF (0+z0.toNat+1) (apF (0+z0.toNat) (apF 0 (wap (TI.sz wbi) (List.flatten (List.replicate 0 [.str ([]),.q 0,.q 0,.q 0,.nil,.nil,.nil]))) z10) (wap (TI.sz wbi) (.str (g k).id:: .q (g k).ver:: .q (g k).day:: .q (g k).kind:: .view 15 (g k).ms.length (waf (atM (g k).ms)):: .view 5 (g k).rs.length (wah (atR (g k).rs)):: .view 5 (g k).ts.length (wag (atT (g k).ts))::List.append [] wcp))) λ(i:Nat)=>letI z5:=atF z4 (z0.toNat+i);[.str z5.id,.q z5.ver,.q z5.day,.q z5.kind,.view 15 z5.ms.length (waf (atM z5.ms)),.view 5 z5.rs.length (wah (atR z5.rs)),.view 5 z5.ts.length (wag (atT z5.ts))]) false)] [(0,.row 49 7 (nrmK okV g n i').length (waa (atF (nrmK okV g n i'))) false)])/\P i'))) ((∀(i:Nat),i<z4.length->true=true)/\∃(O':oL7),wae [(0,.row 49 7 z8 z10 false)] O'/\R (.exit 0) (St.mk [(3,.own 0 z8)] O' 1 []))):=by kernel_rfl
theorem wxq(a b:List UInt8):Op.bytesLess a b=decide (cmpS a b<0):=by
 have:= @wsn a b
 cases q:Op.bytesLess a b with
 |true=>rw[decide_eq_true (this.2 q)]
 |false=>rw[decide_eq_false λh=>by rw[this.1 h] at q;cases q]
theorem wxk(a b:Int):decide (a<b)=decide (cmpI a b<0):=by
 have:=wgt a b
 by_cases h:a<b
 ·rw[decide_eq_true h,decide_eq_true (by omega)]
 ·rw[decide_eq_false h,decide_eq_false (by omega)]
theorem ordF_if(a b:FL):ordF a b=if cmpS a.id b.id=0 then (if cmpI a.ver b.ver=0 then (if cmpI a.day b.day=0 then cmpS (encF a) (encF b) else cmpI a.day b.day) else cmpI a.ver b.ver) else cmpS a.id b.id:=by
 unfold ordF;simp only[orL]
 by_cases h1:cmpS a.id b.id=0
 ·by_cases h2:cmpI a.ver b.ver=0
  ·by_cases h3:cmpI a.day b.day=0
   ·by_cases h4:cmpS (encF a) (encF b)=0<;>simp[h1,h2,h3,h4]
   ·simp[h1,h2,h3]
  ·simp[h1,h2]
 ·simp[h1]
theorem bef_at(hP:C.P=Tryz.prog)(F G:FL)(hf:F.Rg)(hg:G.Rg):ADet C 97 [.agg [.str F.id,.q F.ver,.q F.day,.q F.kind,.view 15 F.ms.length (waf (atM F.ms)),.view 5 F.rs.length (wah (atR F.rs)),.view 5 F.ts.length (wag (atT F.ts))],.agg [.str G.id,.q G.ver,.q G.day,.q G.kind,.view 15 G.ms.length (waf (atM G.ms)),.view 5 G.rs.length (wah (atR G.rs)),.view 5 G.ts.length (wag (atT G.ts))]] [] (.bool (decide (ordF F G<0))) []:=by
 refine wai.wp0 (prg hP) [(34,.det wcc)] 0 (.cons (wli hP) .nil) (hP ▸ Tryz.func97) rfl rfl rfl ?_;rw[nf_bef,wbz,wbz,ordF_if];refine wbj (λh1=>?_) (λh1=>wbj (λh2=>?_) (λh2=>wbj (λh3=>?_) (λh3=>?_)))
 ·rw[if_neg (λq=>h1 (wjg.1 q)),wxq];exact⟨rfl,rfl⟩
 ·rw[if_pos (wjg.2 h1),if_neg (λq=>h2 (whm.1 q)),wxk];exact⟨rfl,rfl⟩
 ·rw[if_pos (wjg.2 h1),if_pos (whm.2 h2),if_neg (λq=>h3 (whm.1 q)),wxk];exact⟨rfl,rfl⟩
 ·rw[if_pos (wjg.2 h1),if_pos (whm.2 h2),if_pos (whm.2 h3),wxq];exact⟨⟨wb8 _,hf⟩,⟨wb8 _,hg⟩,rfl,rfl⟩
theorem bef_ok(hP:C.P=Tryz.prog):wai C 97 woe:=by
 rintro args objs U Os vc h hvc;unfold woe at h;split at h<;>simp only[sI7,pI7,reduceCtorEq] at h;rename_i id ver day kind nm fm nr fr nt ft id' ver' day' kind' nm' fm' nr' fr' nt' ft';obtain⟨rfl,rfl,rfl⟩:=h;obtain⟨hc,hc',hs,hs'⟩:=hvc;have l1:(lst (mgOf fm) nm).length=nm:=by simp[lst]
 have l2:(lst (rwOf fr) nr).length=nr:=by simp[lst]
 have l3:(lst (rtOf ft) nt).length=nt:=by simp[lst]
 have l1':(lst (mgOf fm') nm').length=nm':=by simp[lst]
 have l2':(lst (rwOf fr') nr').length=nr':=by simp[lst]
 have l3':(lst (rtOf ft') nt').length=nt':=by simp[lst]
 obtain⟨c1,c2,c3⟩:=hc;obtain⟨c1',c2',c3'⟩:=hc';unfold flV at hs hs' ⊢;generalize lst (mgOf fm) nm=ms at *;generalize lst (rwOf fr) nr=rs at *;generalize lst (rtOf ft) nt=ts at *;generalize lst (mgOf fm') nm'=ms' at *;generalize lst (rwOf fr') nr'=rs' at *;generalize lst (rtOf ft') nt'=ts' at *;subst l1;subst l2;subst l3;subst c1;subst c2;subst c3;subst l1';subst l2';subst l3';subst c1';subst c2';subst c3';exact bef_at hP ⟨id,ver,day,kind,ms,rs,ts⟩ ⟨id',ver',day',kind',ms',rs',ts'⟩ hs hs'
theorem wye(hP:C.P=Tryz.prog)(g:Nat->FL)(n k:Nat)(L:List FL)(F:FL):waj C 0 95 (wal Tryz.f41 15) (wow g n k L F):=by
 rintro st Q ⟨h0,hn,hF,hL,hQ⟩;refine waj.mk (prg hP) [(97,.det woe)] 0 (.cons (bef_ok hP) .nil) [0,3,5,9,11,12,13] [0,3,5,9,11,12,13] [] (wjo g n k L F) (λa=>a<=L.length/\dnF L F a=dnF L F L.length) (λa=>a) L.length ⟨lR7 _,rfl⟩ h0 (λa ha=>?_) (λi=>⟨λ_ _=>rfl,trivial⟩);obtain⟨ha,hd⟩:=ha;rw[w0j,wbz,wbz];refine wak (λq=>?_) (λq=>?_)
 ·obtain⟨b,rfl⟩:∃b,a=b+1:=⟨a - 1,by omega⟩;have e:(((b+1:Nat):Int) - 1).toNat=b:=by omega
  have hb:((b+1:Nat):Int) - 1=(b:Int):=by omega
  rw[e,hb];refine⟨by simp only[inR];omega,⟨by omega,by omega⟩,⟨by omega,rfl⟩,⟨wb8 _,wb8 _,hF,hL _ (wc6 (by omega))⟩,wak (λq2=>?_) (λq2=>?_)⟩
  ·exact⟨by simp only[inR];omega,b,⟨rfl,wam _⟩,⟨by omega,by rw[← hd,dnF,decide_eq_true q2];rfl⟩,by omega⟩
  ·have e2:dnF L F L.length=b+1:=by rw[← hd,dnF,decide_eq_false q2];rfl
   rw[e2] at hQ;exact⟨λ_ _=>rfl,_,wam _,hQ⟩
 ·have e0:a=0:=by omega
  subst e0;have e2:dnF L F L.length=0:=hd.symm;rw[e2] at hQ;exact⟨λ_ _=>rfl,_,wam _,hQ⟩
theorem y8_loop(hP:C.P=Tryz.prog)(g:Nat->FL)(n k:Nat)(L:List FL):waj C 0 95 (wal Tryz.f41 8) (L_y8 g n k L):=by
 rintro st Q ⟨h0,hn,hg,hkn,hQ⟩;refine waj.mk (prg hP) [(30,.det weh),(34,.det wcc)] 0 (.cons (wtk hP) (.cons (wli hP) .nil)) [0,3,4,5,6,11,12,13,21,22,23] [0,3,5,6,11,12,13] [] (S_y8 g n k L) (λj=>j<=n) (λj=>n - j) 0 (zL7 _) h0 (λj hj=>?_) (λi=>⟨λ_ _=>rfl,trivial⟩);rw[w0h,tN7,wbz,wbz];refine wak (λh1=>?_) (λh1=>?_)
 ·have hj':j<n:=by omega
  have hst:kpS okV g k (j+1)=(kpS okV g k j && !(!decide (j=k) && (okV (g j) && (decide (encF (g j)=encF (g k)) && (decide ((g j).day<(g k).day) || (decide ((g j).day=(g k).day) && decide (j<k))))))):=rfl;have same:kpS okV g k (j+1)=kpS okV g k j->_:=λe=>(⟨by simp only[inR];omega,j+1,⟨by unfold S_y8;rw[e];rfl,wam _⟩,by omega,by omega⟩:inR .i64 ((j:Int)+1)/\∃i':Nat,(TEq [(0,.view 7 n (waa g)),(3,.own 0 L.length),(4,.q (k:Int)),(5,.ptr 1 0),(6,.bool (kpS okV g k j)),(11,.view 7 n (waa g)),(12,.q (n:Int)),(13,.q (k:Int)),(21,.view 7 n (waa g)),(22,.q (n:Int)),(23,.q ((j:Int)+1))] (S_y8 g n k L i').T/\wae (S_y8 g n k L j).O (S_y8 g n k L i').O)/\i'<=n/\n - i'<n - j);have drop:kpS okV g k (j+1)=false->_:=λe=>(⟨by simp only[inR];omega,j+1,⟨by unfold S_y8;rw[e];rfl,wam _⟩,by omega,by omega⟩:inR .i64 ((j:Int)+1)/\∃i':Nat,(TEq [(0,.view 7 n (waa g)),(3,.own 0 L.length),(4,.q (k:Int)),(5,.ptr 1 0),(6,.bool false),(11,.view 7 n (waa g)),(12,.q (n:Int)),(13,.q (k:Int)),(21,.view 7 n (waa g)),(22,.q (n:Int)),(23,.q ((j:Int)+1))] (S_y8 g n k L i').T/\wae (S_y8 g n k L j).O (S_y8 g n k L i').O)/\i'<=n/\n - i'<n - j);refine⟨⟨by omega,by omega,rfl⟩,wbj (λh2=>?_) (λh2=>same ?_)⟩
  ·have h2:¬ j=k:=by omega
   refine⟨⟨wb8 _,(hg j hj').sm⟩,wak (λh3=>?_) (λh3=>same ?_)⟩
   ·have h3:okV (g j)=true:=decide_eq_true h3;refine⟨⟨wb8 _,(hg j hj').rg⟩,⟨wb8 _,(hg k hkn).rg⟩,wak (λh4=>wak (λh5=>drop ?_) (λh5=>wak (λh6=>wak (λh7=>drop ?_) (λh7=>same ?_)) (λh6=>same ?_))) (λh4=>same ?_)⟩
    ·rw[hst,decide_eq_false h2,h3,decide_eq_true h4,decide_eq_true h5];simp
    ·rw[hst,decide_eq_false h2,h3,decide_eq_true h4,decide_eq_true h6,decide_eq_true (show j<k by omega)];simp
    ·rw[hst,decide_eq_false h5,decide_eq_false (show ¬ j<k by omega)];simp
    ·rw[hst,decide_eq_false h5,decide_eq_false h6];simp
    ·rw[hst,decide_eq_false h4];simp
   ·rw[hst,show okV (g j)=false from decide_eq_false h3];simp
  ·rw[hst,decide_eq_true (show j=k by omega)];simp
 ·have:j=n:=by omega
  subst this;exact⟨λ_ _=>rfl,_,wam _,hQ⟩
theorem wu7(ok:FL->Bool)(g:Nat->FL)(n:Nat):∀k,(nrmK ok g n k).length<=k
 |0=>lR7 _
 |k+1=>by
  have:=wu7 ok g n k;rw[nrmK]
  cases kept ok g n k with
  |true=>
   have hp:=wjf (nrmK ok g n k) (g k) (nrmK ok g n k).length;rw[cond_true,insF,lA7,List.length_cons,List.length_take,List.length_drop];omega
  |false=>rw[cond_false];omega
theorem y3_loop(hP:C.P=Tryz.prog)(g:Nat->FL)(n:Nat):waj C 0 95 (wal Tryz.f41 3) (L_y3 g n):=by
 rintro st Q ⟨h0,hn,hg,hQ⟩;refine AWP.ownNil 3 49 7 ?_
 refine waj.mkI (prg hP) [(30,.det weh)] (λk:Nat=>[(8,L_y8 g n k (nrmK okV g n k)),(15,wow g n k (nrmK okV g n k) (g k))]) 0 (.cons (wtk hP) .nil)
  (λk=>[(wal Tryz.f41 8,L_y8 g n k (nrmK okV g n k)),(wal Tryz.f41 15,wow g n k (nrmK okV g n k) (g k))])
  (λk=>by kernel_rfl) (λk=>⟨y8_loop hP _ _ _ _,wye hP _ _ _ _ _,trivial⟩) [0,3,11,12,13] [3] [] (S_y3 g n) (λk=>k<=n) (λk=>n - k) 0 (zL7 _) h0 (λk hk=>?_) (λi=>⟨λ_ _=>rfl,trivial⟩)
 rw[w0i,tN7,tN7,wbz];have hlen:=wu7 okV g n k;have hsu:nrmK okV g n (k+1)=bif okV (g k) && kpS okV g k n then insF (nrmK okV g n k) (g k) else nrmK okV g n k:=rfl
 have hple:=wjf (nrmK okV g n k) (g k) (nrmK okV g n k).length;have hrg:∀x∈nrmK okV g n k,k<=n->x.Rg:=λx hx hkn=>by
  obtain⟨i,hi,_,rfl⟩:=wiq.1 hx;exact(hg i (by omega)).rg
 refine wak (λh1=>?_) (λh1=>?_)
 ·have hkN:k<n:=by omega
  have hG:=hg k hkN;have hins:insF (nrmK okV g n k) (g k)=(nrmK okV g n k).take (dnF (nrmK okV g n k) (g k) (nrmK okV g n k).length)++g k::(nrmK okV g n k).drop (dnF (nrmK okV g n k) (g k) (nrmK okV g n k).length):=rfl;have no:nrmK okV g n (k+1)=nrmK okV g n k->inR .i64 ((k:Int)+1)/\∃i':Nat,(TEq [(0,.view 7 n (waa g)),(3,.own 0 (nrmK okV g n k).length),(11,.view 7 n (waa g)),(12,.q (n:Int)),(13,.q ((k:Int)+1))] (S_y3 g n i').T/\wae (S_y3 g n k).O (S_y3 g n i').O)/\i'<=n/\n - i'<n - k:=λe=>
   ⟨by simp only[inR];omega,k+1,by
    unfold S_y3;rw[e];exact⟨rfl,wam _⟩,by omega,by omega⟩
  refine⟨⟨by omega,by omega,rfl⟩,⟨wb8 _,hG.sm⟩,wbj (λq=>no (by rw[hsu,show okV (g k)=false from decide_eq_false q];rfl)) (λq=>⟨⟨rfl,wam _⟩,hn,hg,hkN,wcb (λq2=>no (by rw[hsu,q2,Bool.and_false];rfl)) (λq2=>?_)⟩)⟩;have q:okV (g k)=true:=decide_eq_true q;rw[q,q2] at hsu;have hsu:nrmK okV g n (k+1)=insF (nrmK okV g n k) (g k):=hsu;rw[hins] at hsu;generalize nrmK okV g n k=L at *;generalize dnF L (g k) L.length=p at *;have hlen2:(L.take p++g k::L.drop p).length=0+p+1+(L.length - p):=by simp;omega
  refine⟨⟨rfl,wam _⟩,by omega,hG.rg,λx hx=>hrg x hx hk,⟨by omega,rfl,by omega⟩,⟨by omega,by omega⟩,⟨⟨by omega,rfl⟩,lR7 _,rfl,rfl,rfl,by omega,?_⟩,⟨by omega,rfl,by omega⟩,⟨⟨lR7 _,rfl⟩,lR7 _,rfl,rfl,rfl,by omega,?_⟩,⟨by omega,by omega⟩,⟨⟨by omega,rfl,rfl⟩,lR7 _,rfl,rfl,rfl,by omega,?_⟩,by simp only[inR];omega,k+1,?_,by omega,by omega⟩
  ·show (0+p) * 112<=_;omega
  ·show (0+p+1) * 112<=_;omega
  ·show (0+p+1+(L.length - p)) * 112<=_;omega
  ·rw[hsu];refine⟨by rw[hlen2];rfl,⟨rfl,rfl,rfl,hlen2.symm,rfl,λj hj=>?_⟩,trivial⟩;exact @insRow FL ⟨wc2⟩ wbc L (g k) p hple _ _ rfl j hj
 ·have:k=n:=by omega
  subst this;exact⟨λ_ _=>rfl,_,wam _,hQ⟩
theorem nrmR_at(hP:C.P=Tryz.prog)(g:Nat->FL)(n:Nat)(hn:n<=1000)(hg:∀i,i<n->(g i).Gd):ADet C 41 [.view 7 n (waa g)] [] (.own 0 (nrmL okV g n).length) [(0,.row 49 7 (nrmL okV g n).length (waa (atF (nrmL okV g n))) false)]:=by
 refine wa5.wpL (prg hP) [] [(3,L_y3 g n)] 0 .nil (hP ▸ Tryz.func41) rfl rfl rfl [(wal Tryz.f41 3,L_y3 g n)] (by kernel_rfl) ⟨y3_loop hP g n,trivial⟩ ?_;rw[nf_nrmR];exact⟨⟨rfl,⟨rfl,rfl,rfl,rfl,rfl,λi hi=>absurd hi (nZ7 i)⟩,trivial⟩,hn,hg,λ_ _=>rfl,_,wam _,rfl,rfl⟩
end Go.Eng
