/- The laws of messages: their helpers. -/
import Derived.Test.YtgcboligphndhaaGreatDoorXqz
import Derived.Test.YtgcboligphndhaaGreatDoorXqy
namespace Go.Eng
open Go.Proofs Go.RowKit Go.Sort
variable {C:Ctx} [C.Loose]
set_option maxRecDepth 20000
theorem nf_nrm(g:Nat->FL)(n:Nat)(R:oR7):wpFn te [(91,.rel wnl)] [(3,L_n3 g n),(13,wn5 g n),(19,wn4 g n)] 0 Tryz.f39 [.view 7 n (wac g)] [] R=(letI z11:=ren 0 [(0,0),(19,1),(1,2),(2,3)];letI z10:=idxN [1,0,2];letI z9:=([(3,.ptr 0 0),(9,.own 1 0),(46,.ptr 2 0)]:tL7);letI z6:=(entN g n).length;letI z5:=waw okV g n;letI z3:=(∀(i:Nat),i<z5.length->true=true:Prop);letI z2:=(IN.mk 0 (λ(_x:Nat)=>[]) z6 (List.range z6));letI z1:=z5.length;letI z0:=(List.map (λ(p:AV×AV)=>(AV.rn z10 p.1,AV.rn z10 p.2)) (entN g n));some (St.mk [(3,.ptr 0 0),(15,.view 7 n (wac g)),(16,.q (n:Int)),(17,.q 0)] [(0,.cells [.map 1] 121),(1,.amap (List.map (λ(p:AV×AV)=>(AV.rn (ren 0 [(1,0),(0,1)]) p.1,AV.rn (ren 0 [(1,0),(0,1)]) p.2)) []))] 2 [])=some (St.mk [(3,.ptr 0 0),(15,.view 7 n (wac g)),(16,.q (n:Int)),(17,.q (↑0:Int))] [(0,.cells [.map 1] 121),(1,.amap (entN g 0))] 2 [])/\n<=1000/\(∀(i:Nat),i<n->FL.Gd (g i))/\(TEq z9 z9/\wae [(0,.cells [.map 3] 121),(1,.row 9 1 0 (λ(_x:Nat)=>[]) false),(2,.miter 3 z6 (121::(entN g n).length::List.range z6)),(3,.amap (List.map (λ(p:AV×AV)=>(AV.rn (ren 0 [(0,0),(3,1),(2,2),(1,3)]) p.1,AV.rn (ren 0 [(0,0),(3,1),(2,2),(1,3)]) p.2)) (entN g n)))] [(0,.cells [.map 3] 121),(1,.row 9 1 0 (wax (IN.h z2)) false),(2,.miter 3 z6 (121::IN.c0 z2::IN.left z2)),(3,.amap (entN g n))])/\n<=1000/\∀(h:Nat->List UInt8),List.Perm (lst h z1) z5->z3/\9=9/\false=false/\z5.length=z5.length/\z5.length<=1000000/\wax h=wax (stOf (wax h))/\wbl TypeDesc.string z0/\(∀(x:List UInt8),letI z8:=way (gotN z0 x) (0+1+1+1+1);letI z7:=way (gotN z0 x) (0+1+1+1+1+1);letI z4:=way (gotN z0 x) (0+1+1+1+1+1+1); .agg [.str (wbx (way (gotN z0 x) 0)),.q (wap (way (gotN z0 x) (0+1))),.q (wap (way (gotN z0 x) (0+1+1))),.q (wap (way (gotN z0 x) (0+1+1+1))),.view (vwS z8) (vwN z8) (vwF z8),.view (vwS z7) (vwN z7) (vwF z7),.view (vwS z4) (vwN z4) (vwF z4)]=gotN z0 x)/\(∀(p:AV×AV),p∈List.map (λ(p:AV×AV)=>(AV.rn z10 p.1,AV.rn z10 p.2)) (entN g n)->nref p.1=true/\nref p.2=true)/\∀(h_1:Nat->List UInt8),List.Perm (lst h_1 z1) (lst (stOf (wax h)) z1)->(∀(i j:Nat),i<j->j<z5.length->¬cmpN z0 (h_1 j) (h_1 i)<0)->z3/\∃(h:Nat->List UInt8),∃(o:Nat->FL),(TEq [(3,.ptr 0 0),(11,.own 1 0),(58,.own 2 z1),(59,.q (z1:Int)),(60,.q 0)] [(3,.ptr 0 0),(11,.own 1 0),(58,.own 2 z1),(59,.q (z1:Int)),(60,.q (↑0:Int))]/\wae [(0,.cells [.map 3] 121),(1,.row 49 7 0 (λ(_x:Nat)=>[]) false),(2,.row 9 1 z1 (wax h_1) false),(3,.amap (List.map (λ(p:AV×AV)=>(AV.rn z11 p.1,AV.rn z11 p.2)) (List.map (λ(p:AV×AV)=>(AV.rn (sig [1,0,2] 3) p.1,AV.rn (sig [1,0,2] 3) p.2)) z0)))] [(0,.cells [.map 3] 121),(1,.row 49 7 0 (wac o) false),(2,.row 9 1 z1 (wax h) false),(3,.amap (entN g n))])/\n<=1000/\(∀(i:Nat),i<z5.length->isFl (gotN (entN g n) (h i)) (o i)/\FL.Gd (o i))/\z3/\∃(O':oL7),wae [(0,.row 49 7 z1 (wac o) false)] O'/\R (.own 0 z1) O'):=by kernel_rfl
theorem wzi(g:Nat->FL)(n k:Nat)(P:Nat->Prop)(R:eR7):wa0 ⟨te,[(29,.det wle),(33,.det wcy)],[],0,73,0⟩ (wa2 Tryz.f39 3) [3,15,16,17] [3] [] (S_n3 g n) P R (S_n3 g n k)=(letI z10:=ren 0 [(0,0),(1,1)];letI z8:=TI.desc (TI.mk TypeDesc.string 1 16 (Value.string (ByteArray.mk #[])) false);letI z7:=zvA (.agg [.str ([]),.q 0,.q 0,.q 0,.nil,.nil,.nil]);letI z6:=([(3,.ptr 0 0),(15,.view 7 n (wac g)),(16,.q (n:Int)),(17,.q ((k:Int)+1))]:tL7);letI z5:=([(0,.cells [.map 1] 121),(1,.amap (List.map (λ(p:AV×AV)=>(AV.rn z10 p.1,AV.rn z10 p.2)) (entN g k)))]:oL7);letI z4:=(inR .i64 ((k:Int)+1)/\∃(i':Nat),some (St.mk z6 z5 2 [])=some (St.mk [(3,.ptr 0 0),(15,.view 7 n (wac g)),(16,.q (n:Int)),(17,.q (i':Int))] [(0,.cells [.map 1] 121),(1,.amap (entN g i'))] 2 [])/\P i');letI z3:=(g (k:Int).toNat);letI z16:=wah (atT z3.ts);letI z15:=z3.ts.length;letI z14:=wai (atR z3.rs);letI z13:=z3.rs.length;letI z12:=wag (atM z3.ms);letI z11:=z3.ms.length;letI z0:=(flV z3.id z3.ver z3.day z3.kind z11 z12 z13 z14 z15 z16);letI z17:=mget (entN g k) (.str (encF z0));letI z2:=(wbl z8 (entN g k)/\inR .i64 ((k:Int)+1)/\∃(i':Nat),some (St.mk z6 [(0,.cells [.map 1] 121),(1,.amap (List.map (λ(p:AV×AV)=>(AV.rn z10 p.1,AV.rn z10 p.2)) (mset (entN g k) (.str (encF z0)) (.agg [.str z3.id,.q z3.ver,.q z3.day,.q z3.kind,.view 15 z11 z12,.view 5 z13 z14,.view 5 z15 z16]))))] 2 [])=some (St.mk [(3,.ptr 0 0),(15,.view 7 n (wac g)),(16,.q (n:Int)),(17,.q (i':Int))] [(0,.cells [.map 1] 121),(1,.amap (entN g i'))] 2 [])/\P i');letI z1:=Option.getD z17 z7;letI z19:=way z1 (0+1+1+1+1);letI z18:=way z1 (0+1+1+1+1+1);letI z9:=way z1 (0+1+1+1+1+1+1);wad (decide ((k:Int)<(n:Int))) (((0:Int)<=(k:Int)/\(k:Int)<(n:Int)/\7=7)/\(FlC z11 z12 z13 z14 z15 z16/\FL.Sm z0)/\wad (!decide (vinF z0=0)) z4 ((FlC z11 z12 z13 z14 z15 z16/\FL.Rg z0)/\(wbl z8 (entN g k)/\.agg [.str (wbx (way z1 0)),.q (wap (way z1 (0+1))),.q (wap (way z1 (0+1+1))),.q (wap (way z1 (0+1+1+1))),.view (vwS z19) (vwN z19) (vwF z19),.view (vwS z18) (vwN z18) (vwF z18),.view (vwS z9) (vwN z9) (vwF z9)]=Option.getD z17 z7)/\wad (!Option.isSome z17) z2 (wad (decide (z3.day<wap (way z1 (0+1+1)))) z2 z4))) (R (.exit 0) (St.mk [(3,.ptr 0 0)] z5 2 []))):=by kernel_rfl
theorem wzk(es:List (AV×AV))(i:IN)(P:IN->Prop)(R:eR7):wa0 ⟨te,[],[],0,73,0⟩ (wa2 Tryz.f39 13) [3,9,46] [3,9] [] (wl8 es) P R (wl8 es i)=(letI z6:=ren 0 [(0,0),(21,1),(2,2),(3,3)];letI z3:=TI.mk TypeDesc.string 1 16 (Value.string (ByteArray.mk #[])) false;es.length=es.length/\(IN.left i=[]->(∀(i_1:Nat),i_1<IN.c i->true=true)/\∃(O':oL7),wae [(0,.cells [.map 2] 121),(1,.row 9 1 (IN.c i) (wax (IN.h i)) false),(2,.amap (List.map (λ(p:AV×AV)=>(AV.rn (ren 0 [(0,0),(1,1),(3,2)]) p.1,AV.rn (ren 0 [(0,0),(1,1),(3,2)]) p.2)) es))] O'/\R (.exit 2) (St.mk [(3,.ptr 0 0),(9,.own 1 (IN.c i))] O' 3 []))/\∀(i_1:Nat),letI z1:=List.getD es i_1 (.any,.any);letI z0:=z1.2;letI z5:=way z0 (0+1+1+1+1);letI z4:=way z0 (0+1+1+1+1+1);letI z2:=way z0 (0+1+1+1+1+1+1);i_1∈IN.left i->(es.length=es.length/\i_1<es.length/\.str (wbx z1.1)=z1.1/\.agg [.str (wbx (way z0 0)),.q (wap (way z0 (0+1))),.q (wap (way z0 (0+1+1))),.q (wap (way z0 (0+1+1+1))),.view (vwS z5) (vwN z5) (vwF z5),.view (vwS z4) (vwN z4) (vwF z4),.view (vwS z2) (vwN z2) (vwF z2)]=z1.2)/\(1<=16777216/\1=1/\1<=9223372036854775807)/\((1<=1/\1=1)/\IN.c i<=IN.c i/\1=1/\9=9/\1=1/\IN.c i+1<=9223372036854775807/\(IN.c i+1) * TI.bytes z3<=140737488355328)/\∃(i':IN),(TEq [(3,.ptr 0 0),(9,.own 1 (IN.c i+1)),(46,.ptr 2 0)] [(3,.ptr 0 0),(9,.own 1 (IN.c i')),(46,.ptr 2 0)]/\wae [(0,.cells [.map 3] 121),(1,.row 9 1 (IN.c i+1) (apF (IN.c i) (wax (IN.h i)) (waq (TI.sz z3) (.str (wbx z1.1)::List.append [] wci))) false),(2,.miter 3 es.length (121::i_1::List.erase (IN.left i) i_1)),(3,.amap (List.map (λ(p:AV×AV)=>(AV.rn z6 p.1,AV.rn z6 p.2)) es))] [(0,.cells [.map 3] 121),(1,.row 9 1 (IN.c i') (wax (IN.h i')) false),(2,.miter 3 es.length (121::IN.c0 i'::IN.left i')),(3,.amap es)])/\P i'):=by kernel_rfl
theorem wzj(es:List (AV×AV))(m:Nat)(h:Nat->List UInt8)(o:Nat->FL)(k:Nat)(P:Nat->Prop)(R:eR7):wa0 ⟨te,[(96,.det wm2)],[],0,73,0⟩ (wa2 Tryz.f39 19) [3,11,58,59,60] [11] [] (wl7 es m h o) P R (wl7 es m h o k)=(letI z7:=ren 0 [(0,0),(37,1),(2,2),(3,3)];letI z6:=(mget es (.str (h (k:Int).toNat)));letI z5:=zvA (.agg [.str ([]),.q 0,.q 0,.q 0,.nil,.nil,.nil]);letI z0:=(Option.getD z6 z5);letI z4:=way z0 (0+1+1+1+1);letI z3:=way z0 (0+1+1+1+1+1);letI z2:=way z0 (0+1+1+1+1+1+1);letI z1:=([.str (wbx (way z0 0)),.q (wap (way z0 (0+1))),.q (wap (way z0 (0+1+1))),.q (wap (way z0 (0+1+1+1))),.view (vwS z4) (vwN z4) (vwF z4),.view (vwS z3) (vwN z3) (vwF z3),.view (vwS z2) (vwN z2) (vwF z2)]:List AV);wad (decide ((k:Int)<(m:Int))) (((0:Int)<=(k:Int)/\(k:Int)<(m:Int))/\((k:Int).toNat<m/\1=1)/\(wbl (TI.desc (TI.mk TypeDesc.string 1 16 (Value.string (ByteArray.mk #[])) false)) es/\.agg z1=Option.getD z6 z5)/\(∃(F:FL),isFl (.agg z1) F/\F.ms.length<=1000/\F.rs.length<=1000/\F.ts.length<=1000/\∀(t:RT),t∈F.ts->t.bs.length<=1000)/\(7<=16777216/\7=7/\1<=9223372036854775807)/\((1<=1/\7=7)/\k<=k/\7=7/\49=49/\7=7/\k+1<=9223372036854775807/\(k+1) * TI.bytes wb9<=140737488355328)/\inR .i64 ((k:Int)+1)/\∃(i':Nat),(TEq [(3,.ptr 0 0),(11,.own 1 (k+1)),(58,.own 2 m),(59,.q (m:Int)),(60,.q ((k:Int)+1))] [(3,.ptr 0 0),(11,.own 1 i'),(58,.own 2 m),(59,.q (m:Int)),(60,.q (i':Int))]/\wae [(0,.cells [.map 3] 121),(1,.row 49 7 (k+1) (apF k (wac o) (waq (TI.sz wb9) (.str (wbx (way z0 0)):: .q (wap (way z0 (0+1))):: .q (wap (way z0 (0+1+1))):: .q (wap (way z0 (0+1+1+1))):: .view (vwS z4) (vwN z4) (vwF z4):: .view (vwS z3) (vwN z3) (vwF z3):: .view (vwS z2) (vwN z2) (vwF z2)::List.append [] wdm))) false),(2,.row 9 1 m (wax h) false),(3,.amap (List.map (λ(p:AV×AV)=>(AV.rn z7 p.1,AV.rn z7 p.2)) es))] [(0,.cells [.map 3] 121),(1,.row 49 7 i' (wac o) false),(2,.row 9 1 m (wax h) false),(3,.amap es)])/\P i') ((∀(i:Nat),i<k->true=true)/\∃(O':oL7),wae [(0,.row 49 7 k (wac o) false)] O'/\R (.exit 4) (St.mk [(11,.own 0 k)] O' 1 []))):=by kernel_rfl
theorem cpdO_ok(hP:C.P=Tryz.prog):waf C 96 wm2:=by
 rintro args objs U Os vc h hvc;unfold wm2 at h;split at h<;>cases h;obtain⟨F,rfl,hm,hr,ht,hb⟩:=hvc;exact cpd_at hP F hm hr ht hb
theorem n3_loop(hP:C.P=Tryz.prog)(hL:∀w,C.laid w->LaidW w)(g:Nat->FL)(n:Nat):waj C 0 73 (wam Tryz.f39 3) (L_n3 g n):=by
 rintro st Q ⟨h0,hn,hg,hQ⟩;refine waj.mk (prg hP) [(29,.det wle),(33,.det wcy)] 0 (.cons (vin_ok hP hL) (.cons (wko hP hL) .nil)) [3,15,16,17] [3] [] (S_n3 g n) (λk=>k<=n) (λk=>n - k) 0 (zL7 _) h0 (λk hk=>?_);have er:∀(σ:Nat->Option Nat) (k:Nat),(entN g k).map (λp=>(AV.rn σ p.1,AV.rn σ p.2))=entN g k:=λσ k=>wio σ _ _;rw[wzi,tN7,er,wcq (g k)];have hkeys:wbl .string (entN g k):=wqx (wfz k);have hgot:=gotT (wbe okV g k) (waw okV g k) (encF (g k));have hshape:=wun (wbe okV g k) (waw okV g k) (encF (g k));have hmg:=wpv (wbe okV g k) (encF (g k)) (waw okV g k);rw[← wc3] at hgot hshape hmg;refine wak (λh1=>?_) (λh1=>?_)
 ·have hk':k<n:=by omega
  have hG:=hg k hk'
  have same:∀ {σ:Nat->Option Nat},entN g (k+1)=entN g k->inR .i64 ((k:Int)+1)/\∃(i':Nat),some (St.mk [(3,.ptr 0 0),(15,.view 7 n (wac g)),(16,.q (n:Int)),(17,.q ((k:Int)+1))] [(0,.cells [.map 1] 121),(1,.amap (entN g k))] 2 [])=
    some (St.mk [(3,.ptr 0 0),(15,.view 7 n (wac g)),(16,.q (n:Int)),(17,.q (i':Int))] [(0,.cells [.map 1] 121),(1,.amap (entN g i'))] 2 [])/\i'<=n/\n - i'<n - k:=λ{_} e=>
   ⟨by simp only[inR];omega,k+1,by rw[e];rfl,by omega,by omega⟩
  have upd:∀(M:List (AV×AV)),mset (entN g k) (.str (encF (g k))) (.agg (wbb (g k)))=M->M=entN g (k+1)->wbl .string (entN g k)/\inR .i64 ((k:Int)+1)/\∃(i':Nat),some (St.mk [(3,.ptr 0 0),(15,.view 7 n (wac g)),(16,.q (n:Int)),(17,.q ((k:Int)+1))] [(0,.cells [.map 1] 121),(1,.amap (M.map λp=>(AV.rn (ren 0 [(0,0),(1,1)]) p.1,AV.rn (ren 0 [(0,0),(1,1)]) p.2)))] 2 [])=
    some (St.mk [(3,.ptr 0 0),(15,.view 7 n (wac g)),(16,.q (n:Int)),(17,.q (i':Int))] [(0,.cells [.map 1] 121),(1,.amap (entN g i'))] 2 [])/\i'<=n/\n - i'<n - k:=λM hM e=>
   ⟨hkeys,by simp only[inR];omega,k+1,by rw[e,er];rfl,by omega,by omega⟩
  refine⟨⟨by omega,by omega,rfl⟩,⟨wdc _,hG.sm⟩,wb7 (λhv=>same (σ:=λ_=>none) (w2p (decide_eq_false hv))) (λhv=>?_)⟩;have hok:okV (g k)=true:=decide_eq_true hv;refine⟨⟨wdc _,hG.rg⟩,⟨hkeys,hshape⟩,?_⟩
  by_cases hx:encF (g k)∈waw okV g k
  ·rw[if_pos hx] at hmg;rw[hmg];refine wak (λhd=>upd _ rfl (w2m hok hx hd)) (λhd=>same (σ:=λ_=>none) (w2o hok hx hd))
  ·rw[if_neg hx] at hmg;rw[hmg];exact upd _ rfl (w2n hok hx)
 ·have:k=n:=by omega
  subst this;exact hQ
theorem Tryz.sortStr:SlLaysF.n6 Tryz.prog Tryz.sort91_ren:={ Tryz.sort91 with a24:=Tryz.isAgg9,z24:=Tryz.sizeOf9 }
theorem wxf(hP:C.P=Tryz.prog):wa4 C 91 wnl:=by
 have _:C.Loose:=inferInstance;rintro args objs R h;unfold wnl at h;split at h
 ·rename_i n t m f fr ct es;obtain⟨rfl,rfl,rfl,hn,hf,hk,hs,hr,hR⟩:=h;generalize stOf f=h0 at *;subst hf
  have hS:=wan.sortM (C:=C) (cmpN es) (t:=9) (ct:=ct) (fS:=91) (g:=92)
   ⟨_,hP ▸ Tryz.func91,rfl,by decide⟩
   (λcb blk cap d w h1 h2 h3 h4=>by
    rw[hP] at h1 ⊢;exact Any.slices_SortFunc Tryz.sortStr strV (λ_=>rfl) (cmpN es) (swo_of (w3a es)) 92 cb blk 0 cap d w (enters_of Tryz.func92 (by kernel_rfl) rfl) h1 h2 h3 h4)
   (λp cap fv w=>by
    rw[hP];exact AnyF.slices_SortFunc_none Tryz.sort91 p cap fv w)
   es hr (λx y=>ncmp_ok (C:=Ctx.bare C.P C.mixed) hP es hk hs x y) (n:=n) h0 (by omega)
  refine hS.mono ?_;rintro u O ⟨rfl,f',hp,hs,rfl⟩;exact hR f' hp hs
 ·exact h.elim
theorem w1a{α:Type}(L:List α)(d:α):(List.range L.length).map (λi=>L.getD i d)=L:=wdz L d
theorem w0y(hP:C.P=Tryz.prog)(g:Nat->FL)(n:Nat):waj C 0 73 (wam Tryz.f39 13) (wn5 g n):=by
 have _:C.Loose:=inferInstance;rintro st Q ⟨h0,hn,hQ⟩;have hlen:=wj3 g n;have hE:=wc3 g n;generalize hK:waw okV g n=K at *;generalize wbe okV g n=F at *;rw[hE] at h0 hQ;refine AWP.ownNil 9 9 1 ?_;refine waj.mk (prg hP) [] 0 .nil [3,9,46] [3,9] [] (wl8 (entT K F)) (λi=>(lst i.h i.c++i.left.map (λj=>K.getD j [])).Perm K/\∀x∈i.left,x<K.length) (λi=>i.left.length) ⟨0,λ_=>[],(entT K F).length,List.range (entT K F).length⟩ ⟨?_,?_⟩ h0 (λi hi=>?_) (λi=>⟨λ_ _=>rfl,trivial⟩)
 ·rw[wqw];show ((List.range K.length).map λj=>K.getD j []).Perm K;rw[w1a]
 ·intro x hx;have hx:x∈List.range (entT K F).length:=hx;rw[wqw] at hx;exact List.mem_range.1 hx
 obtain⟨hp,hlt⟩:=hi;have hl:i.c+i.left.length=K.length:=by
  have:=hp.length_eq;simpa[lst] using this
 rw[wzk,wio,wio];refine⟨rfl,λhnil=>⟨λ_ _=>rfl,_,wal _,?_⟩,λj hj=>?_⟩
 ·rw[hnil] at hp hl;have hc:i.c=K.length:=by simpa using hl
  rw[hc] at hp ⊢;exact hQ i.h (by simpa using hp)
 ·have hjl:=hlt j hj;rw[entT_at hjl,wqw];have herase:(i.left.erase j).length+1=i.left.length:=by
   rw[List.length_erase_of_mem hj];have:=List.length_pos_of_mem hj;omega
  refine⟨⟨rfl,hjl,rfl,rfl⟩,⟨by omega,rfl,by omega⟩,⟨⟨lR7 _,rfl⟩,lR7 _,rfl,rfl,rfl,by omega,?_⟩,⟨i.c+1,λk=>if k<i.c then i.h k else K.getD j [],j,i.left.erase j⟩,⟨rfl,rfl,⟨rfl,rfl,rfl,rfl,rfl,λk hk=>?_⟩,rfl,rfl,trivial⟩,⟨?_,λx hx=>hlt x (List.mem_of_mem_erase hx)⟩,?_⟩
  ·show (i.c+1) * 16<=_;omega
  ·have hk:k<i.c+1:=hk;unfold apF wax
   by_cases h:k<i.c
   ·simp only[h,if_true]
   ·have:k=i.c:=by omega
    subst this;simp only[Nat.lt_irrefl,if_false,Nat.sub_self];rfl
  ·show (lst (λk=>if k<i.c then i.h k else K.getD j []) (i.c+1)++(i.left.erase j).map (λj=>K.getD j [])).Perm K
   rw[wgp];have e1:lst (λk=>if k<i.c then i.h k else K.getD j []) i.c=lst i.h i.c:=List.map_congr_left λk hk=>by
    rw[if_pos (List.mem_range.1 hk)]
   rw[e1,if_neg (Nat.lt_irrefl _),List.append_assoc,List.singleton_append, ← List.map_cons (f:=λj=>K.getD j [])];exact((List.perm_cons_erase hj).map (λj=>K.getD j [])).symm.append_left _ |>.trans hp
  ·show (i.left.erase j).length<i.left.length;omega
theorem w0x(hP:C.P=Tryz.prog)(g:Nat->FL)(n:Nat):waj C 0 73 (wam Tryz.f39 19) (wn4 g n):=by
 rintro st Q ⟨h,o,h0,hn,hg,hQ⟩;have hlen:=wj3 g n;have hE:=wc3 g n;have hkeys:wbl .string (entN g n):=wqx (wfz n);have er:∀(σ:Nat->Option Nat),(entN g n).map (λp=>(AV.rn σ p.1,AV.rn σ p.2))=entN g n:=λσ=>wio σ _ _;generalize waw okV g n=K at *;generalize entN g n=es at *;refine AWP.ownNil 11 49 7 ?_;refine waj.mk (prg hP) [(96,.det wm2)] 0 (.cons (cpdO_ok hP) .nil) [3,11,58,59,60] [11] [] (wl7 es K.length h o) (λk=>k<=K.length) (λk=>K.length - k) 0 (zL7 _) h0 (λk hk=>?_) (λ_=>⟨λ_ _=>rfl,λ_ _=>rfl,trivial⟩);rw[wzj,tN7,er];refine wak (λh1=>?_) (λh1=>?_)
 ·have hk':k<K.length:=by omega
  obtain⟨hm,hG⟩:=hg k hk';have hm:(mget es (.str (h k))).getD (zvA (.agg [.str [],.q 0,.q 0,.q 0,.nil,.nil,.nil]))= .agg (wbb (o k)):=hm;rw[hm];refine⟨⟨by omega,by omega⟩,⟨hk',rfl⟩,⟨hkeys,rfl⟩,⟨o k,rfl,hG.rg.nm,hG.rg.nr,hG.rg.nt,λt ht=>(hG.rg.t t ht).n⟩,⟨by omega,rfl,by omega⟩,⟨⟨lR7 _,rfl⟩,lR7 _,rfl,rfl,rfl,by omega,?_⟩,by simp only[inR];omega,k+1,⟨rfl,rfl,⟨rfl,rfl,rfl,rfl,rfl,λi hi=>?_⟩,rQ7,rfl,trivial⟩,by omega,by omega⟩
  ·show (k+1) * 112<=_;omega
  ·unfold apF
   by_cases hi':i<k
   ·rw[if_pos hi']
   ·have:i=k:=by omega
    subst this;rw[if_neg hi',Nat.sub_self];rfl
 ·have:k=K.length:=by omega
  subst this;exact⟨λ_ _=>rfl,_,wal _,hQ⟩
theorem w31{g:Nat->FL}{n:Nat}{t:List UInt8}(hg:∀i,i<n->(g i).Gd)(h:t∈waw okV g n):(wbe okV g n t).Gd:=by
 obtain⟨j,b,e⟩:=wg7 h;rw[e];exact hg j b.lt
theorem nrm_at(hP:C.P=Tryz.prog)(hL:∀w,C.laid w->LaidW w)(g:Nat->FL)(n:Nat)(hn:n<=1000)(hg:∀i,i<n->(g i).Gd):ADet C 39 [.view 7 n (wac g)] [] (.own 0 (nrmL okV g n).length) [(0,.row 49 7 (nrmL okV g n).length (wac (atF (nrmL okV g n))) false)]:=by
 refine wa4.wpL (prg hP) [(91,.rel wnl)] [(3,L_n3 g n),(13,wn5 g n),(19,wn4 g n)] 0 (.cons (wxf hP) .nil) (hP ▸ Tryz.func39) rfl rfl rfl
  [(wam Tryz.f39 3,L_n3 g n),(wam Tryz.f39 13,wn5 g n),(wam Tryz.f39 19,wn4 g n)] (by kernel_rfl) ⟨n3_loop hP hL g n,w0y hP g n,w0x hP g n,trivial⟩ ?_
 have er:∀(σ:Nat->Option Nat),(entN g n).map (λp=>(AV.rn σ p.1,AV.rn σ p.2))=entN g n:=λσ=>wio σ _ _;rw[nf_nrm];simp only[er];have hkeys:wbl .string (entN g n):=wqx (wfz n);have hlen:=wj3 g n;have hshape:∀x,wcj wi0 (gotN (entN g n) x)=gotN (entN g n) x:=λx=>wun _ _ x;have hnref:∀p∈entN g n,nref p.1=true/\nref p.2=true:=λp hp=>by
  obtain⟨t,_,rfl⟩:=List.mem_map.1 hp;exact⟨rfl,rfl⟩
 have hgot:∀t,t∈waw okV g n->gotN (entN g n) t= .agg (wbb (wbe okV g n t)):=λt ht=>by
  rw[wc3,gotT,if_pos ht]
 refine⟨rfl,hn,hg,⟨rfl,rfl,⟨rfl,rfl,rfl,rfl,rfl,λi hi=>absurd hi (nZ7 i)⟩,rfl,rfl,trivial⟩,hn,λh hp=>⟨λ_ _=>trivial,trivial,trivial,trivial,by omega,rfl,hkeys,hshape,hnref,λh1 hp1 hs1=>?_⟩⟩;have hpK:(lst h1 (waw okV g n).length).Perm (waw okV g n):=hp1.trans hp;have mem:∀i,i<(waw okV g n).length->h1 i∈waw okV g n:=λi hi=>hpK.mem_iff.1 (List.mem_map.2 ⟨i,List.mem_range.2 hi,rfl⟩);refine⟨λ_ _=>trivial,h1,λi=>wbe okV g n (h1 i),⟨rfl,rfl,⟨rfl,rfl,rfl,rfl,rfl,λi hi=>absurd hi (nZ7 i)⟩,rQ7,rfl,trivial⟩,hn,λi hi=>⟨hgot _ (mem i hi),w31 hg (mem i hi)⟩,?_⟩;have hs:(lst h1 (waw okV g n).length).map (wbe okV g n)=nrmL okV g n:=by
  refine wya hpK ?_;refine wx2 λi j hij hj=>?_;rw[← w3b (mem j hj) (mem i (by omega))];exact hs1 i j hij hj
 have hl:(nrmL okV g n).length=(waw okV g n).length:=by
  rw[← hs,List.length_map];simp[lst]
 have at_:∀i,i<(waw okV g n).length->wac (λi=>wbe okV g n (h1 i)) i=wac (atF (nrmL okV g n)) i:=λi hi=>by
  have:wbe okV g n (h1 i)=atF (nrmL okV g n) i:=by
   rw[← hs];simp[atF,lst,hi]
  show wac (λ_=>wbe okV g n (h1 i)) 0=wac (λ_=>atF (nrmL okV g n) i) 0;rw[this]
 exact⟨λ_ _=>trivial,[(0,.row 49 7 (waw okV g n).length (wac (atF (nrmL okV g n))) false)],⟨⟨rfl,rfl,rfl,rfl,rfl,at_⟩,trivial⟩,by rw[hl],by rw[hl]⟩
theorem nrmz_ok(hP:C.P=Tryz.prog)(hL:∀w,C.laid w->LaidW w):waf C 39 wl3:=by
 rintro args objs U Os vc h hvc;unfold wl3 at h;split at h<;>cases h;rename_i n f;obtain⟨hn,hf,hg⟩:=hvc;generalize flOf f=g at *;subst hf;exact nrm_at hP hL g n hn hg
end Go.Eng
namespace Go.Eng
open Go.Proofs Go.RowKit
variable {C:Ctx} [C.Loose]
set_option maxRecDepth 20000
theorem nf_rws(n:Nat)(v:Nat->Int)(a most:Int)(R:oR7):wpFn te [(37,.det wfe),(42,.det wa7)] [(3,wn1 n v (a+1) (waa n v a (most+1)))] 0 Tryz.f79 [.ptr 0 0,.q most] [.cells [.view 1 n (wab v),.q a] 27] R=(letI z1:=(most+1);letI z0:=(RwS.mk 0 (λ(_x:Nat)=>default) (a+1));inR .i64 z1/\(27=27/\1=1/\wab v=wab (vInt (wab v))/\((1:Int)<=most+1/\most+1<=1000000)/\(0:Int)<=a/\a<=4611686018427387904)/\(TEq [(0,.ptr 0 0),(5,.own 1 0),(9,.q (waa n (vInt (wab v)) a z1)),(10,.q 0)] [(0,.ptr 0 0),(5,.own 1 0),(9,.q (waa n v a z1)),(10,.q (z0.c:Int))]/\wae [(0,.cells [.view 1 n (wab v),.q (a+1)] 27),(1,.row 61 5 0 (λ(_x:Nat)=>[]) false)] [(0,.cells [.view 1 n (wab v),.q z0.a] 27),(1,.row 61 5 0 (wai z0.g) false)])/\((0:Int)<=waa n v a z1/\waa n v a z1<=100)/\((0:Int)<=a+1/\a+1<=4611686018427375000)/\∀(i:RwS),i.c=(waa n v a z1).toNat->i.a=a+1+6 * (i.c:Int)->(∀(j:Nat),j<i.c->RW.Made (RwS.g i j))->(∀(i_1:Nat),i_1<i.c->true=true)/\∃(O':oL7),wae [(0,.cells [.view 1 n (wab v),.q i.a] 27),(1,.row 61 5 i.c (wai i.g) false)] O'/\R (.own 1 i.c) O'):=by kernel_rfl
theorem wy1(n:Nat)(v:Nat->Int)(N:Int)(i:RwS)(P:RwS->Prop)(R:eR7):wa0 ⟨te,[(37,.det wfe)],[],1,19,0⟩ (wa2 Tryz.f79 3) [0,5,9,10] [5] [] (wlw n v N) P R (wlw n v N i)=(letI z0:=rowV n (vInt (wab v)) i.a;wad (decide ((i.c:Int)<N)) ((27=27/\1=1/\wab v=wab (vInt (wab v))/\(0:Int)<=i.a/\i.a<=4611686018427380000)/\(5<=16777216/\5=5/\1<=9223372036854775807)/\((1<=1/\5=5)/\i.c<=i.c/\5=5/\61=61/\5=5/\i.c+1<=9223372036854775807/\(i.c+1) * TI.bytes wdn<=140737488355328)/\inR .i64 ((i.c:Int)+1)/\∃(i':RwS),(TEq [(0,.ptr 0 0),(5,.own 1 (i.c+1)),(9,.q N),(10,.q ((i.c:Int)+1))] [(0,.ptr 0 0),(5,.own 1 i'.c),(9,.q N),(10,.q (i'.c:Int))]/\wae [(0,.cells [.view 1 n (wab v),.q (i.a+1+1+1+1+1+1)] 27),(1,.row 61 5 (i.c+1) (apF i.c (wai i.g) (waq (TI.sz wdn) (.str z0.o:: .str z0.p:: .q z0.per:: .q z0.u:: .q z0.tv::List.append [] wfs))) false)] [(0,.cells [.view 1 n (wab v),.q i'.a] 27),(1,.row 61 5 i'.c (wai i'.g) false)])/\P i') ((∀(i_1:Nat),i_1<i.c->true=true)/\∃(O':oL7),wae [(0,.cells [.view 1 n (wab v),.q i.a] 27),(1,.row 61 5 i.c (wai i.g) false)] O'/\R (.exit 0) (St.mk [(5,.own 1 i.c)] O' 2 []))):=by kernel_rfl
theorem put_ap(g:Nat->RW)(k:Nat)(r:RW)(ch:Nat->List AV)(hch:ch 0=[.str r.o,.str r.p,.q r.per,.q r.u,.q r.tv])(j:Nat)(hj:j<k+1):apF k (wai g) ch j=wai (RW.put g k r) j:=by
 unfold apF wai RW.put
 by_cases h:j<k
 ·rw[if_pos h,if_pos h]
 ·have:j=k:=by omega
  rw[if_neg h,if_neg h,this,Nat.sub_self,hch]
theorem w08(n:Nat)(v:Nat->Int)(a:Int):(rowV n v a).Made:=by
 obtain⟨b1,b2,b3,b4⟩:=wsw n v a;obtain⟨c1,c2⟩:=wpe n v a;exact⟨c1,c2,⟨b1,b2⟩,by omega,by omega⟩
theorem wxm(hP:C.P=Tryz.prog)(n:Nat)(v:Nat->Int)(a N:Int):waj C 1 19 (wam Tryz.f79 3) (wn1 n v a N):=by
 rintro st Q ⟨h0,hN,ha,hQ⟩;refine AWP.ownNil 5 61 5 ?_
 refine waj.mk (prg hP) [(37,.det wfe)] 0 (.cons (wo4 hP) .nil) [0,5,9,10] [5] [] (wlw n v N) (λi=>(i.c:Int)<=N/\i.a=a+6 * i.c/\∀j,j<i.c->(i.g j).Made) (λi=>N.toNat - i.c) ⟨0,λ_=>default,a⟩
  ⟨hN.1,by show a=a+6 * ((0:Nat):Int);omega,λj hj=>absurd hj (nZ7 j)⟩ h0 (λi hi=>?_) (λi=>⟨λ_ _=>rfl,trivial⟩)
 obtain⟨h1,h2,h3⟩:=hi;have hw:vInt (wab v)=v:=rfl;rw[wy1,hw];refine wak (λq=>?_) (λq=>⟨λ_ _=>rfl,_,wal _,hQ i (by omega) h2 h3⟩);refine⟨⟨rfl,rfl,rfl,by omega,by omega⟩,⟨by omega,rfl,by omega⟩,⟨⟨lR7 _,rfl⟩,lR7 _,rfl,rfl,rfl,by omega,?_⟩,by simp only[inR];omega,⟨i.c+1,RW.put i.g i.c (rowV n v i.a),i.a+1+1+1+1+1+1⟩,⟨rfl,rfl,⟨rfl,rfl,rfl,rfl,rfl,λj hj=>?_⟩,trivial⟩,⟨?_,?_,λj hj=>?_⟩,?_⟩
 ·show (i.c+1) * 56<=_;omega
 ·exact put_ap i.g i.c _ _ rfl j hj
 ·show ((i.c+1:Nat):Int)<=N;omega
 ·show i.a+1+1+1+1+1+1=a+6 * ((i.c+1:Nat):Int);omega
 ·show (RW.put i.g i.c (rowV n v i.a) j).Made;unfold RW.put
  by_cases h:j<i.c
  ·rw[if_pos h];exact h3 j h
  ·rw[if_neg h];exact w08 n v i.a
 ·show N.toNat - (i.c+1)<N.toNat - i.c;omega
theorem rows_ok(hP:C.P=Tryz.prog):wa4 C 79 wnm:=by
 rintro args objs R h;unfold wnm at h;split at h
 ·rename_i most sz n f a t;obtain⟨rfl,rfl,hf,ha,hm,hR⟩:=h;rw[hf] at hR ⊢;generalize vInt f=v at *;have hw:vInt (wab v)=v:=rfl;refine wa4.wpL (prg hP) [(37,.det wfe),(42,.det wa7)] [(3,wn1 n v (a+1) (waa n v a (most+1)))] 0 (.cons (wo4 hP) (.cons (wb0 hP) .nil)) (hP ▸ Tryz.func79) rfl rfl rfl [(wam Tryz.f79 3,wn1 n v (a+1) (waa n v a (most+1)))] (by kernel_rfl) ⟨wxm hP _ _ _ _,trivial⟩ ?_;rw[nf_rws,hw];have r:=was (show (1:Int)<=most+1 by omega) n v a;exact⟨by simp only[inR];omega,⟨rfl,rfl,rfl,⟨by omega,by omega⟩,by omega,by omega⟩,⟨rfl,rfl,⟨rfl,rfl,rfl,rfl,rfl,λi hi=>absurd hi (nZ7 i)⟩,trivial⟩,⟨by omega,by omega⟩,⟨by omega,by omega⟩,λi h1 h2 h3=>⟨λ_ _=>rfl,_,wal _,hR i.c i.g i.a (by omega) ⟨by omega,by omega⟩ h3⟩⟩
 ·exact h.elim
theorem w0c(n:Nat)(v:Nat->Int)(a:Int)(R:oR7):wpFn te [(42,.det wa7)] [] 0 Tryz.f88 [.ptr 0 0] [.cells [.view 1 n (wab v),.q a] 27] R=(letI z0:=vInt (wab v);(3<=16777216/\1=1/\3<=9223372036854775807)/\(27=27/\1=1/\wab v=wab z0/\((1:Int)<=3/\(3:Int)<=1000000)/\(0:Int)<=a/\a<=4611686018427387904)/\((0:Int)<=waa n z0 a (3:Int)/\waa n z0 a (3:Int)<(↑3:Int))/\((waa n z0 a (3:Int)).toNat<3/\1=1)/\R (.str (List.getD [[(97:UInt8)],[(98:UInt8)],[(99:UInt8)]] (waa n z0 a (3:Int)).toNat [])) [(0,.cells [.view 1 n (wab v),.q (a+1)] 27)]):=by kernel_rfl
theorem wth(n:Nat)(v:Nat->Int)(a:Int)(R:oR7):wpFn te [(42,.det wa7),(80,.det wc5),(81,.det wc4),(43,.det S_id)] [] 3 Tryz.f89 [.ptr 0 0] [.cells [.view 1 n (wab v),.q a] 27] R=(letI z20:=((1:Int)<=4/\(4:Int)<=1000000:Prop);letI z19:=4611686018427387904;letI z18:=4611686018427387000;letI z16:=((48:Int)+(cdF (id7 (4:Int))).1).toNat;letI z14:=([(0,.cells [.view 1 n (wab v),.q (a+1+1+1+1+1+1+1)] 27)]:oL7);letI z12:=(a+1+1);letI z11:=(a+1+1+1+1);letI z10:=(a+1+1+1);letI z9:=(idV (4:Int));letI z7:=(a+1+1+1+1+1+1);letI z17:=([(0,.cells [.view 1 n (wab v),.q z7] 27)]:oL7);letI z6:=(a+1+1+1+1+1);letI z5:=vInt (wab v);letI z13:=(outF (waa n z5 a (3:Int)));letI z8:=(waa n z5 (a+1) (4:Int));letI z4:=(waa n z5 z11 (7:Int)).toNat;letI z15:=(decide ((1:Int)+List.getD [(0:Int),(0:Int),(0:Int),(1:Int),(2:Int),(3:Int),(4:Int)] z4 (0:Int)=5));letI z3:=((True/\True)/\R (.agg [.str z13,.str (idF z8),.q ((1440:Int)+waa n z5 z12 (4:Int)),.q ((43830:Int)+waa n z5 z10 (100:Int)),.q ((1:Int)+List.getD [(0:Int),(0:Int),(0:Int),(1:Int),(2:Int),(3:Int),(4:Int)] z4 (0:Int)),.q 0,.str [(λ(i:Nat)=>UInt8.ofNat (wap (List.headD (wba z9 i) .any)).toNat) (nat_lit 0),(λ(i:Nat)=>UInt8.ofNat (wap (List.headD (wba z9 i) .any)).toNat) (nat_lit 1),(λ(i:Nat)=>UInt8.ofNat (wap (List.headD (wba z9 i) .any)).toNat) (nat_lit 2),(λ(i:Nat)=>UInt8.ofNat (wap (List.headD (wba z9 i) .any)).toNat) (nat_lit 3),(λ(i:Nat)=>UInt8.ofNat (wap (List.headD (wba z9 i) .any)).toNat) (nat_lit 4),(λ(i:Nat)=>UInt8.ofNat (wap (List.headD (wba z9 i) .any)).toNat) (nat_lit 5),(λ(i:Nat)=>UInt8.ofNat (wap (List.headD (wba z9 i) .any)).toNat) (nat_lit 6),UInt8.ofNat z16]]) z17:Prop);letI z2:=((True/\True)/\R (.agg [.str z13,.str (idF z8),.q ((1440:Int)+waa n z5 z12 (4:Int)),.q ((43830:Int)+waa n z5 z10 (100:Int)),.q ((1:Int)+List.getD [(0:Int),(0:Int),(0:Int),(1:Int),(2:Int),(3:Int),(4:Int)] z4 (0:Int)),.q ((100:Int)+waa n z5 z6 (4:Int) * (5:Int)),.str [(λ(i:Nat)=>UInt8.ofNat (wap (List.headD (wba z9 i) .any)).toNat) (nat_lit 0),(λ(i:Nat)=>UInt8.ofNat (wap (List.headD (wba z9 i) .any)).toNat) (nat_lit 1),(λ(i:Nat)=>UInt8.ofNat (wap (List.headD (wba z9 i) .any)).toNat) (nat_lit 2),(λ(i:Nat)=>UInt8.ofNat (wap (List.headD (wba z9 i) .any)).toNat) (nat_lit 3),(λ(i:Nat)=>UInt8.ofNat (wap (List.headD (wba z9 i) .any)).toNat) (nat_lit 4),(λ(i:Nat)=>UInt8.ofNat (wap (List.headD (wba z9 i) .any)).toNat) (nat_lit 5),(λ(i:Nat)=>UInt8.ofNat (wap (List.headD (wba z9 i) .any)).toNat) (nat_lit 6),UInt8.ofNat z16]]) z14:Prop);letI z1:=(decide ([(λ(i:Nat)=>UInt8.ofNat (wap (List.headD (wba z9 i) .any)).toNat) (nat_lit 0),(λ(i:Nat)=>UInt8.ofNat (wap (List.headD (wba z9 i) .any)).toNat) (nat_lit 1),(λ(i:Nat)=>UInt8.ofNat (wap (List.headD (wba z9 i) .any)).toNat) (nat_lit 2),(λ(i:Nat)=>UInt8.ofNat (wap (List.headD (wba z9 i) .any)).toNat) (nat_lit 3),(λ(i:Nat)=>UInt8.ofNat (wap (List.headD (wba z9 i) .any)).toNat) (nat_lit 4),(λ(i:Nat)=>UInt8.ofNat (wap (List.headD (wba z9 i) .any)).toNat) (nat_lit 5),(λ(i:Nat)=>UInt8.ofNat (wap (List.headD (wba z9 i) .any)).toNat) (nat_lit 6),UInt8.ofNat z16]=idF z8));letI z0:=(wad z15 ((27=27/\1=1/\wab v=wab z5/\(0:Int)<=a+1+1+1+1+1/\a+1+1+1+1+1<=z18)/\wad (decide (idF (waa n z5 z6 (4:Int))=idF z8)) (True/\wad z1 (True/\wad z1 (True/\False) z3) z3) ((True/\True)/\R (.agg [.str z13,.str (idF z8),.q ((1440:Int)+waa n z5 z12 (4:Int)),.q ((43830:Int)+waa n z5 z10 (100:Int)),.q ((1:Int)+List.getD [(0:Int),(0:Int),(0:Int),(1:Int),(2:Int),(3:Int),(4:Int)] z4 (0:Int)),.q 0,.str (idF (waa n z5 z6 (4:Int)))]) z17)) ((True/\True)/\R (.agg [.str z13,.str (idF z8),.q ((1440:Int)+waa n z5 z12 (4:Int)),.q ((43830:Int)+waa n z5 z10 (100:Int)),.q ((1:Int)+List.getD [(0:Int),(0:Int),(0:Int),(1:Int),(2:Int),(3:Int),(4:Int)] z4 (0:Int)),.q 0,.str []]) [(0,.cells [.view 1 n (wab v),.q z6] 27)]));(27=27/\1=1/\wab v=wab z5/\(0:Int)<=a/\a<=z18)/\(27=27/\1=1/\wab v=wab z5/\(0:Int)<=a+1/\a+1<=z18)/\(27=27/\1=1/\wab v=wab z5/\z20/\(0:Int)<=a+1+1/\a+1+1<=z19)/\inR .i64 ((1440:Int)+waa n z5 z12 (4:Int))/\(27=27/\1=1/\wab v=wab z5/\((1:Int)<=100/\(100:Int)<=1000000)/\(0:Int)<=a+1+1+1/\a+1+1+1<=z19)/\inR .i64 ((43830:Int)+waa n z5 z10 (100:Int))/\(7<=16777216/\1=1/\7<=9223372036854775807)/\(27=27/\1=1/\wab v=wab z5/\((1:Int)<=7/\(7:Int)<=1000000)/\(0:Int)<=a+1+1+1+1/\a+1+1+1+1<=z19)/\((0:Int)<=waa n z5 z11 (7:Int)/\waa n z5 z11 (7:Int)<(↑7:Int))/\((waa n z5 z11 (7:Int)).toNat<7/\1=1)/\inR .i64 ((1:Int)+List.getD [(0:Int),(0:Int),(0:Int),(1:Int),(2:Int),(3:Int),(4:Int)] z4 (0:Int))/\wad (!decide ((1:Int)+List.getD [(0:Int),(0:Int),(0:Int),(1:Int),(2:Int),(3:Int),(4:Int)] z4 (0:Int)=3)) (wad (!decide ((1:Int)+List.getD [(0:Int),(0:Int),(0:Int),(1:Int),(2:Int),(3:Int),(4:Int)] z4 (0:Int)=4)) ((27=27/\1=1/\wab v=wab z5/\z20/\(0:Int)<=a+1+1+1+1+1/\a+1+1+1+1+1<=z19)/\inR .i64 (waa n z5 z6 (4:Int) * (5:Int))/\inR .i64 ((100:Int)+waa n z5 z6 (4:Int) * (5:Int))/\wad z15 ((27=27/\1=1/\wab v=wab z5/\(0:Int)<=a+1+1+1+1+1+1/\a+1+1+1+1+1+1<=z18)/\wad (decide (idF (waa n z5 z7 (4:Int))=idF z8)) (True/\wad z1 (True/\wad z1 (True/\False) z2) z2) ((True/\True)/\R (.agg [.str z13,.str (idF z8),.q ((1440:Int)+waa n z5 z12 (4:Int)),.q ((43830:Int)+waa n z5 z10 (100:Int)),.q ((1:Int)+List.getD [(0:Int),(0:Int),(0:Int),(1:Int),(2:Int),(3:Int),(4:Int)] z4 (0:Int)),.q ((100:Int)+waa n z5 z6 (4:Int) * (5:Int)),.str (idF (waa n z5 z7 (4:Int)))]) z14)) ((True/\True)/\R (.agg [.str z13,.str (idF z8),.q ((1440:Int)+waa n z5 z12 (4:Int)),.q ((43830:Int)+waa n z5 z10 (100:Int)),.q ((1:Int)+List.getD [(0:Int),(0:Int),(0:Int),(1:Int),(2:Int),(3:Int),(4:Int)] z4 (0:Int)),.q ((100:Int)+waa n z5 z6 (4:Int) * (5:Int)),.str []]) z17)) z0) z0):=by kernel_rfl
theorem nf_mmsg(n:Nat)(v:Nat->Int)(a:Int)(R:oR7):wpFn te [(42,.det wa7),(80,.det wc5),(81,.det wc4),(88,.det whg),(89,.rel wni)] [] 0 Tryz.f36 [.ptr 0 0] [.cells [.view 1 n (wab v),.q a] 27] R=(letI z5:=((1:Int)<=9/\(9:Int)<=1000000:Prop);letI z4:=(a+1+1+1+1+1);letI z3:=4611686018427387904;letI z2:=4611686018427387000;letI z1:=(a+1+1+1+1+1+1+1);letI z0:=vInt (wab v);(27=27/\1=1/\wab v=wab z0/\(0:Int)<=a/\a<=z2)/\(27=27/\1=1/\wab v=wab z0/\z5/\(0:Int)<=a+1/\a+1<=z3)/\inR .i64 ((1:Int)+waa n z0 (a+1) (9:Int))/\(27=27/\1=1/\wab v=wab z0/\((1:Int)<=5/\(5:Int)<=1000000)/\(0:Int)<=a+1+1/\a+1+1<=z3)/\wad (decide (waa n z0 (a+1+1) (5:Int)=0)) ((27=27/\1=1/\wab v=wab z0/\(0:Int)<=a+1+1+1/\a+1+1+1<=z2)/\(27=27/\1=1/\wab v=wab z0/\(0:Int)<=a+1+1+1+1/\a+1+1+1+1<=z2)/\(27=27/\1=1/\wab v=wab z0/\((1:Int)<=4/\(4:Int)<=1000000)/\(0:Int)<=a+1+1+1+1+1/\a+1+1+1+1+1<=z3)/\inR .i64 ((1440:Int)+waa n z0 z4 (4:Int))/\(27=27/\1=1/\wab v=wab z0/\(0:Int)<=a+1+1+1+1+1+1/\a+1+1+1+1+1+1<=z2)/\(27=27/\1=1/\wab v=wab z0/\z5/\(0:Int)<=a+1+1+1+1+1+1+1/\a+1+1+1+1+1+1+1<=z3)/\inR .i64 ((1:Int)+waa n z0 z1 (9:Int))/\(True/\True)/\R (.agg [.str (devF (waa n z0 a (3:Int))),.q ((1:Int)+waa n z0 (a+1) (9:Int)),.q 2,.str [],.str [],.q 0,.q 0,.q 0,.q 0,.str [],.str (outF (waa n z0 (a+1+1+1) (3:Int))),.str (idF (waa n z0 (a+1+1+1+1) (4:Int))),.q ((1440:Int)+waa n z0 z4 (4:Int)),.str (devF (waa n z0 (a+1+1+1+1+1+1) (3:Int))),.q ((1:Int)+waa n z0 z1 (9:Int))]) [(0,.cells [.view 1 n (wab v),.q (a+1+1+1+1+1+1+1+1)] 27)]) (27=27/\1=1/\wab v=wab z0/\((0:Int)<=a+1+1+1/\a+1+1+1<=4611686018427386000)/\∀(x:VT) (a':Int),VT.Made x->a+1+1+1<=a'/\a'<=a+1+1+1+7->(True/\True)/\R (.agg [.str (devF (waa n z0 a (3:Int))),.q ((1:Int)+waa n z0 (a+1) (9:Int)),.q 1,.str x.o,.str x.p,.q x.per,.q x.day,.q x.st,.q x.pr,.str x.rep,.str [],.str [],.q 0,.str [],.q 0]) [(0,.cells [.view 1 n (wab v),.q a'] 27)])):=by kernel_rfl
theorem wvr(hP:C.P=Tryz.prog):waf C 88 whg:=by
 rintro args objs U Os vc h hvc;unfold whg at h;split at h<;>cases h;rename_i sz n f a t;obtain⟨rfl,rfl,hf,h1,h2⟩:=hvc;rw[hf];generalize vInt f=v;have hw:vInt (wab v)=v:=rfl;refine waf.wp0 (prg hP) [(42,.det wa7)] 0 (.cons (wb0 hP) .nil) (hP ▸ Tryz.func88) rfl rfl rfl ?_;rw[w0c];have r:=was (show (1:Int)<=3 by omega) n v a;exact⟨⟨by omega,rfl,by omega⟩,⟨rfl,rfl,rfl,⟨by omega,by omega⟩,by omega,by omega⟩,⟨r.1,r.2⟩,⟨by rw[hw];omega,rfl⟩,rfl,rfl⟩
theorem stF:∀i:Nat,i<7->1<=1+List.getD [(0:Int),0,0,1,2,3,4] i 0/\1+List.getD [(0:Int),0,0,1,2,3,4] i 0<=5:=by decide
theorem wkb{x:Int}(h:0<=x/\x<4):¬ idF 4=idF x:=by
 have:=idF4 x.toNat (by omega)
 rwa [show ((x.toNat:Nat):Int)=x by omega] at this
theorem wrx{o p:List UInt8}{per day st pr:Int}{rep:List UInt8}(ho:wa8 o=true)(hp:wbf p=true)(hper:0<=per/\per<=5999)(hday:0<=day/\day<=182620)
  (h:((st=1∨st=2)/\(1<=pr/\pr<=1099511627776)/\rep=[])∨((st=3∨st=4)/\pr=0/\rep=[])∨(st=5/\(1<=pr/\pr<=1099511627776)/\wbf rep=true/\¬ rep=p)):visF ⟨o,p,per,day,st,pr,rep⟩=true:=by
 unfold visF wby;dsimp only
 rw[ho,hp,decide_eq_true hper.1,decide_eq_true hper.2,decide_eq_true hday.1,decide_eq_true hday.2]
 rcases h with⟨q | q,⟨h1,h2⟩,h3⟩ | ⟨q | q,h1,h2⟩ | ⟨q,⟨h1,h2⟩,h3,h4⟩
 ·subst q;subst h3;rw[decide_eq_true h1,decide_eq_true h2];rfl
 ·subst q;subst h3;rw[decide_eq_true h1,decide_eq_true h2];rfl
 ·subst q;subst h1;subst h2;rfl
 ·subst q;subst h1;subst h2;rfl
 ·subst q;rw[decide_eq_true h1,decide_eq_true h2,h3,decide_eq_false h4];rfl
theorem wtn{dev:List UInt8}{seq:Int}{x:VT}(hd:wa8 dev=true)(hs:1<=seq/\seq<=1048576)(hx:visF x=true):msgF ⟨dev,seq,1,x,⟨[],[],0,[],0⟩⟩=0:=by
 unfold msgF numF;dsimp only
 rw[hd,hx,decide_eq_true hs.1,decide_eq_true hs.2];rfl
theorem wto{dev:List UInt8}{seq:Int}{o p:List UInt8}{per:Int}{dd:List UInt8}{num:Int}(hd:wa8 dev=true)(hs:1<=seq/\seq<=1048576)(h:wby o p per=true)(h':wa8 dd=true)(hn:1<=num/\num<=1048576):
  msgF ⟨dev,seq,2,⟨[],[],0,0,0,0,[]⟩,⟨o,p,per,dd,num⟩⟩=0:=by
 unfold msgF numF;dsimp only
 rw[hd,h,h',decide_eq_true hs.1,decide_eq_true hs.2,decide_eq_true hn.1,decide_eq_true hn.2];rfl
theorem wsi{o p:List UInt8}{per:Int}(ho:wa8 o=true)(hp:wbf p=true)(hper:0<=per/\per<=5999):wby o p per=true:=by
 unfold wby;rw[ho,hp,decide_eq_true hper.1,decide_eq_true hper.2];rfl
theorem w0z(hP:C.P=Tryz.prog):wa4 C 89 wni:=by
 rintro args objs R h;unfold wni at h;split at h
 ·rename_i sz n f a t;obtain⟨rfl,rfl,hf,ha,hR⟩:=h;rw[hf] at hR ⊢;generalize vInt f=v at *;have hw:vInt (wab v)=v:=rfl;refine wa4.wpL (prg hP) [(42,.det wa7),(80,.det wc5),(81,.det wc4),(43,.det S_id)] [] 3 (.cons (wb0 hP) (.cons (wgl hP) (.cons (wgc hP) (.cons (wka hP) .nil)))) (hP ▸ Tryz.func89) rfl rfl rfl [] (by kernel_rfl) trivial ?_;rw[wth,hw];have r1:=was (show (1:Int)<=3 by omega) n v a;have r2:=was (show (1:Int)<=4 by omega) n v (a+1);have r3:=was (show (1:Int)<=4 by omega) n v (a+1+1);have r4:=was (show (1:Int)<=100 by omega) n v (a+1+1+1);have r5:=was (show (1:Int)<=7 by omega) n v (a+1+1+1+1);have r6:=was (show (1:Int)<=4 by omega) n v (a+1+1+1+1+1);have hst:=stF (waa n v (a+1+1+1+1) 7).toNat (by omega);have ho:=wh3 (waa n v a 3).toNat (by omega);have key:∀(st pr:Int) (rep:List UInt8) (a':Int),(((st=1∨st=2)/\(1<=pr/\pr<=1099511627776)/\rep=[])∨((st=3∨st=4)/\pr=0/\rep=[])∨(st=5/\(1<=pr/\pr<=1099511627776)/\wbf rep=true/\¬ rep=idF (waa n v (a+1) 4)))->(a<=a'/\a'<=a+7)->
    R (.agg [.str (outF (waa n v a 3)),.str (idF (waa n v (a+1) 4)),.q (1440+waa n v (a+1+1) 4),.q (43830+waa n v (a+1+1+1) 100),.q st,.q pr,.str rep]) [(0,.cells [.view 1 n (wab v),.q a'] 27)]:=λst pr rep a' h1 h2=>
   hR ⟨outF (waa n v a 3),idF (waa n v (a+1) 4),1440+waa n v (a+1+1) 4,43830+waa n v (a+1+1+1) 100,st,pr,rep⟩ a' ⟨wrx ho.1 (wd3 _) (by omega) (by omega) h1,ho.2⟩ h2
  refine⟨⟨rfl,rfl,rfl,by omega,by omega⟩,⟨rfl,rfl,rfl,by omega,by omega⟩,⟨rfl,rfl,rfl,⟨by omega,by omega⟩,by omega,by omega⟩,by simp only[inR];omega,⟨rfl,rfl,rfl,⟨by omega,by omega⟩,by omega,by omega⟩,by simp only[inR];omega,⟨by omega,rfl,by omega⟩,⟨rfl,rfl,rfl,⟨by omega,by omega⟩,by omega,by omega⟩,⟨by omega,by omega⟩,⟨by omega,rfl⟩,?_⟩;generalize 1+List.getD [(0:Int),0,0,1,2,3,4] (waa n v (a+1+1+1+1) 7).toNat 0=st at *
  refine⟨by simp only[inR];omega,wb7 (λs3=>wb7 (λs4=>⟨⟨rfl,rfl,rfl,⟨by omega,by omega⟩,by omega,by omega⟩,by simp only[inR];omega,by simp only[inR];omega,wak (λs5=>⟨⟨rfl,rfl,rfl,by omega,by omega⟩,wak (λq=>⟨trivial,wak (λq'=>absurd q' (wkb r2)) (λq'=>⟨⟨trivial,trivial⟩,?_⟩)⟩) (λq=>⟨⟨trivial,trivial⟩,?_⟩)⟩) (λs5=>⟨⟨trivial,trivial⟩,?_⟩)⟩)
   (λs4=>wak (λs5=>absurd s5 (by omega)) (λs5=>⟨⟨trivial,trivial⟩,?_⟩))) (λs3=>wak (λs5=>absurd s5 (by omega)) (λs5=>⟨⟨trivial,trivial⟩,?_⟩))⟩
  ·exact key st _ (idF 4) _ (.inr (.inr ⟨s5,by omega,wd3 _,wkb r2⟩)) (by omega)
  ·exact key st _ _ _ (.inr (.inr ⟨s5,by omega,wd3 _,q⟩)) (by omega)
  ·exact key st _ _ _ (.inl ⟨by omega,by omega,rfl⟩) (by omega)
  ·exact key st _ _ _ (.inr (.inl ⟨by omega,rfl,rfl⟩)) (by omega)
  ·exact key st _ _ _ (.inr (.inl ⟨by omega,rfl,rfl⟩)) (by omega)
 ·exact h.elim
theorem wtw (hP : C.P = Tryz.prog) : wa4 C 36 whl := by
  rintro args objs R h
  unfold whl at h
  split at h
  · rename_i sz n f a t
    obtain ⟨rfl, rfl, hf, ha, hR⟩ := h
    rw [hf] at hR ⊢
    generalize vInt f = v at *
    have hw : vInt (wab v) = v := rfl
    refine wa4.wpL (prg hP) [(42, .det wa7), (80, .det wc5), (81, .det wc4), (88, .det whg), (89, .rel wni)] [] 0 (.cons (wb0 hP) (.cons (wgl hP) (.cons (wgc hP) (.cons (wvr hP) (.cons (w0z hP) .nil))))) (hP ▸ Tryz.func36) rfl rfl rfl [] (by kernel_rfl) trivial ?_
    rw [nf_mmsg, hw]
    have r1 := was (show (1 : Int) ≤ 3 by omega) n v a
    have r2 := was (show (1 : Int) ≤ 9 by omega) n v (a + 1)
    have r4 := was (show (1 : Int) ≤ 3 by omega) n v (a + 1 + 1 + 1)
    have r6 := was (show (1 : Int) ≤ 4 by omega) n v (a + 1 + 1 + 1 + 1 + 1)
    have r7 := was (show (1 : Int) ≤ 3 by omega) n v (a + 1 + 1 + 1 + 1 + 1 + 1)
    have r8 := was (show (1 : Int) ≤ 9 by omega) n v (a + 1 + 1 + 1 + 1 + 1 + 1 + 1)
    have hd := wkt (waa n v a 3).toNat (by omega)
    have ho := wh3 (waa n v (a + 1 + 1 + 1) 3).toNat (by omega)
    have hd' := wkt (waa n v (a + 1 + 1 + 1 + 1 + 1 + 1) 3).toNat (by omega)
    refine ⟨⟨rfl, rfl, rfl, by omega, by omega⟩, ⟨rfl, rfl, rfl, ⟨by omega, by omega⟩, by omega, by omega⟩, by simp only [inR]; omega, ⟨rfl, rfl, rfl, ⟨by omega, by omega⟩, by omega, by omega⟩, wak (fun q => ⟨⟨rfl, rfl, rfl, by omega, by omega⟩, ⟨rfl, rfl, rfl, by omega, by omega⟩, ⟨rfl, rfl, rfl, ⟨by omega, by omega⟩, by omega, by omega⟩, by simp only [inR]; omega, ⟨rfl, rfl, rfl, by omega, by omega⟩, ⟨rfl, rfl, rfl, ⟨by omega, by omega⟩, by omega, by omega⟩, by simp only [inR]; omega, ⟨trivial, trivial⟩, ?_⟩)
      (fun q => ⟨rfl, rfl, rfl, ⟨by omega, by omega⟩, fun x a' hx ha' => ⟨⟨trivial, trivial⟩, ?_⟩⟩)⟩
    · exact hR ⟨devF (waa n v a 3), 1 + waa n v (a + 1) 9, 2, ⟨[], [], 0, 0, 0, 0, []⟩, ⟨outF (waa n v (a + 1 + 1 + 1) 3), idF (waa n v (a + 1 + 1 + 1 + 1) 4), 1440 + waa n v (a + 1 + 1 + 1 + 1 + 1) 4, devF (waa n v (a + 1 + 1 + 1 + 1 + 1 + 1) 3), 1 + waa n v (a + 1 + 1 + 1 + 1 + 1 + 1 + 1) 9⟩⟩ _
        ⟨wto hd.1 (by omega) (wsi ho.1 (wd3 _) (by omega)) hd'.1 (by omega), hd.2, zL7 _, ho.2, hd'.2⟩ (by omega)
    · exact hR ⟨devF (waa n v a 3), 1 + waa n v (a + 1) 9, 1, x, ⟨[], [], 0, [], 0⟩⟩ a' ⟨wtn hd.1 (by omega) hx.ok, hd.2, hx.o, zL7 _, zL7 _⟩ (by omega)
  · exact h.elim
theorem nf_msgs(n:Nat)(v:Nat->Int)(a most:Int)(R:oR7):wpFn te [(36,.rel whl),(42,.det wa7)] [(3,wn6 n v (a+1) (waa n v a (most+1)))] 0 Tryz.f59 [.ptr 0 0,.q most] [.cells [.view 1 n (wab v),.q a] 27] R=(letI z1:=(most+1);letI z0:=(MgS.mk 0 (λ(_x:Nat)=>default) (a+1));inR .i64 z1/\(27=27/\1=1/\wab v=wab (vInt (wab v))/\((1:Int)<=most+1/\most+1<=1000000)/\(0:Int)<=a/\a<=4611686018427387904)/\(TEq [(0,.ptr 0 0),(5,.own 1 0),(9,.q (waa n (vInt (wab v)) a z1)),(10,.q 0)] [(0,.ptr 0 0),(5,.own 1 0),(9,.q (waa n v a z1)),(10,.q (z0.c:Int))]/\wae [(0,.cells [.view 1 n (wab v),.q (a+1)] 27),(1,.row 40 15 0 (λ(_x:Nat)=>[]) false)] [(0,.cells [.view 1 n (wab v),.q z0.a] 27),(1,.row 40 15 0 (wag z0.g) false)])/\((0:Int)<=waa n v a z1/\waa n v a z1<=100)/\((0:Int)<=a+1/\a+1<=4611686018427375000)/\∀(i:MgS),i.c=(waa n v a z1).toNat->a+1<=i.a/\i.a<=a+1+10 * (i.c:Int)->(∀(j:Nat),j<i.c->MG.Made (MgS.g i j))->(∀(i_1:Nat),i_1<i.c->true=true)/\∃(O':oL7),wae [(0,.cells [.view 1 n (wab v),.q i.a] 27),(1,.row 40 15 i.c (wag i.g) false)] O'/\R (.own 1 i.c) O'):=by kernel_rfl
theorem wzl(n:Nat)(v:Nat->Int)(N:Int)(i:MgS)(P:MgS->Prop)(R:eR7):wa0 ⟨te,[(36,.rel whl)],[],1,19,0⟩ (wa2 Tryz.f59 3) [0,5,9,10] [5] [] (wl9 n v N) P R (wl9 n v N i)=(wad (decide ((i.c:Int)<N)) (27=27/\1=1/\wab v=wab (vInt (wab v))/\((0:Int)<=i.a/\i.a<=4611686018427385000)/\∀(m:MG) (a':Int),MG.Made m->i.a<=a'/\a'<=i.a+10->(15<=16777216/\15=15/\1<=9223372036854775807)/\((1<=1/\15=15)/\i.c<=i.c/\15=15/\40=40/\15=15/\i.c+1<=9223372036854775807/\(i.c+1) * TI.bytes wfr<=140737488355328)/\inR .i64 ((i.c:Int)+1)/\∃(i':MgS),(TEq [(0,.ptr 0 0),(5,.own 1 (i.c+1)),(9,.q N),(10,.q ((i.c:Int)+1))] [(0,.ptr 0 0),(5,.own 1 i'.c),(9,.q N),(10,.q (i'.c:Int))]/\wae [(0,.cells [.view 1 n (wab v),.q a'] 27),(1,.row 40 15 (i.c+1) (apF i.c (wag i.g) (waq (TI.sz wfr) (.str m.dev:: .q m.seq:: .q m.kind:: .str m.v.o:: .str m.v.p:: .q m.v.per:: .q m.v.day:: .q m.v.st:: .q m.v.pr:: .str m.v.rep:: .str m.d.o:: .str m.d.p:: .q m.d.per:: .str m.d.dev:: .q m.d.num::List.append [] (List.flatten (List.replicate (nat_lit 0) [.str ([]),.q 0,.q 0,.str ([]),.str ([]),.q 0,.q 0,.q 0,.q 0,.str ([]),.str ([]),.str ([]),.q 0,.str ([]),.q 0]))))) false)] [(0,.cells [.view 1 n (wab v),.q i'.a] 27),(1,.row 40 15 i'.c (wag i'.g) false)])/\P i') ((∀(i_1:Nat),i_1<i.c->true=true)/\∃(O':oL7),wae [(0,.cells [.view 1 n (wab v),.q i.a] 27),(1,.row 40 15 i.c (wag i.g) false)] O'/\R (.exit 0) (St.mk [(5,.own 1 i.c)] O' 2 []))):=by kernel_rfl
theorem mput_ap(g:Nat->MG)(k:Nat)(r:MG)(ch:Nat->List AV)(hch:ch 0=mgC r)(j:Nat)(_hj:j<k+1):apF k (wag g) ch j=wag (MG.put g k r) j:=by
 unfold apF wag MG.put
 by_cases h:j<k
 ·rw[if_pos h,if_pos h]
 ·have:j=k:=by omega
  rw[if_neg h,if_neg h,this,Nat.sub_self,hch];rfl
theorem w00(hP:C.P=Tryz.prog)(n:Nat)(v:Nat->Int)(a N:Int):waj C 1 19 (wam Tryz.f59 3) (wn6 n v a N):=by
 rintro st Q ⟨h0,hN,ha,hQ⟩;refine AWP.ownNil 5 40 15 ?_
 refine waj.mk (prg hP) [(36,.rel whl)] 0 (.cons (wtw hP) .nil) [0,5,9,10] [5] [] (wl9 n v N) (λi=>(i.c:Int)<=N/\(a<=i.a/\i.a<=a+10 * i.c)/\∀j,j<i.c->(i.g j).Made) (λi=>N.toNat - i.c) ⟨0,λ_=>default,a⟩
  ⟨hN.1,by show a<=a/\a<=a+10 * ((0:Nat):Int);omega,λj hj=>absurd hj (nZ7 j)⟩ h0 (λi hi=>?_) (λi=>⟨λ_ _=>rfl,trivial⟩)
 obtain⟨h1,h2,h3⟩:=hi;rw[wzl];refine wak (λq=>?_) (λq=>⟨λ_ _=>rfl,_,wal _,hQ i (by omega) h2 h3⟩);refine⟨rfl,rfl,rfl,by omega,λm a' hm ha'=>⟨⟨by omega,rfl,by omega⟩,⟨⟨lR7 _,rfl⟩,lR7 _,rfl,rfl,rfl,by omega,?_⟩,by simp only[inR];omega,⟨i.c+1,MG.put i.g i.c m,a'⟩,⟨rfl,rfl,⟨rfl,rfl,rfl,rfl,rfl,λj hj=>?_⟩,trivial⟩,⟨?_,?_,λj hj=>?_⟩,?_⟩⟩
 ·show (i.c+1) * 176<=_;omega
 ·exact mput_ap i.g i.c m _ rfl j hj
 ·show ((i.c+1:Nat):Int)<=N;omega
 ·show a<=a'/\a'<=a+10 * ((i.c+1:Nat):Int);omega
 ·show (MG.put i.g i.c m j).Made;unfold MG.put
  by_cases h:j<i.c
  ·rw[if_pos h];exact h3 j h
  ·rw[if_neg h];exact hm
 ·show N.toNat - (i.c+1)<N.toNat - i.c;omega
theorem msgs_ok(hP:C.P=Tryz.prog):wa4 C 59 wno:=by
 rintro args objs R h;unfold wno at h;split at h
 ·rename_i most sz n f a t;obtain⟨rfl,rfl,hf,ha,hm,hR⟩:=h;rw[hf] at hR ⊢;generalize vInt f=v at *;have hw:vInt (wab v)=v:=rfl;refine wa4.wpL (prg hP) [(36,.rel whl),(42,.det wa7)] [(3,wn6 n v (a+1) (waa n v a (most+1)))] 0 (.cons (wtw hP) (.cons (wb0 hP) .nil)) (hP ▸ Tryz.func59) rfl rfl rfl [(wam Tryz.f59 3,wn6 n v (a+1) (waa n v a (most+1)))] (by kernel_rfl) ⟨w00 hP _ _ _ _,trivial⟩ ?_;rw[nf_msgs,hw];have r:=was (show (1:Int)<=most+1 by omega) n v a;exact⟨by simp only[inR];omega,⟨rfl,rfl,rfl,⟨by omega,by omega⟩,by omega,by omega⟩,⟨rfl,rfl,⟨rfl,rfl,rfl,rfl,rfl,λi hi=>absurd hi (nZ7 i)⟩,trivial⟩,⟨by omega,by omega⟩,⟨by omega,by omega⟩,λi h1 h2 h3=>⟨λ_ _=>rfl,_,wal _,hR i.c i.g i.a (by omega) ⟨by omega,by omega⟩ h3⟩⟩
 ·exact h.elim
end Go.Eng
