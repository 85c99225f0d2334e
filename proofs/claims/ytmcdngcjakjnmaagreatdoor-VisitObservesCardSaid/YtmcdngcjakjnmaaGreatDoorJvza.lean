/- Whole numbers as ratios; searching in a sorted list of slots. -/
import Derived.Test.YtmcdngcjakjnmaaGreatDoorJvz
namespace Go.Eng
open Go.Proofs Go.RowKit
variable {C:Ctx} [C.Loose]
set_option maxRecDepth 20000
theorem nf_open(g:Nat->MG)(n:Nat)(K:List (List UInt8×Int))(Kb:List ((List UInt8×Int)×Bool))(M:List MG)(B:List (SL×List MG))(R:oR7):wpFn te [(75,.det wn5),(76,.det wfk),(43,.rel wh2)] [(4,L_oa g n K),(9,L_ob Kb M),(15,L_od B)] 0 Tryz.f38 [.view 15 n (waa g)] [] R=(letI z9:=([(3,.ptr 0 0),(54,.ptr 1 0),(2,.ptr 2 0)]:tL7);letI z8:=ren 0 [(0,0),(3,1),(1,2),(2,3),(4,4)];letI z4:=mgOf (waa g);letI z7:=mrgL z4 n noM 0;letI z5:=(n<=100000/\waa g=waa z4/\∀(i:Nat),i<n->MG.Sm (mgOf (waa g) i));letI z3:=ren 0 [(0,0),(1,1),(4,2),(2,3),(3,4)];letI z2:=entG keyS vwM (wal (mnL Kb M M.length));letI z1:=(List.map (λ(p:AV×AV)=>(AV.rn (ren 0 [(2,0),(4,1),(0,2),(1,3)]) p.1,AV.rn (ren 0 [(2,0),(4,1),(0,2),(1,3)]) p.2)) []);letI z0:=(OI.mk 0 (λ(_x:Nat)=>default) B.length (List.range B.length));z5/\some (St.mk [(0,.view 15 n (waa g)),(3,.ptr 0 0),(4,.map 1),(15,.view 2 (wcc z4 n).length (wch (atK (wcc z4 n)))),(16,.q (↑(wcc z4 n).length:Int)),(17,.q 0),(2,.ptr 2 0)] [(0,.cells [.map 3,.nil] 72),(1,.amap z1),(2,.cells [.nilmap,.nil] 72),(3,.amap z1)] 4 [])=some (St.mk [(0,.view 15 n (waa g)),(3,.ptr 0 0),(4,.map 1),(15,.view 2 K.length (wch (atK K))),(16,.q (K.length:Int)),(17,.q (↑0:Int)),(2,.ptr 2 0)] [(0,.cells [.map 3,.nil] 72),(1,.amap (entG keyD .bool (ckL K 0))),(2,.cells [.nilmap,.nil] 72),(3,.amap [])] 4 [])/\K.length<=100000/\z5/\(∀(i:Nat),i<z7.length->true=true)/\(TEq [(3,.ptr 0 0),(4,.map 1),(25,.own 2 z7.length),(26,.q (z7.length:Int)),(27,.q 0),(2,.ptr 3 0)] [(3,.ptr 0 0),(4,.map 1),(25,.own 2 M.length),(26,.q (M.length:Int)),(27,.q 0),(2,.ptr 3 0)]/\wac [(0,.cells [.map 4,.nil] 72),(1,.amap (List.map (λ(p:AV×AV)=>(AV.rn z3 p.1,AV.rn z3 p.2)) (entG keyD .bool (ckL K K.length)))),(2,.row 47 15 z7.length (waa (atM z7)) false),(3,.cells [.nilmap,.nil] 72),(4,.amap (List.map (λ(p:AV×AV)=>(AV.rn z3 p.1,AV.rn z3 p.2)) []))] [(0,.cells [.map 4,.nil] 72),(1,.amap (entG keyD .bool Kb)),(2,.row 47 15 M.length (waa (atM M)) false),(3,.cells [.nilmap,.nil] 72),(4,.amap [])])/\M.length<=100000/\List.Nodup (List.map Prod.fst Kb)/\(TEq z9 z9/\wac [(0,.cells [.map 3,.own 4 0] 72),(1,.miter 3 z2.length (69::z2.length::List.range z2.length)),(2,.cells [.nilmap,.nil] 72),(3,.amap (List.map (λ(p:AV×AV)=>(AV.rn z8 p.1,AV.rn z8 p.2)) z2)),(4,.row 78 3 0 (λ(_x:Nat)=>[]) false)] [(0,.cells [.map 3,.own 4 0] 72),(1,.miter 3 B.length (69::OI.c0 z0::OI.left z0)),(2,.cells [.nilmap,.nil] 72),(3,.amap (entG keyS vwM B)),(4,.row 78 3 0 (wau (OI.h z0)) false)])/\B.length<=100000/\(∀(x:SL×List MG),x∈B->x.2.length<=100000)/\∀(E:List (SL×List MG)) (h:Nat->SL) (c:Nat),letI z6:=(∀(i:Nat),i<c->true=true:Prop);List.Perm E B->lst h c=List.map Prod.fst (List.filter (λ(x:SL×List MG)=>hasV x.2) E)->z6/\78=78/\false=false/\c=c/\c<=1000000/\wau h=wau (slOf (wau h))/\∀(h_1:Nat->SL),List.Perm (lst h_1 c) (lst (slOf (wau h)) c)->(∀(i j:Nat),i<j->j<c->¬ordS (h_1 j) (h_1 i)<0)->z6/\(True/\True)/\z6/\∃(O':oL7),wac [(0,.amap (List.map (λ(p:AV×AV)=>(AV.rn (ren 0 [(2,0),(3,1)]) p.1,AV.rn (ren 0 [(2,0),(3,1)]) p.2)) (entG keyS vwM B))),(1,.row 78 3 c (wau h_1) false)] O'/\R (.agg [.map 0,.own 1 c]) O'):=by kernel_rfl
theorem wu2{g:Nat->SL}{L:List SL}{n:Nat}(h:lst g n=L):n=L.length/\∀i,i<n->g i=atS L i:=by
 subst h;refine⟨by simp[lst],λi hi=>?_⟩;simp[atS,lst,hi]
theorem w5r{B:List (SL×List MG)}:∀p∈entG keyS vwM B,nref p.1=true/\nref p.2=true:=λp hp=>by
 obtain⟨x,_,rfl⟩:=List.mem_map.1 hp;exact⟨rfl,rfl⟩
theorem open_ok(hP:C.P=Tryz.prog)(hL:∀w,C.laid w->LaidW w):wad C 38 wm0:=by
 rintro args objs U Os vc h hvc;unfold wm0 at h;split at h<;>cases h;rename_i n f;obtain⟨hn,hf,hs⟩:=hvc;generalize mgOf f=g at *;subst hf;refine waw.frzO 1 (waw.frzMO 0 ?_)
 refine wa8.wpL (prg hP) [(75,.det wn5),(76,.det wfk),(43,.rel wh2)]
  [(4,L_oa g n (wcc g n)),(9,L_ob (ckL (wcc g n) (wcc g n).length) (mrgL g n noM 0)),(15,L_od (wal (wae g n)))] 0 (.cons (w6f hP hL) (.cons (wqt hP hL) (.cons (ws1 hP) .nil))) (hP ▸ Tryz.func38) rfl rfl rfl
  [(wai Tryz.f38 4,L_oa g n (wcc g n)),(wai Tryz.f38 9,L_ob (ckL (wcc g n) (wcc g n).length) (mrgL g n noM 0)),(wai Tryz.f38 15,L_od (wal (wae g n)))] (by kernel_rfl)
  ⟨oa_loop hP g n _,ob_loop hP _ _,od_loop hP _,trivial⟩ ?_
 rw[nf_open];have hg:mgOf (waa g)=g:=rfl;have hcl:(wcc g n).length<=n:=Nat.le_trans (wlw _ _) (wfu g n noM 0);have hml:(mrgL g n noM 0).length<=n:=wfu g n noM 0;have hrl:=wdn g n;have hbl:=ww4 (wae g n);have hlen:(entG keyS vwM (wal (wae g n))).length=(wal (wae g n)).length:=by simp[entG]
 rw[hg,w3v,hlen];refine⟨⟨hn,rfl,hs⟩,rfl,by omega,⟨hn,rfl,hs⟩,λ_ _=>rfl,⟨rfl,rfl,?_,rQ7,rfl,rfl,trivial⟩,by omega,wr6 _ _,⟨rfl,rfl,rfl,rfl,?_,⟨rfl,rfl,rfl,rfl,rfl,λi hi=>absurd hi (nZ7 i)⟩,trivial⟩,by omega,
  λx hx=>Nat.le_trans (ww3 hx).2 (by omega),λE h c hE hh=>⟨λ_ _=>rfl,rfl,rfl,rfl,?_,rfl,λh1 hp hsort=>⟨λ_ _=>rfl,⟨trivial,trivial⟩,λ_ _=>rfl,?_⟩⟩⟩
 ·rw[wdz]
 ·rw[wi9]
 ·have h1:=congrArg List.length hh;have h2:=List.length_filter_le (λx:SL×List MG=>hasV x.2) E;have h3:=hE.length_eq;simp[lst] at h1 h2;omega
 ·have hp:(lst h1 c).Perm (lst h c):=hp;rw[hh] at hp;have hV:=wxz hE hp (wt5 λi j hij hj=>hsort i j hij hj);obtain⟨hc,hat⟩:=wu2 hV;rw[wi9];refine⟨[(0,.amap (entG keyS vwM (wal (wae g n)))),(1,.row 78 3 c (wau (atS (visL (wae g n)))) false)],⟨rfl,⟨rfl,rfl,rfl,rfl,rfl,λi hi=>?_⟩,trivial⟩,w5r,λ_ _=>rfl,?_⟩
  ·unfold wau;rw[hat i hi]
  ·have hb:Nat.ble c c=true:=Nat.ble_eq_true_of_le (lR7 _);rw[hc] at hb ⊢
   constructor
   ·simp[frzMA,frzM,frzC,frzA,frz,hb,hlen]
   ·rfl
theorem nf_res(R:List MG)(o p:List UInt8)(per:Int)(nv:Nat)(fv:Nat->List AV)(Q:AV->oL7->Prop):wpFn te [(29,.det wff)] [] 0 Tryz.f39 [.agg [.vmap (wal R).length (entF (entG keyS vwM (wal R))),.view 3 nv fv],.agg [.str o,.str p,.q per]] [] Q=(letI z2:=wf4 (wal R).length (entF (entG keyS vwM (wal R)));letI z3:=mget z2 (.agg [.str o,.str p,.q per]);letI z0:=Option.getD z3 (.view 15 0 nof);letI z1:=(resF (mgOf (vF z0)) (vN z0) o p per).1;(wa9 te 78 z2/\.view 15 (vN z0) (vF z0)=Option.getD z3 (.view 15 0 nof))/\(vN z0<=100000/\vF z0=waa (mgOf (vF z0))/\∀(i:Nat),i<vN z0->MG.Sm (mgOf (vF z0) i))/\(True/\True)/\Q (.tuple [.agg [.str z1.o,.str z1.p,.q z1.per,.q z1.day,.q z1.st,.q z1.pr,.str z1.rep],.q (resF (mgOf (vF z0)) (vN z0) o p per).2]) []):=by kernel_rfl
theorem wvy:∀ {B:List (SL×List MG)} {s:SL},s∈B.map Prod.fst->getA B s=some (getB B s)
 |[],_,h=>by simp at h
 |x::B,s,h=>by
  rw[getA,getB]
  by_cases q:x.1=s
  ·rw[decide_eq_true q];rfl
  ·rw[decide_eq_false q,cond_false,cond_false];rw[List.map_cons,List.mem_cons] at h;exact wvy (h.resolve_left λe=>q e.symm)
theorem vis_key{R:List MG}{s:SL}(h:s∈visL R):s∈(wal R).map Prod.fst:=by
 obtain⟨m,hm,hk,e⟩:=wgk.1 h;refine(wra s R).2 ⟨m,hm,?_⟩;rw[← e,whr,decide_eq_false (by omega)];rfl
theorem entsV_S(B:List (SL×List MG)):wf4 B.length (entF (entG keyS vwM B))=entG keyS vwM B:=by
 have:(entG keyS vwM B).length=B.length:=by simp[entG]
 rw[← this];exact entsV_F _
theorem res_ok(hP:C.P=Tryz.prog)(hL:∀w,C.laid w->LaidW w)(R:List MG):wad C 39 (wmt R):=by
 rintro args objs U Os vc h hvc;unfold wmt at h;split at h<;>cases h;rename_i nb fb nv fv o p per;obtain⟨rfl,rfl,hB,hs⟩:=hvc;refine wad.wp0 (prg hP) [(29,.det wff)] 0 (.cons (wze hP hL) .nil) (hP ▸ Tryz.func39) rfl rfl rfl ?_;have hm:mget (entG keyS vwM (wal R)) (.agg [.str o,.str p,.q per])=some (vwM (getB (wal R) ⟨o,p,per⟩)):=by
  have e:=wgt (vv:=vwM) wfz ⟨o,p,per⟩ (wal R);rw[wvy (vis_key hs)] at e;exact e
 have hr:=wzf hB.right ⟨o,p,per⟩;have hGR:∀m∈getB (wal R) ⟨o,p,per⟩,m∈R:=λm h=>by
  rw[wlb] at h;exact(List.mem_filter.1 h).1
 have hGl:(getB (wal R) ⟨o,p,per⟩).length<=R.length:=by
  rw[wlb];exact List.length_filter_le _ _
 have hlen:=hB.len;rw[nf_res,entsV_S,hm];generalize getB (wal R) ⟨o,p,per⟩=G at *;refine⟨⟨wi8 (λ_ _=>wiw) wkz (wkh R),rfl⟩,⟨?_,rfl,λi hi=>?_⟩,⟨trivial,trivial⟩,?_,rfl⟩
 ·show G.length<=100000;omega
 ·exact hB.sm _ (hGR _ (wgb hi))
 ·have hr:resF (atM G) G.length o p per=resB R ⟨o,p,per⟩:=hr;rw[← hr];rfl
theorem wgm{α:Type}(enc:α->List AV)(d:α)(L:List α)(m:α)(ch:Nat->List AV)(hch:ch 0=enc m)(j:Nat)(hj:j<L.length+1):apF L.length (λi=>enc (L.getD i d)) ch j=enc ((L++[m]).getD j d):=by
 unfold apF
 by_cases h:j<L.length
 ·rw[if_pos h];show enc (L.getD j d)=_;rw[List.getD_eq_getElem?_getD,List.getD_eq_getElem?_getD,List.getElem?_append_left h]
 ·have:j=L.length:=by omega
  subst this;rw[if_neg h,Nat.sub_self,hch,List.getD_eq_getElem?_getD,List.getElem?_append_right (lR7 _),Nat.sub_self];rfl
theorem book_ok{g:Nat->MG}{n:Nat}(hn:n<=100000)(hs:∀i,i<n->(g i).Sm):BkOK (wae g n):=by
 refine⟨wtu g n,Nat.le_trans (wdn g n) hn,λm hm=>?_⟩;have h1:=(wqu.1 (List.mem_filter.1 hm).1).1
 rcases List.mem_append.1 h1 with h | h
 ·obtain⟨i,hi,rfl⟩:=List.mem_map.1 h;exact hs i (List.mem_range.1 hi)
 ·simp[lst] at h
theorem w10(g:Nat->Int)(n k:Nat)(P:Nat->Prop)(Q:eR7):wat ⟨te,[],[],1,21,0⟩ (wav Tryz.f150 1) [0] [0] [] (whu g n) P Q (whu g n k)=(letI z1:=([(0,.row 124 1 n (uRow g) false)]:oL7);letI z0:=((∀(i:Nat),i<n->true=true)/\∃(O':oL7),wac z1 O'/\Q (.exit 0) (St.mk [(0,.own 0 k)] O' 1 []):Prop);wab (decide ((0:Int)<(k:Int))) (inR .i64 ((k:Int) - (1:Int))/\((0:Int)<=(k:Int) - (1:Int)/\(k:Int) - (1:Int)<(k:Int))/\(((k:Int) - (1:Int)).toNat<n/\1=1)/\wab (decide (g ((k:Int) - (1:Int)).toNat=0)) (inR .i64 ((k:Int) - (1:Int))/\((0:Int)<=(k:Int) - (1:Int)/\(k:Int) - (1:Int)<=(k:Int))/\∃(i':Nat),(TEq [(0,.own 0 ((k:Int) - (1:Int)).toNat)] [(0,.own 0 i')]/\wac z1 z1)/\P i') z0) z0):=by kernel_rfl
theorem nf_low(f:Nat->List AV)(n:Nat)(Q:AV->oL7->Prop):wpFn te [] [(1,wpd (uOf f) n)] 0 Tryz.f150 [.own 0 n] [.row 124 1 n f false] Q=((TEq [(0,.own 0 n)] [(0,.own 0 n)]/\wac [(0,.row 124 1 n f false)] [(0,.row 124 1 n (uRow (uOf f)) false)])/\n<=1000/\(∀(i:Nat),i<n->true=true)/\∃(O':oL7),wac [(0,.row 124 1 n (uRow (uOf f)) false)] O'/\Q (.own 0 (lowI (uOf f) n)) O'):=by kernel_rfl
theorem w1p(f:Nat->List AV)(n:Nat)(Q:AV->oL7->Prop):wpFn te [(150,.det wnb)] [] 0 Tryz.f130 [.own 0 n] [.row 124 1 n f false] Q=(letI z0:=(∀(i:Nat),i<n->nrefL (f i)=true:Prop);z0/\(124=124/\false=false/\n=n/\n<=1000/\∀(i:Nat),i<n->f i=[.int .u32 (uOf f i)])/\z0/\((lowI (uOf f) n<=n/\1=1)/\1=1/\lowI (uOf f) n<=9223372036854775807/\lowI (uOf f) n * 4<=140737488355328)/\z0/\(∀(i:Nat),i<lowI (uOf f) n->nrefL (f i)=true)/\∃(O':oL7),wac [(0,.row 124 1 n f false),(1,.row 124 1 (lowI (uOf f) n) f false)] O'/\Q (.own 1 (lowI (uOf f) n)) O'):=by kernel_rfl
theorem w2h(v:Int)(Q:AV->oL7->Prop):wpFn te [(130,.det wfh)] [] 0 Tryz.f112 [.int .u64 v] [] Q=(letI z4:=IntKind.wrap IntKind.u32 v;letI z3:=(List.flatten (List.replicate (nat_lit 0) [.int .u32 0]):List AV);letI z2:=(IntKind.wrap IntKind.u32 (v / (2:Int) ^ (32:Int).toNat));letI z1:=(∀(i:Nat),i<2->nrefL (war 1 (.int .u32 z4:: .int .u32 z2::List.append [] z3) i)=true:Prop);letI z0:=(war 1 (.int .u32 z4:: .int .u32 z2::List.append [] z3));True/\((0:Int)<=32/\(32:Int)<=(↑(IntKind.bits IntKind.u64):Int))/\True/\(2<=16777216/\1=1/\2<=9223372036854775807)/\z1/\(124=124/\false=false/\2=2/\2<=1000/\∀(i:Nat),i<2->war 1 (.int .u32 z4:: .int .u32 z2::List.append [] z3) i=[.int .u32 (uOf z0 i)])/\z1/\Q (.view 1 (lowI (uOf z0) 2) (uRow (uOf z0))) []):=by kernel_rfl
theorem nf_size(v:Int)(Q:AV->oL7->Prop):wpFn te [(112,.det wfl)] [] 0 Tryz.f84 [.q v] [] Q=(wab (decide (v<0)) (True/\inR .u64 ((0:Int) - IntKind.wrap IntKind.u64 v)/\((0:Int)<=0 - IntKind.wrap IntKind.u64 v/\(0:Int) - IntKind.wrap IntKind.u64 v<18446744073709551616)/\Q (.view 1 (lmN ((0:Int) - IntKind.wrap IntKind.u64 v)) (uRow (lmF ((0:Int) - IntKind.wrap IntKind.u64 v)))) []) (True/\((0:Int)<=IntKind.wrap IntKind.u64 v/\IntKind.wrap IntKind.u64 v<18446744073709551616)/\Q (.view 1 (lmN (IntKind.wrap IntKind.u64 v)) (uRow (lmF (IntKind.wrap IntKind.u64 v)))) [])):=by kernel_rfl
theorem w2i(v:Int)(Q:AV->oL7->Prop):wpFn te [(84,.det wfd)] [] 0 Tryz.f44 [.q v] [] Q=(((0:Int)<=v/\v<9223372036854775808)/\(True/\True)/\Q (.agg [.bool (decide (v<0)),.view 1 (lmN v) (uRow (lmF v)),.nil]) []):=by kernel_rfl
theorem w29(g:Nat->SL)(s:SL)(n:Nat)(i:BI)(P:BI->Prop)(Q:eR7):wat ⟨te,[(42,.det whg)],[],0,49,0⟩ (wav Tryz.f41 3) [0,2,4,8,9,10] [0,2,4,8,9] [] (woc g s n) P Q (woc g s n i)=(letI z2:=(↑(BI.a i):Int);letI z3:=(z2+(↑(BI.b i):Int));letI z4:=(IntKind.wrap IntKind.u64 z3 / (2:Int) ^ (1:Int).toNat+1);letI z1:=([(0,.cells [.str (SL.o s),.str (SL.p s),.q (SL.per s)] 78)]:oL7);letI z0:=(IntKind.wrap IntKind.u64 z3 / (2:Int) ^ (1:Int).toNat);wab (decide (z2<(↑(BI.b i):Int))) (inR .i64 z3/\True/\((0:Int)<=1/\(1:Int)<=(↑(IntKind.bits IntKind.u64):Int))/\inR .i64 z0/\((0:Int)<=IntKind.wrap IntKind.u64 z3 / (2:Int) ^ (1:Int).toNat/\IntKind.wrap IntKind.u64 z3 / (2:Int) ^ (1:Int).toNat<(n:Int)/\3=3)/\True/\wab (decide (ordS (SL.mk (SL.o (g z0.toNat)) (SL.p (g z0.toNat)) (SL.per (g z0.toNat))) (SL.mk (SL.o s) (SL.p s) (SL.per s))<0)) (inR .i64 z4/\∃(i':BI),some (St.mk [(0,.view 3 n (wau g)),(2,.func 42 []),(4,.ptr 0 0),(8,.q (n:Int)),(9,.q z4),(10,.q (↑(BI.b i):Int))] z1 1 [])=some (St.mk [(0,.view 3 n (wau g)),(2,.func 42 []),(4,.ptr 0 0),(8,.q (n:Int)),(9,.q (↑(BI.a i'):Int)),(10,.q (↑(BI.b i'):Int))] z1 1 [])/\P i') (∃(i':BI),some (St.mk [(0,.view 3 n (wau g)),(2,.func 42 []),(4,.ptr 0 0),(8,.q (n:Int)),(9,.q z2),(10,.q z0)] z1 1 [])=some (St.mk [(0,.view 3 n (wau g)),(2,.func 42 []),(4,.ptr 0 0),(8,.q (n:Int)),(9,.q (↑(BI.a i'):Int)),(10,.q (↑(BI.b i'):Int))] z1 1 [])/\P i')) (Q (.exit 0) (St.mk [(0,.view 3 n (wau g)),(2,.func 42 []),(4,.ptr 0 0),(8,.q (n:Int)),(9,.q z2)] z1 1 []))):=by kernel_rfl
theorem nf_bs(g:Nat->SL)(s:SL)(n:Nat)(Q:AV->oL7->Prop):wpFn te [(42,.det whg)] [(3,L_bs g s n)] 0 Tryz.f41 [.view 3 n (wau g),.agg [.str s.o,.str s.p,.q s.per],.func 42 []] [] Q=(letI z1:=([(0,.cells [.str (SL.o s),.str (SL.p s),.q (SL.per s)] 78)]:oL7);letI z0:=(↑(bsF g s n):Int);some (St.mk [(0,.view 3 n (wau g)),(2,.func 42 []),(4,.ptr 0 0),(8,.q (n:Int)),(9,.q 0),(10,.q (n:Int))] z1 1 [])=some (St.mk [(0,.view 3 n (wau g)),(2,.func 42 []),(4,.ptr 0 0),(8,.q (n:Int)),(9,.q (↑(BI.a (BI.mk 0 n)):Int)),(10,.q (↑(BI.b (BI.mk 0 n)):Int))] z1 1 [])/\n<=1000000/\(∀(i j:Nat),i<j->j<n->ordS (g i) (g j)<0)/\wab (decide (z0<(n:Int))) (((0:Int)<=z0/\z0<(n:Int)/\3=3)/\True/\Q (.tuple [.q z0,.bool (decide (ordS (SL.mk (SL.o (g z0.toNat)) (SL.p (g z0.toNat)) (SL.per (g z0.toNat))) (SL.mk (SL.o s) (SL.p s) (SL.per s))=0))]) []) (Q (.tuple [.q z0,.bool false]) [])):=by kernel_rfl
theorem wks(g:Nat->Int):∀n,lowI g n<=n
 |0=>lR7 _
 |k+1=>by
  have:=wks g k;rw[lowI]
  cases decide (g k=0) with
  |true=>rw[cond_true];omega
  |false=>rw[cond_false];omega
theorem wq0{g:Nat->Int}{k:Nat}:∀ {n},k<=n->(∀i,k<=i->i<n->g i=0)->lowI g n=lowI g k
 |0,hk,_=>by rw[show k=0 by omega]
 |n+1,hk,h=>by
  by_cases q:k=n+1
  ·rw[q]
  ·rw[lowI,decide_eq_true (h n (by omega) (by omega)),cond_true];exact wq0 (by omega) λi h1 h2=>h i h1 (by omega)
theorem w37(hP:C.P=Tryz.prog)(g:Nat->Int)(n:Nat):wah C 1 21 (wai Tryz.f150 1) (wpd g n):=by
 have _:C.Loose:=inferInstance;rintro st Q ⟨h0,hn,hQ⟩;refine wah.mk (prg hP) [] 0 .nil [0] [0] [] (whu g n) (λk=>k<=n/\∀i,k<=i->i<n->g i=0) (λk=>k) n ⟨lR7 _,λi h1 h2=>absurd h2 (by omega)⟩ h0 (λk hk=>?_) (λi=>⟨λ_ _=>rfl,trivial⟩);obtain⟨hkn,hz⟩:=hk;have hQ':lowI g n=k->Q (.exit 0) ⟨[(0,.own 0 k)],[(0,.row 124 1 n (uRow g) false)],1,[]⟩:=λh=>by
  have hQ:Q (.exit 0) (whu g n (lowI g n)):=hQ;rw[h] at hQ;exact hQ
 rw[w10];have e1:((k:Int) - 1).toNat=k - 1:=by omega
 rw[e1];refine wag (λh1=>⟨by simp only[inR];omega,⟨by omega,by omega⟩,⟨by omega,rfl⟩,wag (λh2=>⟨by simp only[inR];omega,⟨by omega,by omega⟩,k - 1,⟨rfl,waz _⟩,⟨by omega,λi h3 h4=>?_⟩,by omega⟩) (λh2=>⟨λ_ _=>rfl,_,waz _,hQ' ?_⟩)⟩) (λh1=>⟨λ_ _=>rfl,_,waz _,hQ' ?_⟩)
 ·by_cases q:i=k - 1
  ·rw[q];exact h2
  ·exact hz i (by omega) h4
 ·rw[wq0 hkn hz];obtain⟨j,rfl⟩:∃j,k=j+1:=⟨k - 1,by omega⟩;rw[lowI,decide_eq_false (by rw[Nat.add_sub_cancel] at h2;exact h2)];rfl
 ·rw[wq0 hkn hz,show k=0 by omega];rfl
theorem low_ok(hP:C.P=Tryz.prog):wad C 150 wnb:=by
 rintro args objs U Os vc h hvc;unfold wnb at h;split at h<;>cases h;rename_i n t m f fr;obtain⟨rfl,rfl,rfl,hn,hf⟩:=hvc;refine wad.wpL (prg hP) [] [(1,wpd (uOf f) n)] 0 .nil (hP ▸ Tryz.func150) rfl rfl rfl [(wai Tryz.f150 1,wpd (uOf f) n)] (by kernel_rfl) ⟨w37 hP _ n,trivial⟩ ?_;rw[nf_low];have hrow:wac [(0,AObj.row 124 1 n (uRow (uOf f)) false)] [(0,.row 124 1 n f false)]:=⟨⟨rfl,rfl,rfl,rfl,rfl,λi hi=>(hf i hi).symm⟩,trivial⟩;exact⟨⟨rfl,⟨rfl,rfl,rfl,rfl,rfl,hf⟩,trivial⟩,hn,λ_ _=>rfl,_,hrow,rfl,rfl⟩
theorem wz2(hP:C.P=Tryz.prog):wad C 130 wfh:=by
 rintro args objs U Os vc h hvc;unfold wfh at h;split at h<;>cases h;rename_i n t m f fr;obtain⟨rfl,rfl,rfl,hn,hf⟩:=hvc;refine waw.frzO 1 ?_;refine wa8.wpL (prg hP) [(150,.det wnb)] [] 0 (.cons (low_ok hP) .nil) (hP ▸ Tryz.func130) rfl rfl rfl [] (wcv _) trivial ?_;rw[w1p];have hle:=wks (uOf f) n;have hnr:∀i,i<n->nrefL (f i)=true:=λi hi=>by rw[hf i hi];rfl
 refine⟨hnr,⟨rfl,rfl,rfl,hn,hf⟩,hnr,⟨⟨hle,rfl⟩,rfl,by omega,by omega⟩,hnr,λi hi=>hnr i (by omega),[(0,.row 124 1 n f false),(1,.row 124 1 (lowI (uOf f) n) (uRow (uOf f)) false)],⟨rQ7,⟨rfl,rfl,rfl,rfl,rfl,λi hi=>hf i (by omega)⟩,trivial⟩,λ_ _=>rfl,?_⟩;generalize lowI (uOf f) n=c at *;have hb:Nat.ble c c=true:=Nat.ble_eq_true_of_le (lR7 _)
 constructor
 ·simp[frzC,frzA,frz,hb]
 ·rfl
theorem w5b(hP:C.P=Tryz.prog):wad C 112 wfl:=by
 rintro args objs U Os vc h hvc;unfold wfl at h;split at h<;>cases h;rename_i v;obtain⟨h0,h1⟩:=hvc;refine wad.wp0 (prg hP) [(130,.det wfh)] 0 (.cons (wz2 hP) .nil) (hP ▸ Tryz.func112) rfl rfl rfl ?_;rw[w2h];have w1:IntKind.wrap .u32 v=v % 4294967296:=rfl;have w2:IntKind.wrap .u32 (v / (2:Int) ^ Int.toNat (32:Int))=v / 4294967296:=by
  show (v / 4294967296) % 4294967296=v / 4294967296;omega
 rw[w1,w2];have e:uOf (war 1 (.int .u32 (v % 4294967296):: .int .u32 (v / 4294967296)::List.append [] (List.flatten (List.replicate 0 [.int .u32 0]))))=lmF v:=by
  funext i
  match i with
  |0=>rfl
  |1=>rfl
  |i+2=>simp[uOf,war,lmF,weg,wdv]
 have two:∀ {p:Nat->Prop},p 0->p 1->∀i,i<2->p i:=λh0 h1 i hi=>by
  match i,hi with
  |0,_=>exact h0
  |1,_=>exact h1
 refine⟨trivial,⟨by decide,by decide⟩,trivial,⟨by omega,rfl,by omega⟩,two rfl rfl,⟨rfl,rfl,rfl,by omega,two rfl rfl⟩,two rfl rfl,?_,rfl⟩;show AV.view 1 (lowI (uOf _) 2) (uRow (uOf _))=_;rw[e];rfl
theorem size_ok(hP:C.P=Tryz.prog):wad C 84 wfd:=by
 rintro args objs U Os vc h hvc;unfold wfd at h;split at h<;>cases h;rename_i v;obtain⟨h0,h1⟩:=hvc;refine wad.wp0 (prg hP) [(112,.det wfl)] 0 (.cons (w5b hP) .nil) (hP ▸ Tryz.func84) rfl rfl rfl ?_;rw[nf_size];have w:IntKind.wrap .u64 v=v:=by
  show v % 18446744073709551616=v;omega
 rw[w];exact wag (λh=>absurd h (by omega)) (λ_=>⟨trivial,⟨h0,by omega⟩,rfl,rfl⟩)
theorem w5c(hP:C.P=Tryz.prog):wad C 44 wea:=by
 rintro args objs U Os vc h hvc;unfold wea at h;split at h<;>cases h;rename_i v;obtain⟨h0,h1⟩:=hvc;refine wad.wp0 (prg hP) [(84,.det wfd)] 0 (.cons (size_ok hP) .nil) (hP ▸ Tryz.func44) rfl rfl rfl ?_;rw[w2i,decide_eq_false (show ¬ v<0 by omega)];exact⟨⟨h0,h1⟩,⟨trivial,trivial⟩,rfl,rfl⟩
theorem bsF_at{g:Nat->SL}{s:SL}{n a:Nat}(ha:a<=n)(h1:∀i,i<a->ordS (g i) s<0)(h2:a<n->¬ ordS (g a) s<0):bsF g s n=a:=by
 unfold bsF;obtain⟨f1,f2⟩:=wg0 (λi=> !decide (ordS (g i) s<0)) n;have f3:=wg1 (λi=> !decide (ordS (g i) s<0)) n;generalize fstB (λi=> !decide (ordS (g i) s<0)) n=p at *
 rcases Nat.lt_trichotomy p a with h | h | h
 ·have q:=f2 (by omega);have q:(!decide (ordS (g p) s<0))=true:=q;rw[decide_eq_true (h1 p h)] at q;cases q
 ·exact h
 ·have q:=f1 a h;have q:(!decide (ordS (g a) s<0))=false:=q;rw[decide_eq_false (h2 (by omega))] at q;cases q
theorem bs_loop(hP:C.P=Tryz.prog)(g:Nat->SL)(s:SL)(n:Nat):wah C 0 49 (wai Tryz.f41 3) (L_bs g s n):=by
 have _:C.Loose:=inferInstance;rintro st Q ⟨h0,hn,hs,hQ⟩;refine wah.mk (prg hP) [(42,.det whg)] 0 (.cons (wp6 hP) .nil) [0,2,4,8,9,10] [0,2,4,8,9] [] (woc g s n) (λi=>i.a<=i.b/\i.b<=n/\(∀k,k<i.a->ordS (g k) s<0)/\∀k,i.b<=k->k<n->¬ ordS (g k) s<0) (λi=>i.b - i.a) ⟨0,n⟩ ⟨zL7 _,lR7 _,λk h=>absurd h (nZ7 k),λk h1 h2=>absurd h2 (by have h1:n<=k:=h1;omega)⟩ h0 (λi hi=>?_);obtain⟨a,b⟩:=i;obtain⟨hab,hbn,hlo,hhi⟩:=hi;have hab:a<=b:=hab;have hbn:b<=n:=hbn;have hlo:∀k,k<a->ordS (g k) s<0:=hlo;have hhi:∀k,b<=k->k<n->¬ ordS (g k) s<0:=hhi;rw[w29];show wab (decide ((a:Int)<(b:Int))) _ _;have hm:IntKind.wrap .u64 ((a:Int)+(b:Int)) / (2:Int) ^ Int.toNat (1:Int)=(((a+b) / 2:Nat):Int):=by
  show ((a:Int)+(b:Int)) % 18446744073709551616 / 2=_;omega
 show wab _ (_/\_/\_/\inR .i64 (IntKind.wrap .u64 ((a:Int)+(b:Int)) / (2:Int) ^ Int.toNat (1:Int))/\_) _;rw[hm,tN7];have up:∀i j,i<=j->j<n->¬ ordS (g i) s<0->¬ ordS (g j) s<0:=λi j hij hj h q=>by
  rcases Nat.lt_or_ge i j with w | w
  ·exact h (wb0.lt_trans (hs i j w hj) q)
  ·have:i=j:=by omega
   subst this;exact h q
 refine wag (λh1=>⟨by simp only[inR];show _<=(a:Int)+(b:Int)/\(a:Int)+(b:Int)<=_;omega,trivial,⟨by decide,by decide⟩,by simp only[inR];omega,⟨by omega,by omega,rfl⟩,trivial,wag (λh2=>?_) (λh2=>?_)⟩) (λh1=>?_)
 ·refine⟨by simp only[inR];omega,⟨(a+b) / 2+1,b⟩,rfl,⟨by show (a+b) / 2+1<=b;omega,hbn,λk hk=>?_,hhi⟩,by show b - ((a+b) / 2+1)<b - a;omega⟩;have hk:k<(a+b) / 2+1:=hk
  rcases Nat.lt_or_ge k ((a+b) / 2) with w | w
  ·exact wb0.lt_trans (hs k _ w (by omega)) h2
  ·have:k=(a+b) / 2:=by omega
   subst this;exact h2
 ·exact⟨⟨a,(a+b) / 2⟩,rfl,⟨by show a<=(a+b) / 2;omega,by show (a+b) / 2<=n;omega,hlo,λk hk hkn=>up _ _ hk hkn h2⟩,by show (a+b) / 2 - a<b - a;omega⟩
 ·have e:bsF g s n=a:=bsF_at (by omega) hlo λh=>hhi a (by omega) h;rw[e] at hQ;exact hQ
theorem bs_ok(hP:C.P=Tryz.prog):wad C 41 S_bs:=by
 rintro args objs U Os vc h hvc;unfold S_bs at h;split at h<;>cases h;rename_i n f o p per;obtain⟨hn,hf,hs⟩:=hvc;generalize slOf f=g at *;subst hf;have hnf:=λQ=>nf_bs g ⟨o,p,per⟩ n Q;dsimp only at hnf
 refine wad.wpL (prg hP) [(42,.det whg)] [(3,L_bs g ⟨o,p,per⟩ n)] 0 (.cons (wp6 hP) .nil) (hP ▸ Tryz.func41) rfl rfl rfl
  [(wai Tryz.f41 3,L_bs g ⟨o,p,per⟩ n)] (by kernel_rfl) ⟨bs_loop hP g _ n,trivial⟩ ?_
 rw[hnf];refine⟨rfl,hn,hs,wag (λh=>?_) (λh=>?_)⟩
 ·rw[decide_eq_true (show bsF g ⟨o,p,per⟩ n<n by omega)];exact⟨⟨by omega,h,rfl⟩,trivial,rfl,rfl⟩
 ·rw[decide_eq_false (show ¬ bsF g ⟨o,p,per⟩ n<n by omega)];exact⟨rfl,rfl⟩
theorem w6v{V:List SL}(h:Asc ordS V)(s:SL):(decide (bsF (atS V) s V.length<V.length) && decide (ordS (atS V (bsF (atS V) s V.length)) s=0))=decide (s∈V):=by
 rw[Bool.eq_iff_iff,bA7,decide_eq_true_eq,decide_eq_true_eq,decide_eq_true_eq]
 constructor
 ·rintro⟨h1,h2⟩;rw[← wij.1 h2];exact wfa h1
 ·intro hm;obtain⟨i,hi,rfl⟩:=wgu hm;have e:bsF (atS V) (atS V i) V.length=i:=bsF_at (by omega) (λj hj=>whc h hj hi) λ_=>by rw[wb0.self];omega
  rw[e];exact⟨hi,wb0.self _⟩
end Go.Eng
