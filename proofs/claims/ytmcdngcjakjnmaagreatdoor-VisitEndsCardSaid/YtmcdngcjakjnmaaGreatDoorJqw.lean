/- Resolve's closures, and what looks for them. -/
import Derived.Test.YtmcdngcjakjnmaaGreatDoorJqv
namespace Go.Eng
def keyE(p:List UInt8×List UInt8):AV:=.agg [.str p.1,.str p.2]
def vI(c:Int):AV:=.q c
def entE(L:List ((List UInt8×List UInt8)×Int)):List (AV×AV):=entG keyE vI L
def way(L:List (SL×Int)):List (AV×AV):=entG keyS vI L
def entW(L:List (SL×Bool)):List (AV×AV):=entG keyS .bool L
def S_u1(R:List MG)(k:Nat):St:=⟨[(3,.ptr 0 0),(4,.map 1),(5,.map 2),(6,.map 3),(7,.own 4 (ob1 R (visL R) k).r.length),(35,.view 3 (visL R).length (wao (atS (visL R)))),(36,.q (visL R).length),(37,.q k)],
 [(0,.cells [.vmap (wai R).length (entF (entG keyS vwM (wai R))),.view 3 (visL R).length (wao (atS (visL R)))] 72),(1,.amap (entE (ob1 R (visL R) k).e)),(2,.amap (way (ob1 R (visL R) k).p)),(3,.amap []),(4,.row 43 7 (ob1 R (visL R) k).r.length (wag (atX (ob1 R (visL R) k).r)) false)],5,[]⟩
def L_u1(R:List MG):waq:=λst Q=>canonIs te 0 [3,4,5,6,7,35,36,37] (ownNil 7 43 7 st) (S_u1 R 0)/\BkOK R/\
 Q (.exit 0) ⟨[(3,.ptr 0 0),(4,.map 1),(5,.map 2),(6,.map 3),(7,.own 4 (repL R).length)],
  [(0,.cells [.vmap (wai R).length (entF (entG keyS vwM (wai R))),.view 3 (visL R).length (wao (atS (visL R)))] 72),(1,.amap (entE (obE R))),(2,.amap (way (obW R 0).p)),(3,.amap []),(4,.row 43 7 (repL R).length (wag (atX (repL R))) false)],5,[]⟩
def S_u2(R:List MG)(k:Nat):St:=⟨[(3,.ptr 0 0),(4,.map 1),(5,.map 2),(6,.map 3),(91,.own 4 (repL R).length),(92,.q (repL R).length),(93,.q k)],
 [(0,.cells [.vmap (wai R).length (entF (entG keyS vwM (wai R))),.view 3 (visL R).length (wao (atS (visL R)))] 72),(1,.amap (entE (obE R))),(2,.amap (way (obW R k).p)),(3,.amap (entW (obW R k).w)),(4,.row 43 7 (repL R).length (wag (atX (repL R))) false)],5,[]⟩
def L_u2(R:List MG):waq:=λst Q=>canonIs te 0 [3,4,5,6,91,92,93] st (S_u2 R 0)/\BkOK R/\
 Q (.exit 3) ⟨[(5,.map 0),(6,.map 1)],[(0,.amap (way (obN R).p)),(1,.amap (entW (obN R).w))],2,[]⟩
def S_u3(P:List (SL×Int))(W:List (SL×Bool))(i:OI):St:=⟨[(5,.map 0),(6,.map 1),(24,.own 2 i.c),(152,.ptr 3 0)],
 [(0,.amap (way P)),(1,.amap (entW W)),(2,.row 78 3 i.c (wao i.h) false),(3,.miter 0 P.length (75::i.c0::i.left))],4,[]⟩
def L_u3(P:List (SL×Int))(W:List (SL×Bool)):waq:=λst Q=>canonIs te 0 [5,6,24,152] (ownNil 24 78 3 st) (S_u3 P W ⟨0,λ_=>default,P.length,List.range P.length⟩)/\(P.map Prod.fst).Nodup/\(W.map Prod.fst).Nodup/\P.length<=200000/\
 ∀(E:List (SL×Int)) (h:Nat->SL) (c:Nat),E.Perm P->lst h c=(E.map Prod.fst).filter (λt=> !wrgB W t)->Q (.exit 5) ⟨[(5,.map 0),(24,.own 1 c)],[(0,.amap (way P)),(1,.row 78 3 c (wao h) false)],2,[]⟩
def wdr(L:List SL)(pr:SL->Int)(i:Nat):List AV:=[.str (atS L i).o,.str (atS L i).p,.q (atS L i).per,.bool false,.view 1 (lmN (pr (atS L i))) (uRow (lmF (pr (atS L i)))),.nil]
def S_u4(P:List (SL×Int))(L:List SL)(pr:SL->Int)(k:Nat):St:=⟨[(5,.map 0),(26,.own 1 k),(167,.own 2 L.length),(168,.q L.length),(169,.q k)],
 [(0,.amap (way P)),(1,.row 41 6 k (wdr L pr) false),(2,.row 78 3 L.length (wao (atS L)) false)],3,[]⟩
def L_u4(P:List (SL×Int))(L:List SL)(pr:SL->Int):waq:=λst Q=>canonIs te 0 [5,26,167,168,169] (ownNil 26 41 6 st) (S_u4 P L pr 0)/\(P.map Prod.fst).Nodup/\L.length<=200000/\(∀s∈L,getA P s=some (pr s)/\0<=pr s/\pr s<9223372036854775808)/\
 Q (.exit 7) ⟨[(26,.own 0 L.length)],[(0,.row 41 6 L.length (wdr L pr) false)],1,[]⟩
def S_obs:Spec
 |[.view 15 n f],[]=>some (.view 6 (obL (wak (mgOf f) n)).length (wdr (obL (wak (mgOf f) n)) (obP (wak (mgOf f) n))),[],n<=100000/\f=waa (mgOf f)/\∀i,i<n->(mgOf f i).Sm)
 |_,_=>none
def wl7:Spec
 |[.own 0 n,.int .i64 x],[.row t 1 m f fr]=>some (.q (ixB (λi=>decide (x=vInt f i)) n),[(0,.row 3 1 n (waf (vInt f)) false)],t=3/\fr=false/\n=m/\n<=100000/\f=waf (vInt f))
 |_,_=>none
def wl6(v:Nat->Int)(x:Int)(n k:Nat):St:=⟨[(0,.own 0 n),(1,.q x),(7,.q n),(8,.q k)],[(0,.row 3 1 n (waf v) false)],1,[]⟩
def wnh(v:Nat->Int)(x:Int)(n:Nat):waq:=λst Q=>canonIs te 1 [0,1,7,8] st (wl6 v x n 0)/\n<=100000/\
 wab (decide (fstB (λi=>decide (x=v i)) n<n)) (Q .ret ⟨[(4,.q (fstB (λi=>decide (x=v i)) n))],[(0,.row 3 1 n (waf v) false)],1,[]⟩) (Q (.exit 0) ⟨[],[(0,.row 3 1 n (waf v) false)],1,[]⟩)
def wmb:Spec
 |[.own 0 n,.int .i64 x],[.row t 1 m f fr]=>some (.bool (decide (0<=ixB (λi=>decide (x=vInt f i)) n)),[(0,.row 3 1 n (waf (vInt f)) false)],t=3/\fr=false/\n=m/\n<=100000/\f=waf (vInt f))
 |_,_=>none
def upN(g:Nat->VT)(n:Nat):Nat:=bif decide (fstB (λi=>finB (g i)) n<n) then fstB (λi=>finB (g i)) n+1 else n
def wku:Spec
 |[.view 7 n f],[]=>some (.view 7 (upN (vtOf f) n) (wag (vtOf f)),[],n<=1000000/\f=wag (vtOf f))
 |_,_=>none
def sncG(v:Nat->Int)(m:Nat)(g:Nat->VT):Nat->Nat
 |0=>0
 |i+1=>bif decide (0<=ixB (λj=>decide ((g i).st=v j)) m) then sncG v m g i else i+1
def wk1:Spec
 |[.own 0 m,.ptr 1 0],[.row t 1 m' f fr,.cells [.view 7 n h] u]=>some (.q (vtOf h (sncG (vInt f) m (vtOf h) (n - 1))).per,[(0,.row 3 1 m (waf (vInt f)) false),(1,.cells [.view 7 n h] 53)],t=3/\u=53/\fr=false/\m=m'/\m<=100/\f=waf (vInt f)/\n<=1000000/\0<n/\h=wag (vtOf h))
 |_,_=>none
def wky(v:Nat->Int)(m:Nat)(g:Nat->VT)(n i:Nat):St:=⟨[(0,.own 0 m),(1,.ptr 1 0),(4,.q i)],[(0,.row 3 1 m (waf v) false),(1,.cells [.view 7 n (wag g)] 53)],2,[]⟩
def wm0(v:Nat->Int)(m:Nat)(g:Nat->VT)(n:Nat):waq:=λst Q=>canonIs te 2 [0,1,4] st (wky v m g n (n - 1))/\n<=1000000/\0<n/\m<=100/\
 Q (.exit 0) ⟨[(1,.ptr 1 0),(4,.q (sncG v m g (n - 1)))],[(0,.row 3 1 m (waf v) false),(1,.cells [.view 7 n (wag g)] 53)],2,[]⟩
def knK(g:Nat->VT)(per:Int)(k:Nat):List VT:=(lst g k).filter λv=>decide (v.per<=per)
def S_sa(g:Nat->VT)(n:Nat)(per:Int)(k:Nat):St:=⟨[(1,.q per),(4,.ptr 0 0),(5,.ptr 1 0),(10,.view 7 n (wag g)),(11,.q n),(12,.q k)],
 [(0,.cells [.q 0,.q 0,.str []] 65),(1,.cells [.own 2 (knK g per k).length] 53),(2,.row 43 7 (knK g per k).length (wag (atX (knK g per k))) false)],3,[]⟩
def L_sa(g:Nat->VT)(n:Nat)(per:Int):waq:=λst Q=>canonIs te 0 [1,4,5,10,11,12] (ownNilC 1 0 43 7 st) (S_sa g n per 0)/\n<=1000000/\
 Q (.exit 0) ⟨[(4,.ptr 0 0),(5,.ptr 1 0)],[(0,.cells [.q 0,.q 0,.str []] 65),(1,.cells [.view 7 (knK g per n).length (wag (atX (knK g per n)))] 53)],3,[]⟩
def wgv:Spec
 |[.view 7 n f,.int .i64 per],[]=>some (.agg [.q (staP per (lst (vtOf f) n)).kind,.q (staP per (lst (vtOf f) n)).since,.str (staP per (lst (vtOf f) n)).rep],[],n<=1000000/\f=wag (vtOf f))
 |_,_=>none
def wk4(g:Nat->Int)(n k:Nat):St:=⟨[(0,.own 0 n),(3,.q k)],[(0,.row 124 1 n (uRow g) false)],1,[]⟩
def wk5:Spec
 |[.own 0 n],[.row t 1 m f fr]=>some (.q (lowI (uOf f) n),[(0,.row 124 1 n f false)],t=124/\fr=false/\n=m/\n<=1000/\∀i,i<n->f i=uRow (uOf f) i)
 |_,_=>none
def wm3(g:Nat->Int)(n:Nat):waq:=λst Q=>canonIs te 1 [0,3] st (wk4 g n n)/\n<=1000/\Q (.exit 0) ⟨[(3,.q (lowI g n))],[(0,.row 124 1 n (uRow g) false)],1,[]⟩
def wil(n:Nat)(u:Nat->Int)(m:Nat)(w:Nat->Int):Bool:=decide (n=m) && decide (fstB (λi=> !decide (u i=w i)) n=n)
def wk3:Spec
 |[.view 1 n f,.view 1 m g],[]=>some (.bool (wil n (uOf f) m (uOf g)),[],n<=1000/\m<=1000/\f=uRow (uOf f)/\g=uRow (uOf g))
 |[.nil,.nil],[]=>some (.bool true,[],True)
 |_,_=>none
def wk0(n:Nat)(u w:Nat->Int)(k:Nat):St:=⟨[(0,.view 1 n (uRow u)),(1,.view 1 n (uRow w)),(12,.q n),(13,.q k)],[],0,[]⟩
def wkz(k:Nat):St:=⟨[(0,.nil),(1,.nil),(12,.q 0),(13,.q k)],[],0,[]⟩
def wm1:waq:=λst Q=>canonIs te 0 [0,1,12,13] st (wkz 0)/\Q (.exit 0) ⟨[],[],0,[]⟩
def wm2(n:Nat)(u w:Nat->Int):waq:=λst Q=>canonIs te 0 [0,1,12,13] st (wk0 n u w 0)/\n<=1000/\
 wab (decide (fstB (λi=> !decide (u i=w i)) n=n)) (Q (.exit 0) ⟨[],[],0,[]⟩) (Q .ret ⟨[(4,.bool false)],[],0,[]⟩)
def wk2:Spec
 |[.agg [.bool a,.view 1 n f,.nil],.agg [.bool b,.view 1 m g,.nil]],[]=>some (.bool (decide (a=b) && wil n (uOf f) m (uOf g)),[],n<=1000/\m<=1000/\f=uRow (uOf f)/\g=uRow (uOf g))
 |_,_=>none
def wml:Spec
 |[],[]=>some (.bool true,[],True)
 |_,_=>none
def wlf:Spec
 |[.own 0 n],[.row _ 15 m f _]=>some (.view 6 (obL (wak (mgOf f) n)).length (wdr (obL (wak (mgOf f) n)) (obP (wak (mgOf f) n))),[],n=m/\n<=100000/\RM f n)
 |_,_=>none
structure MdS (L:List VT):Prop where
 per:∀i,i<L.length->(atX L i).per=1440+i
 st:∀v∈L,v.st=1∨v.st=2∨v.st=3∨v.st=4∨v.st=5
structure EJ where
 L:List VT
 a:Int
def wlp(n:Nat)(v:Nat->Int)(B:Int)(i:EJ):St:=⟨[(3,.ptr 0 0),(4,.own 1 i.L.length),(18,.q B),(19,.q i.L.length)],
 [(0,.cells [.view 1 n (waf v),.q i.a] 26),(1,.row 43 7 i.L.length (wag (atX i.L)) false)],2,[]⟩
def wm8(n:Nat)(v:Nat->Int):waq:=λst Q=>∃(a B:Int),canonIs te 0 [3,4,18,19] (ownNil 4 43 7 st) (wlp n v B ⟨[],a⟩)/\(1<=B/\B<=10)/\(0<=a/\a<=4611686018427380000)/\
 ∀L:List VT,(L.length:Int)=B->MdS L->Q (.exit 0) ⟨[(4,.view 7 L.length (wag (atX L)))],[],1,[]⟩
def wlo(L:List VT)(k:Nat):St:=⟨[(4,.view 7 L.length (wag (atX L))),(7,.q (ixB (λi=>finB (atX L i)) k)),(32,.view 7 L.length (wag (atX L))),(33,.q L.length),(34,.q k)],[],0,[]⟩
def wm7:waq:=λst Q=>∃L:List VT,canonIs te 0 [4,7,32,33,34] st (wlo L 0)/\L.length<=10/\Q (.exit 2) ⟨[(4,.view 7 L.length (wag (atX L))),(7,.q (ixB (λi=>finB (atX L i)) L.length))],[],0,[]⟩
def wln(L:List VT)(x:SX)(k:Nat):St:=⟨[(4,.view 7 L.length (wag (atX L))),(11,.ptr 0 0),(12,.q k)],[(0,.cells [.q x.kind,.q x.since,.str x.rep] 65)],1,[]⟩
def wm6:waq:=λst Q=>∃(L:List VT) (x:SX) (k:Nat),canonIs te 0 [4,11,12] st (wln L x k)/\(k<=9/\L.length<=10)/\(∀j:Nat,k<=j->staP (1440+j) L=x)/\Q (.exit 4) ⟨[],[],0,[]⟩
end Go.Eng
namespace Go.Eng
open Go.Proofs Go.RowKit
variable {C:Ctx} [C.Loose]
set_option maxRecDepth 20000
theorem nf_mark(m:MG)(R:oR7):wpFn te [] [] 0 Tryz.f64 [.agg [.str m.dev,.q m.seq,.q m.kind,.str m.v.o,.str m.v.p,.q m.v.per,.q m.v.day,.q m.v.st,.q m.v.pr,.str m.v.rep,.str m.d.o,.str m.d.p,.q m.d.per,.str m.d.dev,.q m.d.num]] [] R=((True/\True)/\R (.agg [.str m.dev,.q m.seq]) []):=by kernel_rfl
theorem wzg(g:Nat->MG)(n:Nat)(R:oR7):wpFn te [] [(3,L_ct g n)] 0 Tryz.f90 [.own 0 n] [.row 47 15 n (waa g) false] R=(letI z0:=ren 1 [(1,1)];(TEq [(3,.map 1),(7,.own 0 n),(8,.q (n:Int)),(9,.q 0)] [(3,.map 1),(7,.own 0 n),(8,.q (n:Int)),(9,.q (↑0:Int))]/\wad [(0,.row 47 15 n (waa g) false),(1,.amap (List.map (λ(p:AV×AV)=>(AV.rn z0 p.1,AV.rn z0 p.2)) []))] [(0,.row 47 15 n (waa g) false),(1,.amap (entM (cntL g 0)))])/\n<=1000000/\(∀(i:Nat),i<n->true=true)/\∃(O':oL7),wad [(0,.row 47 15 n (waa g) false),(1,.amap (List.map (λ(p:AV×AV)=>(AV.rn z0 p.1,AV.rn z0 p.2)) (entM (cntL g n))))] O'/\R (.map 1) O'):=by kernel_rfl
theorem wze(g:Nat->MG)(n k:Nat)(P:Nat->Prop)(R:eR7):wav ⟨te,[],[(1005,L_c5 (cntL g k) (g k) g n k)],1,22,0⟩ (wax Tryz.f90 3) [3,7,8,9] [3] [] (S_ct g n) P R (S_ct g n k)=(letI z2:=ren 1 [(1,1)];letI z1:=([(3,.map 1),(5,.ptr 2 0),(7,.own 0 n),(8,.q (n:Int)),(9,.q (k:Int))]:tL7);letI z0:=(g (k:Int).toNat);wab (decide ((k:Int)<(n:Int))) (((0:Int)<=(k:Int)/\(k:Int)<(n:Int))/\((k:Int).toNat<n/\15=15)/\(TEq z1 z1/\wad [(0,.row 47 15 n (waa g) false),(1,.amap (List.map (λ(p:AV×AV)=>(AV.rn (ren 1 [(1,1),(2,2)]) p.1,AV.rn (ren 1 [(1,1),(2,2)]) p.2)) (entM (cntL g k)))),(2,.cells [.str z0.dev,.q z0.seq,.q z0.kind,.str z0.v.o,.str z0.v.p,.q z0.v.per,.q z0.v.day,.q z0.v.st,.q z0.v.pr,.str z0.v.rep,.str z0.d.o,.str z0.d.p,.q z0.d.per,.str z0.d.dev,.q z0.d.num] 47)] [(0,.row 47 15 n (waa g) false),(1,.amap (entM (cntL g k))),(2,.cells [.str (g k).dev,.q (g k).seq,.q (g k).kind,.str (g k).v.o,.str (g k).v.p,.q (g k).v.per,.q (g k).v.day,.q (g k).v.st,.q (g k).v.pr,.str (g k).v.rep,.str (g k).d.o,.str (g k).d.p,.q (g k).d.per,.str (g k).d.dev,.q (g k).d.num] 47)])/\List.Nodup (List.map Prod.fst (cntL g k))/\inR .i64 (getC (cntL g k) (mk2 (g k))+1)/\inR .i64 ((k:Int)+1)/\∃(i':Nat),(TEq [(3,.map 1),(7,.own 0 n),(8,.q (n:Int)),(9,.q ((k:Int)+1))] [(3,.map 1),(7,.own 0 n),(8,.q (n:Int)),(9,.q (i':Int))]/\wad [(0,.row 47 15 n (waa g) false),(1,.amap (List.map (λ(p:AV×AV)=>(AV.rn z2 p.1,AV.rn z2 p.2)) (entM (addC (cntL g k) (mk2 (g k))))))] [(0,.row 47 15 n (waa g) false),(1,.amap (entM (cntL g i')))])/\P i') ((∀(i:Nat),i<n->true=true)/\∃(O':oL7),wad [(0,.row 47 15 n (waa g) false),(1,.amap (List.map (λ(p:AV×AV)=>(AV.rn z2 p.1,AV.rn z2 p.2)) (entM (cntL g k))))] O'/\R (.exit 0) (St.mk [(3,.map 1)] O' 2 []))):=by kernel_rfl
theorem nf_c5(L:List ((List UInt8×Int)×Int))(x:MG)(g:Nat->MG)(n k:Nat)(Q:eR7):regE ⟨te,[(64,.det wdi)],[],1,22,0⟩ (regC Tryz.f90 5) [3,5,7,8,9] Q (S_c5 L x g n k)=(letI z19:=ren 1 [(1,1),(2,2)];letI z18:=zvA (.q 0);letI z13:=(∀(i:Nat),i<n->true=true:Prop);letI z10:=([.str x.dev,.q x.seq,.q x.kind,.str x.v.o,.str x.v.p,.q x.v.per,.q x.v.day,.q x.v.st,.q x.v.pr,.str x.v.rep,.str x.d.o,.str x.d.p,.q x.d.per,.str x.d.dev,.q x.d.num]:List AV);letI z8:=([(3,.map 1),(5,.ptr 2 0),(7,.own 0 n),(8,.q (n:Int)),(9,.q (k:Int))]:tL7);letI z3:=([.str x.dev,.q x.seq]:List AV);letI z16:=mget (entM L) (.agg z3);letI z15:=(↑(midx (entM L) (.agg z3)):Int);letI z12:=(wau (Option.getD z16 z18)+1);letI z9:=wa5 te 103 (entM L)/\.q (wau (Option.getD z16 (.q 0)))=Option.getD z16 (.q 0);letI z7:=ment (.q 0) (entM L) (.agg z3);letI z20:=List.getD z7 z15.toNat (.any,.any);letI z11:=Option.getD (mget z7 (.agg z3)) z18;letI z17:=(wau z11+1);letI z14:=wa5 te 103 z7/\.q (wau z11)=Option.getD (mget z7 (.agg z3)) z18;letI z6:=((0:Int)<=z15/\z15<(z7.length:Int):Prop);letI z4:=([(0,.row 47 15 n (waa g) false),(1,.amap (List.map (λ(p:AV×AV)=>(AV.rn z19 p.1,AV.rn z19 p.2)) (List.set z7 z15.toNat (z20.1,.q z12)))),(2,.cells z10 47)]:oL7);letI z2:=([(0,.row 47 15 n (waa g) false),(1,.amap (List.map (λ(p:AV×AV)=>(AV.rn z19 p.1,AV.rn z19 p.2)) (List.set z7 z15.toNat (z20.1,.q z17)))),(2,.cells z10 47)]:oL7);letI z5:=(z14/\(inR .i64 z17/\z6/\z13/\∃(O':oL7),wad z2 O'/\Q .normal (St.mk z8 O' 3 []))/\inR .i64 z17/\z6/\z13/\∃(O':oL7),wad z2 O'/\Q .normal (St.mk z8 O' 3 []):Prop);letI z1:=((wa5 te 103 (entM L)/\.q (wau (Option.getD z16 z18))=Option.getD z16 z18)/\(inR .i64 z12/\z9/\z6/\z13/\∃(O':oL7),wad z4 O'/\Q .normal (St.mk z8 O' 3 []))/\z9/\(inR .i64 z12/\z6/\z13/\∃(O':oL7),wad z4 O'/\Q .normal (St.mk z8 O' 3 []))/\inR .i64 z12/\z6/\z13/\∃(O':oL7),wad z4 O'/\Q .normal (St.mk z8 O' 3 []):Prop);letI z0:=(True/\z1/\z9/\z5/\z14/\inR .i64 z17/\z6/\z13/\∃(O':oL7),wad z2 O'/\Q .normal (St.mk z8 O' 3 []));z0/\z0/\True/\z1/\z9/\z5/\z14/\inR .i64 z17/\z6/\z13/\∃(O':oL7),wad z2 O'/\Q .normal (St.mk z8 O' 3 [])):=by kernel_rfl
theorem wja(hP:C.P=Tryz.prog):wac C 64 wdi:=by
 have _:C.Loose:=inferInstance;rintro args objs U Os vc h hvc;unfold wdi at h;split at h<;>simp only[sI7,pI7,reduceCtorEq] at h;rename_i dev seq kind o p per day st pr rep o' p' per' dev' num;obtain⟨rfl,rfl,rfl⟩:=h;refine wac.wp0 (prg hP) [] 0 .nil (hP ▸ Tryz.func64) rfl rfl rfl ?_;have hn:=nf_mark ⟨dev,seq,kind,⟨o,p,per,day,st,pr,rep⟩,⟨o',p',per',dev',num⟩⟩;dsimp only at hn;rw[hn];exact⟨⟨trivial,trivial⟩,rfl,rfl⟩
def keyK(p:List UInt8×Int):AV:=.agg [.str p.1,.q p.2]
theorem we7(a b:List UInt8×Int):keq (keyK a) (keyK b)=(decide (a.1=b.1) && decide (a.2=b.2)):=by simp[keyK,keq,keqL,keq0]
theorem wq7(p:List UInt8×Int):(decide (p.1=p.1) && decide (p.2=p.2))=true:=by simp
theorem wcm(σ:Nat->Option Nat)(L:List ((List UInt8×Int)×Int)):(entM L).map (λp=>(AV.rn σ p.1,AV.rn σ p.2))=entM L:=by
 unfold entM;rw[List.map_map];rfl
theorem wj4{L:List ((List UInt8×Int)×Int)}(h:(L.map Prod.fst).Nodup):wa5 te 103 (entM L):=by
 refine⟨List.all_eq_true.2 λp hp=>?_,?_⟩
 ·obtain⟨r,_,rfl⟩:=List.mem_map.1 hp;have:∀(a:List UInt8) (b:Int),keyA te 103 (.agg [.str a,.q b])=true:=λa b=>by kernel_rfl
  exact this _ _
 ·have:(entM L).map Prod.fst=(L.map Prod.fst).map keyK:=by simp[entM,keyK]
  rw[this];refine List.pairwise_map.2 (h.imp λ{a b} hab he=>hab ?_);have q:=we7 a b;rw[he,we7,wq7] at q;exact wd3.1 q.symm
theorem whi(p:List UInt8×Int):∀L:List ((List UInt8×Int)×Int),Option.getD (mget (entM L) (keyK p)) (.q 0)= .q (getC L p)
 |[]=>rfl
 |x::l=>by
  rw[getC];show Option.getD (match keq (keyK x.1) (keyK p) with | true=>some (.q x.2) | false=>mget (entM l) (keyK p)) _=_
  rw[we7]
  cases decide (x.1.1=p.1) && decide (x.1.2=p.2) with
  |true=>rfl
  |false=>exact whi p l
theorem ment_K(p:List UInt8×Int):∀L:List ((List UInt8×Int)×Int),
  Option.getD (mget (ment (.q 0) (entM L) (keyK p)) (keyK p)) (.q 0)= .q (getC L p)/\midx (entM L) (keyK p)<(ment (.q 0) (entM L) (keyK p)).length/\
  (ment (.q 0) (entM L) (keyK p)).set (midx (entM L) (keyK p)) (((ment (.q 0) (entM L) (keyK p)).getD (midx (entM L) (keyK p)) (.any,.any)).1,.q (getC L p+1))=entM (addC L p)
 |[]=>by
  refine⟨?_,Nat.zero_lt_one,rfl⟩;show Option.getD (match keq (keyK p) (keyK p) with | true=>some (AV.q 0) | false=>none) _=_
  rw[we7,wq7];rfl
 |x::l=>by
  obtain⟨i1,i2,i3⟩:=ment_K p l;have e1:ment (.q 0) (entM (x::l)) (keyK p)=match keq (keyK x.1) (keyK p) with | true=>(keyK x.1,AV.q x.2)::entM l | false=>(keyK x.1,AV.q x.2)::ment (.q 0) (entM l) (keyK p):=rfl
  have e2:midx (entM (x::l)) (keyK p)=match keq (keyK x.1) (keyK p) with | true=>0 | false=>midx (entM l) (keyK p)+1:=rfl
  rw[e1,e2,getC,addC,we7]
  cases h:decide (x.1.1=p.1) && decide (x.1.2=p.2) with
  |true=>
   have e:=wd3.1 h;refine⟨?_,Nat.succ_pos _,?_⟩
   ·show Option.getD (match keq (keyK x.1) (keyK p) with | true=>some (AV.q x.2) | false=>mget (entM l) (keyK p)) _=_
    rw[we7,h];rfl
   ·show (keyK x.1,AV.q (x.2+1))::entM l=(keyK p,AV.q (x.2+1))::entM l;rw[e]
  |false=>
   refine⟨?_,Nat.succ_lt_succ i2,?_⟩
   ·show Option.getD (match keq (keyK x.1) (keyK p) with | true=>some (AV.q x.2) | false=>mget (ment (.q 0) (entM l) (keyK p)) (keyK p)) _=_
    rw[we7,h];exact i1
   ·show (keyK x.1,AV.q x.2)::(ment (.q 0) (entM l) (keyK p)).set (midx (entM l) (keyK p)) (((ment (.q 0) (entM l) (keyK p)).getD (midx (entM l) (keyK p)) (.any,.any)).1,.q (getC l p+1))=(keyK x.1,AV.q x.2)::entM (addC l p);rw[i3]
theorem w0x{ES:List (AV×AV)}{i:Nat}{v:AV}(hi:i<ES.length)(h:wa5 te 103 (ES.set i ((ES.getD i (.any,.any)).1,v))):wa5 te 103 ES:=by
 have e:(ES.set i ((ES.getD i (.any,.any)).1,v)).map Prod.fst=ES.map Prod.fst:=by
  apply List.ext_getElem
  ·simp
  ·intro j h1 h2;simp only[List.getElem_map,List.getElem_set];split
   ·rename_i e;subst e;simp[hi]
   ·rfl
 obtain⟨h1,h2⟩:=h;rw[e] at h2;refine⟨?_,h2⟩;have f:∀l:List (AV×AV),(l.all λp=>keyA te 103 p.1)=(l.map Prod.fst).all λk=>keyA te 103 k:=λl=>by rw[List.all_map];rfl
 rw[f] at h1 ⊢;rw[e] at h1;exact h1
theorem c5_ok(hP:C.P=Tryz.prog)(L:List ((List UInt8×Int)×Int))(x:MG)(g:Nat->MG)(n k:Nat):wah C 1 22 (regC Tryz.f90 5) (L_c5 L x g n k):=by
 rintro st Q ⟨h0,hnd,hin,hQ⟩;refine wah.regE (prg hP) [(64,.det wdi)] 0 (.cons (wja hP) .nil) [3,5,7,8,9] [3,5,7,8,9] h0 ?_ ⟨λ_ _=>rfl,trivial⟩;have zz:zvA (.q 0)= .q 0:=rfl;rw[nf_c5,zz];have F1:Option.getD (mget (entM L) (.agg [.str x.dev,.q x.seq])) (.q 0)= .q (getC L (mk2 x)):=whi (mk2 x) L;obtain⟨F3,F4,F5⟩:=ment_K (mk2 x) L;have K1:=wj4 hnd;have K2:wa5 te 103 (ment (.q 0) (entM L) (keyK (mk2 x))):=w0x F4 (F5.symm ▸ wj4 (wqe (mk2 x) hnd));change Option.getD (mget (ment (.q 0) (entM L) (.agg [.str x.dev,.q x.seq])) (.agg [.str x.dev,.q x.seq])) (.q 0)= .q (getC L (mk2 x)) at F3;change midx (entM L) (.agg [.str x.dev,.q x.seq])<(ment (.q 0) (entM L) (.agg [.str x.dev,.q x.seq])).length at F4;change (ment (.q 0) (entM L) (.agg [.str x.dev,.q x.seq])).set (midx (entM L) (.agg [.str x.dev,.q x.seq])) (((ment (.q 0) (entM L) (.agg [.str x.dev,.q x.seq])).getD (midx (entM L) (.agg [.str x.dev,.q x.seq])) (.any,.any)).1,.q (getC L (mk2 x)+1))=entM (addC L (mk2 x)) at F5;change wa5 te 103 (ment (.q 0) (entM L) (.agg [.str x.dev,.q x.seq])) at K2;have F6:(0:Int)<=(midx (entM L) (.agg [.str x.dev,.q x.seq]):Int)/\(midx (entM L) (.agg [.str x.dev,.q x.seq]):Int)<((ment (.q 0) (entM L) (.agg [.str x.dev,.q x.seq])).length:Int):=by omega
 simp only[F1,F3,wau,tN7,F5,wcm];have leaf:∃O',wad (S_c5 (addC L (mk2 x)) x g n k).O O'/\Q .normal ⟨(S_c5 (addC L (mk2 x)) x g n k).T,O',3,[]⟩:=⟨_,wa0 _,hQ⟩;have all:∀i,i<n->True:=λ_ _=>trivial;have K1:=(and_true (wa5 te 103 (entM L))).symm ▸ K1
 repeat' first | exact leaf | exact trivial | exact K1 | exact K2 | exact⟨K2,trivial⟩ | exact hin | exact F6 | exact all | refine And.intro ?_ ?_
theorem ct_loop(hP:C.P=Tryz.prog)(g:Nat->MG)(n:Nat):wah C 1 22 (waj Tryz.f90 3) (L_ct g n):=by
 rintro st Q ⟨h0,hn,hQ⟩;refine wah.mkI (prg hP) [] (λk=>[(1005,L_c5 (cntL g k) (g k) g n k)]) 0 .nil (λk=>[(regC Tryz.f90 5,L_c5 (cntL g k) (g k) g n k)]) (λk=>by kernel_rfl) (λk=>⟨c5_ok hP _ _ g n k,trivial⟩) [3,7,8,9] [3] [] (S_ct g n) (λk=>k<=n) (λk=>n - k) 0 (zL7 _) h0 (λk hk=>?_) (λk=>⟨λ_ _=>rfl,trivial⟩);rw[wze,tN7,wcm];have hb:=wjr g (mk2 (g k)) k;have hc:=woh g (mk2 (g k)) k;refine wae (λh1=>⟨⟨by omega,by omega⟩,⟨by omega,rfl⟩,⟨rfl,rQ7,rfl,rfl,trivial⟩,wj9 g k,by simp only[inR];omega,by simp only[inR];omega,k+1,⟨rfl,rQ7,?_,trivial⟩,by omega,by omega⟩) (λh1=>?_)
 ·rw[wcm];rfl
 ·have:k=n:=by omega
  subst this;rw[wcm];exact⟨λ_ _=>rfl,_,wa0 _,hQ⟩
theorem wuh(hP:C.P=Tryz.prog):wac C 90 wgt:=by
 rintro args objs U Os vc h hvc;unfold wgt at h;split at h<;>cases h;rename_i n t m f fr;obtain⟨rfl,rfl,rfl,hn,hf⟩:=hvc;generalize mgOf f=g at *;subst hf;refine wac.wpL (prg hP) [] [(3,L_ct g n)] 0 .nil (hP ▸ Tryz.func90) rfl rfl rfl [(waj Tryz.f90 3,L_ct g n)] (by kernel_rfl) ⟨ct_loop hP g n,trivial⟩ ?_;rw[wzg,wcm];exact⟨⟨rfl,rQ7,rfl,trivial⟩,hn,λ_ _=>rfl,_,wa0 _,rfl,rfl⟩
theorem wx5(m:MG)(es:List (AV×AV))(R:oR7):wpFn te [(64,.det wdi)] [] 0 Tryz.f92 [.agg [.str m.dev,.q m.seq,.q m.kind,.str m.v.o,.str m.v.p,.q m.v.per,.q m.v.day,.q m.v.st,.q m.v.pr,.str m.v.rep,.str m.d.o,.str m.d.p,.q m.d.per,.str m.d.dev,.q m.d.num],.ptr 0 0] [.cells [.map 1] 126,.amap es] R=(letI z1:=(ren (List.length [AObj.cells [.map 1] (126:TypeId),.amap es]) []);letI z0:=mget es (.agg [.str m.dev,.q m.seq]);True/\(wa5 te 103 es/\.q (wau (Option.getD z0 (zvA (.q 0))))=Option.getD z0 (zvA (.q 0)))/\R (.bool (decide ((1:Int)<wau (Option.getD z0 (zvA (.q 0)))))) [(0,.cells [.map 1] 126),(1,.amap (List.map (λ(p:AV×AV)=>(AV.rn z1 p.1,AV.rn z1 p.2)) es))]):=by kernel_rfl
theorem nf_ixr(es:List (AV×AV))(g:Nat->MG)(n:Nat)(R:oR7):wpFn te [(92,.det weo)] [(2,wnc es g n)] 0 Tryz.f62 [.own 0 n,.func 92 [.ptr 1 0]] [.row 47 15 n (waa g) false,.cells [.map 2] 126,.amap es] R=(letI z1:=(ren (List.length [AObj.row (47:TypeId) 15 n (waa g) false,.cells [.map 2] (126:TypeId),.amap es]) []);letI z0:=([(0,.row 47 15 n (waa g) false),(1,.cells [.map 2] 126),(List.length [AObj.cells [.map 2] (126:TypeId),.amap es],.amap (List.map (λ(p:AV×AV)=>(AV.rn z1 p.1,AV.rn z1 p.2)) es))]:oL7);(TEq [(0,.own 0 n),(1,.func 92 [.ptr 1 0]),(7,.q (n:Int)),(8,.q 0)] [(0,.own 0 n),(1,.func 92 [.ptr 1 0]),(7,.q (n:Int)),(8,.q (↑0:Int))]/\wad [(0,.row 47 15 n (waa g) false),(1,.cells [.map 2] 126),(2,.amap (List.map (λ(p:AV×AV)=>(AV.rn (ren 3 []) p.1,AV.rn (ren 3 []) p.2)) es))] [(0,.row 47 15 n (waa g) false),(1,.cells [.map 2] 126),(2,.amap es)])/\n<=1000000/\EsOK es/\wab (decide (fstB (λ(i:Nat)=>delF es (g i)) n<n)) ((∀(i:Nat),i<n->true=true)/\∃(O':oL7),wad z0 O'/\R (.q (↑(fstB (λ(i:Nat)=>delF es (g i)) n):Int)) O') ((∀(i:Nat),i<n->true=true)/\∃(O':oL7),wad z0 O'/\R (.q (-1:Int)) O')):=by kernel_rfl
theorem wyy(es:List (AV×AV))(g:Nat->MG)(n k:Nat)(P:Nat->Prop)(R:eR7):wav ⟨te,[(92,.det weo)],[],3,19,0⟩ (wax Tryz.f62 2) [0,1,7,8] [] [4] (wlu es g n) P R (wlu es g n k)=(letI z2:=(List.map (λ(p:AV×AV)=>(AV.rn (idxN [1,2]) p.1,AV.rn (idxN [1,2]) p.2)) es);letI z1:=(g (k:Int).toNat);letI z0:=([(0,.row 47 15 n (waa g) false),(1,.cells [.map 2] 126),(2,.amap (List.map (λ(p:AV×AV)=>(AV.rn (ren 3 []) p.1,AV.rn (ren 3 []) p.2)) (List.map (λ(p:AV×AV)=>(AV.rn (sig [1,2] 3) p.1,AV.rn (sig [1,2] 3) p.2)) z2)))]:oL7);wab (decide ((k:Int)<(n:Int))) (((0:Int)<=(k:Int)/\(k:Int)<(n:Int))/\((k:Int).toNat<n/\15=15)/\(126=126/\EsOK z2)/\wab (delF z2 (MG.mk z1.dev z1.seq z1.kind (VT.mk z1.v.o z1.v.p z1.v.per z1.v.day z1.v.st z1.v.pr z1.v.rep) (DT.mk z1.d.o z1.d.p z1.d.per z1.d.dev z1.d.num))) ((∀(i:Nat),i<n->true=true)/\∃(O':oL7),wad z0 O'/\R .ret (St.mk [(4,.q (k:Int))] O' 3 [])) (inR .i64 ((k:Int)+1)/\∃(i':Nat),(TEq [(0,.own 0 n),(1,.func 92 [.ptr 1 0]),(7,.q (n:Int)),(8,.q ((k:Int)+1))] [(0,.own 0 n),(1,.func 92 [.ptr 1 0]),(7,.q (n:Int)),(8,.q (i':Int))]/\wad z0 [(0,.row 47 15 n (waa g) false),(1,.cells [.map 2] 126),(2,.amap es)])/\P i')) ((∀(i:Nat),i<n->true=true)/\∃(O':oL7),wad [(0,.row 47 15 n (waa g) false),(1,.cells [.map 2] 126),(2,.amap (List.map (λ(p:AV×AV)=>(AV.rn (ren 3 []) p.1,AV.rn (ren 3 []) p.2)) es))] O'/\R (.exit 0) (St.mk [] O' 3 []))):=by kernel_rfl
theorem nf_df(es:List (AV×AV))(g:Nat->MG)(n:Nat)(R:oR7):wpFn te [(62,.det wlx)] [(5,L_df es g n (fstB (λi=>delF es (g i)) n))] 0 Tryz.f91 [.own 0 n,.func 92 [.ptr 1 0]] [.row 47 15 n (waa g) false,.cells [.map 2] 126,.amap es] R=(letI z7:=(fstB (λ(i:Nat)=>delF es (g i)) n);letI z4:=(∀(i:Nat),i<n->true=true:Prop);letI z2:=(CI.mk (fstB (λ(i:Nat)=>delF es (g i)) n+1) z7 g);letI z1:=(ren (List.length [AObj.row (47:TypeId) 15 n (waa g) false,.cells [.map 2] (126:TypeId),.amap es]) []);letI z0:=(List.map (λ(p:AV×AV)=>(AV.rn (idxN [0,1,2]) p.1,AV.rn (idxN [0,1,2]) p.2)) es);letI z5:=(ixB (λ(i:Nat)=>delF z0 (mgOf (waa g) i)) n+1);letI z3:=(List.map (λ(p:AV×AV)=>(AV.rn (sig [0,1,2] 3) p.1,AV.rn (sig [0,1,2] 3) p.2)) z0);z4/\(47=47/\126=126/\false=false/\n=n/\n<=1000000/\waa g=waa (mgOf (waa g))/\EsOK z0)/\z4/\wab (decide (ixB (λ(i:Nat)=>delF z0 (mgOf (waa g) i)) n=(-1:Int))) (z4/\∃(O':oL7),wad [(0,.row 47 15 n (waa g) false),(1,.cells [.map 2] 126),(List.length [AObj.cells [.map 2] (126:TypeId),.amap es],.amap (List.map (λ(p:AV×AV)=>(AV.rn z1 p.1,AV.rn z1 p.2)) z3))] O'/\R (.own 0 n) O') (inR .i64 z5/\(TEq [(0,.own 0 n),(1,.func 92 [.ptr 1 0]),(5,.q (ixB (λ(i:Nat)=>delF z0 (mgOf (waa g) i)) n)),(6,.q z5)] [(0,.own 0 n),(1,.func 92 [.ptr 1 0]),(5,.q (↑(CI.w z2):Int)),(6,.q (↑(CI.k z2):Int))]/\wad [(0,.row 47 15 n (waa g) false),(1,.cells [.map 2] 126),(2,.amap (List.map (λ(p:AV×AV)=>(AV.rn (ren 3 []) p.1,AV.rn (ren 3 []) p.2)) z3))] [(0,.row 47 15 n (waa (CI.h z2)) false),(1,.cells [.map 2] 126),(2,.amap es)])/\(fstB (λ(i:Nat)=>delF es (g i)) n<n/\n<=1000000)/\EsOK es/\(∀(j:Nat),j<fstB (λ(i:Nat)=>delF es (g i)) n->delF es (g j)=false)/\delF es (g z7)=true/\∀(w:Nat) (h:Nat->MG),letI z6:=((0:Int)<=(w:Int)/\(w:Int)<=(n:Int):Prop);w<=n->lst h w=kpL es g n->z6/\(w:Int).toNat<=n/\z6/\(∀(i:Nat),i<(w:Int).toNat->true=true)/\∃(O':oL7),wad [(0,.row 47 15 (w:Int).toNat (waa h) false),(1,.cells [.map 2] 126),(List.length [AObj.cells [.map 2] (126:TypeId),.amap es],.amap (List.map (λ(p:AV×AV)=>(AV.rn z1 p.1,AV.rn z1 p.2)) es))] O'/\R (.own 0 (w:Int).toNat) O')):=by kernel_rfl
theorem wzd(es:List (AV×AV))(n:Nat)(i:CI)(P:CI->Prop)(R:eR7):wav ⟨te,[(92,.det weo)],[],3,42,0⟩ (wax Tryz.f91 5) [0,1,5,6] [0,5] [] (S_df es n) P R (S_df es n i)=(letI z4:=(↑(CI.w i):Int);letI z3:=(↑(CI.k i):Int);letI z5:=(z3+1);letI z1:=(List.map (λ(p:AV×AV)=>(AV.rn (idxN [1,2]) p.1,AV.rn (idxN [1,2]) p.2)) es);letI z2:=(List.map (λ(p:AV×AV)=>(AV.rn (ren 3 []) p.1,AV.rn (ren 3 []) p.2)) (List.map (λ(p:AV×AV)=>(AV.rn (sig [1,2] 5) p.1,AV.rn (sig [1,2] 5) p.2)) z1));letI z0:=(CI.h i z3.toNat);wab (decide (z3<(n:Int))) (((0:Int)<=z3/\z3<(n:Int))/\(z3.toNat<n/\15=15)/\(126=126/\EsOK z1)/\wab (!delF z1 (MG.mk z0.dev z0.seq z0.kind (VT.mk z0.v.o z0.v.p z0.v.per z0.v.day z0.v.st z0.v.pr z0.v.rep) (DT.mk z0.d.o z0.d.p z0.d.per z0.d.dev z0.d.num))) (((0:Int)<=z4/\z4<(n:Int))/\(List.length [AV.str z0.dev,.q z0.seq,.q z0.kind,.str z0.v.o,.str z0.v.p,.q z0.v.per,.q z0.v.day,.q z0.v.st,.q z0.v.pr,.str z0.v.rep,.str z0.d.o,.str z0.d.p,.q z0.d.per,.str z0.d.dev,.q z0.d.num]=15/\z4.toNat<n/\15=15)/\inR .i64 (z4+1)/\inR .i64 z5/\∃(i':CI),(TEq [(0,.own 0 n),(1,.func 92 [.ptr 1 0]),(5,.q (z4+1)),(6,.q z5)] [(0,.own 0 n),(1,.func 92 [.ptr 1 0]),(5,.q (↑(CI.w i'):Int)),(6,.q (↑(CI.k i'):Int))]/\wad [(0,.row 47 15 n (λ(k:Nat)=>if k=Int.toNat z4 then [.str z0.dev,.q z0.seq,.q z0.kind,.str z0.v.o,.str z0.v.p,.q z0.v.per,.q z0.v.day,.q z0.v.st,.q z0.v.pr,.str z0.v.rep,.str z0.d.o,.str z0.d.p,.q z0.d.per,.str z0.d.dev,.q z0.d.num] else waa (CI.h i) k) false),(1,.cells [.map 2] 126),(2,.amap z2)] [(0,.row 47 15 n (waa (CI.h i')) false),(1,.cells [.map 2] 126),(2,.amap es)])/\P i') (inR .i64 z5/\∃(i':CI),(TEq [(0,.own 0 n),(1,.func 92 [.ptr 1 0]),(5,.q z4),(6,.q z5)] [(0,.own 0 n),(1,.func 92 [.ptr 1 0]),(5,.q (↑(CI.w i'):Int)),(6,.q (↑(CI.k i'):Int))]/\wad [(0,.row 47 15 n (waa (CI.h i)) false),(1,.cells [.map 2] 126),(2,.amap z2)] [(0,.row 47 15 n (waa (CI.h i')) false),(1,.cells [.map 2] 126),(2,.amap es)])/\P i')) ((∀(i:Nat),i<n->true=true)/\∃(O':oL7),wad [(0,.row 47 15 n (waa (CI.h i)) false),(1,.cells [.map 2] 126),(2,.amap (List.map (λ(p:AV×AV)=>(AV.rn (ren 3 []) p.1,AV.rn (ren 3 []) p.2)) es))] O'/\R (.exit 0) (St.mk [(0,.own 0 n),(5,.q z4)] O' 3 []))):=by kernel_rfl
theorem wn6(hP:C.P=Tryz.prog):wac C 92 weo:=by
 rintro args objs U Os vc h hvc;unfold weo at h;split at h<;>simp only[sI7,pI7,reduceCtorEq] at h;rename_i dev seq kind o p per day st pr rep o' p' per' dev' num t es;obtain⟨rfl,rfl,rfl⟩:=h;obtain⟨rfl,L,rfl,hnd⟩:=hvc;refine wac.wp0 (prg hP) [(64,.det wdi)] 0 (.cons (wja hP) .nil) (hP ▸ Tryz.func92) rfl rfl rfl ?_;have hn:=wx5 ⟨dev,seq,kind,⟨o,p,per,day,st,pr,rep⟩,⟨o',p',per',dev',num⟩⟩ (entM L);dsimp only at hn;have zz:zvA (.q 0)= .q 0:=rfl;rw[hn,wcm,zz];have F1:Option.getD (mget (entM L) (.agg [.str dev,.q seq])) (.q 0)= .q (getC L (dev,seq)):=whi (dev,seq) L;refine⟨trivial,⟨wj4 hnd,?_⟩,rfl,rfl⟩;rw[F1];rfl
theorem w03(hP:C.P=Tryz.prog)(es:List (AV×AV))(g:Nat->MG)(n:Nat):wah C 3 19 (waj Tryz.f62 2) (wnc es g n):=by
 rintro st Q ⟨h0,hn,⟨L,rfl,hnd⟩,hQ⟩;have hR:=wbt hQ;refine wah.mk (prg hP) [(92,.det weo)] 0 (.cons (wn6 hP) .nil) [0,1,7,8] [] [4] (wlu (entM L) g n) (λk=>k<=n/\fstB (λi=>delF (entM L) (g i)) k=k) (λk=>n - k) 0 ⟨zL7 _,rfl⟩ h0 (λk hk=>?_) (λi=>⟨λ_ _=>rfl,trivial⟩);obtain⟨hkn,hok⟩:=hk;rw[wyy,tN7]
 repeat rw[wcm]
 refine wae (λh1=>?_) (λh1=>?_)
 ·refine⟨⟨by omega,by omega⟩,⟨by omega,rfl⟩,⟨rfl,L,rfl,hnd⟩,wap (λh2=>?_) (λh2=>⟨by simp only[inR];omega,k+1,⟨rfl,rQ7,rfl,rfl,trivial⟩,⟨by omega,wef hok h2⟩,by omega⟩)⟩;have e:=weg hok h2 n (by omega);have:=hR.1 (by rw[e,decide_eq_true];omega);rw[e] at this;exact⟨λ_ _=>rfl,_,wa0 _,this⟩
 ·have:k=n:=by omega
  subst this;exact⟨λ_ _=>rfl,_,wa0 _,hR.2 (by rw[hok,decide_eq_false];omega)⟩
theorem ixR_ok(hP:C.P=Tryz.prog):wac C 62 wlx:=by
 rintro args objs U Os vc h hvc;unfold wlx at h;split at h<;>cases h;rename_i n t m f fr t2 es;obtain⟨rfl,rfl,rfl,rfl,hn,hf,L,rfl,hnd⟩:=hvc;generalize mgOf f=g at *;subst hf;refine wac.wpL (prg hP) [(92,.det weo)] [(2,wnc (entM L) g n)] 0 (.cons (wn6 hP) .nil) (hP ▸ Tryz.func62) rfl rfl rfl [(waj Tryz.f62 2,wnc (entM L) g n)] (by kernel_rfl) ⟨w03 hP _ g n,trivial⟩ ?_;rw[nf_ixr]
 repeat rw[wcm]
 unfold ixB;refine⟨⟨rfl,rQ7,rfl,rfl,trivial⟩,hn,⟨L,rfl,hnd⟩,wae (λh=>?_) (λh=>?_)⟩
 ·rw[decide_eq_true h];exact⟨λ_ _=>rfl,_,wa0 _,rfl,rfl⟩
 ·rw[decide_eq_false h];exact⟨λ_ _=>rfl,_,wa0 _,rfl,rfl⟩
theorem wjg(es:List (AV×AV))(g:Nat->MG)(k:Nat):kpL es g (k+1)=kpL es g k++bif delF es (g k) then [] else [g k]:=by
 unfold kpL;rw[wdt,List.filter_append]
 cases h:delF es (g k)<;>simp[h]
theorem wo3{es:List (AV×AV)}{g:Nat->MG}:∀ {k:Nat},(∀j,j<k->delF es (g j)=false)->kpL es g k=lst g k
 |0,_=>rfl
 |k+1,h=>by
  rw[wjg,wo3 λj hj=>h j (by omega),h k (by omega),wdt];rfl
theorem df_loop(hP:C.P=Tryz.prog)(es:List (AV×AV))(g:Nat->MG)(n i0:Nat):wah C 3 42 (waj Tryz.f91 5) (L_df es g n i0):=by
 rintro st Q ⟨h0,⟨hi0,hn⟩,⟨L,rfl,hnd⟩,hall,hdel,hQ⟩
 refine wah.mk (prg hP) [(92,.det weo)] 0 (.cons (wn6 hP) .nil) [0,1,5,6] [0,5] [] (S_df (entM L) n) (λi=>i.k<=n/\i.w<i.k/\lst i.h i.w=kpL (entM L) g i.k/\∀j,i.w<=j->i.h j=g j) (λi=>n - i.k) ⟨i0+1,i0,g⟩
  ⟨hi0,Nat.lt_succ_self _,?_,λ_ _=>rfl⟩ h0 (λi hi=>?_) (λi=>⟨λ_ _=>rfl,trivial⟩)
 ·show lst g i0=kpL (entM L) g (i0+1);rw[wjg,hdel,wo3 hall];simp
 obtain⟨k,w,h⟩:=i;obtain⟨i1,i2,i3,i4⟩:=hi;dsimp only at i1 i2 i3 i4;rw[wzd];dsimp only
 rw[tN7,tN7]
 repeat rw[wcm]
 refine wae (λh1=>?_) (λh1=>?_)
 ·have hk:k<n:=by omega
  have r1:h k=g k:=i4 _ (by omega);refine⟨⟨by omega,by omega⟩,⟨by omega,rfl⟩,⟨rfl,L,rfl,hnd⟩,wcn (λq=>?_) (λq=>?_)⟩
  ·have q:delF (entM L) (h k)=false:=q;rw[r1] at q;refine⟨⟨by omega,by omega⟩,⟨rfl,by omega,rfl⟩,by simp only[inR];omega,by simp only[inR];omega,⟨k+1,w+1,λj=>if j=w then h k else h j⟩,⟨rfl,⟨rfl,rfl,rfl,rfl,rfl,λj hj=>?_⟩,rfl,rfl,trivial⟩,⟨hk,?_,?_,λj hj=>?_⟩,?_⟩
   ·unfold waa
    by_cases e:j=w
    ·simp only[e,if_true]
    ·simp only[e,if_false]
   ·show w+1<k+1;omega
   ·show lst (λj=>if j=w then h k else h j) (w+1)=kpL (entM L) g (k+1)
    have e:lst (λj=>if j=w then h k else h j) w=lst h w:=List.map_congr_left λj hj=>by
     have:=List.mem_range.1 hj;rw[if_neg (by omega)]
    rw[wdt,wjg,q,e,i3,if_pos rfl,r1];rfl
   ·have hj:w+1<=j:=hj;show (if j=w then h k else h j)=g j
    rw[if_neg (by omega)];exact i4 j (by omega)
   ·show n - (k+1)<n - k;omega
  ·have q:delF (entM L) (h k)=true:=q;rw[r1] at q;refine⟨by simp only[inR];omega,⟨k+1,w,h⟩,⟨rfl,rQ7,rfl,rfl,trivial⟩,⟨hk,?_,?_,i4⟩,?_⟩
   ·show w<k+1;omega
   ·show lst h w=kpL (entM L) g (k+1);rw[wjg,q,i3];simp
   ·show n - (k+1)<n - k;omega
 ·have:k=n:=by omega
  subst this;exact⟨λ_ _=>rfl,_,wa0 _,hQ w h (by omega) i3⟩
theorem delF_ok(hP:C.P=Tryz.prog):wbi C 91 wmu:=by
 rintro args objs R h;unfold wmu at h;split at h
 ·rename_i n t m f fr t2 es;obtain⟨rfl,rfl,rfl,rfl,hn,hf,⟨L,rfl,hnd⟩,hR⟩:=h;generalize mgOf f=g at *;subst hf;refine wbi.wpL (prg hP) [(62,.det wlx)] [(5,L_df (entM L) g n (fstB (λi=>delF (entM L) (g i)) n))] 0 (.cons (ixR_ok hP) .nil) (hP ▸ Tryz.func91) rfl rfl rfl [(waj Tryz.f91 5,L_df (entM L) g n (fstB (λi=>delF (entM L) (g i)) n))] (by kernel_rfl) ⟨df_loop hP _ g n _,trivial⟩ ?_;rw[nf_df]
  repeat rw[wcm]
  have hg:mgOf (waa g)=g:=rfl;rw[hg];obtain⟨f1,f2⟩:=wdv (λi=>delF (entM L) (g i)) n;have fle:=wf5 (λi=>delF (entM L) (g i)) n
  by_cases hlt:fstB (λi=>delF (entM L) (g i)) n<n
  ·have hix:ixB (λi=>delF (entM L) (g i)) n=(fstB (λi=>delF (entM L) (g i)) n:Int):=by unfold ixB;rw[decide_eq_true hlt];rfl
   rw[hix];have f2:=f2 hlt;generalize fstB (λi=>delF (entM L) (g i)) n=i0 at *;refine⟨λ_ _=>rfl,⟨rfl,rfl,rfl,rfl,hn,rfl,L,rfl,hnd⟩,λ_ _=>rfl,wae (λq=>absurd q (by omega)) (λ_=>⟨by simp only[inR];omega,⟨rfl,rQ7,rfl,rfl,trivial⟩,⟨hlt,hn⟩,⟨L,rfl,hnd⟩,f1,f2,λw h hw hl=>?_⟩)⟩;rw[tN7];exact⟨⟨by omega,by omega⟩,hw,⟨by omega,by omega⟩,λ_ _=>rfl,_,wa0 _,hR w h hl⟩
  ·have hix:ixB (λi=>delF (entM L) (g i)) n= -1:=by unfold ixB;rw[decide_eq_false hlt];rfl
   rw[hix];have e0:fstB (λi=>delF (entM L) (g i)) n=n:=by omega
   rw[e0] at f1;exact⟨λ_ _=>rfl,⟨rfl,rfl,rfl,rfl,hn,rfl,L,rfl,hnd⟩,λ_ _=>rfl,wae (λ_=>⟨λ_ _=>rfl,_,wa0 _,hR n g (wo3 f1).symm⟩) (λq=>absurd rfl q)⟩
 ·exact h.elim
theorem nf_rs1(m:MG)(x:VT)(R:oR7):wpFn te [] [] 0 Tryz.f61 [.agg [.str m.dev,.q m.seq,.q m.kind,.str m.v.o,.str m.v.p,.q m.v.per,.q m.v.day,.q m.v.st,.q m.v.pr,.str m.v.rep,.str m.d.o,.str m.d.p,.q m.d.per,.str m.d.dev,.q m.d.num],.ptr 0 0] [.cells [.str x.o,.str x.p,.q x.per,.q x.day,.q x.st,.q x.pr,.str x.rep] 43] R=(letI z0:=([(0,.cells [.str x.o,.str x.p,.q x.per,.q x.day,.q x.st,.q x.pr,.str x.rep] 43)]:oL7);wab (!decide (m.v.st=x.st)) (R (.bool true) z0) (wab (!decide (m.v.pr=x.pr)) (R (.bool true) z0) (R (.bool !decide (m.v.rep=x.rep)) z0))):=by kernel_rfl
theorem nf_rs2(m:MG)(x:DT)(R:oR7):wpFn te [(64,.det wdi)] [] 0 Tryz.f63 [.agg [.str m.dev,.q m.seq,.q m.kind,.str m.v.o,.str m.v.p,.q m.v.per,.q m.v.day,.q m.v.st,.q m.v.pr,.str m.v.rep,.str m.d.o,.str m.d.p,.q m.d.per,.str m.d.dev,.q m.d.num],.ptr 0 0] [.cells [.str x.o,.str x.p,.q x.per,.str x.dev,.q x.num] 45] R=(True/\R (.bool (decide (m.dev=x.dev) && decide (m.seq=x.num))) [(0,.cells [.str x.o,.str x.p,.q x.per,.str x.dev,.q x.num] 45)]):=by kernel_rfl
theorem nf_ixs1(x:VT)(g:Nat->MG)(n:Nat)(R:oR7):wpFn te [(61,.det wgl)] [(2,wnb x g n)] 0 Tryz.f62 [.view 15 n (waa g),.func 61 [.ptr 0 0]] [.cells [.str x.o,.str x.p,.q x.per,.q x.day,.q x.st,.q x.pr,.str x.rep] 43] R=(letI z0:=([(0,.cells [.str x.o,.str x.p,.q x.per,.q x.day,.q x.st,.q x.pr,.str x.rep] 43)]:oL7);some (St.mk [(0,.view 15 n (waa g)),(1,.func 61 [.ptr 0 0]),(7,.q (n:Int)),(8,.q 0)] z0 1 [])=some (St.mk [(0,.view 15 n (waa g)),(1,.func 61 [.ptr 0 0]),(7,.q (n:Int)),(8,.q (↑0:Int))] z0 1 [])/\n<=1000000/\wab (decide (fstB (λ(i:Nat)=>difF x (g i)) n<n)) (R (.q (↑(fstB (λ(i:Nat)=>difF x (g i)) n):Int)) z0) (R (.q (-1:Int)) z0)):=by kernel_rfl
theorem wyx(x:VT)(g:Nat->MG)(n k:Nat)(P:Nat->Prop)(R:eR7):wav ⟨te,[(61,.det wgl)],[],1,19,0⟩ (wax Tryz.f62 2) [0,1,7,8] [] [4] (wlt x g n) P R (wlt x g n k)=(letI z1:=(g (k:Int).toNat);letI z0:=([(0,.cells [.str x.o,.str x.p,.q x.per,.q x.day,.q x.st,.q x.pr,.str x.rep] 43)]:oL7);wab (decide ((k:Int)<(n:Int))) (((0:Int)<=(k:Int)/\(k:Int)<(n:Int)/\15=15)/\43=43/\wab (difF (VT.mk x.o x.p x.per x.day x.st x.pr x.rep) (MG.mk z1.dev z1.seq z1.kind (VT.mk z1.v.o z1.v.p z1.v.per z1.v.day z1.v.st z1.v.pr z1.v.rep) (DT.mk z1.d.o z1.d.p z1.d.per z1.d.dev z1.d.num))) (R .ret (St.mk [(4,.q (k:Int))] z0 1 [])) (inR .i64 ((k:Int)+1)/\∃(i':Nat),some (St.mk [(0,.view 15 n (waa g)),(1,.func 61 [.ptr 0 0]),(7,.q (n:Int)),(8,.q ((k:Int)+1))] z0 1 [])=some (St.mk [(0,.view 15 n (waa g)),(1,.func 61 [.ptr 0 0]),(7,.q (n:Int)),(8,.q (i':Int))] z0 1 [])/\P i')) (R (.exit 0) (St.mk [] z0 1 []))):=by kernel_rfl
theorem nf_ixs2(x:DT)(g:Nat->MG)(n:Nat)(R:oR7):wpFn te [(63,.det wgk)] [(2,wna x g n)] 0 Tryz.f62 [.view 15 n (waa g),.func 63 [.ptr 0 0]] [.cells [.str x.o,.str x.p,.q x.per,.str x.dev,.q x.num] 45] R=(letI z0:=([(0,.cells [.str x.o,.str x.p,.q x.per,.str x.dev,.q x.num] 45)]:oL7);some (St.mk [(0,.view 15 n (waa g)),(1,.func 63 [.ptr 0 0]),(7,.q (n:Int)),(8,.q 0)] z0 1 [])=some (St.mk [(0,.view 15 n (waa g)),(1,.func 63 [.ptr 0 0]),(7,.q (n:Int)),(8,.q (↑0:Int))] z0 1 [])/\n<=1000000/\wab (decide (fstB (λ(i:Nat)=>namF x (g i)) n<n)) (R (.q (↑(fstB (λ(i:Nat)=>namF x (g i)) n):Int)) z0) (R (.q (-1:Int)) z0)):=by kernel_rfl
theorem wyw(x:DT)(g:Nat->MG)(n k:Nat)(P:Nat->Prop)(R:eR7):wav ⟨te,[(63,.det wgk)],[],1,19,0⟩ (wax Tryz.f62 2) [0,1,7,8] [] [4] (wls x g n) P R (wls x g n k)=(letI z1:=([(0,.cells [.str x.o,.str x.p,.q x.per,.str x.dev,.q x.num] 45)]:oL7);letI z0:=(g (k:Int).toNat);wab (decide ((k:Int)<(n:Int))) (((0:Int)<=(k:Int)/\(k:Int)<(n:Int)/\15=15)/\45=45/\wab (namF (DT.mk x.o x.p x.per x.dev x.num) (MG.mk z0.dev z0.seq z0.kind (VT.mk z0.v.o z0.v.p z0.v.per z0.v.day z0.v.st z0.v.pr z0.v.rep) (DT.mk z0.d.o z0.d.p z0.d.per z0.d.dev z0.d.num))) (R .ret (St.mk [(4,.q (k:Int))] z1 1 [])) (inR .i64 ((k:Int)+1)/\∃(i':Nat),some (St.mk [(0,.view 15 n (waa g)),(1,.func 63 [.ptr 0 0]),(7,.q (n:Int)),(8,.q ((k:Int)+1))] z1 1 [])=some (St.mk [(0,.view 15 n (waa g)),(1,.func 63 [.ptr 0 0]),(7,.q (n:Int)),(8,.q (i':Int))] z1 1 [])/\P i')) (R (.exit 0) (St.mk [] z1 1 []))):=by kernel_rfl
theorem nf_cf1(x:VT)(g:Nat->MG)(n:Nat)(R:oR7):wpFn te [(62,.det wlz)] [] 0 Tryz.f60 [.view 15 n (waa g),.func 61 [.ptr 0 0]] [.cells [.str x.o,.str x.p,.q x.per,.q x.day,.q x.st,.q x.pr,.str x.rep] 43] R=((43=43/\n<=1000000/\waa g=waa (mgOf (waa g)))/\R (.bool (decide ((0:Int)<=ixB (λ(i:Nat)=>difF (VT.mk x.o x.p x.per x.day x.st x.pr x.rep) (mgOf (waa g) i)) n))) [(0,.cells [.str x.o,.str x.p,.q x.per,.q x.day,.q x.st,.q x.pr,.str x.rep] 43)]):=by kernel_rfl
theorem rs1_ok(hP:C.P=Tryz.prog):wac C 61 wgl:=by
 have _:C.Loose:=inferInstance;rintro args objs U Os vc h hvc;unfold wgl at h;split at h<;>simp only[sI7,pI7,reduceCtorEq] at h;rename_i dev seq kind o p per day st pr rep o' p' per' dev' num xo xp xper xday xst xpr xrep t;obtain⟨rfl,rfl,rfl⟩:=h;have hvc:t=_:=hvc;subst hvc;have hn:=nf_rs1 ⟨dev,seq,kind,⟨o,p,per,day,st,pr,rep⟩,⟨o',p',per',dev',num⟩⟩ ⟨xo,xp,xper,xday,xst,xpr,xrep⟩;dsimp only at hn;refine wac.wp0 (prg hP) [] 0 .nil (hP ▸ Tryz.func61) rfl rfl rfl ?_;rw[hn];unfold difF;exact wbh (λq=>by rw[decide_eq_false q];exact⟨rfl,rfl⟩) (λq1=>wbh (λq=>by rw[decide_eq_true q1,decide_eq_false q];exact⟨rfl,rfl⟩) (λq2=>by rw[decide_eq_true q1,decide_eq_true q2];exact⟨rfl,rfl⟩))
theorem w02(hP:C.P=Tryz.prog)(x:VT)(g:Nat->MG)(n:Nat):wah C 1 19 (waj Tryz.f62 2) (wnb x g n):=by
 rintro st Q ⟨h0,hn,hQ⟩;have hR:=wbt hQ;refine wah.mk (prg hP) [(61,.det wgl)] 0 (.cons (rs1_ok hP) .nil) [0,1,7,8] [] [4] (wlt x g n) (λk=>k<=n/\fstB (λi=>difF x (g i)) k=k) (λk=>n - k) 0 ⟨zL7 _,rfl⟩ h0 (λk hk=>?_);obtain⟨hkn,hok⟩:=hk;rw[wyx,tN7];refine wae (λh1=>?_) (λh1=>?_)
 ·refine⟨⟨by omega,by omega,rfl⟩,rfl,wap (λh2=>?_) (λh2=>⟨by simp only[inR];omega,k+1,rfl,⟨by omega,wef hok h2⟩,by omega⟩)⟩;have e:=weg hok h2 n (by omega);have:=hR.1 (by rw[e,decide_eq_true];omega);rw[e] at this;exact this
 ·have:k=n:=by omega
  subst this;exact hR.2 (by rw[hok,decide_eq_false];omega)
theorem ix1_ok(hP:C.P=Tryz.prog):wac C 62 wlz:=by
 rintro args objs U Os vc h hvc;unfold wlz at h;split at h<;>cases h;rename_i n f xo xp xper xday xst xpr xrep t;obtain⟨rfl,hn,hf⟩:=hvc;generalize mgOf f=g at *;subst hf;have hnf:=λR=>nf_ixs1 ⟨xo,xp,xper,xday,xst,xpr,xrep⟩ g n R;dsimp only at hnf;refine wac.wpL (prg hP) [(61,.det wgl)] [(2,wnb ⟨xo,xp,xper,xday,xst,xpr,xrep⟩ g n)] 0 (.cons (rs1_ok hP) .nil) (hP ▸ Tryz.func62) rfl rfl rfl [(waj Tryz.f62 2,wnb ⟨xo,xp,xper,xday,xst,xpr,xrep⟩ g n)] (by kernel_rfl) ⟨w02 hP _ g n,trivial⟩ ?_;rw[hnf];unfold ixB;refine⟨rfl,hn,wae (λh=>?_) (λh=>?_)⟩
 ·rw[decide_eq_true h];exact⟨rfl,rfl⟩
 ·rw[decide_eq_false h];exact⟨rfl,rfl⟩
theorem rs2_ok(hP:C.P=Tryz.prog):wac C 63 wgk:=by
 rintro args objs U Os vc h hvc;unfold wgk at h;split at h<;>simp only[sI7,pI7,reduceCtorEq] at h;rename_i dev seq kind o p per day st pr rep o' p' per' dev' num xo xp xper xdev xnum t;obtain⟨rfl,rfl,rfl⟩:=h;have hvc:t=_:=hvc;subst hvc;have hn:=nf_rs2 ⟨dev,seq,kind,⟨o,p,per,day,st,pr,rep⟩,⟨o',p',per',dev',num⟩⟩ ⟨xo,xp,xper,xdev,xnum⟩;dsimp only at hn;refine wac.wp0 (prg hP) [(64,.det wdi)] 0 (.cons (wja hP) .nil) (hP ▸ Tryz.func63) rfl rfl rfl ?_;rw[hn];exact⟨trivial,rfl,rfl⟩
theorem w01(hP:C.P=Tryz.prog)(x:DT)(g:Nat->MG)(n:Nat):wah C 1 19 (waj Tryz.f62 2) (wna x g n):=by
 rintro st Q ⟨h0,hn,hQ⟩;have hR:=wbt hQ;refine wah.mk (prg hP) [(63,.det wgk)] 0 (.cons (rs2_ok hP) .nil) [0,1,7,8] [] [4] (wls x g n) (λk=>k<=n/\fstB (λi=>namF x (g i)) k=k) (λk=>n - k) 0 ⟨zL7 _,rfl⟩ h0 (λk hk=>?_);obtain⟨hkn,hok⟩:=hk;rw[wyw,tN7];refine wae (λh1=>?_) (λh1=>?_)
 ·refine⟨⟨by omega,by omega,rfl⟩,rfl,wap (λh2=>?_) (λh2=>⟨by simp only[inR];omega,k+1,rfl,⟨by omega,wef hok h2⟩,by omega⟩)⟩;have e:=weg hok h2 n (by omega);have:=hR.1 (by rw[e,decide_eq_true];omega);rw[e] at this;exact this
 ·have:k=n:=by omega
  subst this;exact hR.2 (by rw[hok,decide_eq_false];omega)
theorem ix2_ok(hP:C.P=Tryz.prog):wac C 62 wly:=by
 rintro args objs U Os vc h hvc;unfold wly at h;split at h<;>cases h;rename_i n f xo xp xper xdev xnum t;obtain⟨rfl,hn,hf⟩:=hvc;generalize mgOf f=g at *;subst hf;have hnf:=λR=>nf_ixs2 ⟨xo,xp,xper,xdev,xnum⟩ g n R;dsimp only at hnf;refine wac.wpL (prg hP) [(63,.det wgk)] [(2,wna ⟨xo,xp,xper,xdev,xnum⟩ g n)] 0 (.cons (rs2_ok hP) .nil) (hP ▸ Tryz.func62) rfl rfl rfl [(waj Tryz.f62 2,wna ⟨xo,xp,xper,xdev,xnum⟩ g n)] (by kernel_rfl) ⟨w01 hP _ g n,trivial⟩ ?_;rw[hnf];unfold ixB;refine⟨rfl,hn,wae (λh=>?_) (λh=>?_)⟩
 ·rw[decide_eq_true h];exact⟨rfl,rfl⟩
 ·rw[decide_eq_false h];exact⟨rfl,rfl⟩
theorem cf1_ok(hP:C.P=Tryz.prog):wac C 60 wmg:=by
 rintro args objs U Os vc h hvc;unfold wmg at h;split at h<;>cases h;rename_i n f xo xp xper xday xst xpr xrep t;obtain⟨rfl,hn,hf⟩:=hvc;generalize mgOf f=g at *;subst hf;have hnf:=λR=>nf_cf1 ⟨xo,xp,xper,xday,xst,xpr,xrep⟩ g n R;dsimp only at hnf;refine wac.wp0 (prg hP) [(62,.det wlz)] 0 (.cons (ix1_ok hP) .nil) (hP ▸ Tryz.func60) rfl rfl rfl ?_;rw[hnf];exact⟨⟨rfl,hn,rfl⟩,rfl,rfl⟩
end Go.Eng
