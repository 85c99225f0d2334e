/- Resolve's closures, and what looks for them. -/
import Derived.Test.YtmcdngcjakjnmaaGreatDoorJsv
namespace Go.Eng
def keyE(p:List UInt8×List UInt8):AV:=.agg [.str p.1,.str p.2]
def vI(c:Int):AV:=.q c
def entE(L:List ((List UInt8×List UInt8)×Int)):List (AV×AV):=entG keyE vI L
def wax(L:List (SL×Int)):List (AV×AV):=entG keyS vI L
def entW(L:List (SL×Bool)):List (AV×AV):=entG keyS .bool L
def S_u1(R:List MG)(k:Nat):St:=⟨[(3,.ptr 0 0),(4,.map 1),(5,.map 2),(6,.map 3),(7,.own 4 (ob1 R (visL R) k).r.length),(35,.view 3 (visL R).length (wap (atS (visL R)))),(36,.q (visL R).length),(37,.q k)],
 [(0,.cells [.vmap (wai R).length (entF (entG keyS vwM (wai R))),.view 3 (visL R).length (wap (atS (visL R)))] 72),(1,.amap (entE (ob1 R (visL R) k).e)),(2,.amap (wax (ob1 R (visL R) k).p)),(3,.amap []),(4,.row 43 7 (ob1 R (visL R) k).r.length (wb2 (atX (ob1 R (visL R) k).r)) false)],5,[]⟩
def L_u1(R:List MG):wan:=λst Q=>canonIs te 0 [3,4,5,6,7,35,36,37] (ownNil 7 43 7 st) (S_u1 R 0)/\BkOK R/\
 Q (.exit 0) ⟨[(3,.ptr 0 0),(4,.map 1),(5,.map 2),(6,.map 3),(7,.own 4 (repL R).length)],
  [(0,.cells [.vmap (wai R).length (entF (entG keyS vwM (wai R))),.view 3 (visL R).length (wap (atS (visL R)))] 72),(1,.amap (entE (obE R))),(2,.amap (wax (obW R 0).p)),(3,.amap []),(4,.row 43 7 (repL R).length (wb2 (atX (repL R))) false)],5,[]⟩
def S_u2(R:List MG)(k:Nat):St:=⟨[(3,.ptr 0 0),(4,.map 1),(5,.map 2),(6,.map 3),(91,.own 4 (repL R).length),(92,.q (repL R).length),(93,.q k)],
 [(0,.cells [.vmap (wai R).length (entF (entG keyS vwM (wai R))),.view 3 (visL R).length (wap (atS (visL R)))] 72),(1,.amap (entE (obE R))),(2,.amap (wax (obW R k).p)),(3,.amap (entW (obW R k).w)),(4,.row 43 7 (repL R).length (wb2 (atX (repL R))) false)],5,[]⟩
def L_u2(R:List MG):wan:=λst Q=>canonIs te 0 [3,4,5,6,91,92,93] st (S_u2 R 0)/\BkOK R/\
 Q (.exit 3) ⟨[(5,.map 0),(6,.map 1)],[(0,.amap (wax (obN R).p)),(1,.amap (entW (obN R).w))],2,[]⟩
def S_u3(P:List (SL×Int))(W:List (SL×Bool))(i:OI):St:=⟨[(5,.map 0),(6,.map 1),(24,.own 2 i.c),(152,.ptr 3 0)],
 [(0,.amap (wax P)),(1,.amap (entW W)),(2,.row 78 3 i.c (wap i.h) false),(3,.miter 0 P.length (75::i.c0::i.left))],4,[]⟩
def L_u3(P:List (SL×Int))(W:List (SL×Bool)):wan:=λst Q=>canonIs te 0 [5,6,24,152] (ownNil 24 78 3 st) (S_u3 P W ⟨0,λ_=>default,P.length,List.range P.length⟩)/\(P.map Prod.fst).Nodup/\(W.map Prod.fst).Nodup/\P.length<=200000/\
 ∀(E:List (SL×Int)) (h:Nat->SL) (c:Nat),E.Perm P->lst h c=(E.map Prod.fst).filter (λt=> !wrgB W t)->Q (.exit 5) ⟨[(5,.map 0),(24,.own 1 c)],[(0,.amap (wax P)),(1,.row 78 3 c (wap h) false)],2,[]⟩
def obC(s:SL)(v:Int):List AV:=[.str s.o,.str s.p,.q s.per,.bool false,.view 1 (lmN v) (uRow (lmF v)),.nil]
def wbp(L:List SL)(pr:SL->Int)(i:Nat):List AV:=[.str (atS L i).o,.str (atS L i).p,.q (atS L i).per,.bool false,.view 1 (lmN (pr (atS L i))) (uRow (lmF (pr (atS L i)))),.nil]
def S_u4(P:List (SL×Int))(L:List SL)(pr:SL->Int)(k:Nat):St:=⟨[(5,.map 0),(26,.own 1 k),(167,.own 2 L.length),(168,.q L.length),(169,.q k)],
 [(0,.amap (wax P)),(1,.row 41 6 k (wbp L pr) false),(2,.row 78 3 L.length (wap (atS L)) false)],3,[]⟩
def L_u4(P:List (SL×Int))(L:List SL)(pr:SL->Int):wan:=λst Q=>canonIs te 0 [5,26,167,168,169] (ownNil 26 41 6 st) (S_u4 P L pr 0)/\(P.map Prod.fst).Nodup/\L.length<=200000/\(∀s∈L,getA P s=some (pr s)/\0<=pr s/\pr s<9223372036854775808)/\
 Q (.exit 7) ⟨[(26,.own 0 L.length)],[(0,.row 41 6 L.length (wbp L pr) false)],1,[]⟩
def wlv:Spec
 |[.view 15 n f],[]=>some (.view 6 (obL (wae (mgOf f) n)).length (wbp (obL (wae (mgOf f) n)) (obP (wae (mgOf f) n))),[],n<=100000/\f=waa (mgOf f)/\∀i,i<n->(mgOf f i).Sm)
 |_,_=>none
def wll(g:Nat->Int)(n k:Nat):St:=⟨[(0,.own 0 n),(3,.q k)],[(0,.row 124 1 n (uRow g) false)],1,[]⟩
def wlm:Spec
 |[.own 0 n],[.row t 1 m f fr]=>some (.q (lowI (uOf f) n),[(0,.row 124 1 n f false)],t=124/\fr=false/\n=m/\n<=1000/\∀i,i<n->f i=uRow (uOf f) i)
 |_,_=>none
def wnl(g:Nat->Int)(n:Nat):wan:=λst Q=>canonIs te 1 [0,3] st (wll g n n)/\n<=1000/\Q (.exit 0) ⟨[(3,.q (lowI g n))],[(0,.row 124 1 n (uRow g) false)],1,[]⟩
def wfe(n:Nat)(u:Nat->Int)(m:Nat)(w:Nat->Int):Bool:=decide (n=m) && decide (fstB (λi=> !decide (u i=w i)) n=n)
def wlj:Spec
 |[.view 1 n f,.view 1 m g],[]=>some (.bool (wfe n (uOf f) m (uOf g)),[],n<=1000/\m<=1000/\f=uRow (uOf f)/\g=uRow (uOf g))
 |[.nil,.nil],[]=>some (.bool true,[],True)
 |_,_=>none
def wli(n:Nat)(u w:Nat->Int)(k:Nat):St:=⟨[(0,.view 1 n (uRow u)),(1,.view 1 n (uRow w)),(12,.q n),(13,.q k)],[],0,[]⟩
def wlh(k:Nat):St:=⟨[(0,.nil),(1,.nil),(12,.q 0),(13,.q k)],[],0,[]⟩
def wni:wan:=λst Q=>canonIs te 0 [0,1,12,13] st (wlh 0)/\Q (.exit 0) ⟨[],[],0,[]⟩
def wnj(n:Nat)(u w:Nat->Int):wan:=λst Q=>canonIs te 0 [0,1,12,13] st (wli n u w 0)/\n<=1000/\
 wab (decide (fstB (λi=> !decide (u i=w i)) n=n)) (Q (.exit 0) ⟨[],[],0,[]⟩) (Q .ret ⟨[(4,.bool false)],[],0,[]⟩)
def wgv:Spec
 |[.agg [.bool a,.view 1 n f,.nil],.agg [.bool b,.view 1 m g,.nil]],[]=>some (.bool (decide (a=b) && wfe n (uOf f) m (uOf g)),[],n<=1000/\m<=1000/\f=uRow (uOf f)/\g=uRow (uOf g))
 |_,_=>none
def visE(a b:VT):Bool:=decide (a.o=b.o) && (decide (a.p=b.p) && (decide (a.per=b.per) && (decide (a.day=b.day) && (decide (a.st=b.st) && (decide (a.pr=b.pr) && decide (a.rep=b.rep))))))
def wlk(R:List MG):Spec
 |[.view 15 n f,.str o,.str p,.int .i64 per],[]=>
   some (.tuple [.agg [.str (resB R ⟨o,p,per⟩).1.o,.str (resB R ⟨o,p,per⟩).1.p,.q (resB R ⟨o,p,per⟩).1.per,.q (resB R ⟨o,p,per⟩).1.day,.q (resB R ⟨o,p,per⟩).1.st,.q (resB R ⟨o,p,per⟩).1.pr,.str (resB R ⟨o,p,per⟩).1.rep],.q (resB R ⟨o,p,per⟩).2],[],
    R=wae (mgOf f) n/\n<=100000/\f=waa (mgOf f)/\∀i,i<n->(mgOf f i).Sm)
 |_,_=>none
structure StM (m:MG):Prop where
 dev:m.dev.length<=1
 kind:m.kind=1
 o:m.v.o=[111,49]
 p:∃i:Nat,i<3/\m.v.p=idF i
 per:∃j:Nat,j<4/\m.v.per=1440+j
 rep:m.v.st=5->∃i:Nat,i<4/\m.v.rep=idF i
 d:m.d=⟨[],[],0,[],0⟩
structure ZI where
 c:Nat
 g:Nat->MG
 a:Int
 q:Int
 j:Nat
def wk9(n:Nat)(v:Nat->Int)(k:Nat)(i:ZI):St:=⟨[(0,.ptr 0 0),(3,.own 1 i.c),(4,.q i.q),(5,.q k),(9,.q k),(12,.q i.j)],
 [(0,.cells [.view 1 n (waj v),.q i.a] 26),(1,.row 47 15 i.c (waa i.g) false)],2,[]⟩
def wne(n:Nat)(v:Nat->Int)(k:Nat)(z:ZI):wan:=λst Q=>canonIs te 1 [0,3,4,5,9,12] (ownNil 3 47 15 st) (wk9 n v k ⟨z.c,z.g,z.a,z.q,0⟩)/\k<3/\z.c<=30/\(0<=z.q/\z.q<=30)/\(0<=z.a/\z.a<=4611686018427370000)/\(∀j,j<z.c->StM (z.g j))/\
 ∀i:ZI,i.c<=z.c+8->(z.q<=i.q/\i.q<=z.q+4)->(z.a<=i.a/\i.a<=z.a+40)->(∀j,j<i.c->StM (i.g j))->Q (.exit 2) ⟨[(0,.ptr 0 0),(3,.own 1 i.c),(4,.q i.q),(9,.q k)],[(0,.cells [.view 1 n (waj v),.q i.a] 26),(1,.row 47 15 i.c (waa i.g) false)],2,[]⟩
def wk8(n:Nat)(v:Nat->Int)(i:ZI):St:=⟨[(0,.ptr 0 0),(3,.own 1 i.c),(4,.q i.q),(9,.q i.j)],
 [(0,.cells [.view 1 n (waj v),.q i.a] 26),(1,.row 47 15 i.c (waa i.g) false)],2,[]⟩
def wnd(n:Nat)(v:Nat->Int)(a:Int):wan:=λst Q=>canonIs te 1 [0,3,4,9] (ownNil 3 47 15 st) (wk8 n v ⟨0,λ_=>default,a,0,0⟩)/\(0<=a/\a<=4611686018427360000)/\
 ∀i:ZI,i.c<=24->(a<=i.a/\i.a<=a+120)->(∀j,j<i.c->StM (i.g j))->Q (.exit 0) ⟨[(3,.own 1 i.c)],[(0,.cells [.view 1 n (waj v),.q i.a] 26),(1,.row 47 15 i.c (waa i.g) false)],2,[]⟩
def wvi:wda
 |[.ptr 0 0],[.cells [.view sz n f,.int .i64 a] t],R=>t=26/\sz=1/\f=waj (vInt f)/\(0<=a/\a<=4611686018427360000)/\
   ∀(c:Nat) (g:Nat->MG) (a':Int),c<=24->(a<=a'/\a'<=a+120)->(∀j,j<c->StM (g j))->
   R (.own 1 c) [(0,.cells [.view 1 n f,.q a'] 26),(1,.row 47 15 c (waa g) false)]
 |_,_,_=>False
def wm6:wda
 |[.ptr 0 0],[.cells [.view sz n f,.int .i64 a] t],R=>t=26/\sz=1/\f=waj (vInt f)/\(0<=a/\a<=4611686018427360000)/\
   ∀(c:Nat) (g:Nat->MG) (a':Int),c<=24->(a<=a'/\a'<=a+120)->(∀j,j<c->StM (g j))->
   R (.view 15 c (waa g)) [(0,.cells [.view 1 n f,.q a'] 26)]
 |_,_,_=>False
def wm1:Spec
 |[],[]=>some (.bool true,[],True)
 |_,_=>none
def wlu:Spec
 |[.own 0 n],[.row _ 15 m f _]=>some (.view 6 (obL (wae (mgOf f) n)).length (wbp (obL (wae (mgOf f) n)) (obP (wae (mgOf f) n))),[],n=m/\n<=100000/\RM f n)
 |_,_=>none
structure CN where
 h:Nat->MG
 m:Nat
 R:List MG
structure CN.OK (z:CN):Prop where
 len:z.m<=1000
 right:z.R=wae z.h z.m
 st:∀j,j<z.m->StM (z.h j)
structure YN where
 z:CN
 q:List SL
 pr:SL->Int
structure YN.OK (y:YN):Prop where
 c:y.z.OK
 q:y.q=obL y.z.R
 pr:y.pr=obP y.z.R
structure PJ where
 j:Nat
 b:Bool
def wl5(y:YN)(k:Nat):St:=⟨[(3,.view 15 y.z.m (waa y.z.h)),(4,.view 6 y.q.length (wbp y.q y.pr)),(19,.view 6 y.q.length (wbp y.q y.pr)),(20,.q y.q.length),(21,.q k)],[],0,[]⟩
def wnr:wan:=λst Q=>∃y:YN,canonIs te 0 [3,4,19,20,21] st (wl5 y 0)/\y.OK/\Q (.exit 0) ⟨[],[],0,[]⟩
def wl6(y:YN)(k:Nat)(t:SL)(v:Int)(i:PJ):St:=⟨[(3,.view 15 y.z.m (waa y.z.h)),(4,.view 6 y.q.length (wbp y.q y.pr)),(6,.ptr 0 0),(7,.bool i.b),(19,.view 6 y.q.length (wbp y.q y.pr)),(20,.q y.q.length),(21,.q k),(61,.view 15 y.z.m (waa y.z.h)),(62,.q y.z.m),(63,.q i.j)],
 [(0,.cells (obC t v) 41)],1,[]⟩
def wns(y:YN)(k:Nat)(t:SL)(v:Int):wan:=λst Q=>canonIs te 0 [3,4,6,7,19,20,21,61,62,63] st (wl6 y k t v ⟨0,false⟩)/\(y.OK/\t∈y.q/\v=y.pr t)/\
 Q (.exit 2) ⟨[(3,.view 15 y.z.m (waa y.z.h)),(4,.view 6 y.q.length (wbp y.q y.pr)),(7,.bool true),(19,.view 6 y.q.length (wbp y.q y.pr)),(20,.q y.q.length),(21,.q k)],[],0,[]⟩
theorem wr2{g:Nat->MG}{n:Nat}{m:MG}(h:m∈wae g n):∃i,i<n/\g i=m:=by
 have h1:=(wjo.1 (List.mem_filter.1 h).1).1
 rcases List.mem_append.1 h1 with h | h
 ·obtain⟨i,hi,rfl⟩:=List.mem_map.1 h;exact⟨i,List.mem_range.1 hi,rfl⟩
 ·simp[lst] at h
theorem ww2{g:Nat->MG}{n:Nat}(hs:∀j,j<n->StM (g j)){m:MG}(h:m∈wae g n):StM m:=by
 obtain⟨i,hi,rfl⟩:=wr2 h;exact hs i hi
theorem wsd{g:Nat->MG}{n:Nat}(hs:∀j,j<n->StM (g j)){t:SL}(ht:t∈obL (wae g n)):t.o=[111,49]:=
 obU_out (λ_m hm _=>(ww2 hs hm).o) (wep.1 ht).1
theorem obs_up{g:Nat->MG}{n:Nat}(hs:∀j,j<n->StM (g j)){i:Nat}(h0:0<i)(hi:i<(obL (wae g n)).length):
  cmpS (atS (obL (wae g n)) (i - 1)).p (atS (obL (wae g n)) i).p<0∨((atS (obL (wae g n)) (i - 1)).p=(atS (obL (wae g n)) i).p/\(atS (obL (wae g n)) (i - 1)).per<(atS (obL (wae g n)) i).per):=by
 have ha:=wgo (wox (wae g n)) (show i - 1<i by omega) hi;have h1:=wsd hs (wed (show i - 1<(obL (wae g n)).length by omega));have h2:=wsd hs (wed hi);unfold ordS at ha;rw[h1,h2] at ha;generalize atS (obL (wae g n)) (i - 1)=a at *;generalize atS (obL (wae g n)) i=b at *;have e:cmpS [111,49] [111,49]=0:=wea.2 rfl;simp only[orL] at ha;rw[e] at ha
 by_cases q:cmpS a.p b.p=0
 ·rw[q] at ha;refine .inr ⟨wea.1 q,?_⟩;unfold cmpI at ha;simp only[Bool.cond_decide] at ha;grind
 ·refine .inl ?_;grind
end Go.Eng
namespace Go.Eng
open Go.Proofs Go.RowKit
variable {C:Ctx} [C.Loose]
set_option maxRecDepth 20000
theorem nf_mark(m:MG)(R:oR7):wpFn te [] [] 0 Tryz.f64 [.agg [.str m.dev,.q m.seq,.q m.kind,.str m.v.o,.str m.v.p,.q m.v.per,.q m.v.day,.q m.v.st,.q m.v.pr,.str m.v.rep,.str m.d.o,.str m.d.p,.q m.d.per,.str m.d.dev,.q m.d.num]] [] R=((True/\True)/\R (.agg [.str m.dev,.q m.seq]) []):=by kernel_rfl
theorem wz1(g:Nat->MG)(n:Nat)(R:oR7):wpFn te [] [(3,L_ct g n)] 0 Tryz.f90 [.own 0 n] [.row 47 15 n (waa g) false] R=(letI z0:=ren 1 [(1,1)];(TEq [(3,.map 1),(7,.own 0 n),(8,.q (n:Int)),(9,.q 0)] [(3,.map 1),(7,.own 0 n),(8,.q (n:Int)),(9,.q (↑0:Int))]/\wac [(0,.row 47 15 n (waa g) false),(1,.amap (List.map (λ(p:AV×AV)=>(AV.rn z0 p.1,AV.rn z0 p.2)) []))] [(0,.row 47 15 n (waa g) false),(1,.amap (entM (cntL g 0)))])/\n<=1000000/\(∀(i:Nat),i<n->true=true)/\∃(O':oL7),wac [(0,.row 47 15 n (waa g) false),(1,.amap (List.map (λ(p:AV×AV)=>(AV.rn z0 p.1,AV.rn z0 p.2)) (entM (cntL g n))))] O'/\R (.map 1) O'):=by kernel_rfl
theorem wzz(g:Nat->MG)(n k:Nat)(P:Nat->Prop)(R:eR7):was ⟨te,[],[(1005,L_c5 (cntL g k) (g k) g n k)],1,22,0⟩ (wat Tryz.f90 3) [3,7,8,9] [3] [] (S_ct g n) P R (S_ct g n k)=(letI z2:=ren 1 [(1,1)];letI z1:=([(3,.map 1),(5,.ptr 2 0),(7,.own 0 n),(8,.q (n:Int)),(9,.q (k:Int))]:tL7);letI z0:=(g (k:Int).toNat);wab (decide ((k:Int)<(n:Int))) (((0:Int)<=(k:Int)/\(k:Int)<(n:Int))/\((k:Int).toNat<n/\15=15)/\(TEq z1 z1/\wac [(0,.row 47 15 n (waa g) false),(1,.amap (List.map (λ(p:AV×AV)=>(AV.rn (ren 1 [(1,1),(2,2)]) p.1,AV.rn (ren 1 [(1,1),(2,2)]) p.2)) (entM (cntL g k)))),(2,.cells [.str z0.dev,.q z0.seq,.q z0.kind,.str z0.v.o,.str z0.v.p,.q z0.v.per,.q z0.v.day,.q z0.v.st,.q z0.v.pr,.str z0.v.rep,.str z0.d.o,.str z0.d.p,.q z0.d.per,.str z0.d.dev,.q z0.d.num] 47)] [(0,.row 47 15 n (waa g) false),(1,.amap (entM (cntL g k))),(2,.cells [.str (g k).dev,.q (g k).seq,.q (g k).kind,.str (g k).v.o,.str (g k).v.p,.q (g k).v.per,.q (g k).v.day,.q (g k).v.st,.q (g k).v.pr,.str (g k).v.rep,.str (g k).d.o,.str (g k).d.p,.q (g k).d.per,.str (g k).d.dev,.q (g k).d.num] 47)])/\List.Nodup (List.map Prod.fst (cntL g k))/\inR .i64 (getC (cntL g k) (mk2 (g k))+1)/\inR .i64 ((k:Int)+1)/\∃(i':Nat),(TEq [(3,.map 1),(7,.own 0 n),(8,.q (n:Int)),(9,.q ((k:Int)+1))] [(3,.map 1),(7,.own 0 n),(8,.q (n:Int)),(9,.q (i':Int))]/\wac [(0,.row 47 15 n (waa g) false),(1,.amap (List.map (λ(p:AV×AV)=>(AV.rn z2 p.1,AV.rn z2 p.2)) (entM (addC (cntL g k) (mk2 (g k))))))] [(0,.row 47 15 n (waa g) false),(1,.amap (entM (cntL g i')))])/\P i') ((∀(i:Nat),i<n->true=true)/\∃(O':oL7),wac [(0,.row 47 15 n (waa g) false),(1,.amap (List.map (λ(p:AV×AV)=>(AV.rn z2 p.1,AV.rn z2 p.2)) (entM (cntL g k))))] O'/\R (.exit 0) (St.mk [(3,.map 1)] O' 2 []))):=by kernel_rfl
theorem nf_c5(L:List ((List UInt8×Int)×Int))(x:MG)(g:Nat->MG)(n k:Nat)(Q:eR7):regE ⟨te,[(64,.det wdw)],[],1,22,0⟩ (regC Tryz.f90 5) [3,5,7,8,9] Q (S_c5 L x g n k)=(letI z19:=ren 1 [(1,1),(2,2)];letI z18:=zvA (.q 0);letI z13:=(∀(i:Nat),i<n->true=true:Prop);letI z10:=([.str x.dev,.q x.seq,.q x.kind,.str x.v.o,.str x.v.p,.q x.v.per,.q x.v.day,.q x.v.st,.q x.v.pr,.str x.v.rep,.str x.d.o,.str x.d.p,.q x.d.per,.str x.d.dev,.q x.d.num]:List AV);letI z8:=([(3,.map 1),(5,.ptr 2 0),(7,.own 0 n),(8,.q (n:Int)),(9,.q (k:Int))]:tL7);letI z3:=([.str x.dev,.q x.seq]:List AV);letI z16:=mget (entM L) (.agg z3);letI z15:=(↑(midx (entM L) (.agg z3)):Int);letI z12:=(wa2 (Option.getD z16 z18)+1);letI z9:=wa5 te 103 (entM L)/\.q (wa2 (Option.getD z16 (.q 0)))=Option.getD z16 (.q 0);letI z7:=ment (.q 0) (entM L) (.agg z3);letI z20:=List.getD z7 z15.toNat (.any,.any);letI z11:=Option.getD (mget z7 (.agg z3)) z18;letI z17:=(wa2 z11+1);letI z14:=wa5 te 103 z7/\.q (wa2 z11)=Option.getD (mget z7 (.agg z3)) z18;letI z6:=((0:Int)<=z15/\z15<(z7.length:Int):Prop);letI z4:=([(0,.row 47 15 n (waa g) false),(1,.amap (List.map (λ(p:AV×AV)=>(AV.rn z19 p.1,AV.rn z19 p.2)) (List.set z7 z15.toNat (z20.1,.q z12)))),(2,.cells z10 47)]:oL7);letI z2:=([(0,.row 47 15 n (waa g) false),(1,.amap (List.map (λ(p:AV×AV)=>(AV.rn z19 p.1,AV.rn z19 p.2)) (List.set z7 z15.toNat (z20.1,.q z17)))),(2,.cells z10 47)]:oL7);letI z5:=(z14/\(inR .i64 z17/\z6/\z13/\∃(O':oL7),wac z2 O'/\Q .normal (St.mk z8 O' 3 []))/\inR .i64 z17/\z6/\z13/\∃(O':oL7),wac z2 O'/\Q .normal (St.mk z8 O' 3 []):Prop);letI z1:=((wa5 te 103 (entM L)/\.q (wa2 (Option.getD z16 z18))=Option.getD z16 z18)/\(inR .i64 z12/\z9/\z6/\z13/\∃(O':oL7),wac z4 O'/\Q .normal (St.mk z8 O' 3 []))/\z9/\(inR .i64 z12/\z6/\z13/\∃(O':oL7),wac z4 O'/\Q .normal (St.mk z8 O' 3 []))/\inR .i64 z12/\z6/\z13/\∃(O':oL7),wac z4 O'/\Q .normal (St.mk z8 O' 3 []):Prop);letI z0:=(True/\z1/\z9/\z5/\z14/\inR .i64 z17/\z6/\z13/\∃(O':oL7),wac z2 O'/\Q .normal (St.mk z8 O' 3 []));z0/\z0/\True/\z1/\z9/\z5/\z14/\inR .i64 z17/\z6/\z13/\∃(O':oL7),wac z2 O'/\Q .normal (St.mk z8 O' 3 [])):=by kernel_rfl
theorem wjs(hP:C.P=Tryz.prog):wad C 64 wdw:=by
 have _:C.Loose:=inferInstance;rintro args objs U Os vc h hvc;unfold wdw at h;split at h<;>simp only[sI7,pI7,reduceCtorEq] at h;rename_i dev seq kind o p per day st pr rep o' p' per' dev' num;obtain⟨rfl,rfl,rfl⟩:=h;refine wad.wp0 (prg hP) [] 0 .nil (hP ▸ Tryz.func64) rfl rfl rfl ?_;have hn:=nf_mark ⟨dev,seq,kind,⟨o,p,per,day,st,pr,rep⟩,⟨o',p',per',dev',num⟩⟩;dsimp only at hn;rw[hn];exact⟨⟨trivial,trivial⟩,rfl,rfl⟩
def keyK(p:List UInt8×Int):AV:=.agg [.str p.1,.q p.2]
theorem wfl(a b:List UInt8×Int):keq (keyK a) (keyK b)=(decide (a.1=b.1) && decide (a.2=b.2)):=by simp[keyK,keq,keqL,keq0]
theorem wrl(p:List UInt8×Int):(decide (p.1=p.1) && decide (p.2=p.2))=true:=by simp
theorem wcs(σ:Nat->Option Nat)(L:List ((List UInt8×Int)×Int)):(entM L).map (λp=>(AV.rn σ p.1,AV.rn σ p.2))=entM L:=by
 unfold entM;rw[List.map_map];rfl
theorem wko{L:List ((List UInt8×Int)×Int)}(h:(L.map Prod.fst).Nodup):wa5 te 103 (entM L):=by
 refine⟨List.all_eq_true.2 λp hp=>?_,?_⟩
 ·obtain⟨r,_,rfl⟩:=List.mem_map.1 hp;have:∀(a:List UInt8) (b:Int),keyA te 103 (.agg [.str a,.q b])=true:=λa b=>by kernel_rfl
  exact this _ _
 ·have:(entM L).map Prod.fst=(L.map Prod.fst).map keyK:=by simp[entM,keyK]
  rw[this];refine List.pairwise_map.2 (h.imp λ{a b} hab he=>hab ?_);have q:=wfl a b;rw[he,wfl,wrl] at q;exact weh.1 q.symm
theorem why(p:List UInt8×Int):∀L:List ((List UInt8×Int)×Int),Option.getD (mget (entM L) (keyK p)) (.q 0)= .q (getC L p)
 |[]=>rfl
 |x::l=>by
  rw[getC];show Option.getD (match keq (keyK x.1) (keyK p) with | true=>some (.q x.2) | false=>mget (entM l) (keyK p)) _=_
  rw[wfl]
  cases decide (x.1.1=p.1) && decide (x.1.2=p.2) with
  |true=>rfl
  |false=>exact why p l
theorem ment_K(p:List UInt8×Int):∀L:List ((List UInt8×Int)×Int),
  Option.getD (mget (ment (.q 0) (entM L) (keyK p)) (keyK p)) (.q 0)= .q (getC L p)/\midx (entM L) (keyK p)<(ment (.q 0) (entM L) (keyK p)).length/\
  (ment (.q 0) (entM L) (keyK p)).set (midx (entM L) (keyK p)) (((ment (.q 0) (entM L) (keyK p)).getD (midx (entM L) (keyK p)) (.any,.any)).1,.q (getC L p+1))=entM (addC L p)
 |[]=>by
  refine⟨?_,Nat.zero_lt_one,rfl⟩;show Option.getD (match keq (keyK p) (keyK p) with | true=>some (AV.q 0) | false=>none) _=_
  rw[wfl,wrl];rfl
 |x::l=>by
  obtain⟨i1,i2,i3⟩:=ment_K p l;have e1:ment (.q 0) (entM (x::l)) (keyK p)=match keq (keyK x.1) (keyK p) with | true=>(keyK x.1,AV.q x.2)::entM l | false=>(keyK x.1,AV.q x.2)::ment (.q 0) (entM l) (keyK p):=rfl
  have e2:midx (entM (x::l)) (keyK p)=match keq (keyK x.1) (keyK p) with | true=>0 | false=>midx (entM l) (keyK p)+1:=rfl
  rw[e1,e2,getC,addC,wfl]
  cases h:decide (x.1.1=p.1) && decide (x.1.2=p.2) with
  |true=>
   have e:=weh.1 h;refine⟨?_,Nat.succ_pos _,?_⟩
   ·show Option.getD (match keq (keyK x.1) (keyK p) with | true=>some (AV.q x.2) | false=>mget (entM l) (keyK p)) _=_
    rw[wfl,h];rfl
   ·show (keyK x.1,AV.q (x.2+1))::entM l=(keyK p,AV.q (x.2+1))::entM l;rw[e]
  |false=>
   refine⟨?_,Nat.succ_lt_succ i2,?_⟩
   ·show Option.getD (match keq (keyK x.1) (keyK p) with | true=>some (AV.q x.2) | false=>mget (ment (.q 0) (entM l) (keyK p)) (keyK p)) _=_
    rw[wfl,h];exact i1
   ·show (keyK x.1,AV.q x.2)::(ment (.q 0) (entM l) (keyK p)).set (midx (entM l) (keyK p)) (((ment (.q 0) (entM l) (keyK p)).getD (midx (entM l) (keyK p)) (.any,.any)).1,.q (getC l p+1))=(keyK x.1,AV.q x.2)::entM (addC l p);rw[i3]
theorem w1l{ES:List (AV×AV)}{i:Nat}{v:AV}(hi:i<ES.length)(h:wa5 te 103 (ES.set i ((ES.getD i (.any,.any)).1,v))):wa5 te 103 ES:=by
 have e:(ES.set i ((ES.getD i (.any,.any)).1,v)).map Prod.fst=ES.map Prod.fst:=by
  apply List.ext_getElem
  ·simp
  ·intro j h1 h2;simp only[List.getElem_map,List.getElem_set];split
   ·rename_i e;subst e;simp[hi]
   ·rfl
 obtain⟨h1,h2⟩:=h;rw[e] at h2;refine⟨?_,h2⟩;have f:∀l:List (AV×AV),(l.all λp=>keyA te 103 p.1)=(l.map Prod.fst).all λk=>keyA te 103 k:=λl=>by rw[List.all_map];rfl
 rw[f] at h1 ⊢;rw[e] at h1;exact h1
theorem c5_ok(hP:C.P=Tryz.prog)(L:List ((List UInt8×Int)×Int))(x:MG)(g:Nat->MG)(n k:Nat):wag C 1 22 (regC Tryz.f90 5) (L_c5 L x g n k):=by
 rintro st Q ⟨h0,hnd,hin,hQ⟩;refine wag.regE (prg hP) [(64,.det wdw)] 0 (.cons (wjs hP) .nil) [3,5,7,8,9] [3,5,7,8,9] h0 ?_ ⟨λ_ _=>rfl,trivial⟩;have zz:zvA (.q 0)= .q 0:=rfl;rw[nf_c5,zz];have F1:Option.getD (mget (entM L) (.agg [.str x.dev,.q x.seq])) (.q 0)= .q (getC L (mk2 x)):=why (mk2 x) L;obtain⟨F3,F4,F5⟩:=ment_K (mk2 x) L;have K1:=wko hnd;have K2:wa5 te 103 (ment (.q 0) (entM L) (keyK (mk2 x))):=w1l F4 (F5.symm ▸ wko (wqr (mk2 x) hnd));change Option.getD (mget (ment (.q 0) (entM L) (.agg [.str x.dev,.q x.seq])) (.agg [.str x.dev,.q x.seq])) (.q 0)= .q (getC L (mk2 x)) at F3;change midx (entM L) (.agg [.str x.dev,.q x.seq])<(ment (.q 0) (entM L) (.agg [.str x.dev,.q x.seq])).length at F4;change (ment (.q 0) (entM L) (.agg [.str x.dev,.q x.seq])).set (midx (entM L) (.agg [.str x.dev,.q x.seq])) (((ment (.q 0) (entM L) (.agg [.str x.dev,.q x.seq])).getD (midx (entM L) (.agg [.str x.dev,.q x.seq])) (.any,.any)).1,.q (getC L (mk2 x)+1))=entM (addC L (mk2 x)) at F5;change wa5 te 103 (ment (.q 0) (entM L) (.agg [.str x.dev,.q x.seq])) at K2;have F6:(0:Int)<=(midx (entM L) (.agg [.str x.dev,.q x.seq]):Int)/\(midx (entM L) (.agg [.str x.dev,.q x.seq]):Int)<((ment (.q 0) (entM L) (.agg [.str x.dev,.q x.seq])).length:Int):=by omega
 simp only[F1,F3,wa2,tN7,F5,wcs];have leaf:∃O',wac (S_c5 (addC L (mk2 x)) x g n k).O O'/\Q .normal ⟨(S_c5 (addC L (mk2 x)) x g n k).T,O',3,[]⟩:=⟨_,wav _,hQ⟩;have all:∀i,i<n->True:=λ_ _=>trivial;have K1:=(and_true (wa5 te 103 (entM L))).symm ▸ K1
 repeat' first | exact leaf | exact trivial | exact K1 | exact K2 | exact⟨K2,trivial⟩ | exact hin | exact F6 | exact all | refine And.intro ?_ ?_
theorem ct_loop(hP:C.P=Tryz.prog)(g:Nat->MG)(n:Nat):wag C 1 22 (wah Tryz.f90 3) (L_ct g n):=by
 rintro st Q ⟨h0,hn,hQ⟩;refine wag.mkI (prg hP) [] (λk=>[(1005,L_c5 (cntL g k) (g k) g n k)]) 0 .nil (λk=>[(regC Tryz.f90 5,L_c5 (cntL g k) (g k) g n k)]) (λk=>by kernel_rfl) (λk=>⟨c5_ok hP _ _ g n k,trivial⟩) [3,7,8,9] [3] [] (S_ct g n) (λk=>k<=n) (λk=>n - k) 0 (zL7 _) h0 (λk hk=>?_) (λk=>⟨λ_ _=>rfl,trivial⟩);rw[wzz,tN7,wcs];have hb:=wka g (mk2 (g k)) k;have hc:=wo0 g (mk2 (g k)) k;refine waf (λh1=>⟨⟨by omega,by omega⟩,⟨by omega,rfl⟩,⟨rfl,rQ7,rfl,rfl,trivial⟩,wkt g k,by simp only[inR];omega,by simp only[inR];omega,k+1,⟨rfl,rQ7,?_,trivial⟩,by omega,by omega⟩) (λh1=>?_)
 ·rw[wcs];rfl
 ·have:k=n:=by omega
  subst this;rw[wcs];exact⟨λ_ _=>rfl,_,wav _,hQ⟩
theorem wut(hP:C.P=Tryz.prog):wad C 90 wg5:=by
 rintro args objs U Os vc h hvc;unfold wg5 at h;split at h<;>cases h;rename_i n t m f fr;obtain⟨rfl,rfl,rfl,hn,hf⟩:=hvc;generalize mgOf f=g at *;subst hf;refine wad.wpL (prg hP) [] [(3,L_ct g n)] 0 .nil (hP ▸ Tryz.func90) rfl rfl rfl [(wah Tryz.f90 3,L_ct g n)] (by kernel_rfl) ⟨ct_loop hP g n,trivial⟩ ?_;rw[wz1,wcs];exact⟨⟨rfl,rQ7,rfl,trivial⟩,hn,λ_ _=>rfl,_,wav _,rfl,rfl⟩
theorem wyn(m:MG)(es:List (AV×AV))(R:oR7):wpFn te [(64,.det wdw)] [] 0 Tryz.f92 [.agg [.str m.dev,.q m.seq,.q m.kind,.str m.v.o,.str m.v.p,.q m.v.per,.q m.v.day,.q m.v.st,.q m.v.pr,.str m.v.rep,.str m.d.o,.str m.d.p,.q m.d.per,.str m.d.dev,.q m.d.num],.ptr 0 0] [.cells [.map 1] 126,.amap es] R=(letI z1:=(ren (List.length [AObj.cells [.map 1] (126:TypeId),.amap es]) []);letI z0:=mget es (.agg [.str m.dev,.q m.seq]);True/\(wa5 te 103 es/\.q (wa2 (Option.getD z0 (zvA (.q 0))))=Option.getD z0 (zvA (.q 0)))/\R (.bool (decide ((1:Int)<wa2 (Option.getD z0 (zvA (.q 0)))))) [(0,.cells [.map 1] 126),(1,.amap (List.map (λ(p:AV×AV)=>(AV.rn z1 p.1,AV.rn z1 p.2)) es))]):=by kernel_rfl
theorem nf_ixr(es:List (AV×AV))(g:Nat->MG)(n:Nat)(R:oR7):wpFn te [(92,.det we2)] [(2,wnw es g n)] 0 Tryz.f62 [.own 0 n,.func 92 [.ptr 1 0]] [.row 47 15 n (waa g) false,.cells [.map 2] 126,.amap es] R=(letI z1:=(ren (List.length [AObj.row (47:TypeId) 15 n (waa g) false,.cells [.map 2] (126:TypeId),.amap es]) []);letI z0:=([(0,.row 47 15 n (waa g) false),(1,.cells [.map 2] 126),(List.length [AObj.cells [.map 2] (126:TypeId),.amap es],.amap (List.map (λ(p:AV×AV)=>(AV.rn z1 p.1,AV.rn z1 p.2)) es))]:oL7);(TEq [(0,.own 0 n),(1,.func 92 [.ptr 1 0]),(7,.q (n:Int)),(8,.q 0)] [(0,.own 0 n),(1,.func 92 [.ptr 1 0]),(7,.q (n:Int)),(8,.q (↑0:Int))]/\wac [(0,.row 47 15 n (waa g) false),(1,.cells [.map 2] 126),(2,.amap (List.map (λ(p:AV×AV)=>(AV.rn (ren 3 []) p.1,AV.rn (ren 3 []) p.2)) es))] [(0,.row 47 15 n (waa g) false),(1,.cells [.map 2] 126),(2,.amap es)])/\n<=1000000/\EsOK es/\wab (decide (fstB (λ(i:Nat)=>delF es (g i)) n<n)) ((∀(i:Nat),i<n->true=true)/\∃(O':oL7),wac z0 O'/\R (.q (↑(fstB (λ(i:Nat)=>delF es (g i)) n):Int)) O') ((∀(i:Nat),i<n->true=true)/\∃(O':oL7),wac z0 O'/\R (.q (-1:Int)) O')):=by kernel_rfl
theorem wzj(es:List (AV×AV))(g:Nat->MG)(n k:Nat)(P:Nat->Prop)(R:eR7):was ⟨te,[(92,.det we2)],[],3,19,0⟩ (wat Tryz.f62 2) [0,1,7,8] [] [4] (wmb es g n) P R (wmb es g n k)=(letI z2:=(List.map (λ(p:AV×AV)=>(AV.rn (idxN [1,2]) p.1,AV.rn (idxN [1,2]) p.2)) es);letI z1:=(g (k:Int).toNat);letI z0:=([(0,.row 47 15 n (waa g) false),(1,.cells [.map 2] 126),(2,.amap (List.map (λ(p:AV×AV)=>(AV.rn (ren 3 []) p.1,AV.rn (ren 3 []) p.2)) (List.map (λ(p:AV×AV)=>(AV.rn (sig [1,2] 3) p.1,AV.rn (sig [1,2] 3) p.2)) z2)))]:oL7);wab (decide ((k:Int)<(n:Int))) (((0:Int)<=(k:Int)/\(k:Int)<(n:Int))/\((k:Int).toNat<n/\15=15)/\(126=126/\EsOK z2)/\wab (delF z2 (MG.mk z1.dev z1.seq z1.kind (VT.mk z1.v.o z1.v.p z1.v.per z1.v.day z1.v.st z1.v.pr z1.v.rep) (DT.mk z1.d.o z1.d.p z1.d.per z1.d.dev z1.d.num))) ((∀(i:Nat),i<n->true=true)/\∃(O':oL7),wac z0 O'/\R .ret (St.mk [(4,.q (k:Int))] O' 3 [])) (inR .i64 ((k:Int)+1)/\∃(i':Nat),(TEq [(0,.own 0 n),(1,.func 92 [.ptr 1 0]),(7,.q (n:Int)),(8,.q ((k:Int)+1))] [(0,.own 0 n),(1,.func 92 [.ptr 1 0]),(7,.q (n:Int)),(8,.q (i':Int))]/\wac z0 [(0,.row 47 15 n (waa g) false),(1,.cells [.map 2] 126),(2,.amap es)])/\P i')) ((∀(i:Nat),i<n->true=true)/\∃(O':oL7),wac [(0,.row 47 15 n (waa g) false),(1,.cells [.map 2] 126),(2,.amap (List.map (λ(p:AV×AV)=>(AV.rn (ren 3 []) p.1,AV.rn (ren 3 []) p.2)) es))] O'/\R (.exit 0) (St.mk [] O' 3 []))):=by kernel_rfl
theorem nf_df(es:List (AV×AV))(g:Nat->MG)(n:Nat)(R:oR7):wpFn te [(62,.det wme)] [(5,L_df es g n (fstB (λi=>delF es (g i)) n))] 0 Tryz.f91 [.own 0 n,.func 92 [.ptr 1 0]] [.row 47 15 n (waa g) false,.cells [.map 2] 126,.amap es] R=(letI z7:=(fstB (λ(i:Nat)=>delF es (g i)) n);letI z4:=(∀(i:Nat),i<n->true=true:Prop);letI z2:=(CI.mk (fstB (λ(i:Nat)=>delF es (g i)) n+1) z7 g);letI z1:=(ren (List.length [AObj.row (47:TypeId) 15 n (waa g) false,.cells [.map 2] (126:TypeId),.amap es]) []);letI z0:=(List.map (λ(p:AV×AV)=>(AV.rn (idxN [0,1,2]) p.1,AV.rn (idxN [0,1,2]) p.2)) es);letI z5:=(ixB (λ(i:Nat)=>delF z0 (mgOf (waa g) i)) n+1);letI z3:=(List.map (λ(p:AV×AV)=>(AV.rn (sig [0,1,2] 3) p.1,AV.rn (sig [0,1,2] 3) p.2)) z0);z4/\(47=47/\126=126/\false=false/\n=n/\n<=1000000/\waa g=waa (mgOf (waa g))/\EsOK z0)/\z4/\wab (decide (ixB (λ(i:Nat)=>delF z0 (mgOf (waa g) i)) n=(-1:Int))) (z4/\∃(O':oL7),wac [(0,.row 47 15 n (waa g) false),(1,.cells [.map 2] 126),(List.length [AObj.cells [.map 2] (126:TypeId),.amap es],.amap (List.map (λ(p:AV×AV)=>(AV.rn z1 p.1,AV.rn z1 p.2)) z3))] O'/\R (.own 0 n) O') (inR .i64 z5/\(TEq [(0,.own 0 n),(1,.func 92 [.ptr 1 0]),(5,.q (ixB (λ(i:Nat)=>delF z0 (mgOf (waa g) i)) n)),(6,.q z5)] [(0,.own 0 n),(1,.func 92 [.ptr 1 0]),(5,.q (↑(CI.w z2):Int)),(6,.q (↑(CI.k z2):Int))]/\wac [(0,.row 47 15 n (waa g) false),(1,.cells [.map 2] 126),(2,.amap (List.map (λ(p:AV×AV)=>(AV.rn (ren 3 []) p.1,AV.rn (ren 3 []) p.2)) z3))] [(0,.row 47 15 n (waa (CI.h z2)) false),(1,.cells [.map 2] 126),(2,.amap es)])/\(fstB (λ(i:Nat)=>delF es (g i)) n<n/\n<=1000000)/\EsOK es/\(∀(j:Nat),j<fstB (λ(i:Nat)=>delF es (g i)) n->delF es (g j)=false)/\delF es (g z7)=true/\∀(w:Nat) (h:Nat->MG),letI z6:=((0:Int)<=(w:Int)/\(w:Int)<=(n:Int):Prop);w<=n->lst h w=kpL es g n->z6/\(w:Int).toNat<=n/\z6/\(∀(i:Nat),i<(w:Int).toNat->true=true)/\∃(O':oL7),wac [(0,.row 47 15 (w:Int).toNat (waa h) false),(1,.cells [.map 2] 126),(List.length [AObj.cells [.map 2] (126:TypeId),.amap es],.amap (List.map (λ(p:AV×AV)=>(AV.rn z1 p.1,AV.rn z1 p.2)) es))] O'/\R (.own 0 (w:Int).toNat) O')):=by kernel_rfl
theorem wzy(es:List (AV×AV))(n:Nat)(i:CI)(P:CI->Prop)(R:eR7):was ⟨te,[(92,.det we2)],[],3,42,0⟩ (wat Tryz.f91 5) [0,1,5,6] [0,5] [] (S_df es n) P R (S_df es n i)=(letI z4:=(↑(CI.w i):Int);letI z3:=(↑(CI.k i):Int);letI z5:=(z3+1);letI z1:=(List.map (λ(p:AV×AV)=>(AV.rn (idxN [1,2]) p.1,AV.rn (idxN [1,2]) p.2)) es);letI z2:=(List.map (λ(p:AV×AV)=>(AV.rn (ren 3 []) p.1,AV.rn (ren 3 []) p.2)) (List.map (λ(p:AV×AV)=>(AV.rn (sig [1,2] 5) p.1,AV.rn (sig [1,2] 5) p.2)) z1));letI z0:=(CI.h i z3.toNat);wab (decide (z3<(n:Int))) (((0:Int)<=z3/\z3<(n:Int))/\(z3.toNat<n/\15=15)/\(126=126/\EsOK z1)/\wab (!delF z1 (MG.mk z0.dev z0.seq z0.kind (VT.mk z0.v.o z0.v.p z0.v.per z0.v.day z0.v.st z0.v.pr z0.v.rep) (DT.mk z0.d.o z0.d.p z0.d.per z0.d.dev z0.d.num))) (((0:Int)<=z4/\z4<(n:Int))/\(List.length [AV.str z0.dev,.q z0.seq,.q z0.kind,.str z0.v.o,.str z0.v.p,.q z0.v.per,.q z0.v.day,.q z0.v.st,.q z0.v.pr,.str z0.v.rep,.str z0.d.o,.str z0.d.p,.q z0.d.per,.str z0.d.dev,.q z0.d.num]=15/\z4.toNat<n/\15=15)/\inR .i64 (z4+1)/\inR .i64 z5/\∃(i':CI),(TEq [(0,.own 0 n),(1,.func 92 [.ptr 1 0]),(5,.q (z4+1)),(6,.q z5)] [(0,.own 0 n),(1,.func 92 [.ptr 1 0]),(5,.q (↑(CI.w i'):Int)),(6,.q (↑(CI.k i'):Int))]/\wac [(0,.row 47 15 n (λ(k:Nat)=>if k=Int.toNat z4 then [.str z0.dev,.q z0.seq,.q z0.kind,.str z0.v.o,.str z0.v.p,.q z0.v.per,.q z0.v.day,.q z0.v.st,.q z0.v.pr,.str z0.v.rep,.str z0.d.o,.str z0.d.p,.q z0.d.per,.str z0.d.dev,.q z0.d.num] else waa (CI.h i) k) false),(1,.cells [.map 2] 126),(2,.amap z2)] [(0,.row 47 15 n (waa (CI.h i')) false),(1,.cells [.map 2] 126),(2,.amap es)])/\P i') (inR .i64 z5/\∃(i':CI),(TEq [(0,.own 0 n),(1,.func 92 [.ptr 1 0]),(5,.q z4),(6,.q z5)] [(0,.own 0 n),(1,.func 92 [.ptr 1 0]),(5,.q (↑(CI.w i'):Int)),(6,.q (↑(CI.k i'):Int))]/\wac [(0,.row 47 15 n (waa (CI.h i)) false),(1,.cells [.map 2] 126),(2,.amap z2)] [(0,.row 47 15 n (waa (CI.h i')) false),(1,.cells [.map 2] 126),(2,.amap es)])/\P i')) ((∀(i:Nat),i<n->true=true)/\∃(O':oL7),wac [(0,.row 47 15 n (waa (CI.h i)) false),(1,.cells [.map 2] 126),(2,.amap (List.map (λ(p:AV×AV)=>(AV.rn (ren 3 []) p.1,AV.rn (ren 3 []) p.2)) es))] O'/\R (.exit 0) (St.mk [(0,.own 0 n),(5,.q z4)] O' 3 []))):=by kernel_rfl
theorem wom(hP:C.P=Tryz.prog):wad C 92 we2:=by
 rintro args objs U Os vc h hvc;unfold we2 at h;split at h<;>simp only[sI7,pI7,reduceCtorEq] at h;rename_i dev seq kind o p per day st pr rep o' p' per' dev' num t es;obtain⟨rfl,rfl,rfl⟩:=h;obtain⟨rfl,L,rfl,hnd⟩:=hvc;refine wad.wp0 (prg hP) [(64,.det wdw)] 0 (.cons (wjs hP) .nil) (hP ▸ Tryz.func92) rfl rfl rfl ?_;have hn:=wyn ⟨dev,seq,kind,⟨o,p,per,day,st,pr,rep⟩,⟨o',p',per',dev',num⟩⟩ (entM L);dsimp only at hn;have zz:zvA (.q 0)= .q 0:=rfl;rw[hn,wcs,zz];have F1:Option.getD (mget (entM L) (.agg [.str dev,.q seq])) (.q 0)= .q (getC L (dev,seq)):=why (dev,seq) L;refine⟨trivial,⟨wko hnd,?_⟩,rfl,rfl⟩;rw[F1];rfl
theorem w1q(hP:C.P=Tryz.prog)(es:List (AV×AV))(g:Nat->MG)(n:Nat):wag C 3 19 (wah Tryz.f62 2) (wnw es g n):=by
 rintro st Q ⟨h0,hn,⟨L,rfl,hnd⟩,hQ⟩;have hR:=wby hQ;refine wag.mk (prg hP) [(92,.det we2)] 0 (.cons (wom hP) .nil) [0,1,7,8] [] [4] (wmb (entM L) g n) (λk=>k<=n/\fstB (λi=>delF (entM L) (g i)) k=k) (λk=>n - k) 0 ⟨zL7 _,rfl⟩ h0 (λk hk=>?_) (λi=>⟨λ_ _=>rfl,trivial⟩);obtain⟨hkn,hok⟩:=hk;rw[wzj,tN7]
 repeat rw[wcs]
 refine waf (λh1=>?_) (λh1=>?_)
 ·refine⟨⟨by omega,by omega⟩,⟨by omega,rfl⟩,⟨rfl,L,rfl,hnd⟩,wal (λh2=>?_) (λh2=>⟨by simp only[inR];omega,k+1,⟨rfl,rQ7,rfl,rfl,trivial⟩,⟨by omega,wet hok h2⟩,by omega⟩)⟩;have e:=wgf hok h2 n (by omega);have:=hR.1 (by rw[e,decide_eq_true];omega);rw[e] at this;exact⟨λ_ _=>rfl,_,wav _,this⟩
 ·have:k=n:=by omega
  subst this;exact⟨λ_ _=>rfl,_,wav _,hR.2 (by rw[hok,decide_eq_false];omega)⟩
theorem ixR_ok(hP:C.P=Tryz.prog):wad C 62 wme:=by
 rintro args objs U Os vc h hvc;unfold wme at h;split at h<;>cases h;rename_i n t m f fr t2 es;obtain⟨rfl,rfl,rfl,rfl,hn,hf,L,rfl,hnd⟩:=hvc;generalize mgOf f=g at *;subst hf;refine wad.wpL (prg hP) [(92,.det we2)] [(2,wnw (entM L) g n)] 0 (.cons (wom hP) .nil) (hP ▸ Tryz.func62) rfl rfl rfl [(wah Tryz.f62 2,wnw (entM L) g n)] (by kernel_rfl) ⟨w1q hP _ g n,trivial⟩ ?_;rw[nf_ixr]
 repeat rw[wcs]
 unfold ixB;refine⟨⟨rfl,rQ7,rfl,rfl,trivial⟩,hn,⟨L,rfl,hnd⟩,waf (λh=>?_) (λh=>?_)⟩
 ·rw[decide_eq_true h];exact⟨λ_ _=>rfl,_,wav _,rfl,rfl⟩
 ·rw[decide_eq_false h];exact⟨λ_ _=>rfl,_,wav _,rfl,rfl⟩
theorem wjz(es:List (AV×AV))(g:Nat->MG)(k:Nat):kpL es g (k+1)=kpL es g k++bif delF es (g k) then [] else [g k]:=by
 unfold kpL;rw[wde,List.filter_append]
 cases h:delF es (g k)<;>simp[h]
theorem wph{es:List (AV×AV)}{g:Nat->MG}:∀ {k:Nat},(∀j,j<k->delF es (g j)=false)->kpL es g k=lst g k
 |0,_=>rfl
 |k+1,h=>by
  rw[wjz,wph λj hj=>h j (by omega),h k (by omega),wde];rfl
theorem df_loop(hP:C.P=Tryz.prog)(es:List (AV×AV))(g:Nat->MG)(n i0:Nat):wag C 3 42 (wah Tryz.f91 5) (L_df es g n i0):=by
 rintro st Q ⟨h0,⟨hi0,hn⟩,⟨L,rfl,hnd⟩,hall,hdel,hQ⟩
 refine wag.mk (prg hP) [(92,.det we2)] 0 (.cons (wom hP) .nil) [0,1,5,6] [0,5] [] (S_df (entM L) n) (λi=>i.k<=n/\i.w<i.k/\lst i.h i.w=kpL (entM L) g i.k/\∀j,i.w<=j->i.h j=g j) (λi=>n - i.k) ⟨i0+1,i0,g⟩
  ⟨hi0,Nat.lt_succ_self _,?_,λ_ _=>rfl⟩ h0 (λi hi=>?_) (λi=>⟨λ_ _=>rfl,trivial⟩)
 ·show lst g i0=kpL (entM L) g (i0+1);rw[wjz,hdel,wph hall];simp
 obtain⟨k,w,h⟩:=i;obtain⟨i1,i2,i3,i4⟩:=hi;dsimp only at i1 i2 i3 i4;rw[wzy];dsimp only
 rw[tN7,tN7]
 repeat rw[wcs]
 refine waf (λh1=>?_) (λh1=>?_)
 ·have hk:k<n:=by omega
  have r1:h k=g k:=i4 _ (by omega);refine⟨⟨by omega,by omega⟩,⟨by omega,rfl⟩,⟨rfl,L,rfl,hnd⟩,wb6 (λq=>?_) (λq=>?_)⟩
  ·have q:delF (entM L) (h k)=false:=q;rw[r1] at q;refine⟨⟨by omega,by omega⟩,⟨rfl,by omega,rfl⟩,by simp only[inR];omega,by simp only[inR];omega,⟨k+1,w+1,λj=>if j=w then h k else h j⟩,⟨rfl,⟨rfl,rfl,rfl,rfl,rfl,λj hj=>?_⟩,rfl,rfl,trivial⟩,⟨hk,?_,?_,λj hj=>?_⟩,?_⟩
   ·unfold waa
    by_cases e:j=w
    ·simp only[e,if_true]
    ·simp only[e,if_false]
   ·show w+1<k+1;omega
   ·show lst (λj=>if j=w then h k else h j) (w+1)=kpL (entM L) g (k+1)
    have e:lst (λj=>if j=w then h k else h j) w=lst h w:=List.map_congr_left λj hj=>by
     have:=List.mem_range.1 hj;rw[if_neg (by omega)]
    rw[wde,wjz,q,e,i3,if_pos rfl,r1];rfl
   ·have hj:w+1<=j:=hj;show (if j=w then h k else h j)=g j
    rw[if_neg (by omega)];exact i4 j (by omega)
   ·show n - (k+1)<n - k;omega
  ·have q:delF (entM L) (h k)=true:=q;rw[r1] at q;refine⟨by simp only[inR];omega,⟨k+1,w,h⟩,⟨rfl,rQ7,rfl,rfl,trivial⟩,⟨hk,?_,?_,i4⟩,?_⟩
   ·show w<k+1;omega
   ·show lst h w=kpL (entM L) g (k+1);rw[wjz,q,i3];simp
   ·show n - (k+1)<n - k;omega
 ·have:k=n:=by omega
  subst this;exact⟨λ_ _=>rfl,_,wav _,hQ w h (by omega) i3⟩
theorem delF_ok(hP:C.P=Tryz.prog):wba C 91 wna:=by
 rintro args objs R h;unfold wna at h;split at h
 ·rename_i n t m f fr t2 es;obtain⟨rfl,rfl,rfl,rfl,hn,hf,⟨L,rfl,hnd⟩,hR⟩:=h;generalize mgOf f=g at *;subst hf;refine wba.wpL (prg hP) [(62,.det wme)] [(5,L_df (entM L) g n (fstB (λi=>delF (entM L) (g i)) n))] 0 (.cons (ixR_ok hP) .nil) (hP ▸ Tryz.func91) rfl rfl rfl [(wah Tryz.f91 5,L_df (entM L) g n (fstB (λi=>delF (entM L) (g i)) n))] (by kernel_rfl) ⟨df_loop hP _ g n _,trivial⟩ ?_;rw[nf_df]
  repeat rw[wcs]
  have hg:mgOf (waa g)=g:=rfl;rw[hg];obtain⟨f1,f2⟩:=wkd (λi=>delF (entM L) (g i)) n;have fle:=wge (λi=>delF (entM L) (g i)) n
  by_cases hlt:fstB (λi=>delF (entM L) (g i)) n<n
  ·have hix:ixB (λi=>delF (entM L) (g i)) n=(fstB (λi=>delF (entM L) (g i)) n:Int):=by unfold ixB;rw[decide_eq_true hlt];rfl
   rw[hix];have f2:=f2 hlt;generalize fstB (λi=>delF (entM L) (g i)) n=i0 at *;refine⟨λ_ _=>rfl,⟨rfl,rfl,rfl,rfl,hn,rfl,L,rfl,hnd⟩,λ_ _=>rfl,waf (λq=>absurd q (by omega)) (λ_=>⟨by simp only[inR];omega,⟨rfl,rQ7,rfl,rfl,trivial⟩,⟨hlt,hn⟩,⟨L,rfl,hnd⟩,f1,f2,λw h hw hl=>?_⟩)⟩;rw[tN7];exact⟨⟨by omega,by omega⟩,hw,⟨by omega,by omega⟩,λ_ _=>rfl,_,wav _,hR w h hl⟩
  ·have hix:ixB (λi=>delF (entM L) (g i)) n= -1:=by unfold ixB;rw[decide_eq_false hlt];rfl
   rw[hix];have e0:fstB (λi=>delF (entM L) (g i)) n=n:=by omega
   rw[e0] at f1;exact⟨λ_ _=>rfl,⟨rfl,rfl,rfl,rfl,hn,rfl,L,rfl,hnd⟩,λ_ _=>rfl,waf (λ_=>⟨λ_ _=>rfl,_,wav _,hR n g (wph f1).symm⟩) (λq=>absurd rfl q)⟩
 ·exact h.elim
theorem nf_rs1(m:MG)(x:VT)(R:oR7):wpFn te [] [] 0 Tryz.f61 [.agg [.str m.dev,.q m.seq,.q m.kind,.str m.v.o,.str m.v.p,.q m.v.per,.q m.v.day,.q m.v.st,.q m.v.pr,.str m.v.rep,.str m.d.o,.str m.d.p,.q m.d.per,.str m.d.dev,.q m.d.num],.ptr 0 0] [.cells [.str x.o,.str x.p,.q x.per,.q x.day,.q x.st,.q x.pr,.str x.rep] 43] R=(letI z0:=([(0,.cells [.str x.o,.str x.p,.q x.per,.q x.day,.q x.st,.q x.pr,.str x.rep] 43)]:oL7);wab (!decide (m.v.st=x.st)) (R (.bool true) z0) (wab (!decide (m.v.pr=x.pr)) (R (.bool true) z0) (R (.bool !decide (m.v.rep=x.rep)) z0))):=by kernel_rfl
theorem nf_rs2(m:MG)(x:DT)(R:oR7):wpFn te [(64,.det wdw)] [] 0 Tryz.f63 [.agg [.str m.dev,.q m.seq,.q m.kind,.str m.v.o,.str m.v.p,.q m.v.per,.q m.v.day,.q m.v.st,.q m.v.pr,.str m.v.rep,.str m.d.o,.str m.d.p,.q m.d.per,.str m.d.dev,.q m.d.num],.ptr 0 0] [.cells [.str x.o,.str x.p,.q x.per,.str x.dev,.q x.num] 45] R=(True/\R (.bool (decide (m.dev=x.dev) && decide (m.seq=x.num))) [(0,.cells [.str x.o,.str x.p,.q x.per,.str x.dev,.q x.num] 45)]):=by kernel_rfl
theorem nf_ixs1(x:VT)(g:Nat->MG)(n:Nat)(R:oR7):wpFn te [(61,.det wgx)] [(2,wnv x g n)] 0 Tryz.f62 [.view 15 n (waa g),.func 61 [.ptr 0 0]] [.cells [.str x.o,.str x.p,.q x.per,.q x.day,.q x.st,.q x.pr,.str x.rep] 43] R=(letI z0:=([(0,.cells [.str x.o,.str x.p,.q x.per,.q x.day,.q x.st,.q x.pr,.str x.rep] 43)]:oL7);some (St.mk [(0,.view 15 n (waa g)),(1,.func 61 [.ptr 0 0]),(7,.q (n:Int)),(8,.q 0)] z0 1 [])=some (St.mk [(0,.view 15 n (waa g)),(1,.func 61 [.ptr 0 0]),(7,.q (n:Int)),(8,.q (↑0:Int))] z0 1 [])/\n<=1000000/\wab (decide (fstB (λ(i:Nat)=>difF x (g i)) n<n)) (R (.q (↑(fstB (λ(i:Nat)=>difF x (g i)) n):Int)) z0) (R (.q (-1:Int)) z0)):=by kernel_rfl
theorem wzi(x:VT)(g:Nat->MG)(n k:Nat)(P:Nat->Prop)(R:eR7):was ⟨te,[(61,.det wgx)],[],1,19,0⟩ (wat Tryz.f62 2) [0,1,7,8] [] [4] (wma x g n) P R (wma x g n k)=(letI z1:=(g (k:Int).toNat);letI z0:=([(0,.cells [.str x.o,.str x.p,.q x.per,.q x.day,.q x.st,.q x.pr,.str x.rep] 43)]:oL7);wab (decide ((k:Int)<(n:Int))) (((0:Int)<=(k:Int)/\(k:Int)<(n:Int)/\15=15)/\43=43/\wab (difF (VT.mk x.o x.p x.per x.day x.st x.pr x.rep) (MG.mk z1.dev z1.seq z1.kind (VT.mk z1.v.o z1.v.p z1.v.per z1.v.day z1.v.st z1.v.pr z1.v.rep) (DT.mk z1.d.o z1.d.p z1.d.per z1.d.dev z1.d.num))) (R .ret (St.mk [(4,.q (k:Int))] z0 1 [])) (inR .i64 ((k:Int)+1)/\∃(i':Nat),some (St.mk [(0,.view 15 n (waa g)),(1,.func 61 [.ptr 0 0]),(7,.q (n:Int)),(8,.q ((k:Int)+1))] z0 1 [])=some (St.mk [(0,.view 15 n (waa g)),(1,.func 61 [.ptr 0 0]),(7,.q (n:Int)),(8,.q (i':Int))] z0 1 [])/\P i')) (R (.exit 0) (St.mk [] z0 1 []))):=by kernel_rfl
theorem nf_ixs2(x:DT)(g:Nat->MG)(n:Nat)(R:oR7):wpFn te [(63,.det wgw)] [(2,wnu x g n)] 0 Tryz.f62 [.view 15 n (waa g),.func 63 [.ptr 0 0]] [.cells [.str x.o,.str x.p,.q x.per,.str x.dev,.q x.num] 45] R=(letI z0:=([(0,.cells [.str x.o,.str x.p,.q x.per,.str x.dev,.q x.num] 45)]:oL7);some (St.mk [(0,.view 15 n (waa g)),(1,.func 63 [.ptr 0 0]),(7,.q (n:Int)),(8,.q 0)] z0 1 [])=some (St.mk [(0,.view 15 n (waa g)),(1,.func 63 [.ptr 0 0]),(7,.q (n:Int)),(8,.q (↑0:Int))] z0 1 [])/\n<=1000000/\wab (decide (fstB (λ(i:Nat)=>namF x (g i)) n<n)) (R (.q (↑(fstB (λ(i:Nat)=>namF x (g i)) n):Int)) z0) (R (.q (-1:Int)) z0)):=by kernel_rfl
theorem wzh(x:DT)(g:Nat->MG)(n k:Nat)(P:Nat->Prop)(R:eR7):was ⟨te,[(63,.det wgw)],[],1,19,0⟩ (wat Tryz.f62 2) [0,1,7,8] [] [4] (wl9 x g n) P R (wl9 x g n k)=(letI z1:=([(0,.cells [.str x.o,.str x.p,.q x.per,.str x.dev,.q x.num] 45)]:oL7);letI z0:=(g (k:Int).toNat);wab (decide ((k:Int)<(n:Int))) (((0:Int)<=(k:Int)/\(k:Int)<(n:Int)/\15=15)/\45=45/\wab (namF (DT.mk x.o x.p x.per x.dev x.num) (MG.mk z0.dev z0.seq z0.kind (VT.mk z0.v.o z0.v.p z0.v.per z0.v.day z0.v.st z0.v.pr z0.v.rep) (DT.mk z0.d.o z0.d.p z0.d.per z0.d.dev z0.d.num))) (R .ret (St.mk [(4,.q (k:Int))] z1 1 [])) (inR .i64 ((k:Int)+1)/\∃(i':Nat),some (St.mk [(0,.view 15 n (waa g)),(1,.func 63 [.ptr 0 0]),(7,.q (n:Int)),(8,.q ((k:Int)+1))] z1 1 [])=some (St.mk [(0,.view 15 n (waa g)),(1,.func 63 [.ptr 0 0]),(7,.q (n:Int)),(8,.q (i':Int))] z1 1 [])/\P i')) (R (.exit 0) (St.mk [] z1 1 []))):=by kernel_rfl
theorem nf_cf1(x:VT)(g:Nat->MG)(n:Nat)(R:oR7):wpFn te [(62,.det wmg)] [] 0 Tryz.f60 [.view 15 n (waa g),.func 61 [.ptr 0 0]] [.cells [.str x.o,.str x.p,.q x.per,.q x.day,.q x.st,.q x.pr,.str x.rep] 43] R=((43=43/\n<=1000000/\waa g=waa (mgOf (waa g)))/\R (.bool (decide ((0:Int)<=ixB (λ(i:Nat)=>difF (VT.mk x.o x.p x.per x.day x.st x.pr x.rep) (mgOf (waa g) i)) n))) [(0,.cells [.str x.o,.str x.p,.q x.per,.q x.day,.q x.st,.q x.pr,.str x.rep] 43)]):=by kernel_rfl
theorem rs1_ok(hP:C.P=Tryz.prog):wad C 61 wgx:=by
 have _:C.Loose:=inferInstance;rintro args objs U Os vc h hvc;unfold wgx at h;split at h<;>simp only[sI7,pI7,reduceCtorEq] at h;rename_i dev seq kind o p per day st pr rep o' p' per' dev' num xo xp xper xday xst xpr xrep t;obtain⟨rfl,rfl,rfl⟩:=h;have hvc:t=_:=hvc;subst hvc;have hn:=nf_rs1 ⟨dev,seq,kind,⟨o,p,per,day,st,pr,rep⟩,⟨o',p',per',dev',num⟩⟩ ⟨xo,xp,xper,xday,xst,xpr,xrep⟩;dsimp only at hn;refine wad.wp0 (prg hP) [] 0 .nil (hP ▸ Tryz.func61) rfl rfl rfl ?_;rw[hn];unfold difF;exact wau (λq=>by rw[decide_eq_false q];exact⟨rfl,rfl⟩) (λq1=>wau (λq=>by rw[decide_eq_true q1,decide_eq_false q];exact⟨rfl,rfl⟩) (λq2=>by rw[decide_eq_true q1,decide_eq_true q2];exact⟨rfl,rfl⟩))
theorem w1p(hP:C.P=Tryz.prog)(x:VT)(g:Nat->MG)(n:Nat):wag C 1 19 (wah Tryz.f62 2) (wnv x g n):=by
 rintro st Q ⟨h0,hn,hQ⟩;have hR:=wby hQ;refine wag.mk (prg hP) [(61,.det wgx)] 0 (.cons (rs1_ok hP) .nil) [0,1,7,8] [] [4] (wma x g n) (λk=>k<=n/\fstB (λi=>difF x (g i)) k=k) (λk=>n - k) 0 ⟨zL7 _,rfl⟩ h0 (λk hk=>?_);obtain⟨hkn,hok⟩:=hk;rw[wzi,tN7];refine waf (λh1=>?_) (λh1=>?_)
 ·refine⟨⟨by omega,by omega,rfl⟩,rfl,wal (λh2=>?_) (λh2=>⟨by simp only[inR];omega,k+1,rfl,⟨by omega,wet hok h2⟩,by omega⟩)⟩;have e:=wgf hok h2 n (by omega);have:=hR.1 (by rw[e,decide_eq_true];omega);rw[e] at this;exact this
 ·have:k=n:=by omega
  subst this;exact hR.2 (by rw[hok,decide_eq_false];omega)
theorem ix1_ok(hP:C.P=Tryz.prog):wad C 62 wmg:=by
 rintro args objs U Os vc h hvc;unfold wmg at h;split at h<;>cases h;rename_i n f xo xp xper xday xst xpr xrep t;obtain⟨rfl,hn,hf⟩:=hvc;generalize mgOf f=g at *;subst hf;have hnf:=λR=>nf_ixs1 ⟨xo,xp,xper,xday,xst,xpr,xrep⟩ g n R;dsimp only at hnf;refine wad.wpL (prg hP) [(61,.det wgx)] [(2,wnv ⟨xo,xp,xper,xday,xst,xpr,xrep⟩ g n)] 0 (.cons (rs1_ok hP) .nil) (hP ▸ Tryz.func62) rfl rfl rfl [(wah Tryz.f62 2,wnv ⟨xo,xp,xper,xday,xst,xpr,xrep⟩ g n)] (by kernel_rfl) ⟨w1p hP _ g n,trivial⟩ ?_;rw[hnf];unfold ixB;refine⟨rfl,hn,waf (λh=>?_) (λh=>?_)⟩
 ·rw[decide_eq_true h];exact⟨rfl,rfl⟩
 ·rw[decide_eq_false h];exact⟨rfl,rfl⟩
theorem rs2_ok(hP:C.P=Tryz.prog):wad C 63 wgw:=by
 rintro args objs U Os vc h hvc;unfold wgw at h;split at h<;>simp only[sI7,pI7,reduceCtorEq] at h;rename_i dev seq kind o p per day st pr rep o' p' per' dev' num xo xp xper xdev xnum t;obtain⟨rfl,rfl,rfl⟩:=h;have hvc:t=_:=hvc;subst hvc;have hn:=nf_rs2 ⟨dev,seq,kind,⟨o,p,per,day,st,pr,rep⟩,⟨o',p',per',dev',num⟩⟩ ⟨xo,xp,xper,xdev,xnum⟩;dsimp only at hn;refine wad.wp0 (prg hP) [(64,.det wdw)] 0 (.cons (wjs hP) .nil) (hP ▸ Tryz.func63) rfl rfl rfl ?_;rw[hn];exact⟨trivial,rfl,rfl⟩
theorem w1o(hP:C.P=Tryz.prog)(x:DT)(g:Nat->MG)(n:Nat):wag C 1 19 (wah Tryz.f62 2) (wnu x g n):=by
 rintro st Q ⟨h0,hn,hQ⟩;have hR:=wby hQ;refine wag.mk (prg hP) [(63,.det wgw)] 0 (.cons (rs2_ok hP) .nil) [0,1,7,8] [] [4] (wl9 x g n) (λk=>k<=n/\fstB (λi=>namF x (g i)) k=k) (λk=>n - k) 0 ⟨zL7 _,rfl⟩ h0 (λk hk=>?_);obtain⟨hkn,hok⟩:=hk;rw[wzh,tN7];refine waf (λh1=>?_) (λh1=>?_)
 ·refine⟨⟨by omega,by omega,rfl⟩,rfl,wal (λh2=>?_) (λh2=>⟨by simp only[inR];omega,k+1,rfl,⟨by omega,wet hok h2⟩,by omega⟩)⟩;have e:=wgf hok h2 n (by omega);have:=hR.1 (by rw[e,decide_eq_true];omega);rw[e] at this;exact this
 ·have:k=n:=by omega
  subst this;exact hR.2 (by rw[hok,decide_eq_false];omega)
theorem ix2_ok(hP:C.P=Tryz.prog):wad C 62 wmf:=by
 rintro args objs U Os vc h hvc;unfold wmf at h;split at h<;>cases h;rename_i n f xo xp xper xdev xnum t;obtain⟨rfl,hn,hf⟩:=hvc;generalize mgOf f=g at *;subst hf;have hnf:=λR=>nf_ixs2 ⟨xo,xp,xper,xdev,xnum⟩ g n R;dsimp only at hnf;refine wad.wpL (prg hP) [(63,.det wgw)] [(2,wnu ⟨xo,xp,xper,xdev,xnum⟩ g n)] 0 (.cons (rs2_ok hP) .nil) (hP ▸ Tryz.func62) rfl rfl rfl [(wah Tryz.f62 2,wnu ⟨xo,xp,xper,xdev,xnum⟩ g n)] (by kernel_rfl) ⟨w1o hP _ g n,trivial⟩ ?_;rw[hnf];unfold ixB;refine⟨rfl,hn,waf (λh=>?_) (λh=>?_)⟩
 ·rw[decide_eq_true h];exact⟨rfl,rfl⟩
 ·rw[decide_eq_false h];exact⟨rfl,rfl⟩
theorem cf1_ok(hP:C.P=Tryz.prog):wad C 60 wmv:=by
 rintro args objs U Os vc h hvc;unfold wmv at h;split at h<;>cases h;rename_i n f xo xp xper xday xst xpr xrep t;obtain⟨rfl,hn,hf⟩:=hvc;generalize mgOf f=g at *;subst hf;have hnf:=λR=>nf_cf1 ⟨xo,xp,xper,xday,xst,xpr,xrep⟩ g n R;dsimp only at hnf;refine wad.wp0 (prg hP) [(62,.det wmg)] 0 (.cons (ix1_ok hP) .nil) (hP ▸ Tryz.func60) rfl rfl rfl ?_;rw[hnf];exact⟨⟨rfl,hn,rfl⟩,rfl,rfl⟩
end Go.Eng
