/- The tape. -/
import Derived.Test.YtgcboligphndhaaGreatDoorXqu
import Derived.Lib.Builder
import Derived.WalkKit
namespace Go.Eng
def S_fl(n:Nat)(v:Nat->Int)(a:Int)(id:List UInt8)(ver day kind:Int)(ms:List MG)(rs:List RW)(ts:List RT):St:=⟨[(0,.ptr 0 0),(2,.ptr 1 0),(3,.ptr 2 0)],
 [(0,.cells [.view 1 n (wab v),.q a] 27),(1,.cells [.str [],.q 0,.q 0,.q 0,.nil,.nil,.nil] 49),
  (2,.cells [.str id,.q ver,.q day,.q kind,.own 3 ms.length,.own 4 rs.length,.own 5 ts.length] 49),
  (3,.row 40 15 ms.length (wag (atM ms)) false),(4,.row 61 5 rs.length (wai (atR rs)) false),(5,.row 97 5 ts.length (wah (atT ts)) false)],6,[]⟩
def won(n:Nat)(v:Nat->Int)(a:Int)(id:List UInt8)(ver day kind:Int):war:=λs Q=>
 canonIs te 1 [0,2,3] (ownNilP 3 6 97 5 (ownNilP 3 5 61 5 (ownNilP 3 4 40 15 s))) (S_fl n v a id ver day kind [] [] [])/\
 Q .normal ⟨[(0,.ptr 0 0),(2,.ptr 1 0),(3,.ptr 2 0),(20,.q kind)],(S_fl n v a id ver day kind [] [] []).O,6,[]⟩
def fidF(i:Int):List UInt8:=List.getD [[102],[103],[104]] i.toNat []
structure FiS where
 ts:List RT
 a:Int
def wmy(n:Nat)(v:Nat->Int)(id:List UInt8)(ver day kind N:Int)(i:FiS):St:=⟨[(0,.ptr 0 0),(2,.ptr 1 0),(3,.ptr 2 0),(35,.q N),(36,.q i.ts.length)],(S_fl n v i.a id ver day kind [] [] i.ts).O,6,[]⟩
def wom(n:Nat)(v:Nat->Int)(a:Int)(id:List UInt8)(ver day kind N:Int):war:=λs Q=>canonIs te 1 [0,2,3,35,36] s (wmy n v id ver day kind N ⟨[],a⟩)/\(0<=N/\N<=2)/\(0<=a/\a<=4611686018427365000)/\
 ∀i:FiS,i.ts.length<=2->(a<=i.a/\i.a<=a+40)->(∀t∈i.ts,t.Tn)->Q (.exit 1) ⟨[(0,.ptr 0 0),(2,.ptr 1 0),(3,.ptr 2 0)],(S_fl n v i.a id ver day kind [] [] i.ts).O,6,[]⟩
structure FL.Low (F:FL):Prop where
 id:F.id.length<=24
 m:F.ms.length<=4
 r:F.rs.length<=4
 t:F.ts.length<=2
 ver:1<=F.ver/\F.ver<=3
 kind:1<=F.kind/\F.kind<=3
 day:43860<=F.day/\F.day<=43865
def wnr:wb8
 |[.ptr 0 0],[.cells [.view sz n f,.int .i64 a] t],R=>t=27/\sz=1/\f=wab (vInt f)/\(0<=a/\a<=4611686018427360000)/\
   ∀(F:FL) (a':Int),F.Tn->F.ms.length<=4->F.rs.length<=4->F.ts.length<=2->FL.Low F->(a<=a'/\a'<=a+1100)->
   R (.agg [.str F.id,.q F.ver,.q F.day,.q F.kind,.own 1 F.ms.length,.own 2 F.rs.length,.own 3 F.ts.length]) [(0,.cells [.view 1 n f,.q a'] 27),
    (1,.row 40 15 F.ms.length (wag (atM F.ms)) false),(2,.row 61 5 F.rs.length (wai (atR F.rs)) false),(3,.row 97 5 F.ts.length (wah (atT F.ts)) false)]
 |_,_,_=>False
def whm:wb8
 |[.ptr 0 0],[.cells [.view sz n f,.int .i64 a] t],R=>t=27/\sz=1/\f=wab (vInt f)/\(0<=a/\a<=4611686018427360000)/\
   ∀(F:FL) (a':Int),F.Tn->FL.Low F->(a<=a'/\a'<=a+1100)->
   R (.agg [.str F.id,.q F.ver,.q F.day,.q F.kind,.view 15 F.ms.length (wag (atM F.ms)),.view 5 F.rs.length (wai (atR F.rs)),.view 5 F.ts.length (wah (atT F.ts))]) [(0,.cells [.view 1 n f,.q a'] 27)]
 |_,_,_=>False
def wdl(st x:Int):Int:=bif decide (st=3) || decide (st=4) then 0 else x
def wdu(st:Int)(p q:List UInt8):List UInt8:=bif decide (st=5) then (bif decide (q=p) then idF 4 else q) else []
def wek(st a:Int):Int:=bif decide (st=3) || decide (st=4) then a else bif decide (st=5) then a+1+1 else a+1
def wev(n:Nat)(v:Nat->Int)(a:Int):Int:=1+List.getD [(0:Int),0,0,1,2,3,4] (waa n v (a+1+1+1+1) 7).toNat 0
def visV(n:Nat)(v:Nat->Int)(a:Int):VT:=⟨outF (waa n v a 3),idF (waa n v (a+1) 4),1440+waa n v (a+1+1) 4,43830+waa n v (a+1+1+1) 100,wev n v a,
 wdl (wev n v a) (100+waa n v (a+1+1+1+1+1) 4 * 5),wdu (wev n v a) (idF (waa n v (a+1) 4)) (idF (waa n v (a+1+1+1+1+1+1) 4))⟩
def visA(n:Nat)(v:Nat->Int)(a:Int):Int:=wek (wev n v a) (a+1+1+1+1+1)
def wld:Spec
 |[.ptr 0 0],[.cells [.view sz n f,.int .i64 a] t]=>some (.agg [.str (visV n (vInt f) a).o,.str (visV n (vInt f) a).p,.q (visV n (vInt f) a).per,.q (visV n (vInt f) a).day,.q (visV n (vInt f) a).st,.q (visV n (vInt f) a).pr,.str (visV n (vInt f) a).rep],
   [(0,.cells [.view 1 n f,.q (visA n (vInt f) a)] 27)],t=27/\sz=1/\f=wab (vInt f)/\(0<=a/\a<=4611686018427386000))
 |_,_=>none
def msgV(n:Nat)(v:Nat->Int)(a:Int):MG:=bif decide (waa n v (a+1+1) 5=0) then
  ⟨devF (waa n v a 3),1+waa n v (a+1) 9,2,⟨[],[],0,0,0,0,[]⟩,⟨outF (waa n v (a+1+1+1) 3),idF (waa n v (a+1+1+1+1) 4),1440+waa n v (a+1+1+1+1+1) 4,devF (waa n v (a+1+1+1+1+1+1) 3),1+waa n v (a+1+1+1+1+1+1+1) 9⟩⟩
 else ⟨devF (waa n v a 3),1+waa n v (a+1) 9,1,visV n v (a+1+1+1),⟨[],[],0,[],0⟩⟩
def msgA(n:Nat)(v:Nat->Int)(a:Int):Int:=bif decide (waa n v (a+1+1) 5=0) then a+1+1+1+1+1+1+1+1 else visA n v (a+1+1+1)
def wma:Spec
 |[.ptr 0 0],[.cells [.view sz n f,.int .i64 a] t]=>some (.agg [.str (msgV n (vInt f) a).dev,.q (msgV n (vInt f) a).seq,.q (msgV n (vInt f) a).kind,.str (msgV n (vInt f) a).v.o,.str (msgV n (vInt f) a).v.p,.q (msgV n (vInt f) a).v.per,.q (msgV n (vInt f) a).v.day,.q (msgV n (vInt f) a).v.st,.q (msgV n (vInt f) a).v.pr,.str (msgV n (vInt f) a).v.rep,.str (msgV n (vInt f) a).d.o,.str (msgV n (vInt f) a).d.p,.q (msgV n (vInt f) a).d.per,.str (msgV n (vInt f) a).d.dev,.q (msgV n (vInt f) a).d.num],
   [(0,.cells [.view 1 n f,.q (msgA n (vInt f) a)] 27)],t=27/\sz=1/\f=wab (vInt f)/\(0<=a/\a<=4611686018427385000))
 |_,_=>none
theorem wan.mapO{C:Ctx}{f:FuncId}{args:List AV}{objs:List AObj}{R:AV->List (Nat×AObj)->Prop}(φ:AV->AV)(hφ:∀(w:World) (M:Nat->Prop) (bs:Nat->Option Hd) (v:Value) (u:AV),V w M bs v u->V w M bs v (φ u))(rs:List Nat)
  (h:wan C f args objs λu O=>R u (Eng.mapO φ rs O)):wan C f args objs R:=by
 refine⟨h.1,λE bs w cargs h1 h2 h3 h4 h5 h6 h7=>?_⟩;refine(h.2 E bs w cargs h1 h2 h3 h4 h5 h6 h7).mono ?_;rintro e w' ⟨v,u,O',bs',r1,hR,r3,r4,r5⟩;obtain⟨e2,hW2⟩:=r3.mapR φ (hφ w' _ bs') rs;have eO:lk (Eng.mapO φ rs O')=λk=>(lk O' k).map (Eng.mapR φ (hasN rs k)):=funext λk=>wh6 φ rs O' k;refine⟨v,u,Eng.mapO φ rs O',bs',r1,hR,by rw[eO];exact hW2,by rw[eO,e2];exact r4,λk hk=>⟨?_,(r5 k hk).2⟩⟩;rw[wh6,(r5 k hk).1];rfl
def zMg:MG:=⟨[],0,0,⟨[],[],0,0,0,0,[]⟩,⟨[],[],0,[],0⟩⟩
def zRw:RW:=⟨[],[],0,0,0⟩
def wd6(m:MG)(j i:Nat):MG:=bif decide (i<j) then m else zMg
def wls(n:Nat)(v:Nat->Int)(a:Int)(m:MG)(N j:Nat):St:=⟨[(0,.ptr 0 0),(2,.ptr 1 0),(3,.ptr 2 0),(4,.ptr 3 0),(85,.q N),(86,.q j)],
 [(0,.cells [.view 1 n (wab v),.q a] 27),(1,.cells [.str [],.q 0,.q 0,.q 0,.nil,.nil,.nil] 49),
  (2,.cells [.str [102],.q 1,.q 0,.q 1,.own 4 N,.own 5 0,.own 6 0] 49),
  (3,.cells [.str m.dev,.q m.seq,.q m.kind,.str m.v.o,.str m.v.p,.q m.v.per,.q m.v.day,.q m.v.st,.q m.v.pr,.str m.v.rep,.str m.d.o,.str m.d.p,.q m.d.per,.str m.d.dev,.q m.d.num] 40),
  (4,.row 40 15 N (wag (wd6 m j)) false),(5,.row 61 5 0 (wai (atR [])) false),(6,.row 97 5 0 (wah (atT [])) false)],7,[]⟩
def L_sp5(n:Nat)(v:Nat->Int)(a:Int)(m:MG)(N:Nat):war:=λs Q=>
 canonIs te 1 [0,2,3,4,85,86] (ownNilP 3 6 97 5 (ownNilP 3 5 61 5 s)) (wls n v a m N 0)/\N<=401/\
 Q (.exit 1) ⟨[(0,.ptr 0 0),(2,.ptr 1 0),(3,.ptr 2 0)],(S_fl n v a [102] 1 0 1 (List.replicate N m) [] []).O,6,[]⟩
def wn0(n:Nat)(v:Nat->Int):war:=λs Q=>∃(b:Int) (m:MG) (N:Nat),L_sp5 n v b m N s Q
def wnk:wb8
 |[.ptr 0 0],[.cells [.view sz n f,.int .i64 a] t],R=>t=27/\sz=1/\f=wab (vInt f)/\(0<=a/\a<=4611686018427350000)/\
   ∀(F:FL) (a':Int),F.Tn->(a<=a'/\a'<=a+1200)->
   R (.agg [.str F.id,.q F.ver,.q F.day,.q F.kind,.view 15 F.ms.length (wag (atM F.ms)),.view 5 F.rs.length (wai (atR F.rs)),.view 5 F.ts.length (wah (atT F.ts))]) [(0,.cells [.view 1 n f,.q a'] 27)]
 |_,_,_=>False
structure FsS where
 L:List FL
 a:Int
def S_fs(n:Nat)(v:Nat->Int)(N:Int)(i:FsS):St:=⟨[(0,.ptr 0 0),(5,.own 1 i.L.length),(9,.q N),(10,.q i.L.length)],
 [(0,.cells [.view 1 n (wab v),.q i.a] 27),(1,.row 49 7 i.L.length (wac (atF i.L)) false)],2,[]⟩
def L_fs(n:Nat)(v:Nat->Int)(a N:Int):war:=λst Q=>canonIs te 1 [0,5,9,10] (ownNil 5 49 7 st) (S_fs n v N ⟨[],a⟩)/\(0<=N/\N<=20)/\(0<=a/\a<=4611686018427330000)/\
 ∀i:FsS,i.L.length=N.toNat->(a<=i.a/\i.a<=a+1100 * N)->(∀F∈i.L,F.Tn)->Q (.exit 0) ⟨[(5,.own 1 i.L.length)],(S_fs n v N i).O,2,[]⟩
def wnq:wb8
 |[.ptr 0 0,.int .i64 most],[.cells [.view sz n f,.int .i64 a] t],R=>t=27/\sz=1/\f=wab (vInt f)/\(0<=a/\a<=4611686018427320000)/\(0<=most/\most<=20)/\
   ∀(L:List FL) (a':Int),(L.length:Int)<=most->(a<=a'/\a'<=a+23000)->(∀F∈L,F.Tn)->
   R (.own 1 L.length) [(0,.cells [.view 1 n f,.q a'] 27),(1,.row 49 7 L.length (wac (atF L)) false)]
 |_,_,_=>False
def wwk:wb8
 |[.ptr 0 0],[.cells [.view sz n f,.int .i64 a] t],R=>t=27/\sz=1/\f=wab (vInt f)/\(0<=a/\a<=4611686018427300000)/\
   ∀(L:List FL) (a':Int),L.length<=8->(a<=a'/\a'<=a+25000)->(∀F∈L,F.Tn)->
   R (.own 1 L.length) [(0,.cells [.view 1 n f,.q a'] 27),(1,.row 49 7 L.length (wac (atF L)) false)]
 |_,_,_=>False
def wnp:wb8
 |[.ptr 0 0],[.cells [.view sz n f,.int .i64 a] t],R=>t=27/\sz=1/\f=wab (vInt f)/\(0<=a/\a<=4611686018427300000)/\
   ∀(L:List FL) (a':Int),L.length<=8->(a<=a'/\a'<=a+25000)->(∀F∈L,F.Tn)->
   R (.view 7 L.length (wac (atF L))) [(0,.cells [.view 1 n f,.q a'] 27)]
 |_,_,_=>False
def S_l4(n:Nat)(v:Nat->Int)(a:Int)(L:List FL):St:=⟨[(0,.ptr 0 0),(3,.own 1 L.length)],[(0,.cells [.view 1 n (wab v),.q a] 27),(1,.row 49 7 L.length (wac (atF L)) false)],2,[]⟩
def L_l4(n:Nat)(v:Nat->Int):war:=λs Q=>∃(L:List FL) (a:Int),canonIs te 1 [0,3] s (S_l4 n v a L)/\(0<=a/\a<=4611686018427365000)/\L.length<=7/\(∀F∈L,F.Tn)/\
 ∀(b:Bool) (a':Int),(a<=a'/\a'<=a+1)->(b=true->0<L.length)->Q .normal ⟨[(0,.ptr 0 0),(3,.own 1 L.length),(22,.bool b)],(S_l4 n v a' L).O,2,[]⟩
structure TuS where
 k:Nat
 L:List FL
 a:Int
def S_tu(n:Nat)(v:Nat->Int)(g:Nat->FL)(c:Nat)(i:TuS):St:=⟨[(0,.ptr 0 0),(5,.own 1 i.L.length),(10,.view 7 c (wac g)),(11,.q c),(12,.q i.k)],
 [(0,.cells [.view 1 n (wab v),.q i.a] 27),(1,.row 49 7 i.L.length (wac (atF i.L)) false)],2,[]⟩
def L_tu(n:Nat)(v:Nat->Int)(a:Int)(g:Nat->FL)(c:Nat):war:=λst Q=>canonIs te 1 [0,5,10,11,12] (ownNil 5 49 7 st) (S_tu n v g c ⟨0,[],a⟩)/\c<=100/\(0<=a/\a<=4611686018427365000)/\
 ∀i:TuS,i.L.length<=2 * c->(a<=i.a/\i.a<=a+2 * c)->(∀x,x∈i.L↔x∈lst g c)->Q (.exit 0) ⟨[(5,.own 1 i.L.length)],[(0,.cells [.view 1 n (wab v),.q i.a] 27),(1,.row 49 7 i.L.length (wac (atF i.L)) false)],2,[]⟩
def wnj:wb8
 |[.ptr 0 0,.view 7 c q],[.cells [.view sz n f,.int .i64 a] t],R=>t=27/\sz=1/\f=wab (vInt f)/\(0<=a/\a<=4611686018427360000)/\q=wac (flOf q)/\c<=100/\
   ∀(L:List FL) (a':Int),L.length<=2 * c->(a<=a'/\a'<=a+200)->(∀x,x∈L↔x∈lst (flOf q) c)->
   R (.view 7 L.length (wac (atF L))) [(0,.cells [.view 1 n f,.q a'] 27)]
 |_,_,_=>False
def eqF(F G:FL):Bool:=decide (F.day=G.day) && decide (encF F=encF G)
def eqFs(g h:Nat->FL):Nat->Bool
 |0=>true
 |k+1=>eqFs g h k && eqF (g k) (h k)
def wlv:Spec
 |[.view 7 n f,.view 7 m h],[]=>some (.bool (decide (n=m) && eqFs (flOf f) (flOf h) n),[],n<=1000000/\m<=1000000/\f=wac (flOf f)/\h=wac (flOf h)/\(∀i,i<n->(flOf f i).Rg)/\∀i,i<m->(flOf h i).Rg)
 |_,_=>none
def S_sf(g h:Nat->FL)(n k:Nat):St:=⟨[(0,.view 7 n (wac g)),(1,.view 7 n (wac h)),(12,.q n),(13,.q k)],[],0,[]⟩
def L_sf(g h:Nat->FL)(n:Nat):war:=λst Q=>canonIs te 0 [0,1,12,13] st (S_sf g h n 0)/\n<=1000000/\(∀i,i<n->(g i).Rg)/\(∀i,i<n->(h i).Rg)/\
 wad (eqFs g h n) (Q (.exit 0) ⟨[],[],0,[]⟩) (Q .ret ⟨[(4,.bool false)],[],0,[]⟩)
def entB(K:List (List UInt8)):List (AV×AV):=K.map λt=>(.str t,.bool true)
def entI(K:List (List UInt8))(v:List UInt8->Int):List (AV×AV):=K.map λt=>(.str t,.q (v t))
def EsV(es:List (AV×AV)):Prop:=∃(K:List (List UInt8)) (v:List UInt8->Int),es=entI K v/\K.Nodup
def EsC(es:List (AV×AV)):Prop:=∃K:List (List UInt8),es=entB K/\K.Nodup
def qD(d:Int)(F:FL):Bool:=decide (d<F.day)
def qV(es:List (AV×AV))(F:FL):Bool:= !decide (F.kind=1) && decide (F.ver<wap ((mget es (.str F.id)).getD (.q 0)))
def qC(es:List (AV×AV))(F:FL):Bool:=wer ((mget es (.str (encF F))).getD (.bool false))
def kfL(q:FL->Bool)(g:Nat->FL)(n:Nat):List FL:=(lst g n).filter λx=> !q x
structure FI where
 k:Nat
 w:Nat
 h:Nat->FL
def wfh:Spec
 |[.agg [.str id,.int .i64 ver,.int .i64 day,.int .i64 kind,.view 15 nm fm,.view 5 nr fr,.view 5 nt ft],.ptr 0 0],[.cells [.int .i64 d] t2]=>some (.bool (qD d (flV id ver day kind nm fm nr fr nt ft)),[(0,.cells [.q d] t2)],(FlC nm fm nr fr nt ft/\(flV id ver day kind nm fm nr fr nt ft).Rg)/\t2=3/\True)
 |_,_=>none
def wmh:Spec
 |[.own 0 n,.func 143 [.ptr 1 0]],[.row t 7 m f fr,.cells [.int .i64 d] t2]=>
   some (.q (ixB (λi=>qD d (flOf f i)) n),[(0,.row 49 7 n f false),(1,.cells [.q d] 3)],t=49/\t2=3/\fr=false/\n=m/\n<=1000/\f=wac (flOf f)/\(∀i,i<n->(flOf f i).Rg)/\True)
 |_,_=>none
def wmg(d:Int)(g:Nat->FL)(n k:Nat):St:=⟨[(0,.own 0 n),(1,.func 143 [.ptr 1 0]),(7,.q n),(8,.q k)],[(0,.row 49 7 n (wac g) false),(1,.cells [.q d] 3)],2,[]⟩
def woe(d:Int)(g:Nat->FL)(n:Nat):war:=λst Q=>canonIs te 2 [0,1,7,8] st (wmg d g n 0)/\n<=1000/\(∀i,i<n->(g i).Rg)/\True/\
 wad (decide (fstB (λi=>qD d (g i)) n<n)) (Q .ret ⟨[(4,.q (fstB (λi=>qD d (g i)) n))],[(0,.row 49 7 n (wac g) false),(1,.cells [.q d] 3)],2,[]⟩)
  (Q (.exit 0) ⟨[],[(0,.row 49 7 n (wac g) false),(1,.cells [.q d] 3)],2,[]⟩)
def wnt:wb8
 |[.own 0 n,.func 143 [.ptr 1 0]],[.row t 7 m f fr,.cells [.int .i64 d] t2],R=>t=49/\t2=3/\fr=false/\n=m/\n<=1000/\f=wac (flOf f)/\(∀i,i<n->(flOf f i).Rg)/\True/\
   ∀(k:Nat) (h:Nat->FL),k<=n->lst h k=kfL (qD d) (flOf f) n->R (.own 0 k) [(0,.row 49 7 k (wac h) false),(1,.cells [.q d] 3)]
 |_,_,_=>False
def wm0(d:Int)(n:Nat)(i:FI):St:=⟨[(0,.own 0 n),(1,.func 143 [.ptr 1 0]),(5,.q i.w),(6,.q i.k)],[(0,.row 49 7 n (wac i.h) false),(1,.cells [.q d] 3)],2,[]⟩
def wop(d:Int)(g:Nat->FL)(n i0:Nat):war:=λst Q=>canonIs te 2 [0,1,5,6] st (wm0 d n ⟨i0+1,i0,g⟩)/\(i0<n/\n<=1000)/\(∀i,i<n->(g i).Rg)/\True/\(∀j,j<i0->qD d (g j)=false)/\qD d (g i0)=true/\
 ∀(w:Nat) (h:Nat->FL),w<=n->lst h w=kfL (qD d) g n->Q (.exit 0) ⟨[(0,.own 0 n),(5,.q w)],[(0,.row 49 7 n (wac h) false),(1,.cells [.q d] 3)],2,[]⟩
def wfg:Spec
 |[.agg [.str id,.int .i64 ver,.int .i64 day,.int .i64 kind,.view 15 nm fm,.view 5 nr fr,.view 5 nt ft],.ptr 0 0],[.cells [.map 1] t2,.amap es]=>some (.bool (qV es (flV id ver day kind nm fm nr fr nt ft)),[(0,.cells [.map 1] t2),(1,.amap es)],(FlC nm fm nr fr nt ft/\(flV id ver day kind nm fm nr fr nt ft).Rg)/\t2=132/\EsV es)
 |_,_=>none
def wmf:Spec
 |[.own 0 n,.func 101 [.ptr 1 0]],[.row t 7 m f fr,.cells [.map 2] t2,.amap es]=>
   some (.q (ixB (λi=>qV es (flOf f i)) n),[(0,.row 49 7 n f false),(1,.cells [.map 2] 132),(2,.amap es)],t=49/\t2=132/\fr=false/\n=m/\n<=1000/\f=wac (flOf f)/\(∀i,i<n->(flOf f i).Rg)/\EsV es)
 |_,_=>none
def wme(es:List (AV×AV))(g:Nat->FL)(n k:Nat):St:=⟨[(0,.own 0 n),(1,.func 101 [.ptr 1 0]),(7,.q n),(8,.q k)],[(0,.row 49 7 n (wac g) false),(1,.cells [.map 2] 132),(2,.amap es)],3,[]⟩
def wod(es:List (AV×AV))(g:Nat->FL)(n:Nat):war:=λst Q=>canonIs te 3 [0,1,7,8] st (wme es g n 0)/\n<=1000/\(∀i,i<n->(g i).Rg)/\EsV es/\
 wad (decide (fstB (λi=>qV es (g i)) n<n)) (Q .ret ⟨[(4,.q (fstB (λi=>qV es (g i)) n))],[(0,.row 49 7 n (wac g) false),(1,.cells [.map 2] 132),(2,.amap es)],3,[]⟩)
  (Q (.exit 0) ⟨[],[(0,.row 49 7 n (wac g) false),(1,.cells [.map 2] 132),(2,.amap es)],3,[]⟩)
def wns:wb8
 |[.own 0 n,.func 101 [.ptr 1 0]],[.row t 7 m f fr,.cells [.map 2] t2,.amap es],R=>t=49/\t2=132/\fr=false/\n=m/\n<=1000/\f=wac (flOf f)/\(∀i,i<n->(flOf f i).Rg)/\EsV es/\
   ∀(k:Nat) (h:Nat->FL),k<=n->lst h k=kfL (qV es) (flOf f) n->R (.own 0 k) [(0,.row 49 7 k (wac h) false),(1,.cells [.map 2] 132),(2,.amap es)]
 |_,_,_=>False
def wmz(es:List (AV×AV))(n:Nat)(i:FI):St:=⟨[(0,.own 0 n),(1,.func 101 [.ptr 1 0]),(5,.q i.w),(6,.q i.k)],[(0,.row 49 7 n (wac i.h) false),(1,.cells [.map 2] 132),(2,.amap es)],3,[]⟩
def woo(es:List (AV×AV))(g:Nat->FL)(n i0:Nat):war:=λst Q=>canonIs te 3 [0,1,5,6] st (wmz es n ⟨i0+1,i0,g⟩)/\(i0<n/\n<=1000)/\(∀i,i<n->(g i).Rg)/\EsV es/\(∀j,j<i0->qV es (g j)=false)/\qV es (g i0)=true/\
 ∀(w:Nat) (h:Nat->FL),w<=n->lst h w=kfL (qV es) g n->Q (.exit 0) ⟨[(0,.own 0 n),(5,.q w)],[(0,.row 49 7 n (wac h) false),(1,.cells [.map 2] 132),(2,.amap es)],3,[]⟩
def wfi:Spec
 |[.agg [.str id,.int .i64 ver,.int .i64 day,.int .i64 kind,.view 15 nm fm,.view 5 nr fr,.view 5 nt ft],.ptr 0 0],[.cells [.map 1] t2,.amap es]=>some (.bool (qC es (flV id ver day kind nm fm nr fr nt ft)),[(0,.cells [.map 1] t2),(1,.amap es)],(FlC nm fm nr fr nt ft/\(flV id ver day kind nm fm nr fr nt ft).Rg)/\t2=135/\EsC es)
 |_,_=>none
def wmj:Spec
 |[.own 0 n,.func 104 [.ptr 1 0]],[.row t 7 m f fr,.cells [.map 2] t2,.amap es]=>
   some (.q (ixB (λi=>qC es (flOf f i)) n),[(0,.row 49 7 n f false),(1,.cells [.map 2] 135),(2,.amap es)],t=49/\t2=135/\fr=false/\n=m/\n<=1000/\f=wac (flOf f)/\(∀i,i<n->(flOf f i).Rg)/\EsC es)
 |_,_=>none
def wmi(es:List (AV×AV))(g:Nat->FL)(n k:Nat):St:=⟨[(0,.own 0 n),(1,.func 104 [.ptr 1 0]),(7,.q n),(8,.q k)],[(0,.row 49 7 n (wac g) false),(1,.cells [.map 2] 135),(2,.amap es)],3,[]⟩
def wof(es:List (AV×AV))(g:Nat->FL)(n:Nat):war:=λst Q=>canonIs te 3 [0,1,7,8] st (wmi es g n 0)/\n<=1000/\(∀i,i<n->(g i).Rg)/\EsC es/\
 wad (decide (fstB (λi=>qC es (g i)) n<n)) (Q .ret ⟨[(4,.q (fstB (λi=>qC es (g i)) n))],[(0,.row 49 7 n (wac g) false),(1,.cells [.map 2] 135),(2,.amap es)],3,[]⟩)
  (Q (.exit 0) ⟨[],[(0,.row 49 7 n (wac g) false),(1,.cells [.map 2] 135),(2,.amap es)],3,[]⟩)
def wnu:wb8
 |[.own 0 n,.func 104 [.ptr 1 0]],[.row t 7 m f fr,.cells [.map 2] t2,.amap es],R=>t=49/\t2=135/\fr=false/\n=m/\n<=1000/\f=wac (flOf f)/\(∀i,i<n->(flOf f i).Rg)/\EsC es/\
   ∀(k:Nat) (h:Nat->FL),k<=n->lst h k=kfL (qC es) (flOf f) n->R (.own 0 k) [(0,.row 49 7 k (wac h) false),(1,.cells [.map 2] 135),(2,.amap es)]
 |_,_,_=>False
def wm1(es:List (AV×AV))(n:Nat)(i:FI):St:=⟨[(0,.own 0 n),(1,.func 104 [.ptr 1 0]),(5,.q i.w),(6,.q i.k)],[(0,.row 49 7 n (wac i.h) false),(1,.cells [.map 2] 135),(2,.amap es)],3,[]⟩
def woq(es:List (AV×AV))(g:Nat->FL)(n i0:Nat):war:=λst Q=>canonIs te 3 [0,1,5,6] st (wm1 es n ⟨i0+1,i0,g⟩)/\(i0<n/\n<=1000)/\(∀i,i<n->(g i).Rg)/\EsC es/\(∀j,j<i0->qC es (g j)=false)/\qC es (g i0)=true/\
 ∀(w:Nat) (h:Nat->FL),w<=n->lst h w=kfL (qC es) g n->Q (.exit 0) ⟨[(0,.own 0 n),(5,.q w)],[(0,.row 49 7 n (wac h) false),(1,.cells [.map 2] 135),(2,.amap es)],3,[]⟩
def edG(L:List FL)(j:Nat):MG:=edM (atF L j)
def selG(L:List FL)(k:Nat):List FL:=selK (λi=> !cfB L i) L k
def selB(L:List FL)(k:Nat):List FL:=selK (cfB L) L k
def S_s4(L:List FL)(k:Nat):St:=⟨[(4,.nil),(5,.nil),(6,.own 0 L.length),(7,.map 1),(17,.own 0 L.length),(18,.q L.length),(19,.q k)],[(0,.row 49 7 L.length (wac (atF L)) false),(1,.amap (entM (cntL (edG L) k)))],2,[]⟩
def L_s4(L:List FL):war:=λst Q=>canonIs te 0 [4,5,6,7,17,18,19] st (S_s4 L 0)/\L.length<=1000/\Q (.exit 0) ⟨[(4,.nil),(5,.nil),(6,.own 0 L.length),(7,.map 1)],[(0,.row 49 7 L.length (wac (atF L)) false),(1,.amap (entM (cntL (edG L) L.length)))],2,[]⟩
def S_s6(E:List ((List UInt8×Int)×Int))(F:FL)(L:List FL)(k:Nat):St:=⟨[(4,.nil),(5,.nil),(6,.own 0 L.length),(7,.map 1),(9,.ptr 2 0),(17,.own 0 L.length),(18,.q L.length),(19,.q k)],
 [(0,.row 49 7 L.length (wac (atF L)) false),(1,.amap (entM E)),(2,.cells [.str F.id,.q F.ver,.q F.day,.q F.kind,.view 15 F.ms.length (wag (atM F.ms)),.view 5 F.rs.length (wai (atR F.rs)),.view 5 F.ts.length (wah (atT F.ts))] 49)],3,[]⟩
def S_s6b(E:List ((List UInt8×Int)×Int))(F:FL)(L:List FL)(k:Nat):St:=⟨[(4,.nil),(5,.nil),(6,.own 0 L.length),(7,.map 1),(9,.ptr 2 0),(17,.own 0 L.length),(18,.q L.length),(19,.q k),(23,.map 1),(28,.agg [.str F.id,.q F.ver])],
 [(0,.row 49 7 L.length (wac (atF L)) false),(1,.amap (entM E)),(2,.cells [.str F.id,.q F.ver,.q F.day,.q F.kind,.view 15 F.ms.length (wag (atM F.ms)),.view 5 F.rs.length (wai (atR F.rs)),.view 5 F.ts.length (wah (atT F.ts))] 49)],3,[]⟩
def L_s6(E:List ((List UInt8×Int)×Int))(F:FL)(L:List FL)(k:Nat):war:=λst Q=>canonIs te 0 [4,5,6,7,9,17,18,19] st (S_s6 E F L k)/\(E.map Prod.fst).Nodup/\inR .i64 (getC E (mk2 (edM F))+1)/\Q .normal (S_s6 (addC E (mk2 (edM F))) F L k)
def S_s9(L:List FL)(k:Nat):St:=⟨[(4,.own 0 (selG L k).length),(5,.own 1 (selB L k).length),(7,.map 2),(34,.own 3 L.length),(35,.q L.length),(36,.q k)],
 [(0,.row 49 7 (selG L k).length (wac (atF (selG L k))) false),(1,.row 49 7 (selB L k).length (wac (atF (selB L k))) false),(2,.amap (entM (cntL (edG L) L.length))),(3,.row 49 7 L.length (wac (atF L)) false)],4,[]⟩
def L_s9(L:List FL):war:=λst Q=>canonIs te 0 [4,5,7,34,35,36] (ownNil 4 49 7 (ownNil 5 49 7 st)) (S_s9 L 0)/\L.length<=1000/\
 Q (.exit 2) ⟨[(4,.own 0 (wbk L).length),(5,.own 1 (badL L).length)],[(0,.row 49 7 (wbk L).length (wac (atF (wbk L))) false),(1,.row 49 7 (badL L).length (wac (atF (badL L))) false)],2,[]⟩
def wha:Spec
 |[.view 7 n f,.int .i64 d],[]=>some (.tuple [.own 0 (wbk (knwL okV (flOf f) n d)).length,.own 1 (badL (knwL okV (flOf f) n d)).length],
   [(0,.row 49 7 (wbk (knwL okV (flOf f) n d)).length (wac (atF (wbk (knwL okV (flOf f) n d)))) false),(1,.row 49 7 (badL (knwL okV (flOf f) n d)).length (wac (atF (badL (knwL okV (flOf f) n d)))) false)],n<=1000/\f=wac (flOf f)/\∀i,i<n->(flOf f i).Gd)
 |_,_=>none
def idK(G:List FL):Nat->List (List UInt8)
 |0=>[]
 |k+1=>bif !decide ((atF G k).kind=1) && !decide ((atF G k).id∈idK G k) then idK G k++[(atF G k).id] else idK G k
def nwE(G:List FL)(k:Nat):List (AV×AV):=entI (idK G k) λt=>nwF G t k
def S_v4(G:List FL)(k:Nat):St:=⟨[(5,.own 0 G.length),(7,.ptr 1 0),(17,.own 0 G.length),(18,.q G.length),(19,.q k)],[(0,.row 49 7 G.length (wac (atF G)) false),(1,.cells [.map 2] 132),(2,.amap (nwE G k))],3,[]⟩
def L_v4(G:List FL):war:=λst Q=>canonIs te 0 [5,7,17,18,19] st (S_v4 G 0)/\G.length<=1000/\(∀F∈G,0<=F.ver)/\Q (.exit 0) ⟨[(5,.own 0 G.length),(7,.ptr 1 0)],[(0,.row 49 7 G.length (wac (atF G)) false),(1,.cells [.map 2] 132),(2,.amap (nwE G G.length))],3,[]⟩
def wlh:Spec
 |[.view 7 n f,.int .i64 d],[]=>some (.own 0 (vwL okV (flOf f) n d).length,[(0,.row 49 7 (vwL okV (flOf f) n d).length (wac (atF (vwL okV (flOf f) n d))) false)],n<=1000/\f=wac (flOf f)/\∀i,i<n->(flOf f i).Gd)
 |_,_=>none
def S_conf:Spec
 |[.view 7 n f,.int .i64 d],[]=>some (.own 0 (cfL okV (flOf f) n d).length,[(0,.row 49 7 (cfL okV (flOf f) n d).length (wac (atF (cfL okV (flOf f) n d))) false)],n<=1000/\f=wac (flOf f)/\∀i,i<n->(flOf f i).Gd)
 |_,_=>none
def awR:RW:=⟨[111],[57,54,51,56,53,48,55,52],5,2,300⟩
def awFl:FL:=⟨[97],1,10,2,[],[awR],[]⟩
def FM(f:Nat->List AV)(n:Nat):Prop:=(∀i,i<n->f i=wac (flOf f) i)/\∀i,i<n->(flOf f i).Gd
def wlg:Spec
 |[.own 0 n,.int .i64 d],[.row _ 7 m f _]=>some (.view 7 (vwL okV (flOf f) n d).length (wac (atF (vwL okV (flOf f) n d))),[],n=m/\n<=1000/\FM f n)
 |_,_=>none
def wlf:Spec
 |[.view 7 n f,.int .i64 d],[]=>some (.view 7 (vwL okV (flOf f) n d).length (wac (atF (vwL okV (flOf f) n d))),[],n<=1000/\f=wac (flOf f)/\∀i,i<n->(flOf f i).Gd)
 |_,_=>none
def S_awc:St:=⟨[(0,.bool false),(1,.ptr 0 0)],[(0,.cells [.str awFl.id,.q awFl.ver,.q awFl.day,.q awFl.kind,.view 15 awFl.ms.length (wag (atM awFl.ms)),.view 5 awFl.rs.length (wai (atR awFl.rs)),.view 5 awFl.ts.length (wah (atT awFl.ts))] 49)],1,[]⟩
def S_aw0:St:=⟨[(0,.bool false),(1,.ptr 0 0)],[(0,.cells [.str [97],.q 1,.q 10,.q 2,.view 15 0 (wag (atM [])),.own 1 1,.view 5 0 (wah (atT []))] 49),(1,.row 61 5 1 (wai (atR [awR])) false)],2,[]⟩
def wou:war:=λst Q=>canonIs te 0 [0,1] (nilVP 1 4 15 (wag (atM [])) (nilVP 1 6 5 (wah (atT [])) st)) S_aw0/\Q .normal ⟨[(0,.bool true)],[],0,[]⟩
def wne:Spec
 |[],[]=>some (.bool true,[],True)
 |_,_=>none
def wl2:Spec
 |[.view 7 n f],[]=>some (.view 7 (nrmL okV (flOf f) n).length (wac (atF (nrmL okV (flOf f) n))),[],n<=1000/\f=wac (flOf f)/\∀i,i<n->(flOf f i).Gd)
 |_,_=>none
def wm5:Spec
 |[.view 7 n f,.int .i64 d],[]=>some (.view 7 (cfL okV (flOf f) n d).length (wac (atF (cfL okV (flOf f) n d))),[],n<=1000/\f=wac (flOf f)/\∀i,i<n->(flOf f i).Gd)
 |_,_=>none
def txK(A:List FL):Nat->List (List UInt8)
 |0=>[]
 |k+1=>bif decide (encF (atF A k)∈txK A k) then txK A k else txK A k++[encF (atF A k)]
def chE(A:List FL)(k:Nat):List (AV×AV):=entB (txK A k)
def wna(g:Nat->FL)(n:Nat)(e:Int)(A:List FL)(k:Nat):St:=⟨[(0,.view 7 n (wac g)),(2,.q e),(7,.ptr 0 0),(13,.own 1 A.length),(14,.q A.length),(15,.q k)],
 [(0,.cells [.map 2] 135),(1,.row 49 7 A.length (wac (atF A)) false),(2,.amap (chE A k))],3,[]⟩
def wot(g:Nat->FL)(n:Nat)(e:Int)(A:List FL):war:=λst Q=>canonIs te 0 [0,2,7,13,14,15] st (wna g n e A 0)/\A.length<=1000/\(∀F∈A,F.Rg)/\
 Q (.exit 0) ⟨[(0,.view 7 n (wac g)),(2,.q e),(7,.ptr 0 0)],[(0,.cells [.map 1] 135),(1,.amap (chE A A.length))],2,[]⟩
def wm9:Spec
 |[.view 7 n f,.int .i64 d,.int .i64 e],[]=>some (.view 7 (chgL okV (flOf f) n d e).length (wac (atF (chgL okV (flOf f) n d e))),[],n<=1000/\f=wac (flOf f)/\∀i,i<n->(flOf f i).Gd)
 |_,_=>none
end Go.Eng
namespace Go.Proofs
open Go.RowKit
theorem Tryz.sizeBuilder:(Tryz.prog.info? 109).map (·.size)=some 2:=by kernel_rfl
theorem Tryz.liesWords:liesAt Tryz.prog Tryz.prog.depth 111 1 0 109 1=true:=by kernel_rfl
theorem Tryz.cellsWords:Tryz.prog.cellsOf 111=2:=by kernel_rfl
theorem Tryz.und106:Tryz.prog.underlying 106=some (.pointer 109):=by kernel_rfl
theorem Tryz.und220:Tryz.prog.underlying 220=some .unsafePointer:=by kernel_rfl
set_option maxHeartbeats 1000000 in
set_option maxRecDepth 100000 in
theorem Tryz.copyCheck_used(b:Nat)(w:World)(h0:w.cell? ⟨b,0,none⟩=some (.pointer (some ⟨b,0,none⟩))):
  Calls Tryz.prog 164 #[.pointer (some ⟨b,0,none⟩)] w λe w'=>e= .returned (.tuple #[])/\w'=w:=by
 obtain⟨j,hj,_⟩:=Option.map_eq_some_iff.1 Tryz.sizeBuilder
 go_enter Tryz.func164,Tryz.ntmps164
 go_wp2
 rw[Lib.run_neq_ptr_same w _ Tryz.und106 hj]
 go_wp2
 go_end0
 exact⟨rfl,rfl⟩
set_option maxHeartbeats 1000000 in
set_option maxRecDepth 100000 in
theorem Tryz.copyCheck_fresh(b:Nat)(w:World)(h0:w.cell? ⟨b,0,none⟩=some (.pointer none))(hsh:w.shape? b=some (111,2))(hfz:w.frozen? ⟨b,0,none⟩=false):
  Calls Tryz.prog 164 #[.pointer (some ⟨b,0,none⟩)] w λe w'=>e= .returned (.tuple #[])/\w'=w.setCell ⟨b,0,none⟩ (.pointer (some ⟨b,0,none⟩)):=by
 obtain⟨j,hj,hjs⟩:=Option.map_eq_some_iff.1 Tryz.sizeBuilder
 go_enter Tryz.func164,Tryz.ntmps164
 go_wp2
 rw[Lib.run_to_unsafe w ⟨b,0,none⟩ Tryz.und106 Tryz.und220 hj (by rw[hjs];decide) hsh (Nat.zero_lt_succ 1)];simp only[Result.andThen];rw[Oper.upon_value]
 go_wp2
 rw[run_callFunc_extern Tryz.func203 (by kernel_rfl) (by kernel_rfl) (by kernel_rfl) (e:=Extern.AbiNoEscape.same) (by kernel_rfl)];rw[Lib.run_noEscape];simp only[Result.andThen];rw[Oper.upon_value]
 go_wp2
 rw[Lib.run_from_unsafe w ⟨b,0,none⟩ Tryz.und220 Tryz.und106 hj hsh (by rw[Tryz.cellsWords];exact Tryz.liesWords)];simp only[Result.andThen];rw[Oper.upon_value]
 go_wp2
 go_end0
 exact⟨rfl,rfl⟩
end Go.Proofs
namespace Go.Eng
open Go.Proofs Go.RowKit Go.Sort
variable {C:Ctx} [C.Loose]
set_option maxRecDepth 20000
theorem wv7(w:World)(k:Nat)(os:Array Obj):Below w.heap.size w (grow (w.drewN k) os):=
 ⟨rfl,rfl,rfl,by simp[grow,World.drewN],λi hi=>by
  show (w.heap++os)[i]?=_;rw[Array.getElem?_append_left hi]⟩
theorem wpi{w:World}{M:Nat->Prop}{bs:Nat->Option Hd}{v:Value}{r off:Nat}(h:V w M bs v (.ptr r off)):∃b c,v= .pointer (some ⟨b,off,none⟩)/\bs r=some (.blk b c):=by
 cases h with | ptr hb=>exact⟨_,_,rfl,hb⟩
theorem ccUsed(hP:C.P=Tryz.prog){args:List AV}{objs:List AObj}{cs:List AV}{t:TypeId}(ha:args=[.ptr 0 0])(ho:objs[0]?=some (.cells (.ptr 0 0::cs) t)):wan C 164 args objs λu O=>u= .tuple []/\O=enum 0 objs:=by
 have _:C.Loose:=inferInstance;subst ha;refine wan.quiet ⟨_,hP ▸ Tryz.func164,rfl,by decide⟩ λE bs w cargs hW hl hv=>?_;obtain⟨a,rfl⟩:=mem1 hl;have V0:=hv 0 _ _ rfl rfl;obtain⟨b,x,rfl,hx,hxV⟩:=WRep.cell hW (r:=0) (by simpa[lkL] using ho) V0 (j:=0) (u:=.ptr 0 0) rfl;obtain⟨b1,c1,rfl,hb1⟩:=wpi hxV;obtain⟨b2,c2,e2,hb2⟩:=wpi V0;rw[hb1] at hb2;injection hb2 with hb2;injection hb2 with e3 e4;subst e3;injection e2 with e2;injection e2 with e2;injection e2 with e2;subst e2;rw[hP];refine(Tryz.copyCheck_used b w hx).mono ?_;rintro e w' ⟨rfl,rfl⟩;exact⟨_,rfl,rfl,.tuple rfl (λj v u hv hu=>by simp at hu)⟩
theorem ccFresh(hP:C.P=Tryz.prog):wan C 164 [.ptr 0 0] [.cells [.nilptr,.nil] 111] λu O=>u= .tuple []/\O=[(0,.cells [.ptr 0 0,.nil] 111)]:=by
 have _:C.Loose:=inferInstance;refine⟨⟨_,hP ▸ Tryz.func164,rfl,by decide⟩,λE bs w cargs h1 h2 h3 hW h5 h6 h7=>?_⟩;obtain⟨a,rfl⟩:=mem1 h6;have V0:=h7 0 _ _ rfl rfl;obtain⟨b,c,vs,k1,k2,k3,k4,k5⟩:=hW.obj 0 _ rfl;obtain⟨x,y,rfl⟩:∃x y,vs=#[x,y]:=by
  have k3:vs.size=2:=k3;exact⟨vs[0],vs[1],by
   apply Array.ext
   ·simpa using k3
   ·intro i hi1 hi2
    match i,hi2 with
    |0,_=>rfl
    |1,_=>rfl⟩
 have hx:=k5 0 x .nilptr rfl rfl;have hy:=k5 1 y .nil rfl rfl
 cases hx
 cases hy;obtain⟨b',c',rfl,hb⟩:=wpi V0;rw[k1] at hb;injection hb with hb;injection hb with e1 e2;subst e1;subst e2
 ·rw[hP];refine(Tryz.copyCheck_fresh b w (by rw[cell_of_row w b 0 _ _ (0,0) k2];rfl) (by simp[World.shape?,k2]) (by simp[World.frozen?,k2])).mono ?_;rintro e w' ⟨rfl,rfl⟩;have hm:(AObj.cells [.nilptr,.nil] 111).mut=true:=rfl;have hheap:(w.setCell ⟨b,0,none⟩ (.pointer (some ⟨b,0,none⟩))).heap[b]?=some (.cells #[.pointer (some ⟨b,0,none⟩),.slice none 0 0] 111 (0,0)):=by
   simp[World.setCell,Array.getElem?_modify,k2]
  obtain⟨g1,g2⟩:=hW.modify (x:=0) rfl hm k1 (w':=w.setCell ⟨b,0,none⟩ (.pointer (some ⟨b,0,none⟩))) (λk hk=>by simp[World.setCell,Array.getElem?_modify,Ne.symm hk]) (by simp[World.setCell]) rfl ⟨rfl,λ_=>lR7 _⟩ rfl (o:=.cells [.ptr 0 0,.nil] 111) rfl
   (λhS=>⟨b,c,_,k1,hheap,rfl,λj v hv=>by
    match j with
    |0=>obtain rfl:=oJ7 hv;rfl
    |1=>obtain rfl:=oJ7 hv;rfl
    |j+2=>simp at hv,λj v u hv hu=>by
    match j with
    |0=>obtain rfl:=oJ7 hv;obtain rfl:=oJ7 hu;exact .ptr k1
    |1=>obtain rfl:=oJ7 hv;obtain rfl:=oJ7 hu;exact .nil
    |j+2=>simp at hv⟩)
  have e2:up (lkL [AObj.cells [.nilptr,.nil] 111]) 0 (.cells [.ptr 0 0,.nil] 111)=lk [(0,.cells [.ptr 0 0,.nil] 111)]:=by
   funext i;rw[wa3]
   by_cases h:(0:Nat)=i
   ·subst h;rw[wav,if_pos rfl]
   ·rw[wau _ _ _ h,if_neg h]
    cases i with
    |zero=>exact absurd rfl h
    |succ i=>simp[lkL,lk]
  rw[e2] at g2;refine⟨_,.tuple [],[(0,.cells [.ptr 0 0,.nil] 111)],bs,rfl,⟨rfl,rfl⟩,g2,.tuple rfl (λj v u hv hu=>by simp at hu),λr hr=>⟨?_,h5 r (by show 1<=r;have:1+16<=r:=hr;omega)⟩⟩;have:1+16<=r:=hr;rw[wa3,if_neg (by show ¬ 0=r;omega)];rfl
theorem cc_ok(hP:C.P=Tryz.prog):waf C 164 S_cc:=by
 rintro args objs U Os vc h hvc;unfold S_cc at h;split at h<;>simp only[sI7,pI7,reduceCtorEq] at h
 ·rename_i t;obtain⟨rfl,rfl,rfl⟩:=h;have hvc:t=_:=hvc;subst hvc;exact ccFresh hP
 ·rename_i n t t8 m f;obtain⟨rfl,rfl,rfl⟩:=h;have hvc:t=_:=hvc;subst hvc;exact ccUsed hP rfl rfl
theorem wkf(hP:C.P=Tryz.prog)(hL:∀w,C.laid w->LaidW w):waf C 134 wee:=by
 rintro args objs U Os vc h hvc;unfold wee at h;split at h<;>cases h;rename_i n;have hr:inR .i64 n:=hvc;simp only[inR] at hr;refine wan.below ⟨_,hP ▸ Tryz.func134,rfl,by decide⟩ λw M cargs hlaid _ hM hl hv=>?_;obtain⟨a,b,rfl⟩:∃a b,cargs=[a,b]:=by
  match cargs,hl with
  |[a,b],_=>exact⟨a,b,rfl⟩
 have e1:=(hv 0 _ _ rfl rfl).int_iff;have e2:=(hv 1 _ _ rfl rfl).int_iff;subst e1;subst e2;rw[hP];refine(Tryz.strconv_FormatInt_10 n (by omega) (by omega) w (hL w hlaid).pow).mono ?_;rintro e w' ⟨rfl,k,os,rfl⟩;exact⟨_,rfl,wv7 _ _ _,.str (by simp)⟩
theorem wj7(hP:C.P=Tryz.prog)(hL:∀w,C.laid w->LaidW w):waf C 133 wcm:=by
 rintro args objs U Os vc h hvc;unfold wcm at h;split at h<;>cases h;rename_i n;have hr:inR .i64 n:=hvc;simp only[inR] at hr;refine wan.below ⟨_,hP ▸ Tryz.func133,rfl,by decide⟩ λw M cargs hlaid _ hM hl hv=>?_;obtain⟨a,rfl⟩:=mem1 hl;have e1:=(hv 0 _ _ rfl rfl).int_iff;subst e1;rw[hP];refine(Tryz.strconv_Itoa n (by omega) (by omega) w (hL w hlaid).pow).mono ?_;rintro e w' ⟨rfl,k,os,rfl⟩;exact⟨_,rfl,wv7 _ _ _,.str (by simp)⟩
end Go.Eng
namespace Go.Eng
open Go.Proofs Go.RowKit
set_option maxRecDepth 20000
theorem nf_cdR(s:List UInt8)(R:oR7):wpFn te [] [(5,wor s)] 0 Tryz.f98 [.str s] [] R=(letI z2:=R (.tuple [.q 0,.bool false]) [];letI z1:=(s.length:Int);letI z0:=(some (St.mk [(0,.str s),(4,.q 0),(16,.q z1),(17,.q 0)] [] 0 [])=some (St.mk [(0,.str s),(4,.q (wa9 s 0)),(16,.q z1),(17,.q (↑0:Int))] [] 0 [])/\s.length<=12/\wad (List.all s wb1) ((10:Int)≠(0:Int)/\inR .i64 ((10:Int) - Int.tmod (wa9 s s.length) (10:Int))/\(10:Int)≠(0:Int)/\R (.tuple [.q (Int.tmod ((10:Int) - Int.tmod (wa9 s s.length) (10:Int)) (10:Int)),.bool true]) []) z2);wad (!decide (z1=7)) (wad (!decide (z1=12)) z2 z0) z0):=by kernel_rfl
theorem w0o(s:List UInt8)(k:Nat)(P:Nat->Prop)(R:eR7):wa0 ⟨te,[],[],0,50,0⟩ (wa2 Tryz.f98 5) [0,4,16,17] [4] [2,3] (wnb s) P R (wnb s k)=(letI z5:=R .ret (St.mk [(2,.q 0),(3,.bool false)] [] 0 []);letI z1:=(s.length:Int);letI z2:=((0:Int)<=(k:Int)/\(k:Int)<z1:Prop);letI z0:=(↑(UInt8.toNat (List.getD s (k:Int).toNat (0:UInt8))):Int);letI z3:=(z0 - (48:Int));letI z4:=(z3 % (256:Int));wad (decide ((k:Int)<z1)) (z2/\wad (decide (z0<48)) z5 (z2/\wad (decide ((57:Int)<z0)) z5 (inR .i64 (z1 - (k:Int))/\(2:Int)≠(0:Int)/\wad (decide (Int.tmod (z1 - (k:Int)) (2:Int)=1)) (z2/\inR .i64 z4/\inR .i64 ((3:Int) * z4)/\inR .i64 (wa9 s k+3 * z4)/\inR .i64 ((k:Int)+1)/\∃(i':Nat),some (St.mk [(0,.str s),(4,.q (wa9 s k+3 * z4)),(16,.q z1),(17,.q ((k:Int)+1))] [] 0 [])=some (St.mk [(0,.str s),(4,.q (wa9 s i')),(16,.q z1),(17,.q (i':Int))] [] 0 [])/\P i') (z2/\inR .i64 z4/\inR .i64 ((1:Int) * z4)/\inR .i64 (wa9 s k+1 * z4)/\inR .i64 ((k:Int)+1)/\∃(i':Nat),some (St.mk [(0,.str s),(4,.q (wa9 s k+1 * z4)),(16,.q z1),(17,.q ((k:Int)+1))] [] 0 [])=some (St.mk [(0,.str s),(4,.q (wa9 s i')),(16,.q z1),(17,.q (i':Int))] [] 0 [])/\P i')))) (R (.exit 0) (St.mk [(4,.q (wa9 s k))] [] 0 []))):=by kernel_rfl
variable {C:Ctx} [C.Loose]
theorem w3l(hP:C.P=Tryz.prog)(s:List UInt8):waj C 0 50 (wam Tryz.f98 5) (wor s):=by
 have _:C.Loose:=inferInstance;rintro st Q ⟨h0,hlen,hQ⟩;have hQ:=wb3 hQ;refine waj.mk (prg hP) [] 0 .nil [0,4,16,17] [4] [2,3] (wnb s) (λk=>k<=s.length/\∀j,j<k->48<=(s.getD j 0).toNat/\(s.getD j 0).toNat<=57) (λk=>s.length - k) 0 ⟨zL7 _,λj h=>by omega⟩ h0 λk ⟨hk,hall⟩=>?_;rw[w0o];have hb:=wv0 k hk hall;refine wak (λh=>?_) (λh=>?_)
 ·have hlt:k<s.length:=by omega
  have hret:¬ (48<=(s.getD k 0).toNat/\(s.getD k 0).toNat<=57)->Q .ret ⟨[(2,.q 0),(3,.bool false)],[],0,[]⟩:=λhno=>hQ.2 (by
   cases ha:s.all wb1 with
   |false=>rfl
   |true=>exact absurd (wj9 ha k hlt) hno)
  have e:Int.tmod (↑s.length - ↑k) 2=(↑s.length - ↑k) % 2:=Int.tmod_eq_emod_of_nonneg (by omega);have hs:wa9 s (k+1)=wa9 s k+(1+2 * ((↑s.length - ↑k) % 2)) * (↑(s.getD k 0).toNat - 48):=rfl;have hgo:(48<=(s.getD k 0).toNat/\(s.getD k 0).toNat<=57)->(k+1<=s.length/\∀j,j<k+1->48<=(s.getD j 0).toNat/\(s.getD j 0).toNat<=57)/\s.length - (k+1)<s.length - k:=λhok=>
   ⟨⟨by omega,λj hj=>by
    rcases Nat.lt_succ_iff_lt_or_eq.1 hj with hj | rfl
    ·exact hall j hj
    ·exact hok⟩,by omega⟩
  simp only[tN7,inR,e];refine⟨by omega,wak (λh1=>hret (by omega)) (λh1=>⟨by omega,wak (λh2=>hret (by omega)) (λh2=>⟨by omega,by omega,?_⟩)⟩)⟩;have hgo:=hgo (by omega);have e3:((s.getD k 0).toNat - 48:Int) % 256=(s.getD k 0).toNat - 48:=by omega
  rw[e3];refine wak (λh3=>?_) (λh3=>?_)
  ·rw[h3] at hs;exact⟨by omega,by omega,by omega,by omega,by omega,k+1,by rw[hs];rfl,hgo⟩
  ·have h3:(↑s.length - ↑k:Int) % 2=0:=by omega
   rw[h3] at hs;exact⟨by omega,by omega,by omega,by omega,by omega,k+1,by rw[hs];rfl,hgo⟩
 ·have hks:k=s.length:=by omega
  rw[hks];exact hQ.1 (w4a λj hj=>hall j (by omega))
theorem cdR_ok(hP:C.P=Tryz.prog):waf C 98 wfj:=by
 rintro args objs U Os vc h hvc;unfold wfj at h;split at h<;>cases h;rename_i s;refine waf.wpL (prg hP) [] [(5,wor s)] 0 .nil (hP ▸ Tryz.func98) rfl rfl rfl [(wam Tryz.f98 5,wor s)] (by kernel_rfl) ⟨w3l hP s,trivial⟩ ?_;rw[nf_cdR]
 have main:(s.length=7∨s.length=12)->wad (s.all wb1) ((10:Int)≠0/\inR .i64 (10 - Int.tmod (wa9 s s.length) 10)/\(10:Int)≠0/\AV.tuple [.q (Int.tmod (10 - Int.tmod (wa9 s s.length) 10) 10),.bool true]= .tuple [.q (cdF s).1,.bool (cdF s).2]/\([]:List (Nat×AObj))=[])
   (AV.tuple [.q 0,.bool false]= .tuple [.q (cdF s).1,.bool (cdF s).2]/\([]:List (Nat×AObj))=[]):=by
  intro hl;have hd:wb2 s 7 12=s.all wb1:=by
   unfold wb2
   rcases hl with h | h<;>simp[h]
  refine waz (λha=>?_) (λha=>?_)
  ·have hb:=wk0 ha s.length (lR7 _);have e:Int.tmod (wa9 s s.length) 10=wa9 s s.length % 10:=Int.tmod_eq_emod_of_nonneg (by omega);rw[e,Int.tmod_eq_emod_of_nonneg (by omega)];refine⟨by omega,by simp only[inR];omega,by omega,?_,rfl⟩;simp[cdF,hd,ha]
  ·refine⟨?_,rfl⟩;simp[cdF,hd,ha]
 refine wb7 (λh1=>wb7 (λh2=>⟨?_,rfl⟩) (λh2=>⟨rfl,by omega,main (by omega)⟩)) (λh1=>⟨rfl,by omega,main (by omega)⟩);have hd:wb2 s 7 12=false:=by unfold wb2;rw[decide_eq_false h1,decide_eq_false h2];rfl
 simp[cdF,hd]
end Go.Eng
namespace Go.Eng
open Go.Proofs Go.RowKit
variable {C:Ctx} [C.Loose]
set_option maxRecDepth 20000
theorem nf_fold(n k:Int)(R:oR7):wpFn te [] [] 0 Tryz.f35 [.q n,.q k] [] R=(letI z0:=(Int.tmod (IntKind.wrap IntKind.u64 n) (IntKind.wrap IntKind.u64 (max k (1:Int))));True/\True/\IntKind.wrap IntKind.u64 (max k (1:Int))≠(0:Int)/\inR .i64 z0/\R (.q z0) []):=by kernel_rfl
theorem nf_next(n:Nat)(v:Nat->Int)(a k:Int)(R:oR7):wpFn te [] [] 0 Tryz.f42 [.ptr 0 0,.q k] [.cells [.view 1 n (wab v),.q a] 27] R=(letI z1:=([(0,.cells [.view 1 n (wab v),.q (a+1)] 27)]:oL7);letI z0:=(IntKind.wrap IntKind.u64 (max k (1:Int)));letI z3:=Int.tmod (IntKind.wrap IntKind.u64 0) z0;letI z2:=Int.tmod (IntKind.wrap IntKind.u64 (v a.toNat)) z0;wad (decide (a<(n:Int))) (((0:Int)<=a/\a<(n:Int)/\1=1)/\inR .i64 (a+1)/\True/\True/\IntKind.wrap IntKind.u64 (max k (1:Int))≠(0:Int)/\inR .i64 z2/\R (.q z2) z1) (inR .i64 (a+1)/\True/\True/\IntKind.wrap IntKind.u64 (max k (1:Int))≠(0:Int)/\inR .i64 z3/\R (.q z3) z1)):=by kernel_rfl
theorem wrm(n:Int):IntKind.wrap .u64 n=n % 18446744073709551616:=by
 show n % (2:Int) ^ 64=_;rfl
theorem wpo{k:Int}(h:1<=k/\k<=1000000)(x:Int):IntKind.wrap .u64 (max k 1)≠0/\Int.tmod (IntKind.wrap .u64 x) (IntKind.wrap .u64 (max k 1))=wd5 x k:=by
 have e:IntKind.wrap .u64 (max k 1)=k:=by
  rw[wrm,Int.max_eq_left h.1];omega
 rw[e,wrm];have hx:0<=x % 18446744073709551616:=by omega
 rw[Int.tmod_eq_emod_of_nonneg hx];exact⟨by omega,rfl⟩
theorem fold_ok(hP:C.P=Tryz.prog):waf C 35 wmw:=by
 have _:C.Loose:=inferInstance;rintro args objs U Os vc h hvc;unfold wmw at h;split at h<;>cases h;rename_i n k;refine waf.wp0 (prg hP) [] 0 .nil (hP ▸ Tryz.func35) rfl rfl rfl ?_;rw[nf_fold];obtain⟨h1,h2⟩:=wpo hvc n;have h3:=wij hvc.1 n;rw[h2];exact⟨trivial,trivial,h1,by simp only[inR];omega,rfl,rfl⟩
theorem wb0(hP:C.P=Tryz.prog):waf C 42 wa7:=by
 have _:C.Loose:=inferInstance;rintro args objs U Os vc h hvc;unfold wa7 at h;split at h<;>cases h;rename_i k sz n f a t;obtain⟨rfl,rfl,hf,hk,ha⟩:=hvc;rw[hf];have hv:vInt (wab (vInt f))=vInt f:=rfl;rw[hv];generalize vInt f=v at *;refine waf.wp0 (prg hP) [] 0 .nil (hP ▸ Tryz.func42) rfl rfl rfl ?_;rw[nf_next];unfold waa;refine wak (λh=>?_) (λh=>?_)
 ·obtain⟨h1,h2⟩:=wpo hk (v a.toNat);have h3:=wij hk.1 (v a.toNat);rw[h2,decide_eq_true h];exact⟨⟨by omega,by omega,rfl⟩,by simp only[inR];omega,trivial,trivial,h1,by simp only[inR];omega,rfl,rfl⟩
 ·obtain⟨h1,h2⟩:=wpo hk 0;have h3:=wij hk.1 0;rw[h2,decide_eq_false h];exact⟨by simp only[inR];omega,trivial,trivial,h1,by simp only[inR];omega,rfl,rfl⟩
theorem wz2(V j:Nat)(P:Nat->Prop)(R:eR7):wa0 ⟨te,[],[],0,39,0⟩ (wa2 Tryz.f43 4) [3,4,5] [4] [] (wmt V) P R (wmt V j)=(letI z0:=(↑(pw V j):Int);wad (decide ((0:Int)<=6 - (j:Int))) ((10:Int)≠(0:Int)/\inR .i64 ((48:Int)+Int.tmod z0 (10:Int))/\inR .u8 ((48:Int)+Int.tmod z0 (10:Int))/\((0:Int)<=6 - (j:Int)/\(6:Int) - (j:Int)<(↑7:Int))/\(List.length [AV.int .u8 ((48:Int)+Int.tmod z0 (10:Int))]=1/\((6:Int) - (j:Int)).toNat<7/\1=1)/\((10:Int)≠(0:Int)/\inR .i64 (Int.tdiv z0 (10:Int)))/\inR .i64 ((6:Int) - (j:Int) - (1:Int))/\∃(i':Nat),(TEq [(3,.q (Int.tdiv z0 (10:Int))),(4,.own 0 7),(5,.q ((6:Int) - (j:Int) - (1:Int)))] [(3,.q (↑(pw V i'):Int)),(4,.own 0 7),(5,.q ((6:Int) - (i':Int)))]/\wae [(0,.row 5 1 7 (λ(k:Nat)=>if k=Int.toNat ((6:Int) - (j:Int)) then [.int .u8 ((48:Int)+Int.tmod z0 (10:Int))] else [.int .u8 (bif decide (7<=k+j) then dgI V k else (0:Int))]) false)] [(0,.row 5 1 7 (λ(k:Nat)=>[.int .u8 (bif decide (7<=k+i') then dgI V k else (0:Int))]) false)])/\P i') ((∀(i:Nat),i<7->true=true)/\∃(O':oL7),wae [(0,.row 5 1 7 (λ(k:Nat)=>[.int .u8 (bif decide (7<=k+j) then dgI V k else (0:Int))]) false)] O'/\R (.exit 0) (St.mk [(4,.own 0 7)] O' 1 []))):=by kernel_rfl
theorem nf_id(n:Int)(V:Nat)(R:oR7):wpFn te [(35,.det wmw),(98,.det wfj)] [(4,L_id V)] 2 Tryz.f43 [.q n] [] R=(letI z5:=(List.flatten (List.replicate (nat_lit 0) [.int .u8 0]):List AV);letI z4:=cdF (wao 7 (wba V));letI z3:=((7<=7/\1=1)/\∀(i:Nat),i<7->isU8 (wba V i)=true:Prop);letI z2:=1000000;letI z1:=TI.mk (TypeDesc.int IntKind.u8) 1 1 (Value.int IntKind.u8 0) false;letI z0:=(waq (TI.sz z1) (.int .u8 ((48:Int)+z4.1)::List.append [] z5));((1:Int)<=z2/\z2<=z2)/\inR .i64 (z2+wd5 n z2)/\((0:Int)<=7/\(7:Int)<=7/\(↑(TI.bytes z1):Int) * (7:Int)<=281474976710656/\(7:Int)<=9223372036854775807)/\(TEq [(3,.q (z2+wd5 n z2)),(4,.own 0 7),(5,.q 6)] [(3,.q (↑(pw V 0):Int)),(4,.own 0 7),(5,.q ((6:Int) - (↑0:Int)))]/\wae [(0,.row 5 1 7 (λ(_x:Nat)=>[.int .u8 0]) false)] [(0,.row 5 1 7 (λ(k:Nat)=>[.int .u8 (bif decide (7<=k+0) then dgI V k else (0:Int))]) false)])/\V<2000000/\z3/\True/\z3/\inR .i64 ((48:Int)+z4.1)/\inR .u8 ((48:Int)+z4.1)/\(1<=16777216/\1=1/\1<=9223372036854775807)/\((1<=1/\1=1)/\∀(i:Nat),i<1->isU8 (waq (TI.sz z1) (.int .u8 ((48:Int)+z4.1)::List.append [] z5) i)=true)/\(wao 7 (wba V)).length+(wao 1 z0).length<=9223372036854775807/\R (.str (wao 7 (wba V)++wao 1 z0)) []):=by kernel_rfl
theorem pw_step(V j:Nat):Int.tdiv (pw V j:Nat) 10=(pw V (j+1):Nat):=by
 rw[Int.tdiv_eq_ediv_of_nonneg (Int.natCast_nonneg _)];unfold pw;rw[Nat.pow_succ, ← Nat.div_div_eq_div_mul];rfl
theorem pw_le(V j:Nat):pw V j<=V:=Nat.div_le_self _ _
theorem id_loop(hP:C.P=Tryz.prog)(V:Nat):waj C 0 39 (wam Tryz.f43 4) (L_id V):=by
 have _:C.Loose:=inferInstance;rintro st Q ⟨h0,hv,hQ⟩;refine waj.mk (prg hP) [] 0 .nil [3,4,5] [4] [] (wmt V) (λj=>j<=7) (λj=>7 - j) 0 (by omega) h0 (λj hj=>?_) (λi=>⟨λ_ _=>rfl,trivial⟩);rw[wz2];have hle:=pw_le V j;have ht:Int.tmod (pw V j:Nat) 10=((pw V j % 10:Nat):Int):=by
  rw[Int.tmod_eq_emod_of_nonneg (Int.natCast_nonneg _)];rfl
 rw[ht,pw_step];have hle':=pw_le V (j+1);have hm:=Nat.mod_lt (pw V j) (show 0<10 by omega);refine wak (λh=>?_) (λh=>⟨λ_ _=>rfl,_,?_,hQ⟩)
 ·refine⟨by omega,by simp only[inR];omega,by simp only[inR];omega,⟨h,by omega⟩,⟨rfl,by omega,rfl⟩,⟨by omega,by simp only[inR];omega⟩,by simp only[inR];omega,j+1,⟨?_,⟨rfl,rfl,rfl,rfl,rfl,λk hk=>?_⟩,trivial⟩,by omega,by omega⟩
  ·rw[show (6:Int) - (j:Int) - 1=6 - ((j+1:Nat):Int) by omega];rfl
  ·dsimp only
   split
   ·rename_i e;have e':6 - k=j:=by omega
    rw[decide_eq_true (show 7<=k+(j+1) by omega)];unfold dgI;rw[e'];rfl
   ·rename_i e
    by_cases h7:7<=k+j
    ·rw[decide_eq_true h7,decide_eq_true (show 7<=k+(j+1) by omega)]
    ·rw[decide_eq_false h7,decide_eq_false (show ¬ 7<=k+(j+1) by omega)]
 ·have:j=7:=by omega
  subst this;refine⟨⟨rfl,rfl,rfl,rfl,rfl,λk hk=>?_⟩,trivial⟩;dsimp only
  rw[decide_eq_true (show 7<=k+7 by omega)];rfl
theorem wka(hP:C.P=Tryz.prog):waf C 43 S_id:=by
 rintro args objs U Os vc h hvc;unfold S_id at h;split at h<;>cases h;rename_i n;refine waf.wpL (prg hP) [(35,.det wmw),(98,.det wfj)] [(4,L_id (idV n))] 2 (.cons (fold_ok hP) (.cons (cdR_ok hP) .nil)) (hP ▸ Tryz.func43) rfl rfl rfl [(wam Tryz.f43 4,L_id (idV n))] (by kernel_rfl) ⟨id_loop hP _,trivial⟩ ?_;rw[nf_id];have hf:=wij (show (1:Int)<=1000000 by omega) n;have hV:((idV n:Nat):Int)=1000000+wd5 n 1000000:=by unfold idV;omega
 have hl:=wie n;have hc:=wv1 (id7 n);refine⟨⟨by omega,by omega⟩,by simp only[inR];omega,⟨by omega,by omega,by decide,by omega⟩,⟨?_,⟨rfl,rfl,rfl,rfl,rfl,λk hk=>?_⟩,trivial⟩,by omega,⟨⟨by omega,rfl⟩,λ_ _=>rfl⟩,trivial,⟨⟨by omega,rfl⟩,λ_ _=>rfl⟩,?_,?_,⟨by omega,rfl,by omega⟩,⟨⟨by omega,rfl⟩,λi hi=>?_⟩,?_,rfl,rfl⟩
 ·rw[← hV];show TEq [(3,.q ((idV n:Nat):Int)),(4,.own 0 7),(5,.q 6)] [(3,.q ((idV n / 1:Nat):Int)),(4,.own 0 7),(5,.q 6)];rw[Nat.div_one];rfl
 ·dsimp only
  rw[decide_eq_false (show ¬ 7<=k+0 by omega)];rfl
 ·show inR .i64 (48+(cdF (id7 n)).1);simp only[inR];omega
 ·show inR .u8 (48+(cdF (id7 n)).1);simp only[inR];omega
 ·obtain rfl:i=0:=by omega
  rfl
 ·show (id7 n).length+_<=_;rw[hl];simp[wao]
end Go.Eng
