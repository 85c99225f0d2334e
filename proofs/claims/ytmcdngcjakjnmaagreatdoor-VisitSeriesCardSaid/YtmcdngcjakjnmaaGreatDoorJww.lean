/- IndexFunc and DeleteFunc at messages, of the marks that stand more than once. -/
import Derived.Test.YtmcdngcjakjnmaaGreatDoorJwv
namespace Go.Eng
open Go.Proofs Go.RowKit Go.Sort
def entF(es:List (AV×AV))(i:Nat):List AV:=[(es.getD i (.any,.any)).1,(es.getD i (.any,.any)).2]
theorem entsV_F(es:List (AV×AV)):wfs es.length (entF es)=es:=by
 apply List.ext_getElem?;intro i;unfold wfs;rw[List.getElem?_map]
 rcases Nat.lt_or_ge i es.length with h | h
 ·rw[List.getElem?_range h,Option.map_some,List.getElem?_eq_getElem h];simp[entF,h]
 ·rw[List.getElem?_eq_none (by simpa using h),List.getElem?_eq_none h];rfl
end Go.Eng
namespace Go.Eng
def frzM(r:Nat)(es:List (AV×AV)):AV->AV
 |.map r'=>match Nat.beq r' r with
  |true=>.vmap es.length (entF es)
  |false=>.map r'
 |u=>u
def frzMA(r:Nat)(es:List (AV×AV)):AV->AV
 |.agg cs=>.agg (cs.map (frzM r es))
 |u=>frzM r es u
section
variable {C:Ctx} {E:Ent} {O O':Nat->Option AObj} {bs:Nat->Option Hd} {w:World} {r:Nat} {es:List (AV×AV)}
theorem V.frzM(hW:WRep C E O bs w)(hr0:O r=some (.amap es))(hes:∀p∈es,nref p.1=true/\nref p.2=true)(hO:∀k o,O' k=some o->k≠r/\O k=some o)(hS:Step w (MB E O bs) bs w (MB E O' bs) bs){v:Value}{u:AV}(h:V w (MB E O bs) bs v u):
  V w (MB E O' bs) bs v (Eng.frzM r es u):=by
 cases u with
 |map r'=>
  show V w (MB E O' bs) bs v (match Nat.beq r' r with | true=>AV.vmap es.length (entF es) | false=>AV.map r')
  split
  ·rename_i hb;have e:=Nat.eq_of_beq_eq_true hb;subst e
   cases h with | map hbr=>
   rename_i b' c';obtain⟨b,c,ents,clock,h1,h2,h3,h4⟩:=hW.obj r' _ hr0;rw[h1] at hbr;injection hbr with hbr;injection hbr with e1 e2;subst e1;have hmb:mutB O bs b:=⟨r',_,c,hr0,rfl,h1⟩;refine .vmap (λhM=>?_) (hW.lt r' b c h1) h2 h3.1 (λi e u he hu=>?_) (λi e u he hu=>?_)
   ·rcases hM with hM | ⟨k,o,c2,g1,g2,g3⟩
    ·exact hW.out b hmb hM
    ·obtain⟨q1,q2⟩:=hO k o g1;exact q1 (hW.sep k r' o _ b c2 c q2 hr0 g2 rfl g3 h1)
   ·have hi:i<es.length:=by rw[← h3.1];exact(Array.getElem?_eq_some_iff.1 he).1
    have hp:es[i]?=some es[i]:=List.getElem?_eq_getElem hi;obtain⟨a1,_⟩:=h3.2 i e _ he hp;have:u=(es[i]).1:=by
     simp[entF,hi] at hu;exact hu.symm
    rw[this];exact a1.free hS.far hS.heap hS.size nob (hes _ (List.getElem_mem hi)).1
   ·have hi:i<es.length:=by rw[← h3.1];exact(Array.getElem?_eq_some_iff.1 he).1
    have hp:es[i]?=some es[i]:=List.getElem?_eq_getElem hi;obtain⟨_,a2⟩:=h3.2 i e _ he hp;have:u=(es[i]).2:=by
     simp[entF,hi] at hu;exact hu.symm
    rw[this];exact a2.free hS.far hS.heap hS.size nob (hes _ (List.getElem_mem hi)).2
  ·exact h.step hS
 |_=>exact h.step hS
theorem V.frzMA(hW:WRep C E O bs w)(hr0:O r=some (.amap es))(hes:∀p∈es,nref p.1=true/\nref p.2=true)(hO:∀k o,O' k=some o->k≠r/\O k=some o)(hS:Step w (MB E O bs) bs w (MB E O' bs) bs){v:Value}{u:AV}(h:V w (MB E O bs) bs v u):
  V w (MB E O' bs) bs v (Eng.frzMA r es u):=by
 cases u with
 |agg cs=>
  cases h with | agg hl h1 hv=>
  refine .agg (by simp[hl]) h1 λj v u hj hu=>?_;rw[List.getElem?_map] at hu;obtain⟨u0,h0,rfl⟩:=Option.map_eq_some_iff.1 hu;exact V.frzM hW hr0 hes hO hS (hv j v u0 hj h0)
 |_=>exact V.frzM hW hr0 hes hO hS h
end
def frzMO(r:Nat)(R:AV->List (Nat×AObj)->Prop)(u:AV)(O:List (Nat×AObj)):Prop:=match lk O r with
 |some (.amap es)=>(∀p∈es,nref p.1=true/\nref p.2=true)/\R (frzMA r es u) (rm r O)
 |_=>R u O
theorem war.frzMO{C:Ctx}{f:FuncId}{args:List AV}{objs:List AObj}{R:AV->List (Nat×AObj)->Prop}(r:Nat)(h:war C f args objs (Eng.frzMO r R)):war C f args objs R:=by
 refine⟨h.1,λE bs w cargs h1 h2 h3 h4 h5 h6 h7=>?_⟩;refine(h.2 E bs w cargs h1 h2 h3 h4 h5 h6 h7).mono ?_;rintro e w' ⟨v,u,O',bs',r1,hR0,r3,r4,r5⟩;unfold Eng.frzMO at hR0;split at hR0
 ·rename_i es hO;obtain⟨hg,hR⟩:=hR0;have hk:∀k o,lk (rm r O') k=some o->k≠r/\lk O' k=some o:=λk o ho=>by
   obtain⟨q1,q2⟩:=wc9 r O' k o ho;exact⟨λe=>q1 e.symm,q2⟩
  obtain⟨hS2,hW2⟩:=r3.less (O':=lk (rm r O')) λk o ho=>(hk k o ho).2;refine⟨v,_,rm r O',bs',r1,hR,hW2,V.frzMA r3 hO hg hk hS2 r4,λk hk=>⟨?_,(r5 k hk).2⟩⟩
  cases hx:lk (rm r O') k with
  |none=>rfl
  |some o=>
   have:=(wc9 r O' k o hx).2;rw[(r5 k hk).1] at this;cases this
 ·exact⟨v,u,O',bs',r1,hR0,r3,r4,r5⟩
def wg6:Spec
 |[.view 15 n f],[]=>some (.agg [.vmap (wai (wad (mgOf f) n)).length (entF (entG keyS vwM (wai (wad (mgOf f) n)))),.view 3 (visL (wad (mgOf f) n)).length (wam (atS (visL (wad (mgOf f) n))))],[],n<=100000/\f=waa (mgOf f)/\∀i,i<n->(mgOf f i).Sm)
 |_,_=>none
structure BkOK (R:List MG):Prop where
 right:RightL R
 len:R.length<=100000
 sm:∀m∈R,m.Sm
def wg4(R:List MG):Spec
 |[.agg [.vmap nb fb,.view 3 _ _],.agg [.str o,.str p,.int .i64 per]],[]=>
   some (.tuple [.agg [.str (resB R ⟨o,p,per⟩).1.o,.str (resB R ⟨o,p,per⟩).1.p,.q (resB R ⟨o,p,per⟩).1.per,.q (resB R ⟨o,p,per⟩).1.day,.q (resB R ⟨o,p,per⟩).1.st,.q (resB R ⟨o,p,per⟩).1.pr,.str (resB R ⟨o,p,per⟩).1.rep],.q (resB R ⟨o,p,per⟩).2],[],
    nb=(wai R).length/\fb=entF (entG keyS vwM (wai R))/\BkOK R/\(⟨o,p,per⟩:SL)∈visL R)
 |_,_=>none
def wli(R:List MG)(o p:List UInt8)(k:Nat):St:=⟨[(1,.str o),(2,.str p),(3,.ptr 0 0),(7,.own 1 (serK R o p (visL R) k).length),(13,.view 3 (visL R).length (wam (atS (visL R)))),(14,.q (visL R).length),(15,.q k)],
 [(0,.cells [.vmap (wai R).length (entF (entG keyS vwM (wai R))),.view 3 (visL R).length (wam (atS (visL R)))] 72),(1,.row 43 7 (serK R o p (visL R) k).length (wau (atX (serK R o p (visL R) k))) false)],2,[]⟩
def wnr(R:List MG)(o p:List UInt8):wan:=λst Q=>canonIs te 0 [1,2,3,7,13,14,15] (ownNil 7 43 7 st) (wli R o p 0)/\BkOK R/\
 Q (.exit 0) ⟨[(7,.own 0 (serL R o p).length)],[(0,.row 43 7 (serL R o p).length (wau (atX (serL R o p))) false)],1,[]⟩
def wlu(R:List MG):Spec
 |[.agg [.vmap nb fb,.view 3 nv fv],.str o,.str p],[]=>some (.view 7 (serL R o p).length (wau (atX (serL R o p))),[],
       nb=(wai R).length/\fb=entF (entG keyS vwM (wai R))/\nv=(visL R).length/\fv=wam (atS (visL R))/\BkOK R)
 |_,_=>none
def wc5:Spec
 |[.view 15 n f,.str o,.str p],[]=>some (.view 7 (serL (wad (mgOf f) n) o p).length (wau (atX (serL (wad (mgOf f) n) o p))),[],n<=100000/\f=waa (mgOf f)/\∀i,i<n->(mgOf f i).Sm)
 |_,_=>none
def uRow(g:Nat->Int)(i:Nat):List AV:=[.int .u32 (g i)]
def uOf(f:Nat->List AV)(i:Nat):Int:=match f i with
 |[.int .u32 n]=>n
 |_=>0
def lowI(g:Nat->Int):Nat->Nat
 |0=>0
 |k+1=>bif decide (g k=0) then lowI g k else k+1
def wmi:Spec
 |[.own 0 n],[.row t 1 m f fr]=>some (.own 0 (lowI (uOf f) n),[(0,.row 124 1 n f false)],t=124/\fr=false/\n=m/\n<=1000/\∀i,i<n->f i=uRow (uOf f) i)
 |_,_=>none
def wg9(g:Nat->Int)(n k:Nat):St:=⟨[(0,.own 0 k)],[(0,.row 124 1 n (uRow g) false)],1,[]⟩
def wn9(g:Nat->Int)(n:Nat):wan:=λst Q=>canonIs te 1 [0] st (wg9 g n n)/\n<=1000/\Q (.exit 0) (wg9 g n (lowI g n))
def lmF(v:Int)(i:Nat):Int:=if i=0 then v % 4294967296 else if i=1 then v / 4294967296 else 0
def lmN(v:Int):Nat:=lowI (lmF v) 2
def we4:Spec
 |[.own 0 n],[.row t 1 m f fr]=>some (.view 1 (lowI (uOf f) n) (uRow (uOf f)),[(0,.row 124 1 n f false)],t=124/\fr=false/\n=m/\n<=1000/\∀i,i<n->f i=uRow (uOf f) i)
 |_,_=>none
def we8:Spec
 |[.int .u64 v],[]=>some (.view 1 (lmN v) (uRow (lmF v)),[],0<=v/\v<18446744073709551616)
 |_,_=>none
def we1:Spec
 |[.int .i64 v],[]=>some (.view 1 (lmN v) (uRow (lmF v)),[],0<=v/\v<9223372036854775808)
 |_,_=>none
def we9:Spec
 |[.int .i64 v],[]=>some (.agg [.bool false,.view 1 (lmN v) (uRow (lmF v)),.nil],[],0<=v/\v<9223372036854775808)
 |_,_=>none
def bsF(g:Nat->SL)(s:SL)(n:Nat):Nat:=fstB (λi=> !decide (ordS (g i) s<0)) n
def S_bs:Spec
 |[.view 3 n f,.agg [.str o,.str p,.int .i64 per],.func 42 []],[]=>some (.tuple [.q (bsF (slOf f) ⟨o,p,per⟩ n),.bool (decide (bsF (slOf f) ⟨o,p,per⟩ n<n) && decide (ordS (slOf f (bsF (slOf f) ⟨o,p,per⟩ n)) ⟨o,p,per⟩=0))],[],
   n<=1000000/\f=wam (slOf f)/\∀i j,i<j->j<n->ordS (slOf f i) (slOf f j)<0)
 |_,_=>none
structure BI where
 a:Nat
 b:Nat
def wnb(g:Nat->SL)(s:SL)(n:Nat)(i:BI):St:=⟨[(0,.view 3 n (wam g)),(2,.func 42 []),(4,.ptr 0 0),(8,.q n),(9,.q i.a),(10,.q i.b)],[(0,.cells [.str s.o,.str s.p,.q s.per] 78)],1,[]⟩
def L_bs(g:Nat->SL)(s:SL)(n:Nat):wan:=λst Q=>canonIs te 0 [0,2,4,8,9,10] st (wnb g s n ⟨0,n⟩)/\n<=1000000/\(∀i j,i<j->j<n->ordS (g i) (g j)<0)/\
 Q (.exit 0) ⟨[(0,.view 3 n (wam g)),(2,.func 42 []),(4,.ptr 0 0),(8,.q n),(9,.q (bsF g s n))],[(0,.cells [.str s.o,.str s.p,.q s.per] 78)],1,[]⟩
def keyE(p:List UInt8×List UInt8):AV:=.agg [.str p.1,.str p.2]
def vI(c:Int):AV:=.q c
def entE(L:List ((List UInt8×List UInt8)×Int)):List (AV×AV):=entG keyE vI L
def way(L:List (SL×Int)):List (AV×AV):=entG keyS vI L
def entW(L:List (SL×Bool)):List (AV×AV):=entG keyS .bool L
def S_u1(R:List MG)(k:Nat):St:=⟨[(3,.ptr 0 0),(4,.map 1),(5,.map 2),(6,.map 3),(7,.own 4 (ob1 R (visL R) k).r.length),(35,.view 3 (visL R).length (wam (atS (visL R)))),(36,.q (visL R).length),(37,.q k)],
 [(0,.cells [.vmap (wai R).length (entF (entG keyS vwM (wai R))),.view 3 (visL R).length (wam (atS (visL R)))] 72),(1,.amap (entE (ob1 R (visL R) k).e)),(2,.amap (way (ob1 R (visL R) k).p)),(3,.amap []),(4,.row 43 7 (ob1 R (visL R) k).r.length (wau (atX (ob1 R (visL R) k).r)) false)],5,[]⟩
def L_u1(R:List MG):wan:=λst Q=>canonIs te 0 [3,4,5,6,7,35,36,37] (ownNil 7 43 7 st) (S_u1 R 0)/\BkOK R/\
 Q (.exit 0) ⟨[(3,.ptr 0 0),(4,.map 1),(5,.map 2),(6,.map 3),(7,.own 4 (repL R).length)],
  [(0,.cells [.vmap (wai R).length (entF (entG keyS vwM (wai R))),.view 3 (visL R).length (wam (atS (visL R)))] 72),(1,.amap (entE (obE R))),(2,.amap (way (obW R 0).p)),(3,.amap []),(4,.row 43 7 (repL R).length (wau (atX (repL R))) false)],5,[]⟩
def S_u2(R:List MG)(k:Nat):St:=⟨[(3,.ptr 0 0),(4,.map 1),(5,.map 2),(6,.map 3),(91,.own 4 (repL R).length),(92,.q (repL R).length),(93,.q k)],
 [(0,.cells [.vmap (wai R).length (entF (entG keyS vwM (wai R))),.view 3 (visL R).length (wam (atS (visL R)))] 72),(1,.amap (entE (obE R))),(2,.amap (way (obW R k).p)),(3,.amap (entW (obW R k).w)),(4,.row 43 7 (repL R).length (wau (atX (repL R))) false)],5,[]⟩
def L_u2(R:List MG):wan:=λst Q=>canonIs te 0 [3,4,5,6,91,92,93] st (S_u2 R 0)/\BkOK R/\
 Q (.exit 3) ⟨[(5,.map 0),(6,.map 1)],[(0,.amap (way (obN R).p)),(1,.amap (entW (obN R).w))],2,[]⟩
def S_u3(P:List (SL×Int))(W:List (SL×Bool))(i:OI):St:=⟨[(5,.map 0),(6,.map 1),(24,.own 2 i.c),(152,.ptr 3 0)],
 [(0,.amap (way P)),(1,.amap (entW W)),(2,.row 78 3 i.c (wam i.h) false),(3,.miter 0 P.length (75::i.c0::i.left))],4,[]⟩
def L_u3(P:List (SL×Int))(W:List (SL×Bool)):wan:=λst Q=>canonIs te 0 [5,6,24,152] (ownNil 24 78 3 st) (S_u3 P W ⟨0,λ_=>default,P.length,List.range P.length⟩)/\(P.map Prod.fst).Nodup/\(W.map Prod.fst).Nodup/\P.length<=200000/\
 ∀(E:List (SL×Int)) (h:Nat->SL) (c:Nat),E.Perm P->lst h c=(E.map Prod.fst).filter (λt=> !wrgB W t)->Q (.exit 5) ⟨[(5,.map 0),(24,.own 1 c)],[(0,.amap (way P)),(1,.row 78 3 c (wam h) false)],2,[]⟩
def wd8(L:List SL)(pr:SL->Int)(i:Nat):List AV:=[.str (atS L i).o,.str (atS L i).p,.q (atS L i).per,.bool false,.view 1 (lmN (pr (atS L i))) (uRow (lmF (pr (atS L i)))),.nil]
def S_u4(P:List (SL×Int))(L:List SL)(pr:SL->Int)(k:Nat):St:=⟨[(5,.map 0),(26,.own 1 k),(167,.own 2 L.length),(168,.q L.length),(169,.q k)],
 [(0,.amap (way P)),(1,.row 41 6 k (wd8 L pr) false),(2,.row 78 3 L.length (wam (atS L)) false)],3,[]⟩
def L_u4(P:List (SL×Int))(L:List SL)(pr:SL->Int):wan:=λst Q=>canonIs te 0 [5,26,167,168,169] (ownNil 26 41 6 st) (S_u4 P L pr 0)/\(P.map Prod.fst).Nodup/\L.length<=200000/\(∀s∈L,getA P s=some (pr s)/\0<=pr s/\pr s<9223372036854775808)/\
 Q (.exit 7) ⟨[(26,.own 0 L.length)],[(0,.row 41 6 L.length (wd8 L pr) false)],1,[]⟩
def S_obs:Spec
 |[.view 15 n f],[]=>some (.view 6 (obL (wad (mgOf f) n)).length (wd8 (obL (wad (mgOf f) n)) (obP (wad (mgOf f) n))),[],n<=100000/\f=waa (mgOf f)/\∀i,i<n->(mgOf f i).Sm)
 |_,_=>none
def wly(g:Nat->Int)(n k:Nat):St:=⟨[(0,.own 0 n),(3,.q k)],[(0,.row 124 1 n (uRow g) false)],1,[]⟩
def wlz:Spec
 |[.own 0 n],[.row t 1 m f fr]=>some (.q (lowI (uOf f) n),[(0,.row 124 1 n f false)],t=124/\fr=false/\n=m/\n<=1000/\∀i,i<n->f i=uRow (uOf f) i)
 |_,_=>none
def wn2(g:Nat->Int)(n:Nat):wan:=λst Q=>canonIs te 1 [0,3] st (wly g n n)/\n<=1000/\Q (.exit 0) ⟨[(3,.q (lowI g n))],[(0,.row 124 1 n (uRow g) false)],1,[]⟩
def wi9(n:Nat)(u:Nat->Int)(m:Nat)(w:Nat->Int):Bool:=decide (n=m) && decide (fstB (λi=> !decide (u i=w i)) n=n)
def wlw:Spec
 |[.view 1 n f,.view 1 m g],[]=>some (.bool (wi9 n (uOf f) m (uOf g)),[],n<=1000/\m<=1000/\f=uRow (uOf f)/\g=uRow (uOf g))
 |[.nil,.nil],[]=>some (.bool true,[],True)
 |_,_=>none
def wlr(n:Nat)(u w:Nat->Int)(k:Nat):St:=⟨[(0,.view 1 n (uRow u)),(1,.view 1 n (uRow w)),(12,.q n),(13,.q k)],[],0,[]⟩
def wlq(k:Nat):St:=⟨[(0,.nil),(1,.nil),(12,.q 0),(13,.q k)],[],0,[]⟩
def wnw:wan:=λst Q=>canonIs te 0 [0,1,12,13] st (wlq 0)/\Q (.exit 0) ⟨[],[],0,[]⟩
def wnx(n:Nat)(u w:Nat->Int):wan:=λst Q=>canonIs te 0 [0,1,12,13] st (wlr n u w 0)/\n<=1000/\
 wab (decide (fstB (λi=> !decide (u i=w i)) n=n)) (Q (.exit 0) ⟨[],[],0,[]⟩) (Q .ret ⟨[(4,.bool false)],[],0,[]⟩)
def wlv:Spec
 |[.agg [.bool a,.view 1 n f,.nil],.agg [.bool b,.view 1 m g,.nil]],[]=>some (.bool (decide (a=b) && wi9 n (uOf f) m (uOf g)),[],n<=1000/\m<=1000/\f=uRow (uOf f)/\g=uRow (uOf g))
 |_,_=>none
def wnc:Spec
 |[.agg [.str o,.str p,.int .i64 per,.int .i64 _,.int .i64 _,.int .i64 _,.str _],.agg [.str o',.str p',.int .i64 per',.int .i64 _,.int .i64 _,.int .i64 _,.str _]],[]=>some (.bool (decide (ordS ⟨o,p,per⟩ ⟨o',p',per'⟩<0)),[],True)
 |_,_=>none
def visE(a b:VT):Bool:=decide (a.o=b.o) && (decide (a.p=b.p) && (decide (a.per=b.per) && (decide (a.day=b.day) && (decide (a.st=b.st) && (decide (a.pr=b.pr) && decide (a.rep=b.rep))))))
def wg0:Spec
 |[.view 7 n f,.view 7 m g],[]=>some (.bool true,[],n=m/\f=g/\n<=1000000/\f=wau (vtOf f))
 |_,_=>none
def wlo(g:Nat->VT)(n k:Nat):St:=⟨[(0,.view 7 n (wau g)),(1,.view 7 n (wau g)),(12,.q n),(13,.q k)],[],0,[]⟩
def wnv(g:Nat->VT)(n:Nat):wan:=λst Q=>canonIs te 0 [0,1,12,13] st (wlo g n 0)/\n<=1000000/\Q (.exit 0) ⟨[],[],0,[]⟩
def nilS(d sz:Nat)(g:Nat->List AV)(s:St):St:=match lk s.T d with
 |some .nil=>⟨(d,.view sz 0 g)::rm d s.T,s.O,s.nx,[]⟩
 |_=>s
theorem RepS.nilS{C:Ctx}{E:Ent}{N:Nat}{s:St}{bs:Nat->Option Hd}{a:Act}{w:World}(d sz:Nat)(g:Nat->List AV)(h:RepS C E N s bs a w):RepS C E N (nilS d sz g s) bs a w:=by
 unfold Eng.nilS;split
 ·rename_i hd;obtain⟨T,O,nx,dec⟩:=s;obtain⟨⟨hF,hW⟩,hnx,hm⟩:=h;refine⟨⟨⟨hF.1,hF.2.1,λi u hu=>?_⟩,hW⟩,hnx,hm⟩;have hu':lk ((d,AV.view sz 0 g)::rm d T) i=some u:=hu;rw[wfj,wax] at hu';split at hu'
  ·rename_i e;have e':d=i:=e;subst e';simp only[sI7] at hu';subst hu';obtain⟨v,hv,hV⟩:=hF.2.2 d _ hd;exact⟨v,hv,V.nilv (sz:=sz) (f:=g) hV⟩
  ·exact hF.2.2 i u hu'
 ·exact h
theorem AWP.nilS{C:Ctx}{m N:Nat}{c:Code}{Q:Exit->St->Prop}{s:St}(d sz:Nat)(g:Nat->List AV)(h:AWP C m N c Q (Eng.nilS d sz g s)):AWP C m N c Q s:=by
 intro E hE bs a w hr;exact h E hE bs a w (hr.nilS d sz g)
def wa4(V:List SL)(i:Nat):List AV:=[.str (atS V i).o,.str (atS V i).p,.q (atS V i).per,.q 0,.q 0,.q 0,.str []]
def slL(f:Nat->List AV)(n:Nat):List SL:=lst (λi=>vsl (vtOf f i)) n
def wl3:Spec
 |[.view 7 n f,.str o,.str p,.int .i64 per],[]=>some (.view 7 (insS (slL f n) ⟨o,p,per⟩).length (wa4 (insS (slL f n) ⟨o,p,per⟩)),[],n<=200000/\f=wa4 (slL f n)/\n=(slL f n).length/\Asc ordS (slL f n))
 |_,_=>none
def posS(V:List SL)(s:SL):Nat->Nat
 |0=>0
 |i+1=>bif decide (ordS s (atS V i)<0) then posS V s i else i+1
def wg5(V:List SL)(s:SL)(i:Nat):St:=⟨[(0,.view 7 V.length (wa4 V)),(9,.ptr 0 0),(10,.q i)],[(0,.cells [.str s.o,.str s.p,.q s.per,.q 0,.q 0,.q 0,.str []] 43)],1,[]⟩
def L_pt(V:List SL)(s:SL):wan:=λst Q=>canonIs te 0 [0,9,10] st (wg5 V s V.length)/\V.length<=200000/\Q (.exit 0) (wg5 V s (posS V s V.length))
def slK(R:List MG)(k:Nat):List SL:=(((lst (atM R) k).filter isV).map λm=>vsl m.v).foldl insS []
def wls:Spec
 |[.view 15 n f],[]=>some (.view 7 (visL (wad (mgOf f) n)).length (wa4 (visL (wad (mgOf f) n))),[],n<=100000/\f=waa (mgOf f)/\∀i,i<n->(mgOf f i).Sm)
 |_,_=>none
def wlt(R:List MG)(k:Nat):St:=⟨[(3,.view 7 (slK R k).length (wa4 (slK R k))),(7,.view 15 R.length (waa (atM R))),(8,.q R.length),(9,.q k)],[],0,[]⟩
def wny(R:List MG):wan:=λst Q=>canonIs te 0 [3,7,8,9] (nilS 3 7 (wa4 []) st) (wlt R 0)/\R.length<=100000/\Q (.exit 0) ⟨[(3,.view 7 (visL R).length (wa4 (visL R)))],[],0,[]⟩
def wf2(g:Nat->MG)(n:Nat)(o p:List UInt8)(k:Nat):St:=⟨[(0,.view 15 n (waa g)),(1,.str o),(2,.str p),(7,.own 0 (serK (wad g n) o p (visL (wad g n)) k).length),(13,.view 7 (visL (wad g n)).length (wa4 (visL (wad g n)))),(14,.q (visL (wad g n)).length),(15,.q k)],
 [(0,.row 43 7 (serK (wad g n) o p (visL (wad g n)) k).length (wau (atX (serK (wad g n) o p (visL (wad g n)) k))) false)],1,[]⟩
def wn0(g:Nat->MG)(n:Nat)(o p:List UInt8):wan:=λst Q=>canonIs te 0 [0,1,2,7,13,14,15] (ownNil 7 43 7 st) (wf2 g n o p 0)/\n<=100000/\(∀i,i<n->(g i).Sm)/\
 Q (.exit 0) ⟨[(7,.own 0 (serL (wad g n) o p).length)],[(0,.row 43 7 (serL (wad g n) o p).length (wau (atX (serL (wad g n) o p))) false)],1,[]⟩
def cutV(g:Nat->MG)(i:Nat):MG:=⟨(g i).dev.take 30,(g i).seq,(g i).kind,⟨(g i).v.o.take 30,(g i).v.p.take 30,(g i).v.per,(g i).v.day,(g i).v.st,(g i).v.pr,(g i).v.rep.take 30⟩,(g i).d⟩
def wlx(g:Nat->MG)(n k:Nat):St:=⟨[(3,.own 0 k),(10,.view 15 n (waa g)),(11,.q n),(12,.q k)],[(0,.row 47 15 k (waa (cutV g)) false)],1,[]⟩
def wnz(g:Nat->MG)(n:Nat):wan:=λst Q=>canonIs te 0 [3,10,11,12] (ownNil 3 47 15 st) (wlx g n 0)/\n<=12/\Q (.exit 0) ⟨[(3,.own 0 n)],[(0,.row 47 15 n (waa (cutV g)) false)],1,[]⟩
def wl0:Spec
 |[.view 15 n f],[]=>some (.view 15 (min n 12) (waa (cutV (mgOf f))),[],f=waa (mgOf f))
 |_,_=>none
structure StM (m:MG):Prop where
 dev:m.dev.length<=1
 kind:m.kind=1
 o:m.v.o=[111,49]
 p:∃i:Nat,i<3/\m.v.p=idF i
 per:∃j:Nat,j<4/\m.v.per=1440+j
 rep:m.v.st=5->∃i:Nat,i<4/\m.v.rep=idF i
 d:m.d=⟨[],[],0,[],0⟩
structure ZI where
 c:Nat
 g:Nat->MG
 a:Int
 q:Int
 j:Nat
def wlg(n:Nat)(v:Nat->Int)(k:Nat)(i:ZI):St:=⟨[(0,.ptr 0 0),(3,.own 1 i.c),(4,.q i.q),(5,.q k),(9,.q k),(12,.q i.j)],
 [(0,.cells [.view 1 n (waj v),.q i.a] 26),(1,.row 47 15 i.c (waa i.g) false)],2,[]⟩
def wnq(n:Nat)(v:Nat->Int)(k:Nat)(z:ZI):wan:=λst Q=>canonIs te 1 [0,3,4,5,9,12] (ownNil 3 47 15 st) (wlg n v k ⟨z.c,z.g,z.a,z.q,0⟩)/\k<3/\z.c<=30/\(0<=z.q/\z.q<=30)/\(0<=z.a/\z.a<=4611686018427370000)/\(∀j,j<z.c->StM (z.g j))/\
 ∀i:ZI,i.c<=z.c+8->(z.q<=i.q/\i.q<=z.q+4)->(z.a<=i.a/\i.a<=z.a+40)->(∀j,j<i.c->StM (i.g j))->Q (.exit 2) ⟨[(0,.ptr 0 0),(3,.own 1 i.c),(4,.q i.q),(9,.q k)],[(0,.cells [.view 1 n (waj v),.q i.a] 26),(1,.row 47 15 i.c (waa i.g) false)],2,[]⟩
def wlf(n:Nat)(v:Nat->Int)(i:ZI):St:=⟨[(0,.ptr 0 0),(3,.own 1 i.c),(4,.q i.q),(9,.q i.j)],
 [(0,.cells [.view 1 n (waj v),.q i.a] 26),(1,.row 47 15 i.c (waa i.g) false)],2,[]⟩
def wnp(n:Nat)(v:Nat->Int)(a:Int):wan:=λst Q=>canonIs te 1 [0,3,4,9] (ownNil 3 47 15 st) (wlf n v ⟨0,λ_=>default,a,0,0⟩)/\(0<=a/\a<=4611686018427360000)/\
 ∀i:ZI,i.c<=24->(a<=i.a/\i.a<=a+120)->(∀j,j<i.c->StM (i.g j))->Q (.exit 0) ⟨[(3,.own 1 i.c)],[(0,.cells [.view 1 n (waj v),.q i.a] 26),(1,.row 47 15 i.c (waa i.g) false)],2,[]⟩
def wv4:wdd
 |[.ptr 0 0],[.cells [.view sz n f,.int .i64 a] t],R=>t=26/\sz=1/\f=waj (vInt f)/\(0<=a/\a<=4611686018427360000)/\
   ∀(c:Nat) (g:Nat->MG) (a':Int),c<=24->(a<=a'/\a'<=a+120)->(∀j,j<c->StM (g j))->
   R (.own 1 c) [(0,.cells [.view 1 n f,.q a'] 26),(1,.row 47 15 c (waa g) false)]
 |_,_,_=>False
def wni:wdd
 |[.ptr 0 0],[.cells [.view sz n f,.int .i64 a] t],R=>t=26/\sz=1/\f=waj (vInt f)/\(0<=a/\a<=4611686018427360000)/\
   ∀(c:Nat) (g:Nat->MG) (a':Int),c<=24->(a<=a'/\a'<=a+120)->(∀j,j<c->StM (g j))->
   R (.view 15 c (waa g)) [(0,.cells [.view 1 n f,.q a'] 26)]
 |_,_,_=>False
def wnd:Spec
 |[],[]=>some (.bool true,[],True)
 |_,_=>none
def wl7:Spec
 |[.own 0 n],[.row _ 15 m f _]=>some (.view 6 (obL (wad (mgOf f) n)).length (wd8 (obL (wad (mgOf f) n)) (obP (wad (mgOf f) n))),[],n=m/\n<=100000/\RM f n)
 |_,_=>none
def wmh(g:Nat->MG)(n:Nat)(h:Nat->MG)(m:Nat)(o p:List UInt8)(k:Nat):St:=⟨[(0,.view 15 n (waa g)),(1,.str o),(2,.str p),(9,.view 15 m (waa h)),(27,.q k)],[],0,[]⟩
def wn8:wan:=λst Q=>∃(g:Nat->MG) (n:Nat) (h:Nat->MG) (m:Nat) (o p:List UInt8),canonIs te 0 [0,1,2,9,27] st (wmh g n h m o p 0)/\m<=1000/\(∀j,j<m->(h j).Sm)/\Q (.exit 0) ⟨[(0,.view 15 n (waa g)),(1,.str o),(2,.str p)],[],0,[]⟩
end Go.Eng
namespace Go.Eng
open Go.Proofs Go.RowKit
variable {C:Ctx} [C.Loose]
set_option maxRecDepth 20000
theorem nf_mark(m:MG)(R:oR7):wpFn te [] [] 0 Tryz.f64 [.agg [.str m.dev,.q m.seq,.q m.kind,.str m.v.o,.str m.v.p,.q m.v.per,.q m.v.day,.q m.v.st,.q m.v.pr,.str m.v.rep,.str m.d.o,.str m.d.p,.q m.d.per,.str m.d.dev,.q m.d.num]] [] R=((True/\True)/\R (.agg [.str m.dev,.q m.seq]) []):=by kernel_rfl
theorem w05(g:Nat->MG)(n:Nat)(R:oR7):wpFn te [] [(3,L_ct g n)] 0 Tryz.f90 [.own 0 n] [.row 47 15 n (waa g) false] R=(letI z0:=ren 1 [(1,1)];(TEq [(3,.map 1),(7,.own 0 n),(8,.q (n:Int)),(9,.q 0)] [(3,.map 1),(7,.own 0 n),(8,.q (n:Int)),(9,.q (↑0:Int))]/\wac [(0,.row 47 15 n (waa g) false),(1,.amap (List.map (λ(p:AV×AV)=>(AV.rn z0 p.1,AV.rn z0 p.2)) []))] [(0,.row 47 15 n (waa g) false),(1,.amap (entM (cntL g 0)))])/\n<=1000000/\(∀(i:Nat),i<n->true=true)/\∃(O':oL7),wac [(0,.row 47 15 n (waa g) false),(1,.amap (List.map (λ(p:AV×AV)=>(AV.rn z0 p.1,AV.rn z0 p.2)) (entM (cntL g n))))] O'/\R (.map 1) O'):=by kernel_rfl
theorem w03(g:Nat->MG)(n k:Nat)(P:Nat->Prop)(R:eR7):was ⟨te,[],[(1005,L_c5 (cntL g k) (g k) g n k)],1,22,0⟩ (wat Tryz.f90 3) [3,7,8,9] [3] [] (S_ct g n) P R (S_ct g n k)=(letI z2:=ren 1 [(1,1)];letI z1:=([(3,.map 1),(5,.ptr 2 0),(7,.own 0 n),(8,.q (n:Int)),(9,.q (k:Int))]:tL7);letI z0:=(g (k:Int).toNat);wab (decide ((k:Int)<(n:Int))) (((0:Int)<=(k:Int)/\(k:Int)<(n:Int))/\((k:Int).toNat<n/\15=15)/\(TEq z1 z1/\wac [(0,.row 47 15 n (waa g) false),(1,.amap (List.map (λ(p:AV×AV)=>(AV.rn (ren 1 [(1,1),(2,2)]) p.1,AV.rn (ren 1 [(1,1),(2,2)]) p.2)) (entM (cntL g k)))),(2,.cells [.str z0.dev,.q z0.seq,.q z0.kind,.str z0.v.o,.str z0.v.p,.q z0.v.per,.q z0.v.day,.q z0.v.st,.q z0.v.pr,.str z0.v.rep,.str z0.d.o,.str z0.d.p,.q z0.d.per,.str z0.d.dev,.q z0.d.num] 47)] [(0,.row 47 15 n (waa g) false),(1,.amap (entM (cntL g k))),(2,.cells [.str (g k).dev,.q (g k).seq,.q (g k).kind,.str (g k).v.o,.str (g k).v.p,.q (g k).v.per,.q (g k).v.day,.q (g k).v.st,.q (g k).v.pr,.str (g k).v.rep,.str (g k).d.o,.str (g k).d.p,.q (g k).d.per,.str (g k).d.dev,.q (g k).d.num] 47)])/\List.Nodup (List.map Prod.fst (cntL g k))/\inR .i64 (getC (cntL g k) (mk2 (g k))+1)/\inR .i64 ((k:Int)+1)/\∃(i':Nat),(TEq [(3,.map 1),(7,.own 0 n),(8,.q (n:Int)),(9,.q ((k:Int)+1))] [(3,.map 1),(7,.own 0 n),(8,.q (n:Int)),(9,.q (i':Int))]/\wac [(0,.row 47 15 n (waa g) false),(1,.amap (List.map (λ(p:AV×AV)=>(AV.rn z2 p.1,AV.rn z2 p.2)) (entM (addC (cntL g k) (mk2 (g k))))))] [(0,.row 47 15 n (waa g) false),(1,.amap (entM (cntL g i')))])/\P i') ((∀(i:Nat),i<n->true=true)/\∃(O':oL7),wac [(0,.row 47 15 n (waa g) false),(1,.amap (List.map (λ(p:AV×AV)=>(AV.rn z2 p.1,AV.rn z2 p.2)) (entM (cntL g k))))] O'/\R (.exit 0) (St.mk [(3,.map 1)] O' 2 []))):=by kernel_rfl
theorem nf_c5(L:List ((List UInt8×Int)×Int))(x:MG)(g:Nat->MG)(n k:Nat)(Q:eR7):regE ⟨te,[(64,.det wdz)],[],1,22,0⟩ (regC Tryz.f90 5) [3,5,7,8,9] Q (S_c5 L x g n k)=(letI z19:=ren 1 [(1,1),(2,2)];letI z18:=zvA (.q 0);letI z13:=(∀(i:Nat),i<n->true=true:Prop);letI z10:=([.str x.dev,.q x.seq,.q x.kind,.str x.v.o,.str x.v.p,.q x.v.per,.q x.v.day,.q x.v.st,.q x.v.pr,.str x.v.rep,.str x.d.o,.str x.d.p,.q x.d.per,.str x.d.dev,.q x.d.num]:List AV);letI z8:=([(3,.map 1),(5,.ptr 2 0),(7,.own 0 n),(8,.q (n:Int)),(9,.q (k:Int))]:tL7);letI z3:=([.str x.dev,.q x.seq]:List AV);letI z16:=mget (entM L) (.agg z3);letI z15:=(↑(midx (entM L) (.agg z3)):Int);letI z12:=(wa3 (Option.getD z16 z18)+1);letI z9:=wa7 te 103 (entM L)/\.q (wa3 (Option.getD z16 (.q 0)))=Option.getD z16 (.q 0);letI z7:=ment (.q 0) (entM L) (.agg z3);letI z20:=List.getD z7 z15.toNat (.any,.any);letI z11:=Option.getD (mget z7 (.agg z3)) z18;letI z17:=(wa3 z11+1);letI z14:=wa7 te 103 z7/\.q (wa3 z11)=Option.getD (mget z7 (.agg z3)) z18;letI z6:=((0:Int)<=z15/\z15<(z7.length:Int):Prop);letI z4:=([(0,.row 47 15 n (waa g) false),(1,.amap (List.map (λ(p:AV×AV)=>(AV.rn z19 p.1,AV.rn z19 p.2)) (List.set z7 z15.toNat (z20.1,.q z12)))),(2,.cells z10 47)]:oL7);letI z2:=([(0,.row 47 15 n (waa g) false),(1,.amap (List.map (λ(p:AV×AV)=>(AV.rn z19 p.1,AV.rn z19 p.2)) (List.set z7 z15.toNat (z20.1,.q z17)))),(2,.cells z10 47)]:oL7);letI z5:=(z14/\(inR .i64 z17/\z6/\z13/\∃(O':oL7),wac z2 O'/\Q .normal (St.mk z8 O' 3 []))/\inR .i64 z17/\z6/\z13/\∃(O':oL7),wac z2 O'/\Q .normal (St.mk z8 O' 3 []):Prop);letI z1:=((wa7 te 103 (entM L)/\.q (wa3 (Option.getD z16 z18))=Option.getD z16 z18)/\(inR .i64 z12/\z9/\z6/\z13/\∃(O':oL7),wac z4 O'/\Q .normal (St.mk z8 O' 3 []))/\z9/\(inR .i64 z12/\z6/\z13/\∃(O':oL7),wac z4 O'/\Q .normal (St.mk z8 O' 3 []))/\inR .i64 z12/\z6/\z13/\∃(O':oL7),wac z4 O'/\Q .normal (St.mk z8 O' 3 []):Prop);letI z0:=(True/\z1/\z9/\z5/\z14/\inR .i64 z17/\z6/\z13/\∃(O':oL7),wac z2 O'/\Q .normal (St.mk z8 O' 3 []));z0/\z0/\True/\z1/\z9/\z5/\z14/\inR .i64 z17/\z6/\z13/\∃(O':oL7),wac z2 O'/\Q .normal (St.mk z8 O' 3 [])):=by kernel_rfl
theorem wjx(hP:C.P=Tryz.prog):wae C 64 wdz:=by
 have _:C.Loose:=inferInstance;rintro args objs U Os vc h hvc;unfold wdz at h;split at h<;>simp only[sI7,pI7,reduceCtorEq] at h;rename_i dev seq kind o p per day st pr rep o' p' per' dev' num;obtain⟨rfl,rfl,rfl⟩:=h;refine wae.wp0 (prg hP) [] 0 .nil (hP ▸ Tryz.func64) rfl rfl rfl ?_;have hn:=nf_mark ⟨dev,seq,kind,⟨o,p,per,day,st,pr,rep⟩,⟨o',p',per',dev',num⟩⟩;dsimp only at hn;rw[hn];exact⟨⟨trivial,trivial⟩,rfl,rfl⟩
def keyK(p:List UInt8×Int):AV:=.agg [.str p.1,.q p.2]
theorem wfn(a b:List UInt8×Int):keq (keyK a) (keyK b)=(decide (a.1=b.1) && decide (a.2=b.2)):=by simp[keyK,keq,keqL,keq0]
theorem wr3(p:List UInt8×Int):(decide (p.1=p.1) && decide (p.2=p.2))=true:=by simp
theorem wcs(σ:Nat->Option Nat)(L:List ((List UInt8×Int)×Int)):(entM L).map (λp=>(AV.rn σ p.1,AV.rn σ p.2))=entM L:=by
 unfold entM;rw[List.map_map];rfl
theorem wku{L:List ((List UInt8×Int)×Int)}(h:(L.map Prod.fst).Nodup):wa7 te 103 (entM L):=by
 refine⟨List.all_eq_true.2 λp hp=>?_,?_⟩
 ·obtain⟨r,_,rfl⟩:=List.mem_map.1 hp;have:∀(a:List UInt8) (b:Int),keyA te 103 (.agg [.str a,.q b])=true:=λa b=>by kernel_rfl
  exact this _ _
 ·have:(entM L).map Prod.fst=(L.map Prod.fst).map keyK:=by simp[entM,keyK]
  rw[this];refine List.pairwise_map.2 (h.imp λ{a b} hab he=>hab ?_);have q:=wfn a b;rw[he,wfn,wr3] at q;exact weh.1 q.symm
theorem wh4(p:List UInt8×Int):∀L:List ((List UInt8×Int)×Int),Option.getD (mget (entM L) (keyK p)) (.q 0)= .q (getC L p)
 |[]=>rfl
 |x::l=>by
  rw[getC];show Option.getD (match keq (keyK x.1) (keyK p) with | true=>some (.q x.2) | false=>mget (entM l) (keyK p)) _=_
  rw[wfn]
  cases decide (x.1.1=p.1) && decide (x.1.2=p.2) with
  |true=>rfl
  |false=>exact wh4 p l
theorem ment_K(p:List UInt8×Int):∀L:List ((List UInt8×Int)×Int),
  Option.getD (mget (ment (.q 0) (entM L) (keyK p)) (keyK p)) (.q 0)= .q (getC L p)/\midx (entM L) (keyK p)<(ment (.q 0) (entM L) (keyK p)).length/\
  (ment (.q 0) (entM L) (keyK p)).set (midx (entM L) (keyK p)) (((ment (.q 0) (entM L) (keyK p)).getD (midx (entM L) (keyK p)) (.any,.any)).1,.q (getC L p+1))=entM (addC L p)
 |[]=>by
  refine⟨?_,Nat.zero_lt_one,rfl⟩;show Option.getD (match keq (keyK p) (keyK p) with | true=>some (AV.q 0) | false=>none) _=_
  rw[wfn,wr3];rfl
 |x::l=>by
  obtain⟨i1,i2,i3⟩:=ment_K p l;have e1:ment (.q 0) (entM (x::l)) (keyK p)=match keq (keyK x.1) (keyK p) with | true=>(keyK x.1,AV.q x.2)::entM l | false=>(keyK x.1,AV.q x.2)::ment (.q 0) (entM l) (keyK p):=rfl
  have e2:midx (entM (x::l)) (keyK p)=match keq (keyK x.1) (keyK p) with | true=>0 | false=>midx (entM l) (keyK p)+1:=rfl
  rw[e1,e2,getC,addC,wfn]
  cases h:decide (x.1.1=p.1) && decide (x.1.2=p.2) with
  |true=>
   have e:=weh.1 h;refine⟨?_,Nat.succ_pos _,?_⟩
   ·show Option.getD (match keq (keyK x.1) (keyK p) with | true=>some (AV.q x.2) | false=>mget (entM l) (keyK p)) _=_
    rw[wfn,h];rfl
   ·show (keyK x.1,AV.q (x.2+1))::entM l=(keyK p,AV.q (x.2+1))::entM l;rw[e]
  |false=>
   refine⟨?_,Nat.succ_lt_succ i2,?_⟩
   ·show Option.getD (match keq (keyK x.1) (keyK p) with | true=>some (AV.q x.2) | false=>mget (ment (.q 0) (entM l) (keyK p)) (keyK p)) _=_
    rw[wfn,h];exact i1
   ·show (keyK x.1,AV.q x.2)::(ment (.q 0) (entM l) (keyK p)).set (midx (entM l) (keyK p)) (((ment (.q 0) (entM l) (keyK p)).getD (midx (entM l) (keyK p)) (.any,.any)).1,.q (getC l p+1))=(keyK x.1,AV.q x.2)::entM (addC l p);rw[i3]
theorem w2p{ES:List (AV×AV)}{i:Nat}{v:AV}(hi:i<ES.length)(h:wa7 te 103 (ES.set i ((ES.getD i (.any,.any)).1,v))):wa7 te 103 ES:=by
 have e:(ES.set i ((ES.getD i (.any,.any)).1,v)).map Prod.fst=ES.map Prod.fst:=by
  apply List.ext_getElem
  ·simp
  ·intro j h1 h2;simp only[List.getElem_map,List.getElem_set];split
   ·rename_i e;subst e;simp[hi]
   ·rfl
 obtain⟨h1,h2⟩:=h;rw[e] at h2;refine⟨?_,h2⟩;have f:∀l:List (AV×AV),(l.all λp=>keyA te 103 p.1)=(l.map Prod.fst).all λk=>keyA te 103 k:=λl=>by rw[List.all_map];rfl
 rw[f] at h1 ⊢;rw[e] at h1;exact h1
theorem c5_ok(hP:C.P=Tryz.prog)(L:List ((List UInt8×Int)×Int))(x:MG)(g:Nat->MG)(n k:Nat):waf C 1 22 (regC Tryz.f90 5) (L_c5 L x g n k):=by
 rintro st Q ⟨h0,hnd,hin,hQ⟩;refine waf.regE (prg hP) [(64,.det wdz)] 0 (.cons (wjx hP) .nil) [3,5,7,8,9] [3,5,7,8,9] h0 ?_ ⟨λ_ _=>rfl,trivial⟩;have zz:zvA (.q 0)= .q 0:=rfl;rw[nf_c5,zz];have F1:Option.getD (mget (entM L) (.agg [.str x.dev,.q x.seq])) (.q 0)= .q (getC L (mk2 x)):=wh4 (mk2 x) L;obtain⟨F3,F4,F5⟩:=ment_K (mk2 x) L;have K1:=wku hnd;have K2:wa7 te 103 (ment (.q 0) (entM L) (keyK (mk2 x))):=w2p F4 (F5.symm ▸ wku (wq7 (mk2 x) hnd));change Option.getD (mget (ment (.q 0) (entM L) (.agg [.str x.dev,.q x.seq])) (.agg [.str x.dev,.q x.seq])) (.q 0)= .q (getC L (mk2 x)) at F3;change midx (entM L) (.agg [.str x.dev,.q x.seq])<(ment (.q 0) (entM L) (.agg [.str x.dev,.q x.seq])).length at F4;change (ment (.q 0) (entM L) (.agg [.str x.dev,.q x.seq])).set (midx (entM L) (.agg [.str x.dev,.q x.seq])) (((ment (.q 0) (entM L) (.agg [.str x.dev,.q x.seq])).getD (midx (entM L) (.agg [.str x.dev,.q x.seq])) (.any,.any)).1,.q (getC L (mk2 x)+1))=entM (addC L (mk2 x)) at F5;change wa7 te 103 (ment (.q 0) (entM L) (.agg [.str x.dev,.q x.seq])) at K2;have F6:(0:Int)<=(midx (entM L) (.agg [.str x.dev,.q x.seq]):Int)/\(midx (entM L) (.agg [.str x.dev,.q x.seq]):Int)<((ment (.q 0) (entM L) (.agg [.str x.dev,.q x.seq])).length:Int):=by omega
 simp only[F1,F3,wa3,tN7,F5,wcs];have leaf:∃O',wac (S_c5 (addC L (mk2 x)) x g n k).O O'/\Q .normal ⟨(S_c5 (addC L (mk2 x)) x g n k).T,O',3,[]⟩:=⟨_,wav _,hQ⟩;have all:∀i,i<n->True:=λ_ _=>trivial;have K1:=(and_true (wa7 te 103 (entM L))).symm ▸ K1
 repeat' first | exact leaf | exact trivial | exact K1 | exact K2 | exact⟨K2,trivial⟩ | exact hin | exact F6 | exact all | refine And.intro ?_ ?_
theorem ct_loop(hP:C.P=Tryz.prog)(g:Nat->MG)(n:Nat):waf C 1 22 (wah Tryz.f90 3) (L_ct g n):=by
 rintro st Q ⟨h0,hn,hQ⟩;refine waf.mkI (prg hP) [] (λk=>[(1005,L_c5 (cntL g k) (g k) g n k)]) 0 .nil (λk=>[(regC Tryz.f90 5,L_c5 (cntL g k) (g k) g n k)]) (λk=>by kernel_rfl) (λk=>⟨c5_ok hP _ _ g n k,trivial⟩) [3,7,8,9] [3] [] (S_ct g n) (λk=>k<=n) (λk=>n - k) 0 (zL7 _) h0 (λk hk=>?_) (λk=>⟨λ_ _=>rfl,trivial⟩);rw[w03,tN7,wcs];have hb:=wkg g (mk2 (g k)) k;have hc:=wpf g (mk2 (g k)) k;refine wag (λh1=>⟨⟨by omega,by omega⟩,⟨by omega,rfl⟩,⟨rfl,rQ7,rfl,rfl,trivial⟩,wkz g k,by simp only[inR];omega,by simp only[inR];omega,k+1,⟨rfl,rQ7,?_,trivial⟩,by omega,by omega⟩) (λh1=>?_)
 ·rw[wcs];rfl
 ·have:k=n:=by omega
  subst this;rw[wcs];exact⟨λ_ _=>rfl,_,wav _,hQ⟩
theorem wvc(hP:C.P=Tryz.prog):wae C 90 whd:=by
 rintro args objs U Os vc h hvc;unfold whd at h;split at h<;>cases h;rename_i n t m f fr;obtain⟨rfl,rfl,rfl,hn,hf⟩:=hvc;generalize mgOf f=g at *;subst hf;refine wae.wpL (prg hP) [] [(3,L_ct g n)] 0 .nil (hP ▸ Tryz.func90) rfl rfl rfl [(wah Tryz.f90 3,L_ct g n)] (by kernel_rfl) ⟨ct_loop hP g n,trivial⟩ ?_;rw[w05,wcs];exact⟨⟨rfl,rQ7,rfl,trivial⟩,hn,λ_ _=>rfl,_,wav _,rfl,rfl⟩
theorem wzq(m:MG)(es:List (AV×AV))(R:oR7):wpFn te [(64,.det wdz)] [] 0 Tryz.f92 [.agg [.str m.dev,.q m.seq,.q m.kind,.str m.v.o,.str m.v.p,.q m.v.per,.q m.v.day,.q m.v.st,.q m.v.pr,.str m.v.rep,.str m.d.o,.str m.d.p,.q m.d.per,.str m.d.dev,.q m.d.num],.ptr 0 0] [.cells [.map 1] 126,.amap es] R=(letI z1:=(ren (List.length [AObj.cells [.map 1] (126:TypeId),.amap es]) []);letI z0:=mget es (.agg [.str m.dev,.q m.seq]);True/\(wa7 te 103 es/\.q (wa3 (Option.getD z0 (zvA (.q 0))))=Option.getD z0 (zvA (.q 0)))/\R (.bool (decide ((1:Int)<wa3 (Option.getD z0 (zvA (.q 0)))))) [(0,.cells [.map 1] 126),(1,.amap (List.map (λ(p:AV×AV)=>(AV.rn z1 p.1,AV.rn z1 p.2)) es))]):=by kernel_rfl
theorem nf_ixr(es:List (AV×AV))(g:Nat->MG)(n:Nat)(R:oR7):wpFn te [(92,.det we2)] [(2,woc es g n)] 0 Tryz.f62 [.own 0 n,.func 92 [.ptr 1 0]] [.row 47 15 n (waa g) false,.cells [.map 2] 126,.amap es] R=(letI z1:=(ren (List.length [AObj.row (47:TypeId) 15 n (waa g) false,.cells [.map 2] (126:TypeId),.amap es]) []);letI z0:=([(0,.row 47 15 n (waa g) false),(1,.cells [.map 2] 126),(List.length [AObj.cells [.map 2] (126:TypeId),.amap es],.amap (List.map (λ(p:AV×AV)=>(AV.rn z1 p.1,AV.rn z1 p.2)) es))]:oL7);(TEq [(0,.own 0 n),(1,.func 92 [.ptr 1 0]),(7,.q (n:Int)),(8,.q 0)] [(0,.own 0 n),(1,.func 92 [.ptr 1 0]),(7,.q (n:Int)),(8,.q (↑0:Int))]/\wac [(0,.row 47 15 n (waa g) false),(1,.cells [.map 2] 126),(2,.amap (List.map (λ(p:AV×AV)=>(AV.rn (ren 3 []) p.1,AV.rn (ren 3 []) p.2)) es))] [(0,.row 47 15 n (waa g) false),(1,.cells [.map 2] 126),(2,.amap es)])/\n<=1000000/\EsOK es/\wab (decide (fstB (λ(i:Nat)=>delF es (g i)) n<n)) ((∀(i:Nat),i<n->true=true)/\∃(O':oL7),wac z0 O'/\R (.q (↑(fstB (λ(i:Nat)=>delF es (g i)) n):Int)) O') ((∀(i:Nat),i<n->true=true)/\∃(O':oL7),wac z0 O'/\R (.q (-1:Int)) O')):=by kernel_rfl
theorem w0n(es:List (AV×AV))(g:Nat->MG)(n k:Nat)(P:Nat->Prop)(R:eR7):was ⟨te,[(92,.det we2)],[],3,19,0⟩ (wat Tryz.f62 2) [0,1,7,8] [] [4] (wmm es g n) P R (wmm es g n k)=(letI z2:=(List.map (λ(p:AV×AV)=>(AV.rn (idxN [1,2]) p.1,AV.rn (idxN [1,2]) p.2)) es);letI z1:=(g (k:Int).toNat);letI z0:=([(0,.row 47 15 n (waa g) false),(1,.cells [.map 2] 126),(2,.amap (List.map (λ(p:AV×AV)=>(AV.rn (ren 3 []) p.1,AV.rn (ren 3 []) p.2)) (List.map (λ(p:AV×AV)=>(AV.rn (sig [1,2] 3) p.1,AV.rn (sig [1,2] 3) p.2)) z2)))]:oL7);wab (decide ((k:Int)<(n:Int))) (((0:Int)<=(k:Int)/\(k:Int)<(n:Int))/\((k:Int).toNat<n/\15=15)/\(126=126/\EsOK z2)/\wab (delF z2 (MG.mk z1.dev z1.seq z1.kind (VT.mk z1.v.o z1.v.p z1.v.per z1.v.day z1.v.st z1.v.pr z1.v.rep) (DT.mk z1.d.o z1.d.p z1.d.per z1.d.dev z1.d.num))) ((∀(i:Nat),i<n->true=true)/\∃(O':oL7),wac z0 O'/\R .ret (St.mk [(4,.q (k:Int))] O' 3 [])) (inR .i64 ((k:Int)+1)/\∃(i':Nat),(TEq [(0,.own 0 n),(1,.func 92 [.ptr 1 0]),(7,.q (n:Int)),(8,.q ((k:Int)+1))] [(0,.own 0 n),(1,.func 92 [.ptr 1 0]),(7,.q (n:Int)),(8,.q (i':Int))]/\wac z0 [(0,.row 47 15 n (waa g) false),(1,.cells [.map 2] 126),(2,.amap es)])/\P i')) ((∀(i:Nat),i<n->true=true)/\∃(O':oL7),wac [(0,.row 47 15 n (waa g) false),(1,.cells [.map 2] 126),(2,.amap (List.map (λ(p:AV×AV)=>(AV.rn (ren 3 []) p.1,AV.rn (ren 3 []) p.2)) es))] O'/\R (.exit 0) (St.mk [] O' 3 []))):=by kernel_rfl
theorem nf_df(es:List (AV×AV))(g:Nat->MG)(n:Nat)(R:oR7):wpFn te [(62,.det wmp)] [(5,L_df es g n (fstB (λi=>delF es (g i)) n))] 0 Tryz.f91 [.own 0 n,.func 92 [.ptr 1 0]] [.row 47 15 n (waa g) false,.cells [.map 2] 126,.amap es] R=(letI z7:=(fstB (λ(i:Nat)=>delF es (g i)) n);letI z4:=(∀(i:Nat),i<n->true=true:Prop);letI z2:=(CI.mk (fstB (λ(i:Nat)=>delF es (g i)) n+1) z7 g);letI z1:=(ren (List.length [AObj.row (47:TypeId) 15 n (waa g) false,.cells [.map 2] (126:TypeId),.amap es]) []);letI z0:=(List.map (λ(p:AV×AV)=>(AV.rn (idxN [0,1,2]) p.1,AV.rn (idxN [0,1,2]) p.2)) es);letI z5:=(ixB (λ(i:Nat)=>delF z0 (mgOf (waa g) i)) n+1);letI z3:=(List.map (λ(p:AV×AV)=>(AV.rn (sig [0,1,2] 3) p.1,AV.rn (sig [0,1,2] 3) p.2)) z0);z4/\(47=47/\126=126/\false=false/\n=n/\n<=1000000/\waa g=waa (mgOf (waa g))/\EsOK z0)/\z4/\wab (decide (ixB (λ(i:Nat)=>delF z0 (mgOf (waa g) i)) n=(-1:Int))) (z4/\∃(O':oL7),wac [(0,.row 47 15 n (waa g) false),(1,.cells [.map 2] 126),(List.length [AObj.cells [.map 2] (126:TypeId),.amap es],.amap (List.map (λ(p:AV×AV)=>(AV.rn z1 p.1,AV.rn z1 p.2)) z3))] O'/\R (.own 0 n) O') (inR .i64 z5/\(TEq [(0,.own 0 n),(1,.func 92 [.ptr 1 0]),(5,.q (ixB (λ(i:Nat)=>delF z0 (mgOf (waa g) i)) n)),(6,.q z5)] [(0,.own 0 n),(1,.func 92 [.ptr 1 0]),(5,.q (↑(CI.w z2):Int)),(6,.q (↑(CI.k z2):Int))]/\wac [(0,.row 47 15 n (waa g) false),(1,.cells [.map 2] 126),(2,.amap (List.map (λ(p:AV×AV)=>(AV.rn (ren 3 []) p.1,AV.rn (ren 3 []) p.2)) z3))] [(0,.row 47 15 n (waa (CI.h z2)) false),(1,.cells [.map 2] 126),(2,.amap es)])/\(fstB (λ(i:Nat)=>delF es (g i)) n<n/\n<=1000000)/\EsOK es/\(∀(j:Nat),j<fstB (λ(i:Nat)=>delF es (g i)) n->delF es (g j)=false)/\delF es (g z7)=true/\∀(w:Nat) (h:Nat->MG),letI z6:=((0:Int)<=(w:Int)/\(w:Int)<=(n:Int):Prop);w<=n->lst h w=kpL es g n->z6/\(w:Int).toNat<=n/\z6/\(∀(i:Nat),i<(w:Int).toNat->true=true)/\∃(O':oL7),wac [(0,.row 47 15 (w:Int).toNat (waa h) false),(1,.cells [.map 2] 126),(List.length [AObj.cells [.map 2] (126:TypeId),.amap es],.amap (List.map (λ(p:AV×AV)=>(AV.rn z1 p.1,AV.rn z1 p.2)) es))] O'/\R (.own 0 (w:Int).toNat) O')):=by kernel_rfl
theorem w02(es:List (AV×AV))(n:Nat)(i:CI)(P:CI->Prop)(R:eR7):was ⟨te,[(92,.det we2)],[],3,42,0⟩ (wat Tryz.f91 5) [0,1,5,6] [0,5] [] (S_df es n) P R (S_df es n i)=(letI z4:=(↑(CI.w i):Int);letI z3:=(↑(CI.k i):Int);letI z5:=(z3+1);letI z1:=(List.map (λ(p:AV×AV)=>(AV.rn (idxN [1,2]) p.1,AV.rn (idxN [1,2]) p.2)) es);letI z2:=(List.map (λ(p:AV×AV)=>(AV.rn (ren 3 []) p.1,AV.rn (ren 3 []) p.2)) (List.map (λ(p:AV×AV)=>(AV.rn (sig [1,2] 5) p.1,AV.rn (sig [1,2] 5) p.2)) z1));letI z0:=(CI.h i z3.toNat);wab (decide (z3<(n:Int))) (((0:Int)<=z3/\z3<(n:Int))/\(z3.toNat<n/\15=15)/\(126=126/\EsOK z1)/\wab (!delF z1 (MG.mk z0.dev z0.seq z0.kind (VT.mk z0.v.o z0.v.p z0.v.per z0.v.day z0.v.st z0.v.pr z0.v.rep) (DT.mk z0.d.o z0.d.p z0.d.per z0.d.dev z0.d.num))) (((0:Int)<=z4/\z4<(n:Int))/\(List.length [AV.str z0.dev,.q z0.seq,.q z0.kind,.str z0.v.o,.str z0.v.p,.q z0.v.per,.q z0.v.day,.q z0.v.st,.q z0.v.pr,.str z0.v.rep,.str z0.d.o,.str z0.d.p,.q z0.d.per,.str z0.d.dev,.q z0.d.num]=15/\z4.toNat<n/\15=15)/\inR .i64 (z4+1)/\inR .i64 z5/\∃(i':CI),(TEq [(0,.own 0 n),(1,.func 92 [.ptr 1 0]),(5,.q (z4+1)),(6,.q z5)] [(0,.own 0 n),(1,.func 92 [.ptr 1 0]),(5,.q (↑(CI.w i'):Int)),(6,.q (↑(CI.k i'):Int))]/\wac [(0,.row 47 15 n (λ(k:Nat)=>if k=Int.toNat z4 then [.str z0.dev,.q z0.seq,.q z0.kind,.str z0.v.o,.str z0.v.p,.q z0.v.per,.q z0.v.day,.q z0.v.st,.q z0.v.pr,.str z0.v.rep,.str z0.d.o,.str z0.d.p,.q z0.d.per,.str z0.d.dev,.q z0.d.num] else waa (CI.h i) k) false),(1,.cells [.map 2] 126),(2,.amap z2)] [(0,.row 47 15 n (waa (CI.h i')) false),(1,.cells [.map 2] 126),(2,.amap es)])/\P i') (inR .i64 z5/\∃(i':CI),(TEq [(0,.own 0 n),(1,.func 92 [.ptr 1 0]),(5,.q z4),(6,.q z5)] [(0,.own 0 n),(1,.func 92 [.ptr 1 0]),(5,.q (↑(CI.w i'):Int)),(6,.q (↑(CI.k i'):Int))]/\wac [(0,.row 47 15 n (waa (CI.h i)) false),(1,.cells [.map 2] 126),(2,.amap z2)] [(0,.row 47 15 n (waa (CI.h i')) false),(1,.cells [.map 2] 126),(2,.amap es)])/\P i')) ((∀(i:Nat),i<n->true=true)/\∃(O':oL7),wac [(0,.row 47 15 n (waa (CI.h i)) false),(1,.cells [.map 2] 126),(2,.amap (List.map (λ(p:AV×AV)=>(AV.rn (ren 3 []) p.1,AV.rn (ren 3 []) p.2)) es))] O'/\R (.exit 0) (St.mk [(0,.own 0 n),(5,.q z4)] O' 3 []))):=by kernel_rfl
theorem wo3(hP:C.P=Tryz.prog):wae C 92 we2:=by
 rintro args objs U Os vc h hvc;unfold we2 at h;split at h<;>simp only[sI7,pI7,reduceCtorEq] at h;rename_i dev seq kind o p per day st pr rep o' p' per' dev' num t es;obtain⟨rfl,rfl,rfl⟩:=h;obtain⟨rfl,L,rfl,hnd⟩:=hvc;refine wae.wp0 (prg hP) [(64,.det wdz)] 0 (.cons (wjx hP) .nil) (hP ▸ Tryz.func92) rfl rfl rfl ?_;have hn:=wzq ⟨dev,seq,kind,⟨o,p,per,day,st,pr,rep⟩,⟨o',p',per',dev',num⟩⟩ (entM L);dsimp only at hn;have zz:zvA (.q 0)= .q 0:=rfl;rw[hn,wcs,zz];have F1:Option.getD (mget (entM L) (.agg [.str dev,.q seq])) (.q 0)= .q (getC L (dev,seq)):=wh4 (dev,seq) L;refine⟨trivial,⟨wku hnd,?_⟩,rfl,rfl⟩;rw[F1];rfl
theorem w2u(hP:C.P=Tryz.prog)(es:List (AV×AV))(g:Nat->MG)(n:Nat):waf C 3 19 (wah Tryz.f62 2) (woc es g n):=by
 rintro st Q ⟨h0,hn,⟨L,rfl,hnd⟩,hQ⟩;have hR:=wb0 hQ;refine waf.mk (prg hP) [(92,.det we2)] 0 (.cons (wo3 hP) .nil) [0,1,7,8] [] [4] (wmm (entM L) g n) (λk=>k<=n/\fstB (λi=>delF (entM L) (g i)) k=k) (λk=>n - k) 0 ⟨zL7 _,rfl⟩ h0 (λk hk=>?_) (λi=>⟨λ_ _=>rfl,trivial⟩);obtain⟨hkn,hok⟩:=hk;rw[w0n,tN7]
 repeat rw[wcs]
 refine wag (λh1=>?_) (λh1=>?_)
 ·refine⟨⟨by omega,by omega⟩,⟨by omega,rfl⟩,⟨rfl,L,rfl,hnd⟩,wal (λh2=>?_) (λh2=>⟨by simp only[inR];omega,k+1,⟨rfl,rQ7,rfl,rfl,trivial⟩,⟨by omega,wfr hok h2⟩,by omega⟩)⟩;have e:=wgk hok h2 n (by omega);have:=hR.1 (by rw[e,decide_eq_true];omega);rw[e] at this;exact⟨λ_ _=>rfl,_,wav _,this⟩
 ·have:k=n:=by omega
  subst this;exact⟨λ_ _=>rfl,_,wav _,hR.2 (by rw[hok,decide_eq_false];omega)⟩
theorem ixR_ok(hP:C.P=Tryz.prog):wae C 62 wmp:=by
 rintro args objs U Os vc h hvc;unfold wmp at h;split at h<;>cases h;rename_i n t m f fr t2 es;obtain⟨rfl,rfl,rfl,rfl,hn,hf,L,rfl,hnd⟩:=hvc;generalize mgOf f=g at *;subst hf;refine wae.wpL (prg hP) [(92,.det we2)] [(2,woc (entM L) g n)] 0 (.cons (wo3 hP) .nil) (hP ▸ Tryz.func62) rfl rfl rfl [(wah Tryz.f62 2,woc (entM L) g n)] (by kernel_rfl) ⟨w2u hP _ g n,trivial⟩ ?_;rw[nf_ixr]
 repeat rw[wcs]
 unfold ixB;refine⟨⟨rfl,rQ7,rfl,rfl,trivial⟩,hn,⟨L,rfl,hnd⟩,wag (λh=>?_) (λh=>?_)⟩
 ·rw[decide_eq_true h];exact⟨λ_ _=>rfl,_,wav _,rfl,rfl⟩
 ·rw[decide_eq_false h];exact⟨λ_ _=>rfl,_,wav _,rfl,rfl⟩
theorem wj4(es:List (AV×AV))(g:Nat->MG)(k:Nat):kpL es g (k+1)=kpL es g k++bif delF es (g k) then [] else [g k]:=by
 unfold kpL;rw[wdh,List.filter_append]
 cases h:delF es (g k)<;>simp[h]
theorem wpx{es:List (AV×AV)}{g:Nat->MG}:∀ {k:Nat},(∀j,j<k->delF es (g j)=false)->kpL es g k=lst g k
 |0,_=>rfl
 |k+1,h=>by
  rw[wj4,wpx λj hj=>h j (by omega),h k (by omega),wdh];rfl
theorem df_loop(hP:C.P=Tryz.prog)(es:List (AV×AV))(g:Nat->MG)(n i0:Nat):waf C 3 42 (wah Tryz.f91 5) (L_df es g n i0):=by
 rintro st Q ⟨h0,⟨hi0,hn⟩,⟨L,rfl,hnd⟩,hall,hdel,hQ⟩
 refine waf.mk (prg hP) [(92,.det we2)] 0 (.cons (wo3 hP) .nil) [0,1,5,6] [0,5] [] (S_df (entM L) n) (λi=>i.k<=n/\i.w<i.k/\lst i.h i.w=kpL (entM L) g i.k/\∀j,i.w<=j->i.h j=g j) (λi=>n - i.k) ⟨i0+1,i0,g⟩
  ⟨hi0,Nat.lt_succ_self _,?_,λ_ _=>rfl⟩ h0 (λi hi=>?_) (λi=>⟨λ_ _=>rfl,trivial⟩)
 ·show lst g i0=kpL (entM L) g (i0+1);rw[wj4,hdel,wpx hall];simp
 obtain⟨k,w,h⟩:=i;obtain⟨i1,i2,i3,i4⟩:=hi;dsimp only at i1 i2 i3 i4;rw[w02];dsimp only
 rw[tN7,tN7]
 repeat rw[wcs]
 refine wag (λh1=>?_) (λh1=>?_)
 ·have hk:k<n:=by omega
  have r1:h k=g k:=i4 _ (by omega);refine⟨⟨by omega,by omega⟩,⟨by omega,rfl⟩,⟨rfl,L,rfl,hnd⟩,wck (λq=>?_) (λq=>?_)⟩
  ·have q:delF (entM L) (h k)=false:=q;rw[r1] at q;refine⟨⟨by omega,by omega⟩,⟨rfl,by omega,rfl⟩,by simp only[inR];omega,by simp only[inR];omega,⟨k+1,w+1,λj=>if j=w then h k else h j⟩,⟨rfl,⟨rfl,rfl,rfl,rfl,rfl,λj hj=>?_⟩,rfl,rfl,trivial⟩,⟨hk,?_,?_,λj hj=>?_⟩,?_⟩
   ·unfold waa
    by_cases e:j=w
    ·simp only[e,if_true]
    ·simp only[e,if_false]
   ·show w+1<k+1;omega
   ·show lst (λj=>if j=w then h k else h j) (w+1)=kpL (entM L) g (k+1)
    have e:lst (λj=>if j=w then h k else h j) w=lst h w:=List.map_congr_left λj hj=>by
     have:=List.mem_range.1 hj;rw[if_neg (by omega)]
    rw[wdh,wj4,q,e,i3,if_pos rfl,r1];rfl
   ·have hj:w+1<=j:=hj;show (if j=w then h k else h j)=g j
    rw[if_neg (by omega)];exact i4 j (by omega)
   ·show n - (k+1)<n - k;omega
  ·have q:delF (entM L) (h k)=true:=q;rw[r1] at q;refine⟨by simp only[inR];omega,⟨k+1,w,h⟩,⟨rfl,rQ7,rfl,rfl,trivial⟩,⟨hk,?_,?_,i4⟩,?_⟩
   ·show w<k+1;omega
   ·show lst h w=kpL (entM L) g (k+1);rw[wj4,q,i3];simp
   ·show n - (k+1)<n - k;omega
 ·have:k=n:=by omega
  subst this;exact⟨λ_ _=>rfl,_,wav _,hQ w h (by omega) i3⟩
theorem delF_ok(hP:C.P=Tryz.prog):wa8 C 91 wnm:=by
 rintro args objs R h;unfold wnm at h;split at h
 ·rename_i n t m f fr t2 es;obtain⟨rfl,rfl,rfl,rfl,hn,hf,⟨L,rfl,hnd⟩,hR⟩:=h;generalize mgOf f=g at *;subst hf;refine wa8.wpL (prg hP) [(62,.det wmp)] [(5,L_df (entM L) g n (fstB (λi=>delF (entM L) (g i)) n))] 0 (.cons (ixR_ok hP) .nil) (hP ▸ Tryz.func91) rfl rfl rfl [(wah Tryz.f91 5,L_df (entM L) g n (fstB (λi=>delF (entM L) (g i)) n))] (by kernel_rfl) ⟨df_loop hP _ g n _,trivial⟩ ?_;rw[nf_df]
  repeat rw[wcs]
  have hg:mgOf (waa g)=g:=rfl;rw[hg];obtain⟨f1,f2⟩:=wkj (λi=>delF (entM L) (g i)) n;have fle:=wgj (λi=>delF (entM L) (g i)) n
  by_cases hlt:fstB (λi=>delF (entM L) (g i)) n<n
  ·have hix:ixB (λi=>delF (entM L) (g i)) n=(fstB (λi=>delF (entM L) (g i)) n:Int):=by unfold ixB;rw[decide_eq_true hlt];rfl
   rw[hix];have f2:=f2 hlt;generalize fstB (λi=>delF (entM L) (g i)) n=i0 at *;refine⟨λ_ _=>rfl,⟨rfl,rfl,rfl,rfl,hn,rfl,L,rfl,hnd⟩,λ_ _=>rfl,wag (λq=>absurd q (by omega)) (λ_=>⟨by simp only[inR];omega,⟨rfl,rQ7,rfl,rfl,trivial⟩,⟨hlt,hn⟩,⟨L,rfl,hnd⟩,f1,f2,λw h hw hl=>?_⟩)⟩;rw[tN7];exact⟨⟨by omega,by omega⟩,hw,⟨by omega,by omega⟩,λ_ _=>rfl,_,wav _,hR w h hl⟩
  ·have hix:ixB (λi=>delF (entM L) (g i)) n= -1:=by unfold ixB;rw[decide_eq_false hlt];rfl
   rw[hix];have e0:fstB (λi=>delF (entM L) (g i)) n=n:=by omega
   rw[e0] at f1;exact⟨λ_ _=>rfl,⟨rfl,rfl,rfl,rfl,hn,rfl,L,rfl,hnd⟩,λ_ _=>rfl,wag (λ_=>⟨λ_ _=>rfl,_,wav _,hR n g (wpx f1).symm⟩) (λq=>absurd rfl q)⟩
 ·exact h.elim
end Go.Eng
