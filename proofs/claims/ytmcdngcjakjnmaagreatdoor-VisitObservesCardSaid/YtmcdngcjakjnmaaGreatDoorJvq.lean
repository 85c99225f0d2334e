/- Rows of lists: elements put in, and put behind. -/
import Derived.Test.YtmcdngcjakjnmaaGreatDoorJvp
import Derived.Shelf.SlGeneric
import Derived.Ground.Names8Prog
import Derived.Shelf.Spec.SlicesGrow
namespace Go.Eng
open Go.Proofs Go.RowKit
variable {H:Type} {enc:TypeId×Value->H} {W:World}
def ELm(W:World):List Value->List AV->Prop
 |[],[]=>True
 |v::cs,u::us=>(v.oneCell'=true/\V W (λ_=>False) nob v u)/\ELm W cs us
 |_,_=>False
theorem ELm.len:∀ {cs:List Value} {us:List AV},ELm W cs us->cs.length=us.length
 |[],[],_=>rfl
 |_::_,_::_,h=>by rw[List.length_cons,List.length_cons,h.2.len]
theorem ELm.get:∀ {cs:List Value} {us:List AV},ELm W cs us->∀ {j:Nat} {v:Value},cs[j]?=some v->v.oneCell'=true/\∀u,us[j]?=some u->V W (λ_=>False) nob v u
 |[],[],_,_,_,h=>by simp at h
 |v::cs,u::us,⟨h,_⟩,0,w,hw=>by
  obtain rfl:v=w:=by simpa using hw
  exact⟨h.1,λu' hu=>by
   have hu:some u=some u':=hu;obtain rfl:=oJ7 hu;exact h.2⟩
 |v::cs,u::us,⟨_,h⟩,j+1,w,hw=>by
  have:=h.get (j:=j) (v:=w) (by simpa using hw);exact⟨this.1,λu' hu=>this.2 u' (by simpa using hu)⟩
theorem wzj{α:Type}(d:α)(row:α->List AV)(Rg:α->Prop){sz ts t:Nat}(hu:Tryz.prog.underlying ts=some (.slice t))(hc:Tryz.prog.cellsOf t=sz)(hz:0<sz)(hrow:∀a,(row a).length=sz)
  (elem:∀ {sp:Nat->Bool} {hd:Bool} {n:Nat} {cs:List Value} {x:DataW H×List MemPlace},DataW.trod enc Tryz.prog W 0 sp hd n t cs=some x->∃m,Rg m/\ELm W cs (row m))
  {fuel:Nat} {cs:List Value} {x:DataW H×List MemPlace} {sp:Nat->Bool} {hd:Bool} (h:DataW.trod enc Tryz.prog W 0 sp hd fuel ts cs=some x):
  ∃(A:Option Addr) (n c:Nat) (g:Nat->α),cs=[.slice A n c]/\V W (λ_=>False) nob (.slice A n c) (.view sz n λi=>row (g i))/\∀i,i<n->Rg (g i):=by
 rcases DataW.trod_slice hu h with⟨rfl,_⟩ | ⟨a,len,cap,elems,rest,n,_,rfl,_,hb,hl,hm,hlen,hel,_⟩
 ·exact⟨none,0,0,λ_=>d,rfl,wl8 _ (lR7 _) (zL7 _) (λi hi=>by omega) (.inl rfl),λi hi=>absurd hi (nZ7 i)⟩
 ·have hat:∀i,∃m,i<len->Rg m/\∃cs',ELm W cs' (row m)/\∀j,j<sz->W.cell? (a.add (i * sz+j))=cs'[j]?:=by
   intro i
   by_cases hi:i<len
   ·have h1:=hel i hi;rw[hc,List.getElem?_eq_getElem (by omega),Option.bind_eq_some_iff] at h1;obtain⟨cs',hcs,hy⟩:=h1;obtain⟨m,hR,hE⟩:=elem hy;obtain⟨_,_,h2⟩:=World.cells?_some hcs;exact⟨m,λ_=>⟨hR,cs',hE,λj hj=>by have q:=h2 j hj;rwa [wxd] at q⟩⟩
   ·exact⟨d,λh=>absurd h hi⟩
  let g:Nat->α:=λi=>Classical.choose (hat i)
  have hg:∀i,i<len->Rg (g i)/\∃cs',ELm W cs' (row (g i))/\∀j,j<sz->W.cell? (a.add (i * sz+j))=cs'[j]?:=λi=>Classical.choose_spec (hat i);refine⟨some a,len,cap,g,rfl,wl8 _ hl hm (λi _=>hrow (g i)) ?_,λi hi=>(hg i hi).1⟩
  by_cases h0:len=0
  ·exact .inl h0
  ·refine .inr ⟨a,rfl,?_,λi hi j hj=>?_⟩
   ·have h1:=hel 0 (by omega);rw[List.getElem?_eq_getElem (show 0<elems.length by omega),Option.bind_eq_some_iff] at h1;obtain⟨cs',hcs,_⟩:=h1;rw[hc] at hcs;have q:=World.cells?_block hcs (by omega);rw[wxe] at q;exact q
   ·obtain⟨_,cs',hE,hcell⟩:=hg i hi;have hlen':cs'.length=sz:=by rw[hE.len,hrow]
    have e:cs'[j]?=some (cs'[j]'(by omega)):=List.getElem?_eq_getElem (by omega);have q:=hE.get e;exact⟨_,(hcell j hj).trans e,q.1,λu hu=>q.2 u hu⟩
def MdOK(m:MG):Prop:=m.d.o.length<9223372036854775808/\m.d.dev.length<9223372036854775808
theorem mdb{s:ByteArray}(h:s.size<=maxLen):s.data.toList.length<9223372036854775808:=by
 have e:maxLen=9223372036854775807:=by decide
 have:s.data.toList.length=s.size:=rfl;omega
theorem el_md{sp:Nat->Bool}{hd:Bool}{n:Nat}{cs:List Value}{x:DataW H×List MemPlace}(h:DataW.trod enc Tryz.prog W 0 sp hd n 47 cs=some x):∃m:MG,MdOK m/\ELm W cs (mgC m):=by
 obtain⟨xs,n,rfl,_,hc,hl,hf⟩:=DataW.trod_struct undM h;rw[cM] at hc;obtain⟨a0,a1,a2,a3,a4,a5,a6,a7,a8,a9,a10,a11,a12,a13,a14,rfl⟩:=list15 hc;obtain⟨y0,h0⟩:=field hl hf 0 9 0 (by kernel_rfl);obtain⟨y1,h1⟩:=field hl hf 1 3 1 (by kernel_rfl);obtain⟨y2,h2⟩:=field hl hf 2 3 2 (by kernel_rfl);obtain⟨y3,h3⟩:=field hl hf 3 43 3 (by kernel_rfl);obtain⟨y4,h4⟩:=field hl hf 4 45 10 (by kernel_rfl);rw[cS] at h0;rw[cI] at h1 h2;rw[cMV] at h3;rw[cMD] at h4;have h3:DataW.trod enc Tryz.prog W 0 sp hd n 43 [a3,a4,a5,a6,a7,a8,a9]=some y3:=h3;have h4:DataW.trod enc Tryz.prog W 0 sp hd n 45 [a10,a11,a12,a13,a14]=some y4:=h4;obtain⟨xv,nv,_,_,_,lv,fv⟩:=DataW.trod_struct undMV h3;obtain⟨xd,nd,_,_,_,ld,fd⟩:=DataW.trod_struct undMD h4;obtain⟨z3,g3⟩:=field lv fv 0 9 0 (by kernel_rfl);rw[cS] at g3;obtain⟨z4,g4⟩:=field lv fv 1 9 1 (by kernel_rfl);rw[cS] at g4;obtain⟨z5,g5⟩:=field lv fv 2 3 2 (by kernel_rfl);rw[cI] at g5;obtain⟨z6,g6⟩:=field lv fv 3 3 3 (by kernel_rfl);rw[cI] at g6;obtain⟨z7,g7⟩:=field lv fv 4 3 4 (by kernel_rfl);rw[cI] at g7;obtain⟨z8,g8⟩:=field lv fv 5 2 5 (by kernel_rfl);rw[cI2] at g8;obtain⟨z9,g9⟩:=field lv fv 6 9 6 (by kernel_rfl);rw[cS] at g9;obtain⟨z10,g10⟩:=field ld fd 0 9 0 (by kernel_rfl);rw[cS] at g10;obtain⟨z11,g11⟩:=field ld fd 1 9 1 (by kernel_rfl);rw[cS] at g11;obtain⟨z12,g12⟩:=field ld fd 2 3 2 (by kernel_rfl);rw[cI] at g12;obtain⟨z13,g13⟩:=field ld fd 3 9 3 (by kernel_rfl);rw[cS] at g13;obtain⟨z14,g14⟩:=field ld fd 4 3 4 (by kernel_rfl);rw[cI] at g14;obtain⟨s0,e0,_⟩:=DataW.trod_string undS h0;obtain⟨i1,e1,_⟩:=DataW.trod_int undI h1;obtain⟨i2,e2,_⟩:=DataW.trod_int undI h2;obtain⟨s3,e3,_⟩:=DataW.trod_string undS g3;obtain⟨s4,e4,_⟩:=DataW.trod_string undS g4;obtain⟨i5,e5,_⟩:=DataW.trod_int undI g5;obtain⟨i6,e6,_⟩:=DataW.trod_int undI g6;obtain⟨i7,e7,_⟩:=DataW.trod_int undI g7;obtain⟨i8,e8,_⟩:=DataW.trod_int undI2 g8;obtain⟨s9,e9,_⟩:=DataW.trod_string undS g9;obtain⟨s10,e10,_,b10⟩:=DataW.trod_string undS g10;obtain⟨s11,e11,_⟩:=DataW.trod_string undS g11;obtain⟨i12,e12,_⟩:=DataW.trod_int undI g12;obtain⟨s13,e13,_,b13⟩:=DataW.trod_string undS g13;obtain⟨i14,e14,_⟩:=DataW.trod_int undI g14;simp at e0 e1 e2 e3 e4 e5 e6 e7 e8 e9 e10 e11 e12 e13 e14;subst e0 e1 e2 e3 e4 e5 e6 e7 e8 e9 e10 e11 e12 e13 e14;exact⟨⟨s0.data.toList,i1,i2,⟨s3.data.toList,s4.data.toList,i5,i6,i7,i8,s9.data.toList⟩,⟨s10.data.toList,s11.data.toList,i12,s13.data.toList,i14⟩⟩,⟨mdb b10,mdb b13⟩,⟨rfl,.str rfl⟩,⟨rfl,.int⟩,⟨rfl,.int⟩,⟨rfl,.str rfl⟩,⟨rfl,.str rfl⟩,⟨rfl,.int⟩,⟨rfl,.int⟩,⟨rfl,.int⟩,⟨rfl,.int⟩,⟨rfl,.str rfl⟩,⟨rfl,.str rfl⟩,⟨rfl,.str rfl⟩,⟨rfl,.int⟩,⟨rfl,.str rfl⟩,⟨rfl,.int⟩,trivial⟩
theorem wzi{fuel:Nat}{cs:List Value}{x:DataW H×List MemPlace}{sp:Nat->Bool}{hd:Bool}(h:DataW.trod enc Tryz.prog W 0 sp hd fuel 22 cs=some x):
  ∃(A:Option Addr) (n c:Nat) (g:Nat->MG),cs=[.slice A n c]/\V W (λ_=>False) nob (.slice A n c) (.view 15 n (waa g))/\∀i,i<n->MdOK (g i):=
 wzj (default:MG) mgC MdOK undMs cM (by omega) (λ_=>rfl) el_md h
end Go.Eng
namespace Go.Eng
def wop:wcl
 |[.nil,.int .i64 n],[],R=>0<=n/\n<=1000000/\(n=0->R .nil [])/\(0<n->R (.own 0 0) [(0,.row 47 15 0 (λ_=>[]) false)])
 |_,_,_=>False
def eqM(a b:MG):Bool:=decide (a.dev=b.dev) && (decide (a.seq=b.seq) && (decide (a.kind=b.kind) && ((decide (a.v.o=b.v.o) && (decide (a.v.p=b.v.p) && (decide (a.v.per=b.v.per) && (decide (a.v.day=b.v.day) && (decide (a.v.st=b.v.st) && (decide (a.v.pr=b.v.pr) && decide (a.v.rep=b.v.rep))))))) && (decide (a.d.o=b.d.o) && (decide (a.d.p=b.d.p) && (decide (a.d.per=b.d.per) && (decide (a.d.dev=b.d.dev) && decide (a.d.num=b.d.num))))))))
def wci(g:Nat->MG)(i:Nat):Bool:=decide (i=0) || !eqM (g i) (g (i - 1))
def ddL(g:Nat->MG)(m:Nat):List MG:=((List.range m).filter (wci g)).map g
def allK(g:Nat->MG):Nat->Bool
 |0=>true
 |k+1=>allK g k && wci g k
def wos:wcl
 |[.own 0 n],[.row t 15 m f fr],R=>t=47/\fr=false/\n=m/\n<=1000000/\f=waa (mgOf f)/\
   ∀(k:Nat) (h:Nat->MG),lst h k=ddL (mgOf f) n->R (.own 0 k) [(0,.row 47 15 k (waa h) false)]
 |_,_,_=>False
def S_cp(g:Nat->MG)(n k:Nat):St:=⟨[(0,.own 0 n),(3,.q k)],[(0,.row 47 15 n (waa g) false)],1,[]⟩
def L_cp(g:Nat->MG)(n:Nat):wap:=λst Q=>canonIs te 1 [0,3] st (S_cp g n 1)/\2<=n/\n<=1000000/\
 (allK g n=true->Q (.exit 0) ⟨[(0,.own 0 n)],[(0,.row 47 15 n (waa g) false)],1,[]⟩)/\
 ∀(w:Nat) (h:Nat->MG),lst h w=ddL g n->Q .ret ⟨[(2,.own 0 w)],[(0,.row 47 15 w (waa h) false)],1,[]⟩
structure CI where
 k:Nat
 w:Nat
 h:Nat->MG
def S_ci(_g:Nat->MG)(n k0:Nat)(i:CI):St:=⟨[(0,.own 0 n),(3,.q i.w),(4,.sub 0 15 k0 (n - k0)),(5,.q i.k)],[(0,.row 47 15 n (waa i.h) false)],1,[]⟩
def L_ci(g:Nat->MG)(n k0:Nat):wap:=λst Q=>canonIs te 1 [0,3,4,5] st (S_ci g n k0 ⟨1,k0,g⟩)/\(1<=k0/\k0<n/\n<=1000000)/\allK g k0=true/\wci g k0=false/\
 ∀(w:Nat) (h:Nat->MG),w<=n->lst h w=ddL g n->Q (.exit 2) ⟨[(0,.own 0 n),(3,.q w)],[(0,.row 47 15 n (waa h) false)],1,[]⟩
def wbg(nn:Nat->Nat)(gg:Nat->Nat->MG)(i:Nat):List AV:=[.view 15 (nn i) (waa (gg i))]
def sumN(nn:Nat->Nat):Nat->Nat
 |0=>0
 |k+1=>sumN nn k+nn k
def catG(nn:Nat->Nat)(gg:Nat->Nat->MG):Nat->Nat->MG
 |0,_=>default
 |k+1,i=>if i<sumN nn k then catG nn gg k i else gg k (i - sumN nn k)
def wor:wcl
 |[.own 0 c],[.row t 1 c' f fr],R=>∃(nn:Nat->Nat) (gg:Nat->Nat->MG),t=22/\fr=false/\c=c'/\c<=1000/\(∀i,i<c->wbg nn gg i=f i)/\sumN nn c<=1000000/\
   R (.view 15 (sumN nn c) (waa (catG nn gg c))) [(0,.row 22 1 c (wbg nn gg) false)]
 |_,_,_=>False
def S_c1(nn:Nat->Nat)(gg:Nat->Nat->MG)(c k:Nat):St:=⟨[(0,.own 0 c),(3,.q (sumN nn k)),(9,.own 0 c),(10,.q c),(11,.q k)],[(0,.row 22 1 c (wbg nn gg) false)],1,[]⟩
def L_c1(nn:Nat->Nat)(gg:Nat->Nat->MG)(c:Nat):wap:=λst Q=>canonIs te 1 [0,3,9,10,11] st (S_c1 nn gg c 0)/\c<=1000/\sumN nn c<=1000000/\
 Q (.exit 0) ⟨[(0,.own 0 c),(3,.q (sumN nn c))],[(0,.row 22 1 c (wbg nn gg) false)],1,[]⟩
def S_c2(nn:Nat->Nat)(gg:Nat->Nat->MG)(c k:Nat):St:=⟨[(6,.own 1 (sumN nn k)),(25,.own 0 c),(26,.q c),(27,.q k)],[(0,.row 22 1 c (wbg nn gg) false),(1,.row 47 15 (sumN nn k) (waa (catG nn gg k)) false)],2,[]⟩
def L_c2(nn:Nat->Nat)(gg:Nat->Nat->MG)(c:Nat):wap:=λst Q=>canonIs te 1 [6,25,26,27] (ownNil 6 47 15 st) (S_c2 nn gg c 0)/\c<=1000/\sumN nn c<=1000000/\
 Q (.exit 2) ⟨[(6,.own 1 (sumN nn c))],[(0,.row 22 1 c (wbg nn gg) false),(1,.row 47 15 (sumN nn c) (waa (catG nn gg c)) false)],2,[]⟩
def atM(L:List MG)(i:Nat):MG:=L.getD i default
def flL(g:Nat->MG)(k:Nat):List MG:=(lst g k).filter okM
structure MG.Sm (m:MG):Prop where
 a:m.dev.length<9223372036854775808
 b:m.v.o.length<9223372036854775808
 c:m.d.o.length<9223372036854775808
 d:m.d.dev.length<9223372036854775808
def nn2(n m i:Nat):Nat:=if i=0 then n else m
def gg2(g h:Nat->MG)(i:Nat):Nat->MG:=if i=0 then g else h
def mrgL(g:Nat->MG)(n:Nat)(h:Nat->MG)(m:Nat):List MG:=mrgF (lst g n++lst h m)
def S_mg(g:Nat->MG)(n k:Nat):St:=⟨[(5,.own 0 (flL g k).length),(11,.view 15 n (waa g)),(12,.q n),(13,.q k)],[(0,.row 47 15 (flL g k).length (waa (atM (flL g k))) false)],1,[]⟩
def L_mg(g:Nat->MG)(n:Nat):wap:=λst Q=>canonIs te 0 [5,11,12,13] (ownNil 5 47 15 st) (S_mg g n 0)/\n<=200000/\(∀i,i<n->(g i).Sm)/\
 Q (.exit 0) ⟨[(5,.own 0 (flL g n).length)],[(0,.row 47 15 (flL g n).length (waa (atM (flL g n))) false)],1,[]⟩
def S_mrg:Spec
 |[.view 15 n f,.view 15 m h],[]=>some (.own 0 (mrgL (mgOf f) n (mgOf h) m).length,[(0,.row 47 15 (mrgL (mgOf f) n (mgOf h) m).length (waa (atM (mrgL (mgOf f) n (mgOf h) m))) false)],
   n<=100000/\m<=100000/\f=waa (mgOf f)/\h=waa (mgOf h)/\(∀i,i<n->(mgOf f i).Sm)/\∀i,i<m->(mgOf h i).Sm)
 |_,_=>none
def mk2(m:MG):List UInt8×Int:=(m.dev,m.seq)
def addC:List ((List UInt8×Int)×Int)->List UInt8×Int->List ((List UInt8×Int)×Int)
 |[],p=>[(p,1)]
 |x::l,p=>bif decide (x.1.1=p.1) && decide (x.1.2=p.2) then (p,x.2+1)::l else x::addC l p
def getC:List ((List UInt8×Int)×Int)->List UInt8×Int->Int
 |[],_=>0
 |x::l,p=>bif decide (x.1.1=p.1) && decide (x.1.2=p.2) then x.2 else getC l p
def cntL(g:Nat->MG):Nat->List ((List UInt8×Int)×Int)
 |0=>[]
 |k+1=>addC (cntL g k) (mk2 (g k))
def numC(g:Nat->MG)(p:List UInt8×Int):Nat->Int
 |0=>0
 |k+1=>numC g p k+bif decide ((mk2 (g k)).1=p.1) && decide ((mk2 (g k)).2=p.2) then 1 else 0
theorem wes{a b:List UInt8×Int}:(decide (a.1=b.1) && decide (a.2=b.2))=true↔a=b:=by
 simp[Prod.ext_iff]
theorem wvw(q p:List UInt8×Int):∀L,getC (addC L p) q=getC L q+bif decide (p.1=q.1) && decide (p.2=q.2) then 1 else 0
 |[]=>by
  show (bif decide (p.1=q.1) && decide (p.2=q.2) then (1:Int) else 0)=0+bif decide (p.1=q.1) && decide (p.2=q.2) then 1 else 0
  generalize (decide (p.1=q.1) && decide (p.2=q.2))=b
  cases b<;>rfl
 |x::l=>by
  have ih:=wvw q p l;rw[addC]
  cases h:decide (x.1.1=p.1) && decide (x.1.2=p.2) with
  |true=>
   have e:=wes.1 h;show getC ((p,x.2+1)::l) q=getC (x::l) q+_;rw[getC,getC,e]
   cases h2:decide (p.1=q.1) && decide (p.2=q.2) with
   |true=>rfl
   |false=>show getC l q=getC l q+0;omega
  |false=>
   show getC (x::addC l p) q=getC (x::l) q+_;rw[getC,getC]
   cases h2:decide (x.1.1=q.1) && decide (x.1.2=q.2) with
   |true=>
    have e:=wes.1 h2;have:(decide (p.1=q.1) && decide (p.2=q.2))=false:=by
     cases r:decide (p.1=q.1) && decide (p.2=q.2) with
     |false=>rfl
     |true=>rw[e, ← wes.1 r] at h;simp at h
    rw[this];show x.2=x.2+0;omega
   |false=>exact ih
theorem wla(g:Nat->MG)(q:List UInt8×Int):∀k,getC (cntL g k) q=numC g q k
 |0=>rfl
 |k+1=>by rw[cntL,wvw,wla g q k,numC]
theorem wqp(g:Nat->MG)(q:List UInt8×Int):∀k,0<=numC g q k/\numC g q k<=k
 |0=>by simp[numC]
 |k+1=>by
  have:=wqp g q k;rw[numC]
  cases decide ((mk2 (g k)).1=q.1) && decide ((mk2 (g k)).2=q.2)<;>simp<;>omega
theorem wxf(p:List UInt8×Int):∀(L:List ((List UInt8×Int)×Int)) (x:List UInt8×Int),x∈(addC L p).map Prod.fst->x∈L.map Prod.fst∨x=p
 |[],x,h=>by simpa[addC] using h
 |y::l,x,h=>by
  rw[addC] at h
  cases e:decide (y.1.1=p.1) && decide (y.1.2=p.2) with
  |true=>
   rw[e] at h
   rcases List.mem_cons.1 h with h | h
   ·exact .inr h
   ·exact .inl (List.mem_cons_of_mem _ h)
  |false=>
   rw[e] at h
   rcases List.mem_cons.1 h with h | h
   ·exact .inl (by rw[h];exact List.mem_cons_self ..)
   ·rcases wxf p l x h with h | h
    ·exact .inl (List.mem_cons_of_mem _ h)
    ·exact .inr h
theorem wsh(p:List UInt8×Int):∀ {L:List ((List UInt8×Int)×Int)},(L.map Prod.fst).Nodup->((addC L p).map Prod.fst).Nodup
 |[],_=>by simp[addC]
 |y::l,h=>by
  obtain⟨h1,h2⟩:=List.nodup_cons.1 (show (y.1::l.map Prod.fst).Nodup from h);rw[addC]
  cases e:decide (y.1.1=p.1) && decide (y.1.2=p.2) with
  |true=>
   have e':=wes.1 e;exact List.nodup_cons.2 ⟨by rw[← e'];exact h1,h2⟩
  |false=>
   refine List.nodup_cons.2 ⟨λq=>?_,wsh p h2⟩
   rcases wxf p l y.1 q with q | q
   ·exact h1 q
   ·rw[q] at e;simp at e
theorem wlt(g:Nat->MG):∀k,((cntL g k).map Prod.fst).Nodup
 |0=>by simp[cntL]
 |k+1=>wsh _ (wlt g k)
def entM(L:List ((List UInt8×Int)×Int)):List (AV×AV):=L.map λx=>(.agg [.str x.1.1,.q x.1.2],.q x.2)
def wcz:Spec
 |[.agg [.str dev,.int .i64 seq,.int .i64 _,.str _,.str _,.int .i64 _,.int .i64 _,.int .i64 _,.int .i64 _,.str _,.str _,.str _,.int .i64 _,.str _,.int .i64 _]],[]=>some (.agg [.str dev,.q seq],[],True)
 |_,_=>none
def whz:Spec
 |[.own 0 n],[.row t 15 m f fr]=>some (.map 1,[(0,.row 47 15 n f false),(1,.amap (entM (cntL (mgOf f) n)))],t=47/\fr=false/\n=m/\n<=1000000/\f=waa (mgOf f))
 |_,_=>none
def S_ct(g:Nat->MG)(n k:Nat):St:=⟨[(3,.map 1),(7,.own 0 n),(8,.q n),(9,.q k)],[(0,.row 47 15 n (waa g) false),(1,.amap (entM (cntL g k)))],2,[]⟩
def L_ct(g:Nat->MG)(n:Nat):wap:=λst Q=>canonIs te 1 [3,7,8,9] st (S_ct g n 0)/\n<=1000000/\Q (.exit 0) ⟨[(3,.map 1)],[(0,.row 47 15 n (waa g) false),(1,.amap (entM (cntL g n)))],2,[]⟩
def S_c5(L:List ((List UInt8×Int)×Int))(x:MG)(g:Nat->MG)(n k:Nat):St:=⟨[(3,.map 1),(5,.ptr 2 0),(7,.own 0 n),(8,.q n),(9,.q k)],[(0,.row 47 15 n (waa g) false),(1,.amap (entM L)),
 (2,.cells [.str x.dev,.q x.seq,.q x.kind,.str x.v.o,.str x.v.p,.q x.v.per,.q x.v.day,.q x.v.st,.q x.v.pr,.str x.v.rep,.str x.d.o,.str x.d.p,.q x.d.per,.str x.d.dev,.q x.d.num] 47)],3,[]⟩
def L_c5(L:List ((List UInt8×Int)×Int))(x:MG)(g:Nat->MG)(n k:Nat):wap:=λst Q=>canonIs te 1 [3,5,7,8,9] st (S_c5 L x g n k)/\(L.map Prod.fst).Nodup/\inR .i64 (getC L (mk2 x)+1)/\
 Q .normal (S_c5 (addC L (mk2 x)) x g n k)
def fstB(q:Nat->Bool):Nat->Nat
 |0=>0
 |k+1=>bif decide (fstB q k<k) then fstB q k else (bif q k then k else k+1)
def ixB(q:Nat->Bool)(n:Nat):Int:=bif decide (fstB q n<n) then (fstB q n:Int) else -1
theorem wg1(q:Nat->Bool):∀k,fstB q k<=k
 |0=>lR7 _
 |k+1=>by
  have ih:=wg1 q k;rw[fstB]
  cases decide (fstB q k<k) with
  |true=>show fstB q k<=k+1;omega
  |false=>cases q k with
   |true=>show k<=k+1;omega
   |false=>exact lR7 _
theorem wdi{q:Nat->Bool}{k:Nat}(h:fstB q k=k)(hk:q k=false):fstB q (k+1)=k+1:=by
 rw[fstB,decide_eq_false (show ¬ fstB q k<k by omega),hk];rfl
theorem wej{q:Nat->Bool}{k:Nat}(h:fstB q k=k)(hk:q k=true):∀n,k<n->fstB q n=k
 |0,hn=>absurd hn (nZ7 _)
 |n+1,hn=>by
  rw[fstB]
  by_cases e:k=n
  ·subst e;rw[decide_eq_false (show ¬ fstB q k<k by omega),hk];rfl
  ·have ih:=wej h hk n (by omega);rw[ih,decide_eq_true (show k<n by omega)];rfl
theorem wg0(q:Nat->Bool):∀n,(∀j,j<fstB q n->q j=false)/\(fstB q n<n->q (fstB q n)=true)
 |0=>⟨λj hj=>absurd hj (nZ7 _),λh=>absurd h (nZ7 _)⟩
 |n+1=>by
  obtain⟨h1,h2⟩:=wg0 q n;have hle:=wg1 q n
  by_cases h:fstB q n<n
  ·have e:fstB q (n+1)=fstB q n:=by rw[fstB,decide_eq_true h];rfl
   rw[e];exact⟨h1,λ_=>h2 h⟩
  ·have h0:fstB q n=n:=by omega
   rw[h0] at h1
   cases hq:q n with
   |true=>
    have e:fstB q (n+1)=n:=by rw[fstB,decide_eq_false h,hq];rfl
    rw[e];exact⟨h1,λ_=>hq⟩
   |false=>
    have e:fstB q (n+1)=n+1:=wdi h0 hq;rw[e];refine⟨λj hj=>?_,λh=>absurd h (Nat.lt_irrefl _)⟩
    by_cases q':j=n
    ·rw[q'];exact hq
    ·exact h1 j (by omega)
def cntE(es:List (AV×AV))(m:MG):Int:=way ((mget es (.agg [.str m.dev,.q m.seq])).getD (.q 0))
def delF(es:List (AV×AV))(m:MG):Bool:=decide (1<cntE es m)
def EsOK(es:List (AV×AV)):Prop:=∃L:List ((List UInt8×Int)×Int),es=entM L/\(L.map Prod.fst).Nodup
def wfe:Spec
 |[.agg [.str dev,.int .i64 seq,.int .i64 kind,.str o,.str p,.int .i64 per,.int .i64 day,.int .i64 st,.int .i64 pr,.str rep,.str o',.str p',.int .i64 per',.str dev',.int .i64 num],.ptr 0 0],[.cells [.map 1] t,.amap es]=>
   some (.bool (delF es ⟨dev,seq,kind,⟨o,p,per,day,st,pr,rep⟩,⟨o',p',per',dev',num⟩⟩),[(0,.cells [.map 1] t),(1,.amap es)],t=126/\EsOK es)
 |_,_=>none
def wnl:Spec
 |[.own 0 n,.func 92 [.ptr 1 0]],[.row t 15 m f fr,.cells [.map 2] t2,.amap es]=>
   some (.q (ixB (λi=>delF es (mgOf f i)) n),[(0,.row 47 15 n f false),(1,.cells [.map 2] 126),(2,.amap es)],t=47/\t2=126/\fr=false/\n=m/\n<=1000000/\f=waa (mgOf f)/\EsOK es)
 |_,_=>none
def wni(es:List (AV×AV))(g:Nat->MG)(n k:Nat):St:=⟨[(0,.own 0 n),(1,.func 92 [.ptr 1 0]),(7,.q n),(8,.q k)],[(0,.row 47 15 n (waa g) false),(1,.cells [.map 2] 126),(2,.amap es)],3,[]⟩
def wph(es:List (AV×AV))(g:Nat->MG)(n:Nat):wap:=λst Q=>canonIs te 3 [0,1,7,8] st (wni es g n 0)/\n<=1000000/\EsOK es/\
 wab (decide (fstB (λi=>delF es (g i)) n<n)) (Q .ret ⟨[(4,.q (fstB (λi=>delF es (g i)) n))],[(0,.row 47 15 n (waa g) false),(1,.cells [.map 2] 126),(2,.amap es)],3,[]⟩)
  (Q (.exit 0) ⟨[],[(0,.row 47 15 n (waa g) false),(1,.cells [.map 2] 126),(2,.amap es)],3,[]⟩)
def kpL(es:List (AV×AV))(g:Nat->MG)(n:Nat):List MG:=(lst g n).filter λx=> !delF es x
def woq:wcl
 |[.own 0 n,.func 92 [.ptr 1 0]],[.row t 15 m f fr,.cells [.map 2] t2,.amap es],R=>t=47/\t2=126/\fr=false/\n=m/\n<=1000000/\f=waa (mgOf f)/\EsOK es/\
   ∀(k:Nat) (h:Nat->MG),lst h k=kpL es (mgOf f) n->R (.own 0 k) [(0,.row 47 15 k (waa h) false),(1,.cells [.map 2] 126),(2,.amap es)]
 |_,_,_=>False
def S_df(es:List (AV×AV))(n:Nat)(i:CI):St:=⟨[(0,.own 0 n),(1,.func 92 [.ptr 1 0]),(5,.q i.w),(6,.q i.k)],[(0,.row 47 15 n (waa i.h) false),(1,.cells [.map 2] 126),(2,.amap es)],3,[]⟩
def L_df(es:List (AV×AV))(g:Nat->MG)(n i0:Nat):wap:=λst Q=>canonIs te 3 [0,1,5,6] st (S_df es n ⟨i0+1,i0,g⟩)/\(i0<n/\n<=1000000)/\EsOK es/\(∀j,j<i0->delF es (g j)=false)/\delF es (g i0)=true/\
 ∀(w:Nat) (h:Nat->MG),w<=n->lst h w=kpL es g n->Q (.exit 0) ⟨[(0,.own 0 n),(5,.q w)],[(0,.row 47 15 n (waa h) false),(1,.cells [.map 2] 126),(2,.amap es)],3,[]⟩
def noM:Nat->MG:=λ_=>default
def wae(g:Nat->MG)(n:Nat):List MG:=(mrgL g n noM 0).filter λx=> !decide (1<numC (atM (mrgL g n noM 0)) (mk2 x) (mrgL g n noM 0).length)
def wfk:Spec
 |[.view 15 n f,.nil],[]=>some (.own 0 (mrgL (mgOf f) n noM 0).length,[(0,.row 47 15 (mrgL (mgOf f) n noM 0).length (waa (atM (mrgL (mgOf f) n noM 0))) false)],
   n<=100000/\f=waa (mgOf f)/\∀i,i<n->(mgOf f i).Sm)
 |_,_=>none
def wda:Spec
 |[.view 15 n f],[]=>some (.view 15 (wae (mgOf f) n).length (waa (atM (wae (mgOf f) n))),[],n<=100000/\f=waa (mgOf f)/\∀i,i<n->(mgOf f i).Sm)
 |_,_=>none
def selF(o p:List UInt8)(per:Int)(m:MG):Bool:=decide (m.kind=1) && (decide (m.v.o=o) && (decide (m.v.p=p) && decide (m.v.per=per)))
def stpC(L:List MG)(m:MG):List MG:=bif decide (0<L.length) && decide ((atM L (L.length - 1)).dev=m.dev) then L.take (L.length - 1)++[m] else L++[m]
def canL(o p:List UInt8)(per:Int)(g:Nat->MG):Nat->List MG
 |0=>[]
 |k+1=>bif selF o p per (g k) then stpC (canL o p per g k) (g k) else canL o p per g k
def woa:Spec
 |[.view 15 n f,.str o,.str p,.int .i64 per],[]=>some (.view 15 (canL o p per (mgOf f) n).length (waa (atM (canL o p per (mgOf f) n))),[],n<=1000000/\f=waa (mgOf f))
 |_,_=>none
def wgh(o p:List UInt8)(per:Int)(g:Nat->MG)(n k:Nat):St:=⟨[(1,.str o),(2,.str p),(3,.q per),(9,.own 0 (canL o p per g k).length),(13,.view 15 n (waa g)),(14,.q n),(15,.q k)],[(0,.row 47 15 (canL o p per g k).length (waa (atM (canL o p per g k))) false)],1,[]⟩
def wfo(o p:List UInt8)(per:Int)(g:Nat->MG)(n:Nat):wap:=λst Q=>canonIs te 0 [1,2,3,9,13,14,15] (ownNil 9 47 15 st) (wgh o p per g n 0)/\n<=1000000/\
 Q (.exit 0) ⟨[(9,.own 0 (canL o p per g n).length)],[(0,.row 47 15 (canL o p per g n).length (waa (atM (canL o p per g n))) false)],1,[]⟩
def difF(x:VT)(m:MG):Bool:= !decide (m.v.st=x.st) || (!decide (m.v.pr=x.pr) || !decide (m.v.rep=x.rep))
def namF(x:DT)(m:MG):Bool:=decide (m.dev=x.dev) && decide (m.seq=x.num)
def whl:Spec
 |[.agg [.str dev,.int .i64 seq,.int .i64 kind,.str o,.str p,.int .i64 per,.int .i64 day,.int .i64 st,.int .i64 pr,.str rep,.str o',.str p',.int .i64 per',.str dev',.int .i64 num],.ptr 0 0],[.cells [.str xo,.str xp,.int .i64 xper,.int .i64 xday,.int .i64 xst,.int .i64 xpr,.str xrep] t]=>some (.bool (difF ⟨xo,xp,xper,xday,xst,xpr,xrep⟩ ⟨dev,seq,kind,⟨o,p,per,day,st,pr,rep⟩,⟨o',p',per',dev',num⟩⟩),[(0,.cells [.str xo,.str xp,.q xper,.q xday,.q xst,.q xpr,.str xrep] 43)],t=43)
 |_,_=>none
def wnn:Spec
 |[.view 15 n f,.func 61 [.ptr 0 0]],[.cells [.str xo,.str xp,.int .i64 xper,.int .i64 xday,.int .i64 xst,.int .i64 xpr,.str xrep] t]=>some (.q (ixB (λi=>difF ⟨xo,xp,xper,xday,xst,xpr,xrep⟩ (mgOf f i)) n),[(0,.cells [.str xo,.str xp,.q xper,.q xday,.q xst,.q xpr,.str xrep] 43)],t=43/\n<=1000000/\f=waa (mgOf f))
 |_,_=>none
def wnh(x:VT)(g:Nat->MG)(n k:Nat):St:=⟨[(0,.view 15 n (waa g)),(1,.func 61 [.ptr 0 0]),(7,.q n),(8,.q k)],[(0,.cells [.str x.o,.str x.p,.q x.per,.q x.day,.q x.st,.q x.pr,.str x.rep] 43)],1,[]⟩
def wpg(x:VT)(g:Nat->MG)(n:Nat):wap:=λst Q=>canonIs te 1 [0,1,7,8] st (wnh x g n 0)/\n<=1000000/\
 wab (decide (fstB (λi=>difF x (g i)) n<n)) (Q .ret ⟨[(4,.q (fstB (λi=>difF x (g i)) n))],[(0,.cells [.str x.o,.str x.p,.q x.per,.q x.day,.q x.st,.q x.pr,.str x.rep] 43)],1,[]⟩) (Q (.exit 0) ⟨[],[(0,.cells [.str x.o,.str x.p,.q x.per,.q x.day,.q x.st,.q x.pr,.str x.rep] 43)],1,[]⟩)
def whk:Spec
 |[.agg [.str dev,.int .i64 seq,.int .i64 kind,.str o,.str p,.int .i64 per,.int .i64 day,.int .i64 st,.int .i64 pr,.str rep,.str o',.str p',.int .i64 per',.str dev',.int .i64 num],.ptr 0 0],[.cells [.str xo,.str xp,.int .i64 xper,.str xdev,.int .i64 xnum] t]=>some (.bool (namF ⟨xo,xp,xper,xdev,xnum⟩ ⟨dev,seq,kind,⟨o,p,per,day,st,pr,rep⟩,⟨o',p',per',dev',num⟩⟩),[(0,.cells [.str xo,.str xp,.q xper,.str xdev,.q xnum] 45)],t=45)
 |_,_=>none
def wnm:Spec
 |[.view 15 n f,.func 63 [.ptr 0 0]],[.cells [.str xo,.str xp,.int .i64 xper,.str xdev,.int .i64 xnum] t]=>some (.q (ixB (λi=>namF ⟨xo,xp,xper,xdev,xnum⟩ (mgOf f i)) n),[(0,.cells [.str xo,.str xp,.q xper,.str xdev,.q xnum] 45)],t=45/\n<=1000000/\f=waa (mgOf f))
 |_,_=>none
def wng(x:DT)(g:Nat->MG)(n k:Nat):St:=⟨[(0,.view 15 n (waa g)),(1,.func 63 [.ptr 0 0]),(7,.q n),(8,.q k)],[(0,.cells [.str x.o,.str x.p,.q x.per,.str x.dev,.q x.num] 45)],1,[]⟩
def wpf(x:DT)(g:Nat->MG)(n:Nat):wap:=λst Q=>canonIs te 1 [0,1,7,8] st (wng x g n 0)/\n<=1000000/\
 wab (decide (fstB (λi=>namF x (g i)) n<n)) (Q .ret ⟨[(4,.q (fstB (λi=>namF x (g i)) n))],[(0,.cells [.str x.o,.str x.p,.q x.per,.str x.dev,.q x.num] 45)],1,[]⟩) (Q (.exit 0) ⟨[],[(0,.cells [.str x.o,.str x.p,.q x.per,.str x.dev,.q x.num] 45)],1,[]⟩)
def wn7:Spec
 |[.view 15 n f,.func 61 [.ptr 0 0]],[.cells [.str xo,.str xp,.int .i64 xper,.int .i64 xday,.int .i64 xst,.int .i64 xpr,.str xrep] t]=>some (.bool (decide (0<=ixB (λi=>difF ⟨xo,xp,xper,xday,xst,xpr,xrep⟩ (mgOf f i)) n)),[(0,.cells [.str xo,.str xp,.q xper,.q xday,.q xst,.q xpr,.str xrep] 43)],t=43/\n<=1000000/\f=waa (mgOf f))
 |_,_=>none
def wcu:VT:=⟨[],[],0,0,0,0,[]⟩
def wca(o p:List UInt8)(per q:Int)(m:MG):Bool:=decide (m.kind=2) && (decide (m.d.o=o) && (decide (m.d.p=p) && (decide (m.d.per=per) && !decide (m.seq<q))))
def dcF(o p:List UInt8)(per:Int)(C:List MG)(g:Nat->MG):Nat->VT×Int
 |0=>(wcu, -1)
 |k+1=>bif wca o p per (dcF o p per C g k).2 (g k) && decide (fstB (λi=>namF (g k).d (atM C i)) C.length<C.length) then ((atM C (fstB (λi=>namF (g k).d (atM C i)) C.length)).v,(g k).seq) else dcF o p per C g k
def resR(o p:List UInt8)(per:Int)(R C:List MG):VT×Int:=
 bif decide (C.length=0) then (wcu,0) else bif decide (0<=ixB (λi=>difF (atM C 0).v (atM C i)) C.length) then
  (bif decide ((dcF o p per C (atM R) R.length).2<0) then (wcu,2) else ((dcF o p per C (atM R) R.length).1,1)) else ((atM C 0).v,1)
def resF(g:Nat->MG)(n:Nat)(o p:List UInt8)(per:Int):VT×Int:=resR o p per (wae g n) (canL o p per (atM (wae g n)) (wae g n).length)
def wff:Spec
 |[.view 15 n f,.str o,.str p,.int .i64 per],[]=>
   some (.tuple [.agg [.str (resF (mgOf f) n o p per).1.o,.str (resF (mgOf f) n o p per).1.p,.q (resF (mgOf f) n o p per).1.per,.q (resF (mgOf f) n o p per).1.day,.q (resF (mgOf f) n o p per).1.st,.q (resF (mgOf f) n o p per).1.pr,.str (resF (mgOf f) n o p per).1.rep],.q (resF (mgOf f) n o p per).2],[],
    n<=100000/\f=waa (mgOf f)/\∀i,i<n->(mgOf f i).Sm)
 |_,_=>none
def S_rl(o p:List UInt8)(per:Int)(C R:List MG)(k:Nat):St:=⟨[(1,.str o),(2,.str p),(3,.q per),(8,.ptr 0 0),(11,.view 15 C.length (waa (atM C))),(13,.ptr 1 0),(14,.q (dcF o p per C (atM R) k).2),(40,.view 15 R.length (waa (atM R))),(41,.q R.length),(42,.q k)],
 [(0,.cells [.str [],.str [],.q 0,.q 0,.q 0,.q 0,.str []] 43),(1,.cells [.str (dcF o p per C (atM R) k).1.o,.str (dcF o p per C (atM R) k).1.p,.q (dcF o p per C (atM R) k).1.per,.q (dcF o p per C (atM R) k).1.day,.q (dcF o p per C (atM R) k).1.st,.q (dcF o p per C (atM R) k).1.pr,.str (dcF o p per C (atM R) k).1.rep] 43)],2,[]⟩
def L_rl(o p:List UInt8)(per:Int)(C R:List MG):wap:=λst Q=>canonIs te 0 [1,2,3,8,11,13,14,40,41,42] st (S_rl o p per C R 0)/\R.length<=1000000/\C.length<=1000000/\
 Q (.exit 0) ⟨[(8,.ptr 0 0),(13,.ptr 1 0),(14,.q (dcF o p per C (atM R) R.length).2)],[(0,.cells [.str [],.str [],.q 0,.q 0,.q 0,.q 0,.str []] 43),
  (1,.cells [.str (dcF o p per C (atM R) R.length).1.o,.str (dcF o p per C (atM R) R.length).1.p,.q (dcF o p per C (atM R) R.length).1.per,.q (dcF o p per C (atM R) R.length).1.day,.q (dcF o p per C (atM R) R.length).1.st,.q (dcF o p per C (atM R) R.length).1.pr,.str (dcF o p per C (atM R) R.length).1.rep] 43)],2,[]⟩
end Go.Eng
namespace Go.Proofs
open Go.Shelf
def Tryz.grow116_ren:Go.Shelf.Ren:=⟨λ | 4=>116 | n=>n,λ | 22=>22 | 25=>47 | 3=>3 | 4=>4 | 9=>9 | 20=>20 | 0=>0 | n=>n,λ | n=>n⟩
theorem Tryz.grow116:Go.Proofs.Lays8.n4 Tryz.prog Tryz.grow116_ren:={
 mixed:=by kernel_rfl
 f4:=⟨Tryz.f116.name,by decide,Tryz.func116.trans (congrArg some (by kernel_rfl))⟩
 t0:=Tryz.underlying0
 a0:=Tryz.isAgg0
 z0:=Tryz.sizeOf0
 v0:=Tryz.zeroValue0
 t3:=Tryz.underlying3
 a3:=Tryz.isAgg3
 z3:=Tryz.sizeOf3
 v3:=Tryz.zeroValue3
 t4:=Tryz.underlying4
 a4:=Tryz.isAgg4
 z4:=Tryz.sizeOf4
 v4:=Tryz.zeroValue4
 t9:=Tryz.underlying9
 a9:=Tryz.isAgg9
 z9:=Tryz.sizeOf9
 v9:=Tryz.zeroValue9
 t20:=Tryz.underlying20
 a20:=Tryz.isAgg20
 z20:=Tryz.sizeOf20
 v20:=Tryz.zeroValue20
 t22:=Tryz.underlying22
 a22:=Tryz.isAgg22
 z22:=Tryz.sizeOf22
 v22:=Tryz.zeroValue22 }
end Go.Proofs
namespace Go.Eng
open Go.Proofs Go.RowKit
variable {C:Ctx} [C.Loose]
set_option maxRecDepth 20000
theorem grow_ok(hP:C.P=Tryz.prog):wa8 C 116 wop:=by
 have _:C.Loose:=inferInstance;rintro args objs R h;unfold wop at h;split at h
 ·rename_i n;obtain⟨h0,hn,hz,hp⟩:=h;refine⟨⟨_,hP ▸ Tryz.func116,rfl,by decide⟩,λE bs w cargs h1 h2 h3 hW h5 h6 h7=>?_⟩;obtain⟨a,b,rfl⟩:∃a b,cargs=[a,b]:=by
   match cargs,h6 with
   |[a,b],_=>exact⟨a,b,rfl⟩
  have V0:=h7 0 _ _ rfl rfl;have V1:=(h7 1 _ _ rfl rfl).int_iff;subst V1;generalize hu:AV.nil=u at V0
  cases V0<;>cases hu;have hO:lkL []=lk []:=by funext i;rfl
  rw[hO] at hW;obtain⟨m,rfl⟩:∃m:Nat,n=(m:Int):=⟨n.toNat,by omega⟩
  rcases Nat.eq_zero_or_pos m with rfl | hm
  ·refine Calls.mono (hP ▸ Any8.slices_Grow_room Tryz.grow116 none 0 0 0 w (by omega) (by omega) (by omega) (by omega)) ?_;rintro e w' ⟨rfl,rfl⟩;exact⟨_,.nil,[],bs,rfl,hz rfl,hW,.nil,λr _=>⟨rfl,h5 r (zL7 _)⟩⟩
  ·obtain⟨i,hi,hisz,hib,hiz⟩:=((prg hP).ok 47 _ rfl).2.1;have hbytes:i.bytes<=1000:=by rw[hib];decide
   have hs15:i.size=15:=hisz;have hmul:(0+m) * i.bytes<=140737488355328:=Nat.le_trans (Nat.mul_le_mul (show 0+m<=1000000 by omega) hbytes) (by decide);have hc:=Any8.slices_Grow_grow Tryz.grow116 i _ (hP ▸ hi) hiz (by omega) none 0 0 m [] w (by omega) (by omega) hmul (by omega) (by simp) (λ_=>rfl) (λa h=>by cases h);have hcap:=grownCap_ge w (0+m) 0 47;have hmax:=grownCap_le_maxLen w (0+m) 0 47 (by unfold maxLen;omega);have c1:=h5 0 (zL7 _);have key:∀vs:Array Value,vs.size=grownCap w (0+m) 0 47 * 15->∃v u O' bs',(Ending.returned (.slice (some ⟨w.heap.size,0,none⟩) 0 (grownCap w (0+m) 0 47)))= .returned v/\R u O'/\WRep C E (lk O') bs' (w.drew.alloc (.cells vs 47))/\V (w.drew.alloc (.cells vs 47)) (MB E (lk O') bs') bs' v u/\∀r,0+16<=r->lk O' r=none/\bs' r=none:=by
    intro vs hvs
    obtain⟨k1,k2⟩:=wio hW c1 (w1:=w.drew) rfl rfl ⟨rfl,λ_=>Nat.le_succ _⟩ rfl (vs:=vs) (e:=47) (sz:=15) (n:=0) (c:=grownCap w (0+m) 0 47) (f:=λ_=>[]) (zL7 _) hmax hvs
     (λi hi=>absurd hi (nZ7 _)) (λi hi=>absurd hi (nZ7 _)) (λi hi=>absurd hi (nZ7 _))
    have e1:up (lk []) 0 (AObj.row 47 15 0 (λ_=>[]) false)=lk [(0,.row 47 15 0 (λ_=>[]) false)]:=by
     funext r;rw[wa0]
     by_cases h:0=r
     ·subst h;rw[was,if_pos rfl]
     ·rw[waq _ _ _ h,if_neg h]
    rw[e1] at k2;refine⟨_,.own 0 0,[(0,.row 47 15 0 (λ_=>[]) false)],up bs 0 (.blk w.heap.size (grownCap w (0+m) 0 47)),rfl,hp (by omega),k2,.own (was _ _ _) (zL7 _) hmax,λr hr=>?_⟩;exact⟨by rw[wa0,if_neg (by omega)];rfl,by rw[waq _ _ _ (by omega)];exact h5 r (zL7 _)⟩
   refine Calls.mono (hP ▸ hc) ?_;rintro e w' ⟨rfl,rfl⟩;refine key _ ?_;generalize hz15:Value.cells _=zc;have hz15:zc.size=15:=by rw[← hz15];rfl
   have hcap:0+m<=grownCap w (0+m) 0 47:=hcap;show (#[]++Builtin.zeroCells zc (0+m - 0)++Builtin.zeroCells zc (grownCap w (0+m) 0 47 - (0+m))).size=_;rw[Array.size_append,Array.size_append,size_zeroCells,size_zeroCells,hz15];simp only[Array.size_empty];omega
 ·exact h.elim
theorem nf_cc(nn:Nat->Nat)(gg:Nat->Nat->MG)(c:Nat)(R:oR7):wpFn te [(116,.rel wop)] [(3,L_c1 nn gg c),(11,L_c2 nn gg c)] 0 Tryz.f95 [.own 0 c] [.row 22 1 c (wbg nn gg) false] R=(letI z3:=(∀(i:Nat),i<sumN nn c->true=true:Prop);letI z2:=(↑(sumN nn c):Int);letI z1:=([(0,.row 22 1 c (wbg nn gg) false),(1,.row 47 15 (sumN nn c) (waa (catG nn gg c)) false)]:oL7);letI z0:=(TEq [(6,.own 1 0),(25,.own 0 c),(26,.q (c:Int)),(27,.q 0)] [(6,.own 1 0),(25,.own 0 c),(26,.q (c:Int)),(27,.q (↑0:Int))]/\wac [(0,.row 22 1 c (wbg nn gg) false),(1,.row 47 15 0 (λ(_x:Nat)=>[]) false)] [(0,.row 22 1 c (wbg nn gg) false),(1,.row 47 15 0 (waa (catG nn gg 0)) false)]);(TEq [(0,.own 0 c),(3,.q 0),(9,.own 0 c),(10,.q (c:Int)),(11,.q 0)] [(0,.own 0 c),(3,.q (↑(sumN nn 0):Int)),(9,.own 0 c),(10,.q (c:Int)),(11,.q (↑0:Int))]/\wac [(0,.row 22 1 c (wbg nn gg) false)] [(0,.row 22 1 c (wbg nn gg) false)])/\c<=1000/\sumN nn c<=1000000/\(0:Int)<=z2/\z2<=1000000/\(z2=0->z0/\c<=1000/\sumN nn c<=1000000/\(∀(i:Nat),i<c->true=true)/\z3/\∃(O':oL7),wac z1 O'/\R (.own 1 (sumN nn c)) O')/\((0:Int)<z2->(∀(i:Nat),i<0->true=true)/\z0/\c<=1000/\sumN nn c<=1000000/\(∀(i:Nat),i<c->true=true)/\z3/\∃(O':oL7),wac z1 O'/\R (.own 1 (sumN nn c)) O')):=by kernel_rfl
theorem w28(nn:Nat->Nat)(gg:Nat->Nat->MG)(c k:Nat)(P:Nat->Prop)(R:eR7):wat ⟨te,[],[],1,36,0⟩ (wav Tryz.f95 3) [0,3,9,10,11] [0,3] [] (S_c1 nn gg c) P R (S_c1 nn gg c k)=(letI z2:=(↑(sumN nn k):Int);letI z1:=([(0,.row 22 1 c (wbg nn gg) false)]:oL7);letI z0:=(↑(nn (k:Int).toNat):Int);wab (decide ((k:Int)<(c:Int))) (((0:Int)<=(k:Int)/\(k:Int)<(c:Int))/\((k:Int).toNat<c/\1=1)/\inR .i64 (z2+z0)/\wab (decide (z2+z0<0)) False (inR .i64 ((k:Int)+1)/\∃(i':Nat),(TEq [(0,.own 0 c),(3,.q (z2+z0)),(9,.own 0 c),(10,.q (c:Int)),(11,.q ((k:Int)+1))] [(0,.own 0 c),(3,.q (↑(sumN nn i'):Int)),(9,.own 0 c),(10,.q (c:Int)),(11,.q (i':Int))]/\wac z1 z1)/\P i')) ((∀(i:Nat),i<c->true=true)/\∃(O':oL7),wac z1 O'/\R (.exit 0) (St.mk [(0,.own 0 c),(3,.q z2)] O' 1 []))):=by kernel_rfl
theorem w27(nn:Nat->Nat)(gg:Nat->Nat->MG)(c k:Nat)(P:Nat->Prop)(R:eR7):wat ⟨te,[],[],1,36,0⟩ (wav Tryz.f95 11) [6,25,26,27] [6] [] (S_c2 nn gg c) P R (S_c2 nn gg c k)=(letI z0:=(k:Int).toNat;wab (decide ((k:Int)<(c:Int))) (((0:Int)<=(k:Int)/\(k:Int)<(c:Int))/\((k:Int).toNat<c/\1=1)/\(15=15/\sumN nn k<=sumN nn k/\15=15/\47=47/\15=15/\sumN nn k+nn z0<=9223372036854775807/\(sumN nn k+nn z0) * TI.bytes wde<=140737488355328)/\inR .i64 ((k:Int)+1)/\∃(i':Nat),(TEq [(6,.own 1 (sumN nn k+nn z0)),(25,.own 0 c),(26,.q (c:Int)),(27,.q ((k:Int)+1))] [(6,.own 1 (sumN nn i')),(25,.own 0 c),(26,.q (c:Int)),(27,.q (i':Int))]/\wac [(0,.row 22 1 c (wbg nn gg) false),(1,.row 47 15 (sumN nn k+nn z0) (apF (sumN nn k) (waa (catG nn gg k)) (waa (gg z0))) false)] [(0,.row 22 1 c (wbg nn gg) false),(1,.row 47 15 (sumN nn i') (waa (catG nn gg i')) false)])/\P i') ((∀(i:Nat),i<c->true=true)/\(∀(i:Nat),i<sumN nn k->true=true)/\∃(O':oL7),wac [(0,.row 22 1 c (wbg nn gg) false),(1,.row 47 15 (sumN nn k) (waa (catG nn gg k)) false)] O'/\R (.exit 2) (St.mk [(6,.own 1 (sumN nn k))] O' 2 []))):=by kernel_rfl
theorem wp3 (nn : Nat → Nat) : ∀ {k c : Nat}, k ≤ c → sumN nn k ≤ sumN nn c
  | k, 0, h => by obtain rfl : k = 0 := by omega
                  exact lR7 _
  | k, c + 1, h => by
    by_cases e : k = c + 1
    · rw [e]; exact lR7 _
    · have := wp3 nn (show k ≤ c by omega)
      rw [sumN]; omega
theorem c1_loop(hP:C.P=Tryz.prog)(nn:Nat->Nat)(gg:Nat->Nat->MG)(c:Nat):wah C 1 36 (wai Tryz.f95 3) (L_c1 nn gg c):=by
 have _:C.Loose:=inferInstance;rintro st Q ⟨h0,hc,hs,hQ⟩;refine wah.mk (prg hP) [] 0 .nil [0,3,9,10,11] [0,3] [] (S_c1 nn gg c) (λk=>k<=c) (λk=>c - k) 0 (zL7 _) h0 (λk hk=>?_) (λi=>⟨λ_ _=>rfl,trivial⟩);rw[w28,tN7];refine wag (λh1=>?_) (λh1=>?_)
 ·have hle:=wp3 nn (show k+1<=c by omega);rw[sumN] at hle;refine⟨⟨by omega,by omega⟩,⟨by omega,rfl⟩,by simp only[inR];omega,wag (λq=>?_) (λ_=>⟨by simp only[inR];omega,k+1,⟨?_,rQ7,trivial⟩,by omega,by omega⟩)⟩
  ·exfalso;omega
  ·rfl
 ·have:k=c:=by omega
  subst this;exact⟨λ_ _=>rfl,_,waz _,hQ⟩
theorem c2_loop(hP:C.P=Tryz.prog)(nn:Nat->Nat)(gg:Nat->Nat->MG)(c:Nat):wah C 1 36 (wai Tryz.f95 11) (L_c2 nn gg c):=by
 have _:C.Loose:=inferInstance;rintro st Q ⟨h0,hc,hs,hQ⟩;refine AWP.ownNil 6 47 15 ?_;refine wah.mk (prg hP) [] 0 .nil [6,25,26,27] [6] [] (S_c2 nn gg c) (λk=>k<=c) (λk=>c - k) 0 (zL7 _) h0 (λk hk=>?_) (λi=>⟨λ_ _=>rfl,λ_ _=>rfl,trivial⟩);rw[w27,tN7];refine wag (λh1=>?_) (λh1=>?_)
 ·have hle:=wp3 nn (show k+1<=c by omega);rw[sumN] at hle;refine⟨⟨by omega,by omega⟩,⟨by omega,rfl⟩,⟨rfl,lR7 _,rfl,rfl,rfl,by omega,?_⟩,by simp only[inR];omega,k+1,⟨rfl,rQ7,⟨rfl,rfl,rfl,rfl,rfl,λj hj=>?_⟩,trivial⟩,by omega,by omega⟩
  ·show (sumN nn k+nn k) * 176<=_;omega
  ·show apF (sumN nn k) (waa (catG nn gg k)) (waa (gg k)) j=waa (catG nn gg (k+1)) j;unfold apF waa;rw[catG]
   by_cases h:j<sumN nn k
   ·simp only[h,if_true]
   ·simp only[h,if_false]
 ·have:k=c:=by omega
  subst this;exact⟨λ_ _=>rfl,λ_ _=>rfl,_,waz _,hQ⟩
theorem w58(hP:C.P=Tryz.prog):wa8 C 95 wor:=by
 rintro args objs R h;unfold wor at h;split at h
 ·rename_i c t c' f fr;obtain⟨nn,gg,rfl,rfl,rfl,hc,hf,hs,hR⟩:=h;refine waw.rowEq 0 (f':=wbg nn gg) rfl hf (waw.frzO 1 ?_);show waw C _ [.own 0 c] [.row 22 1 c (wbg nn gg) false] _;refine wa8.wpL (prg hP) [(116,.rel wop)] [(3,L_c1 nn gg c),(11,L_c2 nn gg c)] 0 (.cons (grow_ok hP) .nil) (hP ▸ Tryz.func95) rfl rfl rfl [(wai Tryz.f95 3,L_c1 nn gg c),(wai Tryz.f95 11,L_c2 nn gg c)] (by kernel_rfl) ⟨c1_loop hP nn gg c,c2_loop hP nn gg c,trivial⟩ ?_;rw[nf_cc];have fin:(∀(i:Nat),i<c->true=true)/\(∀(i:Nat),i<sumN nn c->true=true)/\∃(O':List (Nat×AObj)),wac [(0,.row 22 1 c (wbg nn gg) false),(1,.row 47 15 (sumN nn c) (waa (catG nn gg c)) false)] O'/\frzO 1 R (.own 1 (sumN nn c)) O':=by
   refine⟨λ_ _=>rfl,λ_ _=>rfl,_,waz _,λ_ _=>rfl,?_⟩;have hb:Nat.ble (sumN nn c) (sumN nn c)=true:=Nat.ble_eq_true_of_le (lR7 _);have e:frzC 1 15 (sumN nn c) (waa (catG nn gg c)) (.own 1 (sumN nn c))= .view 15 (sumN nn c) (waa (catG nn gg c)):=by simp[frzC,frzA,frz,hb]
   rw[e];exact hR
  have start:TEq [(6,.own 1 0),(25,.own 0 c),(26,.q (c:Int)),(27,.q 0)] [(6,.own 1 0),(25,.own 0 c),(26,.q (c:Int)),(27,.q ((0:Nat):Int))]/\wac [(0,.row 22 1 c (wbg nn gg) false),(1,.row 47 15 0 (λ_=>[]) false)] [(0,.row 22 1 c (wbg nn gg) false),(1,.row 47 15 0 (waa (catG nn gg 0)) false)]:=
   ⟨rfl,rQ7,⟨rfl,rfl,rfl,rfl,rfl,λi hi=>absurd hi (nZ7 i)⟩,trivial⟩
  exact⟨⟨rfl,rQ7,trivial⟩,hc,hs,by omega,by omega,λ_=>⟨start,hc,hs,fin⟩,λ_=>⟨λ_ _=>rfl,start,hc,hs,fin⟩⟩
 ·exact h.elim
end Go.Eng
namespace Go.Eng
theorem wah.mkI{C:Ctx}{te:TE}(hte:Prg C te){m N:Nat}{x:Code}{s:St}{Q:Exit->St->Prop}(calls:List (Nat×CSpec)){ι:Type}(loops:ι->List (Nat×wap))(fuel:Nat)(hc:wcn C calls)(ls:ι->List (Code×wap))(hls:∀i,wbd (loops i) x=ls i)(hL:∀i,wfn C m N (ls i))
  (F Fe Fr:List Nat) (S:ι->St) (I:ι->Prop) (μ:ι->Nat) (i0:ι) (hI:I i0)
  (h0:canonIs te m F s (S i0)) (round:∀i,I i->wat ⟨te,calls,loops i,m,N,fuel⟩ x F Fe Fr S (λi'=>I i'/\μ i'<μ i) Q (S i)) (hS:∀i,wbv (S i).O True:=by intro i;trivial):AWP C m N (.loop x) Q s:=by
 obtain⟨ρ0,hw⟩:=wd4 h0 (wb8 (hS i0)).1;have key:AWP C m N (.loop x) (Eng.canQ te m Fe Fr Q) s:=by
  refine AWP.loop S I μ i0 hI hw λi hi=>?_;have hG:EnvOK C ⟨te,calls,loops i,m,N,fuel⟩:=⟨hte.ok,hte.one,hc⟩;refine(wc2 hG x _ _ (by rw[hls i];exact(hL i).all) (round i hi)).mono λe s hq=>wpz (λs hs=>?_) e s hq;obtain⟨i',h3,h1,h2⟩:=hs;obtain⟨ρ,hw'⟩:=wd4 h3 (wb8 (hS i')).1;exact⟨i',ρ,h1,h2,hw'⟩
 exact key.canQ
theorem insRow{α:Type}[Inhabited α](enc:α->List AV)(L:List α)(x:α)(p:Nat)(hp:p<=L.length)(e0 ch:Nat->List AV)(hch:ch 0=enc x)(j:Nat)(hj:j<0+p+1+(L.length - p)):
  apF (0+p+1) (apF (0+p) (apF 0 e0 (λi=>enc (L.getD i default))) ch) (λi=>enc (L.getD (p+i) default)) j=enc ((L.take p++x::L.drop p).getD j default):=by
 unfold apF;have hlt:(L.take p).length=p:=by simp[hp]
 by_cases h1:j<p
 ·rw[if_pos (by omega),if_pos (by omega),if_neg (by omega)];show enc _=enc _;congr 1;rw[List.getD_eq_getElem?_getD,List.getD_eq_getElem?_getD,List.getElem?_append_left (by omega),List.getElem?_take,if_pos h1];rfl
 ·by_cases h2:j=p
  ·subst h2;rw[if_pos (by omega),if_neg (by omega),Nat.zero_add,Nat.sub_self,hch];show enc _=enc _;congr 1;rw[List.getD_eq_getElem?_getD,List.getElem?_append_right (by omega),hlt,Nat.sub_self];rfl
  ·rw[if_neg (by omega)];show enc _=enc _;congr 1;rw[List.getD_eq_getElem?_getD,List.getD_eq_getElem?_getD,List.getElem?_append_right (by omega),hlt];obtain⟨q,rfl⟩:∃q,j=p+1+q:=⟨j - (p+1),by omega⟩;rw[show p+1+q - p=q+1 by omega,List.getElem?_cons_succ,List.getElem?_drop,show p+1+q - (0+p+1)=q by omega]
theorem wj8{α:Type}[Inhabited α](enc:α->List AV)(L:List α)(x:α)(ch:Nat->List AV)(hch:ch 0=enc x)(j:Nat)(hj:j<L.length+1):
  apF L.length (λi=>enc (L.getD i default)) ch j=enc ((L++[x]).getD j default):=by
 unfold apF
 by_cases h1:j<L.length
 ·rw[if_pos h1];show enc _=enc _;congr 1;rw[List.getD_eq_getElem?_getD,List.getD_eq_getElem?_getD,List.getElem?_append_left h1]
 ·have:j=L.length:=by omega
  subst this;rw[if_neg h1,Nat.sub_self,hch];show enc _=enc _;congr 1;simp
end Go.Eng
