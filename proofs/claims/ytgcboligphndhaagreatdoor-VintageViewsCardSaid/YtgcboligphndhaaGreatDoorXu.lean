/- The weakest precondition as a function: a region that draws its order, each order by itself. -/
import Derived.Test.YtgcboligphndhaaGreatDoorXt
namespace Go.Eng
structure MG.Rg (m:MG):Prop where
 seq:inR .i64 m.seq
 kind:inR .i64 m.kind
 per:inR .i64 m.v.per
 day:inR .i64 m.v.day
 st:inR .i64 m.v.st
 pr:inR .i64 m.v.pr
 dper:inR .i64 m.d.per
 num:inR .i64 m.d.num
structure RW.Rg (r:RW):Prop where
 per:inR .i64 r.per
 u:inR .i64 r.u
 tv:inR .i64 r.tv
structure RT.Rg (t:RT):Prop where
 per:inR .i64 t.per
 st:inR .i64 t.st
 n:t.bs.length<=1000
 b:∀b∈t.bs,inR .i64 b.up/\inR .i64 b.pr
structure FL.Rg (F:FL):Prop where
 ver:inR .i64 F.ver
 kind:inR .i64 F.kind
 nm:F.ms.length<=1000
 nr:F.rs.length<=1000
 nt:F.ts.length<=1000
 m:∀m∈F.ms,m.Rg
 r:∀r∈F.rs,r.Rg
 t:∀t∈F.ts,t.Rg
 len:(encF F).length<=1099511627776
def e1F(F:FL):Nat->List UInt8
 |0=>txtE F.id++(numE F.ver++(numE F.kind++numE F.ms.length))
 |k+1=>e1F F k++mgE (atM F.ms k)
def e2F(F:FL):Nat->List UInt8
 |0=>e1F F F.ms.length++numE F.rs.length
 |k+1=>e2F F k++rwE (atR F.rs k)
def e3F(F:FL):Nat->List UInt8
 |0=>e2F F F.rs.length++numE F.ts.length
 |k+1=>e3F F k++rtE (atT F.ts k)
def e4F(L:List UInt8)(t:RT):Nat->List UInt8
 |0=>L++(txtE t.o++(txtE t.p++(numE t.per++(numE t.st++numE t.bs.length))))
 |k+1=>e4F L t k++bkE (atB t.bs k)
theorem wi8{α:Type}(e:α->List UInt8)(d:α)(l:List α)(g:Nat->List UInt8)(L:List UInt8)(h0:g 0=L)(hs:∀k,k<l.length->g (k+1)=g k++e (l.getD k d)):∀k,k<=l.length->g k=L++(l.take k).flatMap e
 |0,_=>by simp[h0]
 |k+1,h=>by
  rw[hs k (by omega),wi8 e d l g L h0 hs k (by omega),List.take_add_one,List.append_assoc];congr 1;rw[List.flatMap_append];congr 1;simp[List.getD,List.getElem?_eq_getElem (show k<l.length by omega)]
theorem e1F_all(F:FL):e1F F F.ms.length=e1F F 0++F.ms.flatMap mgE:=by
 rw[wi8 mgE default F.ms (e1F F) (e1F F 0) rfl (λ_ _=>rfl) _ (lR7 _),List.take_length]
theorem e2F_all(F:FL):e2F F F.rs.length=e2F F 0++F.rs.flatMap rwE:=by
 rw[wi8 rwE default F.rs (e2F F) (e2F F 0) rfl (λ_ _=>rfl) _ (lR7 _),List.take_length]
theorem e3F_all(F:FL):e3F F F.ts.length=e3F F 0++F.ts.flatMap rtE:=by
 rw[wi8 rtE we9 F.ts (e3F F) (e3F F 0) rfl (λ_ _=>rfl) _ (lR7 _),List.take_length]
theorem wli(L:List UInt8)(t:RT):e4F L t t.bs.length=L++rtE t:=by
 rw[wi8 bkE ⟨0,0⟩ t.bs (e4F L t) (e4F L t 0) rfl (λ_ _=>rfl) _ (lR7 _),List.take_length];simp only[e4F,rtE,List.append_assoc]
theorem wgn(F:FL):e3F F F.ts.length=encF F:=by
 rw[e3F_all,e3F,e2F_all,e2F,e1F_all,e1F];simp only[encF,List.append_assoc]
def S_p1(F:FL)(k:Nat):St:=⟨[(1,.ptr 0 0),(3,.ptr 1 0),(28,.view 15 F.ms.length (waf (atM F.ms))),(29,.q F.ms.length),(30,.q k)],[(0,.cells [.str F.id,.q F.ver,.q F.day,.q F.kind,.view 15 F.ms.length (waf (atM F.ms)),.view 5 F.rs.length (wah (atR F.rs)),.view 5 F.ts.length (wag (atT F.ts))] 49),(1,.cells [.ptr 1 0,.own 2 (e1F F k).length] 111),(2,.row 5 1 (e1F F k).length (strG (e1F F k)) false)],3,[]⟩
def L_p1(F:FL):wao:=λst Q=>canonIs te 0 [1,3,28,29,30] st (S_p1 F 0)/\F.Rg/\Q (.exit 0) ⟨[(1,.ptr 0 0),(3,.ptr 1 0)],[(0,.cells [.str F.id,.q F.ver,.q F.day,.q F.kind,.view 15 F.ms.length (waf (atM F.ms)),.view 5 F.rs.length (wah (atR F.rs)),.view 5 F.ts.length (wag (atT F.ts))] 49),(1,.cells [.ptr 1 0,.own 2 (e1F F F.ms.length).length] 111),(2,.row 5 1 (e1F F F.ms.length).length (strG (e1F F F.ms.length)) false)],3,[]⟩
def S_q1(F:FL)(k:Nat):St:=⟨[(1,.ptr 0 0),(3,.str (e1F F k)),(29,.view 15 F.ms.length (waf (atM F.ms))),(30,.q F.ms.length),(31,.q k)],[(0,.cells [.str F.id,.q F.ver,.q F.day,.q F.kind,.view 15 F.ms.length (waf (atM F.ms)),.view 5 F.rs.length (wah (atR F.rs)),.view 5 F.ts.length (wag (atT F.ts))] 49)],1,[]⟩
def L_q1(F:FL):wao:=λst Q=>canonIs te 0 [1,3,29,30,31] st (S_q1 F 0)/\F.Rg/\Q (.exit 0) ⟨[(1,.ptr 0 0),(3,.str (e1F F F.ms.length))],[(0,.cells [.str F.id,.q F.ver,.q F.day,.q F.kind,.view 15 F.ms.length (waf (atM F.ms)),.view 5 F.rs.length (wah (atR F.rs)),.view 5 F.ts.length (wag (atT F.ts))] 49)],1,[]⟩
def S_p2(F:FL)(k:Nat):St:=⟨[(1,.ptr 0 0),(3,.ptr 1 0),(91,.view 5 F.rs.length (wah (atR F.rs))),(92,.q F.rs.length),(93,.q k)],[(0,.cells [.str F.id,.q F.ver,.q F.day,.q F.kind,.view 15 F.ms.length (waf (atM F.ms)),.view 5 F.rs.length (wah (atR F.rs)),.view 5 F.ts.length (wag (atT F.ts))] 49),(1,.cells [.ptr 1 0,.own 2 (e2F F k).length] 111),(2,.row 5 1 (e2F F k).length (strG (e2F F k)) false)],3,[]⟩
def L_p2(F:FL):wao:=λst Q=>canonIs te 0 [1,3,91,92,93] st (S_p2 F 0)/\F.Rg/\Q (.exit 2) ⟨[(1,.ptr 0 0),(3,.ptr 1 0)],[(0,.cells [.str F.id,.q F.ver,.q F.day,.q F.kind,.view 15 F.ms.length (waf (atM F.ms)),.view 5 F.rs.length (wah (atR F.rs)),.view 5 F.ts.length (wag (atT F.ts))] 49),(1,.cells [.ptr 1 0,.own 2 (e2F F F.rs.length).length] 111),(2,.row 5 1 (e2F F F.rs.length).length (strG (e2F F F.rs.length)) false)],3,[]⟩
def S_q2(F:FL)(k:Nat):St:=⟨[(1,.ptr 0 0),(3,.str (e2F F k)),(108,.view 5 F.rs.length (wah (atR F.rs))),(109,.q F.rs.length),(110,.q k)],[(0,.cells [.str F.id,.q F.ver,.q F.day,.q F.kind,.view 15 F.ms.length (waf (atM F.ms)),.view 5 F.rs.length (wah (atR F.rs)),.view 5 F.ts.length (wag (atT F.ts))] 49)],1,[]⟩
def L_q2(F:FL):wao:=λst Q=>canonIs te 0 [1,3,108,109,110] st (S_q2 F 0)/\F.Rg/\Q (.exit 2) ⟨[(1,.ptr 0 0),(3,.str (e2F F F.rs.length))],[(0,.cells [.str F.id,.q F.ver,.q F.day,.q F.kind,.view 15 F.ms.length (waf (atM F.ms)),.view 5 F.rs.length (wah (atR F.rs)),.view 5 F.ts.length (wag (atT F.ts))] 49)],1,[]⟩
def S_p3(F:FL)(k:Nat):St:=⟨[(3,.ptr 0 0),(118,.view 5 F.ts.length (wag (atT F.ts))),(119,.q F.ts.length),(120,.q k)],[(0,.cells [.ptr 0 0,.own 1 (e3F F k).length] 111),(1,.row 5 1 (e3F F k).length (strG (e3F F k)) false)],2,[]⟩
def L_p3(F:FL):wao:=λst Q=>canonIs te 0 [3,118,119,120] st (S_p3 F 0)/\F.Rg/\Q (.exit 4) ⟨[(3,.ptr 0 0)],[(0,.cells [.ptr 0 0,.own 1 (e3F F F.ts.length).length] 111),(1,.row 5 1 (e3F F F.ts.length).length (strG (e3F F F.ts.length)) false)],2,[]⟩
def S_q3(F:FL)(k:Nat):St:=⟨[(3,.str (e3F F k)),(140,.view 5 F.ts.length (wag (atT F.ts))),(141,.q F.ts.length),(142,.q k)],[],0,[]⟩
def L_q3(F:FL):wao:=λst Q=>canonIs te 0 [3,140,141,142] st (S_q3 F 0)/\F.Rg/\Q (.exit 4) ⟨[(3,.str (e3F F F.ts.length))],[],0,[]⟩
def S_ms(F:FL)(k:Nat)(m:MG)(L:List UInt8):St:=⟨[(1,.ptr 0 0),(3,.ptr 1 0),(5,.ptr 2 0),(6,.ptr 3 0),(7,.ptr 4 0),(28,.view 15 F.ms.length (waf (atM F.ms))),(29,.q F.ms.length),(30,.q k)],[(0,.cells [.str F.id,.q F.ver,.q F.day,.q F.kind,.view 15 F.ms.length (waf (atM F.ms)),.view 5 F.rs.length (wah (atR F.rs)),.view 5 F.ts.length (wag (atT F.ts))] 49),(1,.cells [.ptr 1 0,.own 5 L.length] 111),(2,.cells [.str m.dev,.q m.seq,.q m.kind,.str m.v.o,.str m.v.p,.q m.v.per,.q m.v.day,.q m.v.st,.q m.v.pr,.str m.v.rep,.str m.d.o,.str m.d.p,.q m.d.per,.str m.d.dev,.q m.d.num] 40),(3,.cells [.str m.v.o,.str m.v.p,.q m.v.per,.q m.v.day,.q m.v.st,.q m.v.pr,.str m.v.rep] 36),(4,.cells [.str m.d.o,.str m.d.p,.q m.d.per,.str m.d.dev,.q m.d.num] 38),(5,.row 5 1 (L).length (strG (L)) false)],6,[]⟩
def L_m8(F:FL)(k:Nat)(m:MG)(L:List UInt8):wao:=λst Q=>canonIs te 0 [1,3,5,6,7,28,29,30] st (S_ms F k m L)/\m.Rg/\(L++(txtE m.dev)).length<=1099511627776/\Q .normal (S_ms F k m (L++(txtE m.dev)))
def L_m9(F:FL)(k:Nat)(m:MG)(L:List UInt8):wao:=λst Q=>canonIs te 0 [1,3,5,6,7,28,29,30] st (S_ms F k m L)/\m.Rg/\(L++(numE m.seq++(numE m.kind))).length<=1099511627776/\Q .normal (S_ms F k m (L++(numE m.seq++(numE m.kind))))
def wpb(F:FL)(k:Nat)(m:MG)(L:List UInt8):wao:=λst Q=>canonIs te 0 [1,3,5,6,7,28,29,30] st (S_ms F k m L)/\m.Rg/\(L++(txtE m.v.o++(txtE m.v.p))).length<=1099511627776/\Q .normal (S_ms F k m (L++(txtE m.v.o++(txtE m.v.p))))
def wpa(F:FL)(k:Nat)(m:MG)(L:List UInt8):wao:=λst Q=>canonIs te 0 [1,3,5,6,7,28,29,30] st (S_ms F k m L)/\m.Rg/\(L++(numE m.v.per++(numE m.v.day++(numE m.v.st++(numE m.v.pr))))).length<=1099511627776/\Q .normal (S_ms F k m (L++(numE m.v.per++(numE m.v.day++(numE m.v.st++(numE m.v.pr))))))
def wo9(F:FL)(k:Nat)(m:MG)(L:List UInt8):wao:=λst Q=>canonIs te 0 [1,3,5,6,7,28,29,30] st (S_ms F k m L)/\m.Rg/\(L++(txtE m.v.rep++(txtE m.d.o++(txtE m.d.p)))).length<=1099511627776/\Q .normal (S_ms F k m (L++(txtE m.v.rep++(txtE m.d.o++(txtE m.d.p)))))
def wo8(F:FL)(k:Nat)(m:MG)(L:List UInt8):wao:=λst Q=>canonIs te 0 [1,3,5,6,7,28,29,30] st (S_ms F k m L)/\m.Rg/\(L++(numE m.d.per)).length<=1099511627776/\Q .normal (S_ms F k m (L++(numE m.d.per)))
def wo7(F:FL)(k:Nat)(m:MG)(L:List UInt8):wao:=λst Q=>canonIs te 0 [1,3,5,6,7,28,29,30] st (S_ms F k m L)/\m.Rg/\(L++(txtE m.d.dev)).length<=1099511627776/\Q .normal (S_ms F k m (L++(txtE m.d.dev)))
def wo6(F:FL)(k:Nat)(m:MG)(L:List UInt8):wao:=λst Q=>canonIs te 0 [1,3,5,6,7,28,29,30] st (S_ms F k m L)/\m.Rg/\(L++(numE m.d.num)).length<=1099511627776/\Q .normal (S_ms F k m (L++(numE m.d.num)))
def S_p4(F:FL)(k:Nat)(L:List UInt8)(t:RT)(j:Nat):St:=⟨[(3,.ptr 0 0),(118,.view 5 F.ts.length (wag (atT F.ts))),(119,.q F.ts.length),(120,.q k),(143,.view 2 t.bs.length (was (atB t.bs))),(144,.q t.bs.length),(145,.q j)],[(0,.cells [.ptr 0 0,.own 1 (e4F L t j).length] 111),(1,.row 5 1 (e4F L t j).length (strG (e4F L t j)) false)],2,[]⟩
def L_p4(F:FL)(k:Nat)(L:List UInt8)(t:RT):wao:=λst Q=>canonIs te 0 [3,118,119,120,143,144,145] st (S_p4 F k L t 0)/\t.Rg/\(e4F L t t.bs.length).length<=1099511627776/\Q (.exit 6) ⟨[(3,.ptr 0 0),(118,.view 5 F.ts.length (wag (atT F.ts))),(119,.q F.ts.length),(120,.q k)],[(0,.cells [.ptr 0 0,.own 1 (L++rtE t).length] 111),(1,.row 5 1 (L++rtE t).length (strG (L++rtE t)) false)],2,[]⟩
def S_q4(F:FL)(k:Nat)(L:List UInt8)(t:RT)(j:Nat):St:=⟨[(3,.str (e4F L t j)),(140,.view 5 F.ts.length (wag (atT F.ts))),(141,.q F.ts.length),(142,.q k),(168,.view 2 t.bs.length (was (atB t.bs))),(169,.q t.bs.length),(170,.q j)],[],0,[]⟩
def L_q4(F:FL)(k:Nat)(L:List UInt8)(t:RT):wao:=λst Q=>canonIs te 0 [3,140,141,142,168,169,170] st (S_q4 F k L t 0)/\t.Rg/\(e4F L t t.bs.length).length<=1099511627776/\Q (.exit 6) ⟨[(3,.str (L++rtE t)),(140,.view 5 F.ts.length (wag (atT F.ts))),(141,.q F.ts.length),(142,.q k)],[],0,[]⟩
def S_q1s(F:FL)(s:List UInt8)(k:Nat):St:=⟨[(1,.ptr 0 0),(3,.str s),(29,.view 15 F.ms.length (waf (atM F.ms))),(30,.q F.ms.length),(31,.q k)],[(0,.cells [.str F.id,.q F.ver,.q F.day,.q F.kind,.view 15 F.ms.length (waf (atM F.ms)),.view 5 F.rs.length (wah (atR F.rs)),.view 5 F.ts.length (wag (atT F.ts))] 49)],1,[]⟩
def S_q2s(F:FL)(s:List UInt8)(k:Nat):St:=⟨[(1,.ptr 0 0),(3,.str s),(108,.view 5 F.rs.length (wah (atR F.rs))),(109,.q F.rs.length),(110,.q k)],[(0,.cells [.str F.id,.q F.ver,.q F.day,.q F.kind,.view 15 F.ms.length (waf (atM F.ms)),.view 5 F.rs.length (wah (atR F.rs)),.view 5 F.ts.length (wag (atT F.ts))] 49)],1,[]⟩
def S_q3s(F:FL)(s:List UInt8)(k:Nat):St:=⟨[(3,.str s),(140,.view 5 F.ts.length (wag (atT F.ts))),(141,.q F.ts.length),(142,.q k)],[],0,[]⟩
def S_q4s(F:FL)(k:Nat)(s:List UInt8)(t:RT)(j:Nat):St:=⟨[(3,.str s),(140,.view 5 F.ts.length (wag (atT F.ts))),(141,.q F.ts.length),(142,.q k),(168,.view 2 t.bs.length (was (atB t.bs))),(169,.q t.bs.length),(170,.q j)],[],0,[]⟩
def wc4:Spec
 |[.agg [.str id,.int .i64 ver,.int .i64 day,.int .i64 kind,.view 15 nm fm,.view 5 nr fr,.view 5 nt ft]],[]=>some (.str (encF (flV id ver day kind nm fm nr fr nt ft)),[],FlC nm fm nr fr nt ft/\(flV id ver day kind nm fm nr fr nt ft).Rg)
 |_,_=>none
def wjr:AV:=.agg [.str [],.q 0,.q 0,.q 0,.nil,.nil,.nil]
def zeroFA:AV:=.agg [.str [],.q 0,.q 0,.q 0,.view 0 0 (λ_=>[]),.view 0 0 (λ_=>[]),.view 0 0 (λ_=>[])]
def entN(g:Nat->FL)(k:Nat):List (AV×AV):=(wa1 okV g k).map λt=>(.str t,.agg (wbc (wbg okV g k t)))
def gotN(es:List (AV×AV))(x:List UInt8):AV:=(mget es (.str x)).getD zeroFA
def cmpN(es:List (AV×AV))(x y:List UInt8):Int:=orL [cmpS (wb4 (wa2 (gotN es x) 0)) (wb4 (wa2 (gotN es y) 0)),cmpI (war (wa2 (gotN es x) 1)) (war (wa2 (gotN es y) 1)),cmpI (war (wa2 (gotN es x) 2)) (war (wa2 (gotN es y) 2)),cmpS x y]
structure FL.Gd (F:FL):Prop where
 sm:F.Sm
 rg:F.Rg
def S_n3(g:Nat->FL)(n k:Nat):St:=⟨[(3,.ptr 0 0),(15,.view 7 n (waa g)),(16,.q n),(17,.q k)],[(0,.cells [.map 1] 121),(1,.amap (entN g k))],2,[]⟩
def L_n3(g:Nat->FL)(n:Nat):wao:=λst Q=>canonIs te 0 [3,15,16,17] st (S_n3 g n 0)/\n<=1000/\(∀i,i<n->(g i).Gd)/\Q (.exit 0) ⟨[(3,.ptr 0 0)],[(0,.cells [.map 1] 121),(1,.amap (entN g n))],2,[]⟩
structure IN where
 c:Nat
 h:Nat->List UInt8
 c0:Nat
 left:List Nat
def wm3(es:List (AV×AV))(i:IN):St:=⟨[(3,.ptr 0 0),(9,.own 1 i.c),(46,.ptr 2 0)],[(0,.cells [.map 3] 121),(1,.row 9 1 i.c (wa0 i.h) false),(2,.miter 3 es.length (121::i.c0::i.left)),(3,.amap es)],4,[]⟩
def wo4(g:Nat->FL)(n:Nat):wao:=λst Q=>canonIs te 0 [3,9,46] (ownNil 9 9 1 st) (wm3 (entN g n) ⟨0,λ_=>[],(entN g n).length,List.range (entN g n).length⟩)/\n<=1000/\
 ∀h:Nat->List UInt8,(lst h (wa1 okV g n).length).Perm (wa1 okV g n)->Q (.exit 2) ⟨[(3,.ptr 0 0),(9,.own 1 (wa1 okV g n).length)],[(0,.cells [.map 2] 121),(1,.row 9 1 (wa1 okV g n).length (wa0 h) false),(2,.amap (entN g n))],3,[]⟩
def wob:wcc
 |[.own 0 n,.func 92 [.ptr 1 0]],[.row t 1 m f fr,.cells [.map 2] ct,.amap es],R=>t=9/\fr=false/\n=m/\n<=1000000/\f=wa0 (stOf f)/\wbv .string es/\(∀x,wcq wjr (gotN es x)=gotN es x)/\(∀p∈es,nref p.1=true/\nref p.2=true)/\
   ∀h:Nat->List UInt8,(lst h n).Perm (lst (stOf f) n)->(∀i j,i<j->j<n->¬ cmpN es (h j) (h i)<0)->R (.tuple []) [(0,.row 9 1 n (wa0 h) false),(1,.cells [.map 2] ct),(2,.amap es)]
 |_,_,_=>False
def isFl(u:AV)(F:FL):Prop:=u= .agg (wbc F)
def wnv:Spec
 |[u],[]=>some (u,[],∃F:FL,isFl u F/\F.ms.length<=1000/\F.rs.length<=1000/\F.ts.length<=1000/\∀t∈F.ts,t.bs.length<=1000)
 |_,_=>none
def wm2(es:List (AV×AV))(m:Nat)(h:Nat->List UInt8)(o:Nat->FL)(k:Nat):St:=⟨[(3,.ptr 0 0),(11,.own 1 k),(58,.own 2 m),(59,.q m),(60,.q k)],
 [(0,.cells [.map 3] 121),(1,.row 49 7 k (waa o) false),(2,.row 9 1 m (wa0 h) false),(3,.amap es)],4,[]⟩
def wo3(g:Nat->FL)(n:Nat):wao:=λst Q=>∃h:Nat->List UInt8,∃o:Nat->FL,canonIs te 0 [3,11,58,59,60] (ownNil 11 49 7 st) (wm2 (entN g n) (wa1 okV g n).length h o 0)/\n<=1000/\(∀i,i<(wa1 okV g n).length->isFl (gotN (entN g n) (h i)) (o i)/\(o i).Gd)/\
 Q (.exit 4) ⟨[(11,.own 0 (wa1 okV g n).length)],[(0,.row 49 7 (wa1 okV g n).length (waa o) false)],1,[]⟩
def wmx:Spec
 |[.view 7 n f],[]=>some (.own 0 (nrmL okV (flOf f) n).length,[(0,.row 49 7 (nrmL okV (flOf f) n).length (waa (atF (nrmL okV (flOf f) n))) false)],n<=1000/\f=waa (flOf f)/\∀i,i<n->(flOf f i).Gd)
 |_,_=>none
end Go.Eng
namespace Go.Eng
open Go.Lib
structure MG.Tn (m:MG):Prop where
 rg:m.Rg
 a:m.dev.length<=100
 b:m.v.o.length<=100
 c:m.v.p.length<=100
 d:m.v.rep.length<=100
 e:m.d.o.length<=100
 f:m.d.p.length<=100
 g:m.d.dev.length<=100
structure RW.Tn (r:RW):Prop where
 rg:r.Rg
 a:r.o.length<=100
 b:r.p.length<=100
structure RT.Tn (t:RT):Prop where
 rg:t.Rg
 a:t.o.length<=100
 b:t.p.length<=100
structure FL.Tn (F:FL):Prop where
 id:F.id.length<=100
 ver:inR .i64 F.ver
 kind:inR .i64 F.kind
 m:F.ms.length<=1000/\∀m∈F.ms,m.Tn
 r:F.rs.length<=1000/\∀r∈F.rs,r.Tn
 t:F.ts.length<=1000/\∀t∈F.ts,t.Tn
theorem wuu:∀(k u:Nat),u<10 ^ (k+1)->nDigits u<=k+1
 |0,u,h=>by rw[nDigits_small (by omega)];exact lR7 _
 |k+1,u,h=>by
  by_cases q:u<10
  ·rw[nDigits_small q];omega
  ·rw[nDigits_big q];have:=wuu k (u / 10) (by rw[Nat.pow_succ] at h;omega);omega
theorem wut(u:Nat)(h:u<18446744073709551616):nDigits u<=20:=wuu 19 u (by omega)
theorem itoa21{n:Int}(h:inR .i64 n):(itoa n).length<=21:=by
 simp only[inR] at h;unfold itoa
 by_cases q:n<0
 ·rw[if_pos q,List.length_cons,decDigits_length];have:=wut n.natAbs (by omega);omega
 ·rw[if_neg q,decDigits_length];have:=wut n.toNat (by omega);omega
theorem wce{n:Int}(h:inR .i64 n):(numE n).length<=22:=by
 have:=itoa21 h;unfold numE;rw[lA7];show _+1<=_;omega
theorem wki{n:Nat}(h:n<=1000):(numE n).length<=22:=wce (by simp only[inR];omega)
theorem wdh{s:List UInt8}(h:s.length<=100):(txtE s).length<=123:=by
 have:=itoa21 (n:=(s.length:Int)) (by simp only[inR];omega);unfold txtE;rw[lA7,List.length_cons,lA7];show _+(s.length+1+1)<=_;omega
theorem wi7{α:Type}(e:α->List UInt8)(B:Nat):∀l:List α,(∀x∈l,(e x).length<=B)->(l.flatMap e).length<=l.length * B
 |[],_=>by simp
 |x::l,h=>by
  have h1:=h x (List.mem_cons_self ..);have h2:=wi7 e B l λy hy=>h y (List.mem_cons_of_mem _ hy);rw[List.flatMap_cons,lA7,List.length_cons,Nat.add_mul,Nat.one_mul];omega
theorem mgE_len{m:MG}(h:m.Tn):(mgE m).length<=1100:=by
 have h1:=wdh h.a;have h2:=wdh h.b;have h3:=wdh h.c;have h4:=wdh h.d;have h5:=wdh h.e;have h6:=wdh h.f;have h7:=wdh h.g;have n1:=wce h.rg.seq;have n2:=wce h.rg.kind;have n3:=wce h.rg.per;have n4:=wce h.rg.day;have n5:=wce h.rg.st;have n6:=wce h.rg.pr;have n7:=wce h.rg.dper;have n8:=wce h.rg.num;unfold mgE;simp only[lA7];omega
theorem rwE_len{r:RW}(h:r.Tn):(rwE r).length<=1100:=by
 have h1:=wdh h.a;have h2:=wdh h.b;have n1:=wce h.rg.per;have n2:=wce h.rg.u;have n3:=wce h.rg.tv;unfold rwE;simp only[lA7];omega
theorem rtE_len{t:RT}(h:t.Tn):(rtE t).length<=50000:=by
 have h1:=wdh h.a;have h2:=wdh h.b;have n1:=wce h.rg.per;have n2:=wce h.rg.st;have n3:=wki h.rg.n;have hb:=wi7 bkE 44 t.bs λb hb=>by
  have q1:=wce (h.rg.b b hb).1;have q2:=wce (h.rg.b b hb).2;unfold bkE;rw[lA7];omega
 have hm:t.bs.length * 44<=1000 * 44:=Nat.mul_le_mul_right _ h.rg.n;unfold rtE;simp only[lA7];omega
theorem FL.Tn.rg{F:FL}(h:F.Tn):F.Rg:=by
 refine⟨h.ver,h.kind,h.m.1,h.r.1,h.t.1,λm hm=>(h.m.2 m hm).rg,λr hr=>(h.r.2 r hr).rg,λt ht=>(h.t.2 t ht).rg,?_⟩;have h1:=wdh h.id;have n1:=wce h.ver;have n2:=wce h.kind;have n3:=wki h.m.1;have n4:=wki h.r.1;have n5:=wki h.t.1;have f1:=wi7 mgE 1100 F.ms λm hm=>mgE_len (h.m.2 m hm);have f2:=wi7 rwE 1100 F.rs λr hr=>rwE_len (h.r.2 r hr);have f3:=wi7 rtE 50000 F.ts λt ht=>rtE_len (h.t.2 t ht);have m1:F.ms.length * 1100<=1000 * 1100:=Nat.mul_le_mul_right _ h.m.1;have m2:F.rs.length * 1100<=1000 * 1100:=Nat.mul_le_mul_right _ h.r.1;have m3:F.ts.length * 50000<=1000 * 50000:=Nat.mul_le_mul_right _ h.t.1;unfold encF;simp only[lA7];omega
theorem MG.Tn.sm{m:MG}(h:m.Tn):m.Sm:=⟨by have:=h.a;omega,by have:=h.b;omega,by have:=h.e;omega,by have:=h.g;omega⟩
theorem FL.Tn.gd{F:FL}(h:F.Tn):F.Gd:=
 ⟨⟨by have:=h.id;omega,⟨h.m.1,λm hm=>(h.m.2 m hm).sm⟩,⟨h.r.1,λr hr=>by have:=(h.r.2 r hr).a;omega⟩,⟨h.t.1,λt ht=>⟨by have:=(h.t.2 t ht).a;omega⟩⟩⟩,h.rg⟩
theorem wqu{s:List UInt8}(h:wa3 s=true):s.length<=24:=by
 unfold wa3 at h;simp only[bA7,decide_eq_true_eq] at h;omega
theorem wp3{s:List UInt8}(h:wba s=true):s.length<=13:=by
 unfold wba wbp at h;split at h
 ·rename_i q;simp only[bA7,Bool.or_eq_true,decide_eq_true_eq] at q;omega
 ·cases h
theorem wqb{o p:List UInt8}{per:Int}(h:wbh o p per=true):o.length<=24/\p.length<=13/\0<=per/\per<=5999:=by
 unfold wbh at h;simp only[bA7,decide_eq_true_eq] at h;exact⟨wqu h.1.1.1,wp3 h.1.1.2,h.1.2,h.2⟩
theorem wqh{r:RW}(h:rowF r=true):r.Tn:=by
 unfold rowF at h;simp only[bA7,decide_eq_true_eq] at h;obtain⟨h1,h2,h3,h4⟩:=wqb h.1.1;exact⟨⟨by simp only[inR];omega,by simp only[inR];omega,by simp only[inR];omega⟩,by omega,by omega⟩
theorem wuk{n:Int}(h:numF n=true):inR .i64 n:=by
 unfold numF at h;simp only[bA7,decide_eq_true_eq] at h;simp only[inR];omega
theorem visF_tn{v:VT}(h:visF v=true):v.o.length<=24/\v.p.length<=13/\v.rep.length<=13/\inR .i64 v.per/\inR .i64 v.day/\inR .i64 v.st/\inR .i64 v.pr:=by
 unfold visF at h;simp only[bA7,decide_eq_true_eq] at h;obtain⟨⟨⟨h0,h1⟩,h2⟩,h3⟩:=h;obtain⟨k1,k2,k3,k4⟩:=wqb h0;have hp:inR .i64 v.per:=by simp only[inR];omega
 have hd:inR .i64 v.day:=by simp only[inR];omega
 by_cases q1:v.st=1∨v.st=2
 ·have:(decide (v.st=1) || decide (v.st=2))=true:=by rcases q1 with q | q<;>simp[q]
  rw[this] at h3;simp only[cond_true,bA7,decide_eq_true_eq] at h3;exact⟨k1,k2,by rw[h3.2];simp,hp,hd,by simp only[inR];omega,by simp only[inR];omega⟩
 ·have:(decide (v.st=1) || decide (v.st=2))=false:=by simp only[Bool.or_eq_false_iff,decide_eq_false_iff_not];omega
  rw[this] at h3;simp only[cond_false] at h3
  by_cases q2:v.st=3∨v.st=4
  ·have:(decide (v.st=3) || decide (v.st=4))=true:=by rcases q2 with q | q<;>simp[q]
   rw[this] at h3;simp only[cond_true,bA7,decide_eq_true_eq] at h3;exact⟨k1,k2,by rw[h3.2];simp,hp,hd,by simp only[inR];omega,by simp only[inR];omega⟩
  ·have:(decide (v.st=3) || decide (v.st=4))=false:=by simp only[Bool.or_eq_false_iff,decide_eq_false_iff_not];omega
   rw[this] at h3;simp only[cond_false] at h3
   by_cases q3:v.st=5
   ·rw[decide_eq_true q3] at h3;simp only[cond_true,bA7,decide_eq_true_eq] at h3;exact⟨k1,k2,wp3 h3.1.2,hp,hd,by simp only[inR];omega,by simp only[inR];omega⟩
   ·rw[decide_eq_false q3] at h3
    cases h3
theorem wux{m:MG}(h:msgF m=0):m.Tn:=by
 unfold msgF at h
 cases h1:wa3 m.dev with
 |false=>rw[h1] at h;exact absurd (show (110:Int)=0 from h) (by decide)
 |true=>
  cases h2:numF m.seq with
  |false=>rw[h1,h2] at h;exact absurd (show (111:Int)=0 from h) (by decide)
  |true=>
   cases h3: !decide (m.kind=1) && !decide (m.kind=2) with
   |true=>rw[h1,h2,h3] at h;exact absurd (show (112:Int)=0 from h) (by decide)
   |false=>
    cases h4:(decide (m.kind=1) && !visF m.v) || (decide (m.kind=2) && !m.v.nil) with
    |true=>rw[h1,h2,h3,h4] at h;exact absurd (show (113:Int)=0 from h) (by decide)
    |false=>
     cases h5:(decide (m.kind=1) && !m.d.nil) || (decide (m.kind=2) && !(wbh m.d.o m.d.p m.d.per && wa3 m.d.dev && numF m.d.num)) with
     |true=>rw[h1,h2,h3,h4,h5] at h;exact absurd (show (114:Int)=0 from h) (by decide)
     |false=>
      have a:=wqu h1;have b:=wuk h2
      by_cases k1:m.kind=1
      ·have k2:¬ m.kind=2:=by omega
       rw[decide_eq_true k1,decide_eq_false k2] at h4 h5;simp only[Bool.true_and,Bool.false_and,Bool.or_false,Bool.not_eq_false'] at h4 h5;obtain⟨v1,v2,v3,v4,v5,v6,v7⟩:=visF_tn h4;unfold DT.nil at h5;simp only[bA7,decide_eq_true_eq] at h5;obtain⟨d1,d2,d3,d4,d5⟩:=h5;exact⟨⟨b,by simp only[inR];omega,v4,v5,v6,v7,by simp only[inR];omega,by simp only[inR];omega⟩,by omega,by omega,by omega,by omega,by rw[d1];simp,by rw[d2];simp,by rw[d4];simp⟩
      ·have k2:m.kind=2:=by
        rw[decide_eq_false k1] at h3;simp only[Bool.not_false,Bool.true_and,Bool.not_eq_false',decide_eq_true_eq] at h3;exact h3
       rw[decide_eq_false k1,decide_eq_true k2] at h4 h5;simp only[Bool.true_and,Bool.false_and,Bool.false_or,Bool.not_eq_false'] at h4 h5;simp only[bA7] at h5;obtain⟨⟨s1,s2⟩,s3⟩:=h5;obtain⟨t1,t2,t3,t4⟩:=wqb s1;have t5:=wqu s2;unfold VT.nil at h4;simp only[bA7,decide_eq_true_eq] at h4;obtain⟨v1,v2,v3,v4,v5,v6,v7⟩:=h4;exact⟨⟨b,by simp only[inR];omega,by simp only[inR];omega,by simp only[inR];omega,by simp only[inR];omega,by simp only[inR];omega,by simp only[inR];omega,wuk s3⟩,by omega,by rw[v1];simp,by rw[v2];simp,by rw[v7];simp,by omega,by omega,by omega⟩
end Go.Eng
namespace Go.Eng
structure FL.Ri (F:FL):Prop where
 ver:inR .i64 F.ver
 day:inR .i64 F.day
 kind:inR .i64 F.kind
 m:∀m∈F.ms,m.Rg
 r:∀r∈F.rs,r.Rg
 t:∀t∈F.ts,inR .i64 t.per/\inR .i64 t.st/\∀b∈t.bs,inR .i64 b.up/\inR .i64 b.pr
def wgp(m:MG):MG:=⟨m.dev.take 30,m.seq,m.kind,⟨m.v.o.take 30,m.v.p.take 30,m.v.per,m.v.day,m.v.st,m.v.pr,m.v.rep.take 30⟩,⟨m.d.o.take 30,m.d.p.take 30,m.d.per,m.d.dev.take 30,m.d.num⟩⟩
def whd(r:RW):RW:=⟨r.o.take 30,r.p.take 30,r.per,r.u,r.tv⟩
def wb8(t:RT):RT:=⟨t.o.take 30,t.p.take 30,t.per,t.st,t.bs.take 9⟩
def cutF(F:FL):FL:=⟨F.id.take 30,F.ver,F.day,F.kind,(F.ms.take 3).map wgp,(F.rs.take 3).map whd,(F.ts.take 3).map wb8⟩
theorem wcn{α:Type}(l:List α)(n m:Nat)(h:n<=m):(l.take n).length<=m:=by rw[List.length_take];omega
theorem w43{m:MG}(h:m.Rg):(wgp m).Tn:=
 ⟨⟨h.seq,h.kind,h.per,h.day,h.st,h.pr,h.dper,h.num⟩,wcn _ _ _ (by omega),wcn _ _ _ (by omega),wcn _ _ _ (by omega),wcn _ _ _ (by omega),wcn _ _ _ (by omega),wcn _ _ _ (by omega),wcn _ _ _ (by omega)⟩
theorem w42{r:RW}(h:r.Rg):(whd r).Tn:=⟨⟨h.per,h.u,h.tv⟩,wcn _ _ _ (by omega),wcn _ _ _ (by omega)⟩
theorem w41{t:RT}(h:inR .i64 t.per/\inR .i64 t.st/\∀b∈t.bs,inR .i64 b.up/\inR .i64 b.pr):(wb8 t).Tn:=
 ⟨⟨h.1,h.2.1,wcn _ _ _ (by omega),λb hb=>h.2.2 b (List.mem_of_mem_take hb)⟩,wcn _ _ _ (by omega),wcn _ _ _ (by omega)⟩
theorem cutF_tn{F:FL}(h:F.Ri):(cutF F).Tn:=by
 refine⟨wcn _ _ _ (by omega),h.ver,h.kind,⟨?_,λm hm=>?_⟩,⟨?_,λm hm=>?_⟩,⟨?_,λm hm=>?_⟩⟩
 ·show ((F.ms.take 3).map wgp).length<=1000;rw[List.length_map];exact wcn _ _ _ (by omega)
 ·obtain⟨x,hx,rfl⟩:=List.mem_map.1 hm;exact w43 (h.m x (List.mem_of_mem_take hx))
 ·show ((F.rs.take 3).map whd).length<=1000;rw[List.length_map];exact wcn _ _ _ (by omega)
 ·obtain⟨x,hx,rfl⟩:=List.mem_map.1 hm;exact w42 (h.r x (List.mem_of_mem_take hx))
 ·show ((F.ts.take 3).map wb8).length<=1000;rw[List.length_map];exact wcn _ _ _ (by omega)
 ·obtain⟨x,hx,rfl⟩:=List.mem_map.1 hm;exact w41 (h.t x (List.mem_of_mem_take hx))
theorem wr2{α:Type}(d d':α)(φ:α->α)(L:List α)(k i:Nat)(h:i<min k L.length):((L.take k).map φ).getD i d'=φ (L.getD i d):=by
 have h1:i<L.length:=by omega
 have h2:i<k:=by omega
 simp[List.getD_eq_getElem?_getD,h1,h2]
end Go.Eng
namespace Go.Eng
open Go.Proofs Go.RowKit
variable {H:Type} {enc:TypeId×Value->H} {W:World}
def EL(W:World):List Value->List AV->Prop
 |[],[]=>True
 |v::cs,u::us=>(v.oneCell'=true/\V W (λ_=>False) nob v u)/\EL W cs us
 |_,_=>False
theorem EL.len:∀ {cs:List Value} {us:List AV},EL W cs us->cs.length=us.length
 |[],[],_=>rfl
 |_::_,_::_,h=>by rw[List.length_cons,List.length_cons,h.2.len]
theorem EL.get:∀ {cs:List Value} {us:List AV},EL W cs us->∀ {j:Nat} {v:Value},cs[j]?=some v->v.oneCell'=true/\∀u,us[j]?=some u->V W (λ_=>False) nob v u
 |[],[],_,_,_,h=>by simp at h
 |v::cs,u::us,⟨h,_⟩,0,w,hw=>by
  obtain rfl:v=w:=by simpa using hw
  exact⟨h.1,λu' hu=>by
   have hu:some u=some u':=hu;obtain rfl:=oJ7 hu;exact h.2⟩
 |v::cs,u::us,⟨_,h⟩,j+1,w,hw=>by
  have:=h.get (j:=j) (v:=w) (by simpa using hw);exact⟨this.1,λu' hu=>this.2 u' (by simpa using hu)⟩
theorem wif{α:Type}(d:α)(row:α->List AV)(Rg:α->Prop){sz ts t:Nat}(hu:Tryz.prog.underlying ts=some (.slice t))(hc:Tryz.prog.cellsOf t=sz)(hz:0<sz)(hrow:∀a,(row a).length=sz)
  (elem:∀ {sp:Nat->Bool} {hd:Bool} {n:Nat} {cs:List Value} {x:DataW H×List MemPlace},DataW.trod enc Tryz.prog W 0 sp hd n t cs=some x->∃m,Rg m/\EL W cs (row m))
  {fuel:Nat} {cs:List Value} {x:DataW H×List MemPlace} {sp:Nat->Bool} {hd:Bool} (h:DataW.trod enc Tryz.prog W 0 sp hd fuel ts cs=some x):
  ∃(A:Option Addr) (n c:Nat) (g:Nat->α),cs=[.slice A n c]/\V W (λ_=>False) nob (.slice A n c) (.view sz n λi=>row (g i))/\∀i,i<n->Rg (g i):=by
 rcases DataW.trod_slice hu h with⟨rfl,_⟩ | ⟨a,len,cap,elems,rest,n,_,rfl,_,hb,hl,hm,hlen,hel,_⟩
 ·exact⟨none,0,0,λ_=>d,rfl,wl4 _ (lR7 _) (zL7 _) (λi hi=>by omega) (.inl rfl),λi hi=>absurd hi (nZ7 i)⟩
 ·have hat:∀i,∃m,i<len->Rg m/\∃cs',EL W cs' (row m)/\∀j,j<sz->W.cell? (a.add (i * sz+j))=cs'[j]?:=by
   intro i
   by_cases hi:i<len
   ·have h1:=hel i hi;rw[hc,List.getElem?_eq_getElem (by omega),Option.bind_eq_some_iff] at h1;obtain⟨cs',hcs,hy⟩:=h1;obtain⟨m,hR,hE⟩:=elem hy;obtain⟨_,_,h2⟩:=World.cells?_some hcs;exact⟨m,λ_=>⟨hR,cs',hE,λj hj=>by have q:=h2 j hj;rwa [wxi] at q⟩⟩
   ·exact⟨d,λh=>absurd h hi⟩
  let g:Nat->α:=λi=>Classical.choose (hat i)
  have hg:∀i,i<len->Rg (g i)/\∃cs',EL W cs' (row (g i))/\∀j,j<sz->W.cell? (a.add (i * sz+j))=cs'[j]?:=λi=>Classical.choose_spec (hat i);refine⟨some a,len,cap,g,rfl,wl4 _ hl hm (λi _=>hrow (g i)) ?_,λi hi=>(hg i hi).1⟩
  by_cases h0:len=0
  ·exact .inl h0
  ·refine .inr ⟨a,rfl,?_,λi hi j hj=>?_⟩
   ·have h1:=hel 0 (by omega);rw[List.getElem?_eq_getElem (show 0<elems.length by omega),Option.bind_eq_some_iff] at h1;obtain⟨cs',hcs,_⟩:=h1;rw[hc] at hcs;have q:=World.cells?_block hcs (by omega);rw[wxj] at q;exact q
   ·obtain⟨_,cs',hE,hcell⟩:=hg i hi;have hlen':cs'.length=sz:=by rw[hE.len,hrow]
    have e:cs'[j]?=some (cs'[j]'(by omega)):=List.getElem?_eq_getElem (by omega);have q:=hE.get e;exact⟨_,(hcell j hj).trans e,q.1,λu hu=>q.2 u hu⟩
theorem wcg{n:Int}(h:(Lit.int .i64 n).wf=true):inR .i64 n:=by
 have e:IntKind.i64.min= -9223372036854775808:=by decide
 have e2:IntKind.i64.max=9223372036854775807:=by decide
 simpa[Lit.wf,inR,e,e2] using h
theorem undBk:Tryz.prog.underlying 115=some (.struct (fsOf 115)):=by kernel_rfl
theorem undBks:Tryz.prog.underlying 93=some (.slice 115):=by kernel_rfl
theorem undTa:Tryz.prog.underlying 95=some (.struct (fsOf 95)):=by kernel_rfl
theorem undRt:Tryz.prog.underlying 97=some (.struct (fsOf 97)):=by kernel_rfl
theorem undRts:Tryz.prog.underlying 47=some (.slice 97):=by kernel_rfl
theorem undFl:Tryz.prog.underlying 49=some (.struct (fsOf 49)):=by kernel_rfl
theorem undFls:Tryz.prog.underlying 51=some (.slice 49):=by kernel_rfl
theorem cBk:Tryz.prog.cellsOf 115=2:=by kernel_rfl
theorem cBks:Tryz.prog.cellsOf 93=1:=by kernel_rfl
theorem cTa:Tryz.prog.cellsOf 95=2:=by kernel_rfl
theorem cRt:Tryz.prog.cellsOf 97=5:=by kernel_rfl
theorem cRts:Tryz.prog.cellsOf 47=1:=by kernel_rfl
theorem cRws:Tryz.prog.cellsOf 46=1:=by kernel_rfl
theorem cMgs:Tryz.prog.cellsOf 22=1:=by kernel_rfl
theorem cFl:Tryz.prog.cellsOf 49=7:=by kernel_rfl
theorem el_bk{sp:Nat->Bool}{hd:Bool}{n:Nat}{cs:List Value}{x:DataW H×List MemPlace}(h:DataW.trod enc Tryz.prog W 0 sp hd n 115 cs=some x):∃b:BK,(inR .i64 b.up/\inR .i64 b.pr)/\EL W cs [.int .i64 b.up,.int .i64 b.pr]:=by
 obtain⟨xs,n,rfl,_,hc,hl,hf⟩:=DataW.trod_struct undBk h;rw[cBk] at hc;obtain⟨a0,a1,rfl⟩:=list2 hc;obtain⟨y0,h0⟩:=field hl hf 0 2 0 (by kernel_rfl);rw[cI2] at h0;obtain⟨i0,e0,_,w0⟩:=DataW.trod_int wgw h0;have w0:=wcg w0;obtain⟨y1,h1⟩:=field hl hf 1 2 1 (by kernel_rfl);rw[cI2] at h1;obtain⟨i1,e1,_,w1⟩:=DataW.trod_int wgw h1;have w1:=wcg w1;simp at e0 e1;subst e0 e1;exact⟨⟨i0,i1⟩,⟨w0,w1⟩,⟨rfl,.int⟩,⟨rfl,.int⟩,trivial⟩
theorem el_rw{sp:Nat->Bool}{hd:Bool}{n:Nat}{cs:List Value}{x:DataW H×List MemPlace}(h:DataW.trod enc Tryz.prog W 0 sp hd n 61 cs=some x):∃r:RW,r.Rg/\EL W cs [.str r.o,.str r.p,.int .i64 r.per,.int .i64 r.u,.int .i64 r.tv]:=by
 obtain⟨xs,n,rfl,_,hc,hl,hf⟩:=DataW.trod_struct undR h;rw[cR] at hc;obtain⟨a0,a1,a2,a3,a4,rfl⟩:=list5 hc;obtain⟨y0,h0⟩:=field hl hf 0 9 0 (by kernel_rfl);rw[cS] at h0;obtain⟨s0,e0,_⟩:=DataW.trod_string undS h0;obtain⟨y1,h1⟩:=field hl hf 1 9 1 (by kernel_rfl);rw[cS] at h1;obtain⟨s1,e1,_⟩:=DataW.trod_string undS h1;obtain⟨y2,h2⟩:=field hl hf 2 3 2 (by kernel_rfl);rw[cI] at h2;obtain⟨i2,e2,_,w2⟩:=DataW.trod_int undI h2;have w2:=wcg w2;obtain⟨y3,h3⟩:=field hl hf 3 2 3 (by kernel_rfl);rw[cI2] at h3;obtain⟨i3,e3,_,w3⟩:=DataW.trod_int wgw h3;have w3:=wcg w3;obtain⟨y4,h4⟩:=field hl hf 4 2 4 (by kernel_rfl);rw[cI2] at h4;obtain⟨i4,e4,_,w4⟩:=DataW.trod_int wgw h4;have w4:=wcg w4;simp at e0 e1 e2 e3 e4;subst e0 e1 e2 e3 e4;exact⟨⟨s0.data.toList,s1.data.toList,i2,i3,i4⟩,⟨w2,w3,w4⟩,⟨rfl,.str rfl⟩,⟨rfl,.str rfl⟩,⟨rfl,.int⟩,⟨rfl,.int⟩,⟨rfl,.int⟩,trivial⟩
theorem el_mg{sp:Nat->Bool}{hd:Bool}{n:Nat}{cs:List Value}{x:DataW H×List MemPlace}(h:DataW.trod enc Tryz.prog W 0 sp hd n 40 cs=some x):∃m:MG,m.Rg/\EL W cs (mgC m):=by
 obtain⟨xs,n,rfl,_,hc,hl,hf⟩:=DataW.trod_struct undM h;rw[cM] at hc;obtain⟨a0,a1,a2,a3,a4,a5,a6,a7,a8,a9,a10,a11,a12,a13,a14,rfl⟩:=list15 hc;obtain⟨y0,h0⟩:=field hl hf 0 9 0 (by kernel_rfl);obtain⟨y1,h1⟩:=field hl hf 1 3 1 (by kernel_rfl);obtain⟨y2,h2⟩:=field hl hf 2 3 2 (by kernel_rfl);obtain⟨y3,h3⟩:=field hl hf 3 36 3 (by kernel_rfl);obtain⟨y4,h4⟩:=field hl hf 4 38 10 (by kernel_rfl);rw[cS] at h0;rw[cI] at h1 h2;rw[cMV] at h3;rw[cMD] at h4;have h3:DataW.trod enc Tryz.prog W 0 sp hd n 36 [a3,a4,a5,a6,a7,a8,a9]=some y3:=h3;have h4:DataW.trod enc Tryz.prog W 0 sp hd n 38 [a10,a11,a12,a13,a14]=some y4:=h4;obtain⟨xv,nv,_,_,_,lv,fv⟩:=DataW.trod_struct undMV h3;obtain⟨xd,nd,_,_,_,ld,fd⟩:=DataW.trod_struct undMD h4;obtain⟨z3,g3⟩:=field lv fv 0 9 0 (by kernel_rfl);rw[cS] at g3;obtain⟨z4,g4⟩:=field lv fv 1 9 1 (by kernel_rfl);rw[cS] at g4;obtain⟨z5,g5⟩:=field lv fv 2 3 2 (by kernel_rfl);rw[cI] at g5;obtain⟨z6,g6⟩:=field lv fv 3 3 3 (by kernel_rfl);rw[cI] at g6;obtain⟨z7,g7⟩:=field lv fv 4 3 4 (by kernel_rfl);rw[cI] at g7;obtain⟨z8,g8⟩:=field lv fv 5 2 5 (by kernel_rfl);rw[cI2] at g8;obtain⟨z9,g9⟩:=field lv fv 6 9 6 (by kernel_rfl);rw[cS] at g9;obtain⟨z10,g10⟩:=field ld fd 0 9 0 (by kernel_rfl);rw[cS] at g10;obtain⟨z11,g11⟩:=field ld fd 1 9 1 (by kernel_rfl);rw[cS] at g11;obtain⟨z12,g12⟩:=field ld fd 2 3 2 (by kernel_rfl);rw[cI] at g12;obtain⟨z13,g13⟩:=field ld fd 3 9 3 (by kernel_rfl);rw[cS] at g13;obtain⟨z14,g14⟩:=field ld fd 4 3 4 (by kernel_rfl);rw[cI] at g14;obtain⟨s0,e0,_⟩:=DataW.trod_string undS h0;obtain⟨i1,e1,_,w1⟩:=DataW.trod_int undI h1;have w1:=wcg w1;obtain⟨i2,e2,_,w2⟩:=DataW.trod_int undI h2;have w2:=wcg w2;obtain⟨s3,e3,_⟩:=DataW.trod_string undS g3;obtain⟨s4,e4,_⟩:=DataW.trod_string undS g4;obtain⟨i5,e5,_,w5⟩:=DataW.trod_int undI g5;have w5:=wcg w5;obtain⟨i6,e6,_,w6⟩:=DataW.trod_int undI g6;have w6:=wcg w6;obtain⟨i7,e7,_,w7⟩:=DataW.trod_int undI g7;have w7:=wcg w7;obtain⟨i8,e8,_,w8⟩:=DataW.trod_int wgw g8;have w8:=wcg w8;obtain⟨s9,e9,_⟩:=DataW.trod_string undS g9;obtain⟨s10,e10,_⟩:=DataW.trod_string undS g10;obtain⟨s11,e11,_⟩:=DataW.trod_string undS g11;obtain⟨i12,e12,_,w12⟩:=DataW.trod_int undI g12;have w12:=wcg w12;obtain⟨s13,e13,_⟩:=DataW.trod_string undS g13;obtain⟨i14,e14,_,w14⟩:=DataW.trod_int undI g14;have w14:=wcg w14;simp at e0 e1 e2 e3 e4 e5 e6 e7 e8 e9 e10 e11 e12 e13 e14;subst e0 e1 e2 e3 e4 e5 e6 e7 e8 e9 e10 e11 e12 e13 e14;exact⟨⟨s0.data.toList,i1,i2,⟨s3.data.toList,s4.data.toList,i5,i6,i7,i8,s9.data.toList⟩,⟨s10.data.toList,s11.data.toList,i12,s13.data.toList,i14⟩⟩,⟨w1,w2,w5,w6,w7,w8,w12,w14⟩,⟨rfl,.str rfl⟩,⟨rfl,.int⟩,⟨rfl,.int⟩,⟨rfl,.str rfl⟩,⟨rfl,.str rfl⟩,⟨rfl,.int⟩,⟨rfl,.int⟩,⟨rfl,.int⟩,⟨rfl,.int⟩,⟨rfl,.str rfl⟩,⟨rfl,.str rfl⟩,⟨rfl,.str rfl⟩,⟨rfl,.int⟩,⟨rfl,.str rfl⟩,⟨rfl,.int⟩,trivial⟩
theorem wjv{α:Type}{d:α}{row:α->List AV}{n:Nat}{g:Nat->α}{sz:Nat}{v:Value}(h:V W (λ_=>False) nob v (.view sz n λi=>row (g i))):V W (λ_=>False) nob v (.view sz (lst g n).length λi=>row ((lst g n).getD i d)):=by
 have hl:(lst g n).length=n:=by simp[lst]
 rw[hl]
 cases h with
 |view ad cv hn hc hp hs hcell h1 hV=>
  have e:∀i,i<n->row ((lst g n).getD i d)=row (g i):=λi hi=>by
   simp[lst,List.getD_eq_getElem?_getD,List.getElem?_range hi]
  exact .view ad cv hn hc hp (λi hi=>by rw[e i hi];exact hs i hi) hcell h1 (λi hi j u hu=>hV i hi j u (by
   have hu:(row ((lst g n).getD i d))[j]?=some u:=hu;rw[e i hi] at hu;exact hu))
theorem el_rt{sp:Nat->Bool}{hd:Bool}{n:Nat}{cs:List Value}{x:DataW H×List MemPlace}(h:DataW.trod enc Tryz.prog W 0 sp hd n 97 cs=some x):∃r:RT,(inR .i64 r.per/\inR .i64 r.st/\∀b∈r.bs,inR .i64 b.up/\inR .i64 b.pr)/\EL W cs [.str r.o,.str r.p,.int .i64 r.per,.int .i64 r.st,.view 2 r.bs.length (was (atB r.bs))]:=by
 obtain⟨xs,n,rfl,_,hc,hl,hf⟩:=DataW.trod_struct undRt h;rw[cRt] at hc;obtain⟨a0,a1,a2,a3,a4,rfl⟩:=list5 hc;obtain⟨y0,h0⟩:=field hl hf 0 9 0 (by kernel_rfl);rw[cS] at h0;obtain⟨s0,e0,_⟩:=DataW.trod_string undS h0;obtain⟨y1,h1⟩:=field hl hf 1 9 1 (by kernel_rfl);rw[cS] at h1;obtain⟨s1,e1,_⟩:=DataW.trod_string undS h1;obtain⟨y2,h2⟩:=field hl hf 2 3 2 (by kernel_rfl);rw[cI] at h2;obtain⟨i2,e2,_,w2⟩:=DataW.trod_int undI h2;have w2:=wcg w2;obtain⟨y3,h3⟩:=field hl hf 3 95 3 (by kernel_rfl);rw[cTa] at h3;have h3:DataW.trod enc Tryz.prog W 0 sp hd n 95 [a3,a4]=some y3:=h3;obtain⟨xv,nv,_,_,_,lv,fv⟩:=DataW.trod_struct undTa h3;obtain⟨z3,g3⟩:=field lv fv 0 2 0 (by kernel_rfl);rw[cI2] at g3;obtain⟨z4,g4⟩:=field lv fv 1 93 1 (by kernel_rfl);rw[cBks] at g4;obtain⟨i3,e3,_,w3⟩:=DataW.trod_int wgw g3;have w3:=wcg w3;obtain⟨A,m,c,g,e4,hV,hR⟩:=wif (⟨0,0⟩:BK) (λb=>[.int .i64 b.up,.int .i64 b.pr]) (λb=>inR .i64 b.up/\inR .i64 b.pr) undBks cBk (by omega) (λ_=>rfl) el_bk g4;simp at e0 e1 e2 e3 e4;subst e0 e1 e2 e3 e4;refine⟨⟨s0.data.toList,s1.data.toList,i2,i3,lst g m⟩,⟨w2,w3,λb hb=>?_⟩,⟨rfl,.str rfl⟩,⟨rfl,.str rfl⟩,⟨rfl,.int⟩,⟨rfl,.int⟩,⟨rfl,wjv (d:=(⟨0,0⟩:BK)) (row:=λb=>[.int .i64 b.up,.int .i64 b.pr]) hV⟩,trivial⟩;obtain⟨i,hi,rfl⟩:=List.mem_map.1 hb;exact hR i (List.mem_range.1 hi)
theorem el_fl{sp:Nat->Bool}{hd:Bool}{n:Nat}{cs:List Value}{x:DataW H×List MemPlace}(h:DataW.trod enc Tryz.prog W 0 sp hd n 49 cs=some x):∃F:FL,F.Ri/\EL W cs (wbc F):=by
 obtain⟨xs,n,rfl,_,hc,hl,hf⟩:=DataW.trod_struct undFl h;rw[cFl] at hc;obtain⟨a0,a1,a2,a3,a4,a5,a6,rfl⟩:=list7 hc;obtain⟨y0,h0⟩:=field hl hf 0 9 0 (by kernel_rfl);rw[cS] at h0;obtain⟨s0,e0,_⟩:=DataW.trod_string undS h0;obtain⟨y1,h1⟩:=field hl hf 1 3 1 (by kernel_rfl);rw[cI] at h1;obtain⟨i1,e1,_,w1⟩:=DataW.trod_int undI h1;have w1:=wcg w1;obtain⟨y2,h2⟩:=field hl hf 2 3 2 (by kernel_rfl);rw[cI] at h2;obtain⟨i2,e2,_,w2⟩:=DataW.trod_int undI h2;have w2:=wcg w2;obtain⟨y3,h3⟩:=field hl hf 3 3 3 (by kernel_rfl);rw[cI] at h3;obtain⟨i3,e3,_,w3⟩:=DataW.trod_int undI h3;have w3:=wcg w3;obtain⟨y4,h4⟩:=field hl hf 4 22 4 (by kernel_rfl);rw[cMgs] at h4;obtain⟨y5,h5⟩:=field hl hf 5 46 5 (by kernel_rfl);rw[cRws] at h5;obtain⟨y6,h6⟩:=field hl hf 6 47 6 (by kernel_rfl);rw[cRts] at h6;obtain⟨A4,m4,c4,g4,e4,V4,R4⟩:=wif (default:MG) mgC MG.Rg undMs cM (by omega) (λ_=>rfl) el_mg h4;obtain⟨A5,m5,c5,g5,e5,V5,R5⟩:=wif (default:RW) (λr=>[.str r.o,.str r.p,.int .i64 r.per,.int .i64 r.u,.int .i64 r.tv]) RW.Rg undRs cR (by omega) (λ_=>rfl) el_rw h5;obtain⟨A6,m6,c6,g6,e6,V6,R6⟩:=wif we9 (λr=>[.str r.o,.str r.p,.int .i64 r.per,.int .i64 r.st,.view 2 r.bs.length (was (atB r.bs))]) (λr=>inR .i64 r.per/\inR .i64 r.st/\∀b∈r.bs,inR .i64 b.up/\inR .i64 b.pr) undRts cRt (by omega) (λ_=>rfl) el_rt h6;simp at e0 e1 e2 e3 e4 e5 e6;subst e0 e1 e2 e3 e4 e5 e6;refine⟨⟨s0.data.toList,i1,i2,i3,lst g4 m4,lst g5 m5,lst g6 m6⟩,⟨w1,w2,w3,λb hb=>?_,λb hb=>?_,λb hb=>?_⟩,⟨rfl,.str rfl⟩,⟨rfl,.int⟩,⟨rfl,.int⟩,⟨rfl,.int⟩,⟨rfl,wjv (d:=(default:MG)) (row:=mgC) V4⟩,⟨rfl,wjv (d:=(default:RW)) (row:=λr:RW=>[.str r.o,.str r.p,.int .i64 r.per,.int .i64 r.u,.int .i64 r.tv]) V5⟩,⟨rfl,wjv (d:=we9) (row:=λr:RT=>[.str r.o,.str r.p,.int .i64 r.per,.int .i64 r.st,.view 2 r.bs.length (was (atB r.bs))]) V6⟩,trivial⟩
 ·obtain⟨i,hi,rfl⟩:=List.mem_map.1 hb;exact R4 i (List.mem_range.1 hi)
 ·obtain⟨i,hi,rfl⟩:=List.mem_map.1 hb;exact R5 i (List.mem_range.1 hi)
 ·obtain⟨i,hi,rfl⟩:=List.mem_map.1 hb;exact R6 i (List.mem_range.1 hi)
theorem wy5{fuel:Nat}{cs:List Value}{x:DataW H×List MemPlace}{sp:Nat->Bool}{hd:Bool}(h:DataW.trod enc Tryz.prog W 0 sp hd fuel 51 cs=some x):
  ∃(A:Option Addr) (n c:Nat) (g:Nat->FL),cs=[.slice A n c]/\V W (λ_=>False) nob (.slice A n c) (.view 7 n (waa g))/\∀i,i<n->(g i).Ri:=
 wif wdg wbc FL.Ri undFls cFl (by omega) (λ_=>rfl) el_fl h
end Go.Eng
namespace Go.Eng
structure RW.Made (r:RW):Prop where
 ok:rowF r=true
 o:r.o.length<=2
 u:1<=r.u/\r.u<=20
 tv:1<=r.tv/\r.tv<=2400
structure RwS where
 c:Nat
 g:Nat->RW
 a:Int
def RW.put(g:Nat->RW)(k:Nat)(r:RW)(i:Nat):RW:=if i<k then g i else r
def wml(n:Nat)(v:Nat->Int)(N:Int)(i:RwS):St:=⟨[(0,.ptr 0 0),(5,.own 1 i.c),(9,.q N),(10,.q i.c)],
 [(0,.cells [.view 1 n (wad v),.q i.a] 27),(1,.row 61 5 i.c (wah i.g) false)],2,[]⟩
def wou(n:Nat)(v:Nat->Int)(a N:Int):wao:=λst Q=>canonIs te 1 [0,5,9,10] (ownNil 5 61 5 st) (wml n v N ⟨0,λ_=>default,a⟩)/\(0<=N/\N<=100)/\(0<=a/\a<=4611686018427375000)/\
 ∀i:RwS,i.c=N.toNat->i.a=a+6 * i.c->(∀j,j<i.c->(i.g j).Made)->Q (.exit 0) ⟨[(5,.own 1 i.c)],[(0,.cells [.view 1 n (wad v),.q i.a] 27),(1,.row 61 5 i.c (wah i.g) false)],2,[]⟩
def woc:wcc
 |[.ptr 0 0,.int .i64 most],[.cells [.view sz n f,.int .i64 a] t],R=>t=27/\sz=1/\f=wad (vInt f)/\(0<=a/\a<=4611686018427370000)/\(0<=most/\most<=90)/\
   ∀(c:Nat) (g:Nat->RW) (a':Int),c<=most.toNat->(a<=a'/\a'<=a+600)->(∀j,j<c->(g j).Made)->
   R (.own 1 c) [(0,.cells [.view 1 n f,.q a'] 27),(1,.row 61 5 c (wah g) false)]
 |_,_,_=>False
def cutR(g:Nat->RW)(i:Nat):RW:=⟨(g i).o.take 30,(g i).p.take 30,(g i).per,(g i).u,(g i).tv⟩
end Go.Eng
namespace Go.Eng
open Go.RowKit
def allP{α:Type}(p:α->Prop):List α->Prop
 |[]=>True
 |[x]=>p x
 |x::l=>p x/\allP p l
theorem wsh{α:Type}{p:α->Prop}:∀ {l:List α},allP p l->∀x∈l,p x
 |[],_,x,hx=>by cases hx
 |[y],h,x,hx=>by obtain rfl:=List.mem_singleton.1 hx;exact h
 |y::z::l,h,x,hx=>by
  obtain⟨h1,h2⟩:=h
  rcases List.mem_cons.1 hx with rfl | hx
  ·exact h1
  ·exact wsh h2 x hx
def wgo(done:List Nat):List Edge->Bool
 |[]=>true
 |e::l=>match Region.binds .any e with
  |true=>match hasN done e.on with
   |true=>wgo done l
   |false=>false
  |false=>wgo done l
def rdyL(done:List Nat):Nat->List Oper->List (Nat×Oper)
 |_,[]=>[]
 |i,o::l=>match hasN done i with
  |true=>rdyL done (i+1) l
  |false=>match wgo done o.after.toList with
   |true=>(i,o)::rdyL done (i+1) l
   |false=>rdyL done (i+1) l
theorem wr1{done:List Nat}:∀ {l:List Edge},wgo done l=true↔∀e∈l,Region.binds .any e=true->e.on∈done
 |[]=>by simp[wgo]
 |e::l=>by
  unfold wgo;have ih:=wr1 (done:=done) (l:=l)
  cases hb:Region.binds .any e with
  |true=>
   cases hh:hasN done e.on with
   |true=>
    dsimp only
    rw[ih]
    constructor
    ·intro h e' he hb'
     rcases List.mem_cons.1 he with rfl | he
     ·exact(wbo _ _).1 hh
     ·exact h e' he hb'
    ·exact λh e' he hb'=>h e' (List.mem_cons_of_mem _ he) hb'
   |false=>
    dsimp only
    refine⟨λh=>(by cases h),λh=>?_⟩;rw[(wbo _ _).2 (h e (List.mem_cons_self ..) hb)] at hh;cases hh
  |false=>
   dsimp only
   rw[ih]
   constructor
   ·intro h e' he hb'
    rcases List.mem_cons.1 he with rfl | he
    ·rw[hb] at hb';cases hb'
    ·exact h e' he hb'
   ·exact λh e' he hb'=>h e' (List.mem_cons_of_mem _ he) hb'
theorem wig{done:List Nat}:∀ {l:List Oper} {j i:Nat} {o:Oper},(i,o)∈rdyL done j l↔∃i',i=j+i'/\l[i']?=some o/\i ∉ done/\∀e∈o.after.toList,Region.binds .any e=true->e.on∈done
 |[],j,i,o=>by simp[rdyL]
 |o'::l,j,i,o=>by
  have ih:=wig (done:=done) (l:=l) (j:=j+1) (i:=i) (o:=o);have tail:(∃i',i=j+1+i'/\l[i']?=some o/\i ∉ done/\∀e∈o.after.toList,Region.binds .any e=true->e.on∈done)->∃i',i=j+i'/\(o'::l)[i']?=some o/\i ∉ done/\∀e∈o.after.toList,Region.binds .any e=true->e.on∈done:=by
   rintro⟨i',h1,h2,h3⟩;exact⟨i'+1,by omega,by simpa using h2,h3⟩
  have back:(∃i',i=j+i'/\(o'::l)[i']?=some o/\i ∉ done/\∀e∈o.after.toList,Region.binds .any e=true->e.on∈done)->(i=j/\o=o'/\j ∉ done/\∀e∈o'.after.toList,Region.binds .any e=true->e.on∈done)∨∃i',i=j+1+i'/\l[i']?=some o/\i ∉ done/\∀e∈o.after.toList,Region.binds .any e=true->e.on∈done:=by
   rintro⟨i',h1,h2,h3,h4⟩
   cases i' with
   |zero=>
    simp only[List.getElem?_cons_zero,sI7] at h2;subst h2;obtain rfl:i=j:=by omega
    exact .inl ⟨rfl,rfl,h3,h4⟩
   |succ i'=>exact .inr ⟨i',by omega,by simpa using h2,h3,h4⟩
  unfold rdyL
  cases hh:hasN done j with
  |true=>
   dsimp only
   rw[ih];refine⟨tail,λh=>?_⟩
   rcases back h with⟨_,_,h3,_⟩ | h
   ·exact absurd ((wbo _ _).1 hh) h3
   ·exact h
  |false=>
   cases hd:wgo done o'.after.toList with
   |true=>
    dsimp only
    rw[List.mem_cons,ih,pI7]
    constructor
    ·rintro(⟨rfl,rfl⟩ | h)
     ·refine⟨0,rfl,rfl,λq=>?_,wr1.1 hd⟩;rw[(wbo _ _).2 q] at hh;cases hh
     ·exact tail h
    ·intro h
     rcases back h with⟨h1,h2,_⟩ | h
     ·exact .inl ⟨h1,h2⟩
     ·exact .inr h
   |false=>
    dsimp only
    rw[ih];refine⟨tail,λh=>?_⟩
    rcases back h with⟨_,_,_,h4⟩ | h
    ·rw[wr1.2 h4] at hd;cases hd
    ·exact h
def wet(G:Env)(opl:List Oper)(Q:St->Prop):Nat->List Nat->KT
 |0,done,T,O,nx=>match rdyL done 0 opl with
  |[]=>Q ⟨T,O,nx,[]⟩
  |_::_=>False
 |fuel+1,done,T,O,nx=>match rdyL done 0 opl with
  |[]=>Q ⟨T,O,nx,[]⟩
  |p0::l=>allP (λp:Nat×Oper=>match p.2.guard with
   |none=>wp1 G p.2 T O nx (wet G opl Q fuel (p.1::done))
   |some _=>False) (p0::l)
def wg5(K:St->Prop)(Q:Exit->St->Prop):Exit->St->Prop
 |.normal,s=>K s
 |e,s=>Q e s
theorem wsp{P:Program}{o:Oper}{a:Act}{w:World}{K K':Act->World->Prop}{Q Q':Exit->Act->World->Prop}(h:∀a w,K a w->K' a w)(hq:∀e a w,e≠ .normal->Q e a w->Q' e a w)(hh:o.wp P a w K Q):o.wp P a w K' Q':=by
 unfold Oper.wp at *;generalize (execOp a.eval o).run P w=r at *
 cases r with
 |ok n w'=>
   cases n<;>simp only[Oper.upon] at hh ⊢ <;>
     first
       |exact h _ _ hh
       |exact hh.elim
       |exact Calls.mono hh (λe w'' he=>by
           cases e with
           |returned v=>exact h _ _ he
           |panicked c=>exact hq _ _ _ (by simp) he
           |outgrown=>obtain⟨a',w3,h3⟩:=he;exact⟨a',w3,hq _ _ _ (by simp) h3⟩)
       |exact Rows.mono hh (λ_ _ he=>h _ _ he)
 |halt x w'=>cases x<;>simp only[Oper.upon] at hh ⊢ <;>first | exact hq _ _ _ (by simp) hh | exact hh.elim
theorem wg3{opl:List Oper}{done:List Nat}{listed:Array Bool}(hsz:listed.size=opl.length)(hl:∀i,listed.getD i false=true↔i∈done)(i:Nat):i∈Region.ready .any opl.toArray listed↔∃o,opl[i]?=some o/\(i,o)∈rdyL done 0 opl:=by
 rw[mem_ready];have e:∀o,opl[i]?=some o->(listed.getD i true=false↔i ∉ done):=λo ho=>by
  have hi:i<listed.size:=by rw[hsz];exact(List.getElem?_eq_some_iff.1 ho).1
  rw[wk6 hi true false, ← hl]
  cases listed.getD i false<;>simp
 constructor
 ·rintro⟨h0,o,ho,h⟩;have ho:opl[i]?=some o:=by simpa using ho
  exact⟨o,ho,wig.2 ⟨i,by omega,ho,(e o ho).1 h0,λx hx hb=>(hl _).1 (h x (by simpa using hx) hb)⟩⟩
 ·rintro⟨o,ho,h⟩;obtain⟨i',h1,h2,h3,h4⟩:=wig.1 h;exact⟨(e o ho).2 h3,o,by simpa using ho,λx hx hb=>(hl _).2 (h4 x (by simpa using hx) hb)⟩
theorem wsr{C:Ctx}{G:Env}(hG:EnvOK C G){m:Nat}{opl:List Oper}{Q:Exit->St->Prop}{E:Ent}(hE:E.m=m):∀(fuel:Nat) (done:List Nat) (listed:Array Bool) (T:List (Nat×AV)) (O:List (Nat×AObj)) (nx:Nat) (bs:Nat->Option Hd) (a:Act) (w:World),
  listed.size=opl.length->(∀i,listed.getD i false=true↔i∈done)->wet G opl (Q .normal) fuel done T O nx->RepS C E G.N ⟨T,O,nx,[]⟩ bs a w->wpAny C.P .any opl.toArray (QC C E G.N Q) fuel listed a w
 |0,done,listed,T,O,nx,bs,a,w,hsz,hl,h,hr=>by
  unfold wet at h;unfold wpAny;split at h
  ·rename_i hr0;refine⟨List.eq_nil_iff_forall_not_mem.2 λi hi=>?_,_,bs,h,hr⟩;obtain⟨o,_,ho⟩:=(wg3 hsz hl i).1 hi;rw[hr0] at ho;cases ho
  ·exact h.elim
 |fuel+1,done,listed,T,O,nx,bs,a,w,hsz,hl,h,hr=>by
  unfold wet at h;unfold wpAny;split at h
  ·rename_i hr0;refine⟨λ_=>⟨_,bs,h,hr⟩,λi hi=>?_⟩;obtain⟨o,_,ho⟩:=(wg3 hsz hl i).1 hi;rw[hr0] at ho;cases ho
  ·rename_i p0 l hr0;refine⟨λq=>?_,λi hi=>?_⟩
   ·obtain⟨i0,o0⟩:=p0;have hm:(i0,o0)∈rdyL done 0 opl:=by rw[hr0];exact List.mem_cons_self ..
    obtain⟨i',h1,h2,_⟩:=wig.1 hm;obtain rfl:i0=i':=by omega
    have:=(wg3 hsz hl i0).2 ⟨o0,h2,hm⟩;rw[q] at this;cases this
   obtain⟨o,ho,hm⟩:=(wg3 hsz hl i).1 hi;rw[hr0] at hm;have hp:=wsh h _ hm;dsimp only at hp;have hilt:i<listed.size:=by rw[hsz];exact(List.getElem?_eq_some_iff.1 ho).1
   have hsz':(listed.setIfInBounds i true).size=opl.length:=by simp[hsz]
   have hl':∀j,(listed.setIfInBounds i true).getD j false=true↔j∈i::done:=λj=>by
    by_cases e:i=j
    ·subst e;simp[Array.getD,hilt]
    ·rw[getD_set_ne _ e,hl,List.mem_cons];exact⟨.inr,λh=>h.resolve_left λq=>e q.symm⟩
   split at hp
   ·rename_i hg;have:=wjt (m:=m) (ops:=opl.toArray) (rest:=[]) (Q:=wg5 (λs=>wet G opl (Q .normal) fuel (i::done) s.T s.O s.nx) Q) hG hg hp (λT' O' nx' hK=>by
     intro E' hE' bs' a' w' hr';exact⟨⟨T',O',nx',[]⟩,bs',hK,hr'⟩) E hE bs a w hr
    have fin:∀a' w',QC C E G.N (wg5 (λs=>wet G opl (Q .normal) fuel (i::done) s.T s.O s.nx) Q) .normal a' w'->wpAny C.P .any opl.toArray (QC C E G.N Q) fuel (listed.setIfInBounds i true) a' w':=by
     rintro a' w' ⟨⟨T',O',nx',d'⟩,bs',hK,hr'⟩;exact wsr hG hE fuel _ _ T' O' nx' bs' a' w' hsz' hl' hK hr'
    have other:∀e a' w',e≠Exit.normal->QC C E G.N (wg5 (λs=>wet G opl (Q .normal) fuel (i::done) s.T s.O s.nx) Q) e a' w'->QC C E G.N Q e a' w':=by
     rintro e a' w' hne ⟨s,bs',hs,hr'⟩;refine⟨s,bs',?_,hr'⟩
     cases e with
     |normal=>exact absurd rfl hne
     |_=>exact hs
    unfold wpOp;have ho':opl.toArray[i]?=some o:=by simpa using ho
    rw[ho'];unfold wpList at this;dsimp only
    split
    ·rename_i hw;rw[if_pos hw] at this
     rcases this with h | ⟨h1,a',w',h2⟩
     ·exact .inl (wsp fin other h)
     ·exact .inr ⟨h1,a',w',other _ _ _ (by simp) h2⟩
    ·rename_i hw;rw[if_neg hw] at this;exact fin _ _ this
   ·exact hp.elim
end Go.Eng
