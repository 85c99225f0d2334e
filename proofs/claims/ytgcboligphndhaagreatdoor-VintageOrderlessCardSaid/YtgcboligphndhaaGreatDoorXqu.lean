/- The tape's tariffs and files. -/
import Derived.Test.YtgcboligphndhaaGreatDoorXqt
namespace Go.Eng
structure MG.Rg (m:MG):Prop where
 seq:inR .i64 m.seq
 kind:inR .i64 m.kind
 per:inR .i64 m.v.per
 day:inR .i64 m.v.day
 st:inR .i64 m.v.st
 pr:inR .i64 m.v.pr
 dper:inR .i64 m.d.per
 num:inR .i64 m.d.num
structure RW.Rg (r:RW):Prop where
 per:inR .i64 r.per
 u:inR .i64 r.u
 tv:inR .i64 r.tv
structure RT.Rg (t:RT):Prop where
 per:inR .i64 t.per
 st:inR .i64 t.st
 n:t.bs.length<=1000
 b:∀b∈t.bs,inR .i64 b.up/\inR .i64 b.pr
structure FL.Rg (F:FL):Prop where
 ver:inR .i64 F.ver
 kind:inR .i64 F.kind
 nm:F.ms.length<=1000
 nr:F.rs.length<=1000
 nt:F.ts.length<=1000
 m:∀m∈F.ms,m.Rg
 r:∀r∈F.rs,r.Rg
 t:∀t∈F.ts,t.Rg
 len:(encF F).length<=1099511627776
def e1F(F:FL):Nat->List UInt8
 |0=>txtE F.id++(numE F.ver++(numE F.kind++numE F.ms.length))
 |k+1=>e1F F k++mgE (atM F.ms k)
def e2F(F:FL):Nat->List UInt8
 |0=>e1F F F.ms.length++numE F.rs.length
 |k+1=>e2F F k++rwE (atR F.rs k)
def e3F(F:FL):Nat->List UInt8
 |0=>e2F F F.rs.length++numE F.ts.length
 |k+1=>e3F F k++rtE (atT F.ts k)
def e4F(L:List UInt8)(t:RT):Nat->List UInt8
 |0=>L++(txtE t.o++(txtE t.p++(numE t.per++(numE t.st++numE t.bs.length))))
 |k+1=>e4F L t k++bkE (atB t.bs k)
theorem wil{α:Type}(e:α->List UInt8)(d:α)(l:List α)(g:Nat->List UInt8)(L:List UInt8)(h0:g 0=L)(hs:∀k,k<l.length->g (k+1)=g k++e (l.getD k d)):∀k,k<=l.length->g k=L++(l.take k).flatMap e
 |0,_=>by simp[h0]
 |k+1,h=>by
  rw[hs k (by omega),wil e d l g L h0 hs k (by omega),List.take_add_one,List.append_assoc];congr 1;rw[List.flatMap_append];congr 1;simp[List.getD,List.getElem?_eq_getElem (show k<l.length by omega)]
theorem e1F_all(F:FL):e1F F F.ms.length=e1F F 0++F.ms.flatMap mgE:=by
 rw[wil mgE default F.ms (e1F F) (e1F F 0) rfl (λ_ _=>rfl) _ (lR7 _),List.take_length]
theorem e2F_all(F:FL):e2F F F.rs.length=e2F F 0++F.rs.flatMap rwE:=by
 rw[wil rwE default F.rs (e2F F) (e2F F 0) rfl (λ_ _=>rfl) _ (lR7 _),List.take_length]
theorem e3F_all(F:FL):e3F F F.ts.length=e3F F 0++F.ts.flatMap rtE:=by
 rw[wil rtE whp F.ts (e3F F) (e3F F 0) rfl (λ_ _=>rfl) _ (lR7 _),List.take_length]
theorem wkp(L:List UInt8)(t:RT):e4F L t t.bs.length=L++rtE t:=by
 rw[wil bkE ⟨0,0⟩ t.bs (e4F L t) (e4F L t 0) rfl (λ_ _=>rfl) _ (lR7 _),List.take_length];simp only[e4F,rtE,List.append_assoc]
theorem wf5(F:FL):e3F F F.ts.length=encF F:=by
 rw[e3F_all,e3F,e2F_all,e2F,e1F_all,e1F];simp only[encF,List.append_assoc]
def S_p1(F:FL)(k:Nat):St:=⟨[(1,.ptr 0 0),(3,.ptr 1 0),(28,.view 15 F.ms.length (wag (atM F.ms))),(29,.q F.ms.length),(30,.q k)],[(0,.cells [.str F.id,.q F.ver,.q F.day,.q F.kind,.view 15 F.ms.length (wag (atM F.ms)),.view 5 F.rs.length (wai (atR F.rs)),.view 5 F.ts.length (wah (atT F.ts))] 49),(1,.cells [.ptr 1 0,.own 2 (e1F F k).length] 111),(2,.row 5 1 (e1F F k).length (strG (e1F F k)) false)],3,[]⟩
def L_p1(F:FL):war:=λst Q=>canonIs te 0 [1,3,28,29,30] st (S_p1 F 0)/\F.Rg/\Q (.exit 0) ⟨[(1,.ptr 0 0),(3,.ptr 1 0)],[(0,.cells [.str F.id,.q F.ver,.q F.day,.q F.kind,.view 15 F.ms.length (wag (atM F.ms)),.view 5 F.rs.length (wai (atR F.rs)),.view 5 F.ts.length (wah (atT F.ts))] 49),(1,.cells [.ptr 1 0,.own 2 (e1F F F.ms.length).length] 111),(2,.row 5 1 (e1F F F.ms.length).length (strG (e1F F F.ms.length)) false)],3,[]⟩
def S_q1(F:FL)(k:Nat):St:=⟨[(1,.ptr 0 0),(3,.str (e1F F k)),(29,.view 15 F.ms.length (wag (atM F.ms))),(30,.q F.ms.length),(31,.q k)],[(0,.cells [.str F.id,.q F.ver,.q F.day,.q F.kind,.view 15 F.ms.length (wag (atM F.ms)),.view 5 F.rs.length (wai (atR F.rs)),.view 5 F.ts.length (wah (atT F.ts))] 49)],1,[]⟩
def L_q1(F:FL):war:=λst Q=>canonIs te 0 [1,3,29,30,31] st (S_q1 F 0)/\F.Rg/\Q (.exit 0) ⟨[(1,.ptr 0 0),(3,.str (e1F F F.ms.length))],[(0,.cells [.str F.id,.q F.ver,.q F.day,.q F.kind,.view 15 F.ms.length (wag (atM F.ms)),.view 5 F.rs.length (wai (atR F.rs)),.view 5 F.ts.length (wah (atT F.ts))] 49)],1,[]⟩
def S_p2(F:FL)(k:Nat):St:=⟨[(1,.ptr 0 0),(3,.ptr 1 0),(91,.view 5 F.rs.length (wai (atR F.rs))),(92,.q F.rs.length),(93,.q k)],[(0,.cells [.str F.id,.q F.ver,.q F.day,.q F.kind,.view 15 F.ms.length (wag (atM F.ms)),.view 5 F.rs.length (wai (atR F.rs)),.view 5 F.ts.length (wah (atT F.ts))] 49),(1,.cells [.ptr 1 0,.own 2 (e2F F k).length] 111),(2,.row 5 1 (e2F F k).length (strG (e2F F k)) false)],3,[]⟩
def L_p2(F:FL):war:=λst Q=>canonIs te 0 [1,3,91,92,93] st (S_p2 F 0)/\F.Rg/\Q (.exit 2) ⟨[(1,.ptr 0 0),(3,.ptr 1 0)],[(0,.cells [.str F.id,.q F.ver,.q F.day,.q F.kind,.view 15 F.ms.length (wag (atM F.ms)),.view 5 F.rs.length (wai (atR F.rs)),.view 5 F.ts.length (wah (atT F.ts))] 49),(1,.cells [.ptr 1 0,.own 2 (e2F F F.rs.length).length] 111),(2,.row 5 1 (e2F F F.rs.length).length (strG (e2F F F.rs.length)) false)],3,[]⟩
def S_q2(F:FL)(k:Nat):St:=⟨[(1,.ptr 0 0),(3,.str (e2F F k)),(108,.view 5 F.rs.length (wai (atR F.rs))),(109,.q F.rs.length),(110,.q k)],[(0,.cells [.str F.id,.q F.ver,.q F.day,.q F.kind,.view 15 F.ms.length (wag (atM F.ms)),.view 5 F.rs.length (wai (atR F.rs)),.view 5 F.ts.length (wah (atT F.ts))] 49)],1,[]⟩
def L_q2(F:FL):war:=λst Q=>canonIs te 0 [1,3,108,109,110] st (S_q2 F 0)/\F.Rg/\Q (.exit 2) ⟨[(1,.ptr 0 0),(3,.str (e2F F F.rs.length))],[(0,.cells [.str F.id,.q F.ver,.q F.day,.q F.kind,.view 15 F.ms.length (wag (atM F.ms)),.view 5 F.rs.length (wai (atR F.rs)),.view 5 F.ts.length (wah (atT F.ts))] 49)],1,[]⟩
def S_p3(F:FL)(k:Nat):St:=⟨[(3,.ptr 0 0),(118,.view 5 F.ts.length (wah (atT F.ts))),(119,.q F.ts.length),(120,.q k)],[(0,.cells [.ptr 0 0,.own 1 (e3F F k).length] 111),(1,.row 5 1 (e3F F k).length (strG (e3F F k)) false)],2,[]⟩
def L_p3(F:FL):war:=λst Q=>canonIs te 0 [3,118,119,120] st (S_p3 F 0)/\F.Rg/\Q (.exit 4) ⟨[(3,.ptr 0 0)],[(0,.cells [.ptr 0 0,.own 1 (e3F F F.ts.length).length] 111),(1,.row 5 1 (e3F F F.ts.length).length (strG (e3F F F.ts.length)) false)],2,[]⟩
def S_q3(F:FL)(k:Nat):St:=⟨[(3,.str (e3F F k)),(140,.view 5 F.ts.length (wah (atT F.ts))),(141,.q F.ts.length),(142,.q k)],[],0,[]⟩
def L_q3(F:FL):war:=λst Q=>canonIs te 0 [3,140,141,142] st (S_q3 F 0)/\F.Rg/\Q (.exit 4) ⟨[(3,.str (e3F F F.ts.length))],[],0,[]⟩
def S_ms(F:FL)(k:Nat)(m:MG)(L:List UInt8):St:=⟨[(1,.ptr 0 0),(3,.ptr 1 0),(5,.ptr 2 0),(6,.ptr 3 0),(7,.ptr 4 0),(28,.view 15 F.ms.length (wag (atM F.ms))),(29,.q F.ms.length),(30,.q k)],[(0,.cells [.str F.id,.q F.ver,.q F.day,.q F.kind,.view 15 F.ms.length (wag (atM F.ms)),.view 5 F.rs.length (wai (atR F.rs)),.view 5 F.ts.length (wah (atT F.ts))] 49),(1,.cells [.ptr 1 0,.own 5 L.length] 111),(2,.cells [.str m.dev,.q m.seq,.q m.kind,.str m.v.o,.str m.v.p,.q m.v.per,.q m.v.day,.q m.v.st,.q m.v.pr,.str m.v.rep,.str m.d.o,.str m.d.p,.q m.d.per,.str m.d.dev,.q m.d.num] 40),(3,.cells [.str m.v.o,.str m.v.p,.q m.v.per,.q m.v.day,.q m.v.st,.q m.v.pr,.str m.v.rep] 36),(4,.cells [.str m.d.o,.str m.d.p,.q m.d.per,.str m.d.dev,.q m.d.num] 38),(5,.row 5 1 (L).length (strG (L)) false)],6,[]⟩
def L_m8(F:FL)(k:Nat)(m:MG)(L:List UInt8):war:=λst Q=>canonIs te 0 [1,3,5,6,7,28,29,30] st (S_ms F k m L)/\m.Rg/\(L++(txtE m.dev)).length<=1099511627776/\Q .normal (S_ms F k m (L++(txtE m.dev)))
def L_m9(F:FL)(k:Nat)(m:MG)(L:List UInt8):war:=λst Q=>canonIs te 0 [1,3,5,6,7,28,29,30] st (S_ms F k m L)/\m.Rg/\(L++(numE m.seq++(numE m.kind))).length<=1099511627776/\Q .normal (S_ms F k m (L++(numE m.seq++(numE m.kind))))
def woc(F:FL)(k:Nat)(m:MG)(L:List UInt8):war:=λst Q=>canonIs te 0 [1,3,5,6,7,28,29,30] st (S_ms F k m L)/\m.Rg/\(L++(txtE m.v.o++(txtE m.v.p))).length<=1099511627776/\Q .normal (S_ms F k m (L++(txtE m.v.o++(txtE m.v.p))))
def wob(F:FL)(k:Nat)(m:MG)(L:List UInt8):war:=λst Q=>canonIs te 0 [1,3,5,6,7,28,29,30] st (S_ms F k m L)/\m.Rg/\(L++(numE m.v.per++(numE m.v.day++(numE m.v.st++(numE m.v.pr))))).length<=1099511627776/\Q .normal (S_ms F k m (L++(numE m.v.per++(numE m.v.day++(numE m.v.st++(numE m.v.pr))))))
def woa(F:FL)(k:Nat)(m:MG)(L:List UInt8):war:=λst Q=>canonIs te 0 [1,3,5,6,7,28,29,30] st (S_ms F k m L)/\m.Rg/\(L++(txtE m.v.rep++(txtE m.d.o++(txtE m.d.p)))).length<=1099511627776/\Q .normal (S_ms F k m (L++(txtE m.v.rep++(txtE m.d.o++(txtE m.d.p)))))
def wn9(F:FL)(k:Nat)(m:MG)(L:List UInt8):war:=λst Q=>canonIs te 0 [1,3,5,6,7,28,29,30] st (S_ms F k m L)/\m.Rg/\(L++(numE m.d.per)).length<=1099511627776/\Q .normal (S_ms F k m (L++(numE m.d.per)))
def wn8(F:FL)(k:Nat)(m:MG)(L:List UInt8):war:=λst Q=>canonIs te 0 [1,3,5,6,7,28,29,30] st (S_ms F k m L)/\m.Rg/\(L++(txtE m.d.dev)).length<=1099511627776/\Q .normal (S_ms F k m (L++(txtE m.d.dev)))
def wn7(F:FL)(k:Nat)(m:MG)(L:List UInt8):war:=λst Q=>canonIs te 0 [1,3,5,6,7,28,29,30] st (S_ms F k m L)/\m.Rg/\(L++(numE m.d.num)).length<=1099511627776/\Q .normal (S_ms F k m (L++(numE m.d.num)))
def S_p4(F:FL)(k:Nat)(L:List UInt8)(t:RT)(j:Nat):St:=⟨[(3,.ptr 0 0),(118,.view 5 F.ts.length (wah (atT F.ts))),(119,.q F.ts.length),(120,.q k),(143,.view 2 t.bs.length (wa1 (atB t.bs))),(144,.q t.bs.length),(145,.q j)],[(0,.cells [.ptr 0 0,.own 1 (e4F L t j).length] 111),(1,.row 5 1 (e4F L t j).length (strG (e4F L t j)) false)],2,[]⟩
def L_p4(F:FL)(k:Nat)(L:List UInt8)(t:RT):war:=λst Q=>canonIs te 0 [3,118,119,120,143,144,145] st (S_p4 F k L t 0)/\t.Rg/\(e4F L t t.bs.length).length<=1099511627776/\Q (.exit 6) ⟨[(3,.ptr 0 0),(118,.view 5 F.ts.length (wah (atT F.ts))),(119,.q F.ts.length),(120,.q k)],[(0,.cells [.ptr 0 0,.own 1 (L++rtE t).length] 111),(1,.row 5 1 (L++rtE t).length (strG (L++rtE t)) false)],2,[]⟩
def S_q4(F:FL)(k:Nat)(L:List UInt8)(t:RT)(j:Nat):St:=⟨[(3,.str (e4F L t j)),(140,.view 5 F.ts.length (wah (atT F.ts))),(141,.q F.ts.length),(142,.q k),(168,.view 2 t.bs.length (wa1 (atB t.bs))),(169,.q t.bs.length),(170,.q j)],[],0,[]⟩
def L_q4(F:FL)(k:Nat)(L:List UInt8)(t:RT):war:=λst Q=>canonIs te 0 [3,140,141,142,168,169,170] st (S_q4 F k L t 0)/\t.Rg/\(e4F L t t.bs.length).length<=1099511627776/\Q (.exit 6) ⟨[(3,.str (L++rtE t)),(140,.view 5 F.ts.length (wah (atT F.ts))),(141,.q F.ts.length),(142,.q k)],[],0,[]⟩
def S_q1s(F:FL)(s:List UInt8)(k:Nat):St:=⟨[(1,.ptr 0 0),(3,.str s),(29,.view 15 F.ms.length (wag (atM F.ms))),(30,.q F.ms.length),(31,.q k)],[(0,.cells [.str F.id,.q F.ver,.q F.day,.q F.kind,.view 15 F.ms.length (wag (atM F.ms)),.view 5 F.rs.length (wai (atR F.rs)),.view 5 F.ts.length (wah (atT F.ts))] 49)],1,[]⟩
def S_q2s(F:FL)(s:List UInt8)(k:Nat):St:=⟨[(1,.ptr 0 0),(3,.str s),(108,.view 5 F.rs.length (wai (atR F.rs))),(109,.q F.rs.length),(110,.q k)],[(0,.cells [.str F.id,.q F.ver,.q F.day,.q F.kind,.view 15 F.ms.length (wag (atM F.ms)),.view 5 F.rs.length (wai (atR F.rs)),.view 5 F.ts.length (wah (atT F.ts))] 49)],1,[]⟩
def S_q3s(F:FL)(s:List UInt8)(k:Nat):St:=⟨[(3,.str s),(140,.view 5 F.ts.length (wah (atT F.ts))),(141,.q F.ts.length),(142,.q k)],[],0,[]⟩
def S_q4s(F:FL)(k:Nat)(s:List UInt8)(t:RT)(j:Nat):St:=⟨[(3,.str s),(140,.view 5 F.ts.length (wah (atT F.ts))),(141,.q F.ts.length),(142,.q k),(168,.view 2 t.bs.length (wa1 (atB t.bs))),(169,.q t.bs.length),(170,.q j)],[],0,[]⟩
def wcy:Spec
 |[.agg [.str id,.int .i64 ver,.int .i64 day,.int .i64 kind,.view 15 nm fm,.view 5 nr fr,.view 5 nt ft]],[]=>some (.str (encF (flV id ver day kind nm fm nr fr nt ft)),[],FlC nm fm nr fr nt ft/\(flV id ver day kind nm fm nr fr nt ft).Rg)
 |_,_=>none
def wi0:AV:=.agg [.str [],.q 0,.q 0,.q 0,.nil,.nil,.nil]
def zeroFA:AV:=.agg [.str [],.q 0,.q 0,.q 0,.view 0 0 (λ_=>[]),.view 0 0 (λ_=>[]),.view 0 0 (λ_=>[])]
def entN(g:Nat->FL)(k:Nat):List (AV×AV):=(waw okV g k).map λt=>(.str t,.agg (wbb (wbe okV g k t)))
def gotN(es:List (AV×AV))(x:List UInt8):AV:=(mget es (.str x)).getD zeroFA
def cmpN(es:List (AV×AV))(x y:List UInt8):Int:=orL [cmpS (wbx (way (gotN es x) 0)) (wbx (way (gotN es y) 0)),cmpI (wap (way (gotN es x) 1)) (wap (way (gotN es y) 1)),cmpI (wap (way (gotN es x) 2)) (wap (way (gotN es y) 2)),cmpS x y]
structure FL.Gd (F:FL):Prop where
 sm:F.Sm
 rg:F.Rg
def S_n3(g:Nat->FL)(n k:Nat):St:=⟨[(3,.ptr 0 0),(15,.view 7 n (wac g)),(16,.q n),(17,.q k)],[(0,.cells [.map 1] 121),(1,.amap (entN g k))],2,[]⟩
def L_n3(g:Nat->FL)(n:Nat):war:=λst Q=>canonIs te 0 [3,15,16,17] st (S_n3 g n 0)/\n<=1000/\(∀i,i<n->(g i).Gd)/\Q (.exit 0) ⟨[(3,.ptr 0 0)],[(0,.cells [.map 1] 121),(1,.amap (entN g n))],2,[]⟩
structure IN where
 c:Nat
 h:Nat->List UInt8
 c0:Nat
 left:List Nat
def wl8(es:List (AV×AV))(i:IN):St:=⟨[(3,.ptr 0 0),(9,.own 1 i.c),(46,.ptr 2 0)],[(0,.cells [.map 3] 121),(1,.row 9 1 i.c (wax i.h) false),(2,.miter 3 es.length (121::i.c0::i.left)),(3,.amap es)],4,[]⟩
def wn5(g:Nat->FL)(n:Nat):war:=λst Q=>canonIs te 0 [3,9,46] (ownNil 9 9 1 st) (wl8 (entN g n) ⟨0,λ_=>[],(entN g n).length,List.range (entN g n).length⟩)/\n<=1000/\
 ∀h:Nat->List UInt8,(lst h (waw okV g n).length).Perm (waw okV g n)->Q (.exit 2) ⟨[(3,.ptr 0 0),(9,.own 1 (waw okV g n).length)],[(0,.cells [.map 2] 121),(1,.row 9 1 (waw okV g n).length (wax h) false),(2,.amap (entN g n))],3,[]⟩
def wnl:wb8
 |[.own 0 n,.func 92 [.ptr 1 0]],[.row t 1 m f fr,.cells [.map 2] ct,.amap es],R=>t=9/\fr=false/\n=m/\n<=1000000/\f=wax (stOf f)/\wbl .string es/\(∀x,wcj wi0 (gotN es x)=gotN es x)/\(∀p∈es,nref p.1=true/\nref p.2=true)/\
   ∀h:Nat->List UInt8,(lst h n).Perm (lst (stOf f) n)->(∀i j,i<j->j<n->¬ cmpN es (h j) (h i)<0)->R (.tuple []) [(0,.row 9 1 n (wax h) false),(1,.cells [.map 2] ct),(2,.amap es)]
 |_,_,_=>False
def isFl(u:AV)(F:FL):Prop:=u= .agg (wbb F)
def wm2:Spec
 |[u],[]=>some (u,[],∃F:FL,isFl u F/\F.ms.length<=1000/\F.rs.length<=1000/\F.ts.length<=1000/\∀t∈F.ts,t.bs.length<=1000)
 |_,_=>none
def wl7(es:List (AV×AV))(m:Nat)(h:Nat->List UInt8)(o:Nat->FL)(k:Nat):St:=⟨[(3,.ptr 0 0),(11,.own 1 k),(58,.own 2 m),(59,.q m),(60,.q k)],
 [(0,.cells [.map 3] 121),(1,.row 49 7 k (wac o) false),(2,.row 9 1 m (wax h) false),(3,.amap es)],4,[]⟩
def wn4(g:Nat->FL)(n:Nat):war:=λst Q=>∃h:Nat->List UInt8,∃o:Nat->FL,canonIs te 0 [3,11,58,59,60] (ownNil 11 49 7 st) (wl7 (entN g n) (waw okV g n).length h o 0)/\n<=1000/\(∀i,i<(waw okV g n).length->isFl (gotN (entN g n) (h i)) (o i)/\(o i).Gd)/\
 Q (.exit 4) ⟨[(11,.own 0 (waw okV g n).length)],[(0,.row 49 7 (waw okV g n).length (wac o) false)],1,[]⟩
def wl3:Spec
 |[.view 7 n f],[]=>some (.own 0 (nrmL okV (flOf f) n).length,[(0,.row 49 7 (nrmL okV (flOf f) n).length (wac (atF (nrmL okV (flOf f) n))) false)],n<=1000/\f=wac (flOf f)/\∀i,i<n->(flOf f i).Gd)
 |_,_=>none
end Go.Eng
namespace Go.Eng
open Go.Lib
structure MG.Tn (m:MG):Prop where
 rg:m.Rg
 a:m.dev.length<=100
 b:m.v.o.length<=100
 c:m.v.p.length<=100
 d:m.v.rep.length<=100
 e:m.d.o.length<=100
 f:m.d.p.length<=100
 g:m.d.dev.length<=100
structure RW.Tn (r:RW):Prop where
 rg:r.Rg
 a:r.o.length<=100
 b:r.p.length<=100
structure RT.Tn (t:RT):Prop where
 rg:t.Rg
 a:t.o.length<=100
 b:t.p.length<=100
structure FL.Tn (F:FL):Prop where
 id:F.id.length<=100
 ver:inR .i64 F.ver
 kind:inR .i64 F.kind
 m:F.ms.length<=1000/\∀m∈F.ms,m.Tn
 r:F.rs.length<=1000/\∀r∈F.rs,r.Tn
 t:F.ts.length<=1000/\∀t∈F.ts,t.Tn
theorem wtm:∀(k u:Nat),u<10 ^ (k+1)->nDigits u<=k+1
 |0,u,h=>by rw[nDigits_small (by omega)];exact lR7 _
 |k+1,u,h=>by
  by_cases q:u<10
  ·rw[nDigits_small q];omega
  ·rw[nDigits_big q];have:=wtm k (u / 10) (by rw[Nat.pow_succ] at h;omega);omega
theorem wtl(u:Nat)(h:u<18446744073709551616):nDigits u<=20:=wtm 19 u (by omega)
theorem itoa21{n:Int}(h:inR .i64 n):(itoa n).length<=21:=by
 simp only[inR] at h;unfold itoa
 by_cases q:n<0
 ·rw[if_pos q,List.length_cons,decDigits_length];have:=wtl n.natAbs (by omega);omega
 ·rw[if_neg q,decDigits_length];have:=wtl n.toNat (by omega);omega
theorem wcd{n:Int}(h:inR .i64 n):(numE n).length<=22:=by
 have:=itoa21 h;unfold numE;rw[lA7];show _+1<=_;omega
theorem wjq{n:Nat}(h:n<=1000):(numE n).length<=22:=wcd (by simp only[inR];omega)
theorem wc9{s:List UInt8}(h:s.length<=100):(txtE s).length<=123:=by
 have:=itoa21 (n:=(s.length:Int)) (by simp only[inR];omega);unfold txtE;rw[lA7,List.length_cons,lA7];show _+(s.length+1+1)<=_;omega
theorem wik{α:Type}(e:α->List UInt8)(B:Nat):∀l:List α,(∀x∈l,(e x).length<=B)->(l.flatMap e).length<=l.length * B
 |[],_=>by simp
 |x::l,h=>by
  have h1:=h x (List.mem_cons_self ..);have h2:=wik e B l λy hy=>h y (List.mem_cons_of_mem _ hy);rw[List.flatMap_cons,lA7,List.length_cons,Nat.add_mul,Nat.one_mul];omega
theorem mgE_len{m:MG}(h:m.Tn):(mgE m).length<=1100:=by
 have h1:=wc9 h.a;have h2:=wc9 h.b;have h3:=wc9 h.c;have h4:=wc9 h.d;have h5:=wc9 h.e;have h6:=wc9 h.f;have h7:=wc9 h.g;have n1:=wcd h.rg.seq;have n2:=wcd h.rg.kind;have n3:=wcd h.rg.per;have n4:=wcd h.rg.day;have n5:=wcd h.rg.st;have n6:=wcd h.rg.pr;have n7:=wcd h.rg.dper;have n8:=wcd h.rg.num;unfold mgE;simp only[lA7];omega
theorem rwE_len{r:RW}(h:r.Tn):(rwE r).length<=1100:=by
 have h1:=wc9 h.a;have h2:=wc9 h.b;have n1:=wcd h.rg.per;have n2:=wcd h.rg.u;have n3:=wcd h.rg.tv;unfold rwE;simp only[lA7];omega
theorem rtE_len{t:RT}(h:t.Tn):(rtE t).length<=50000:=by
 have h1:=wc9 h.a;have h2:=wc9 h.b;have n1:=wcd h.rg.per;have n2:=wcd h.rg.st;have n3:=wjq h.rg.n;have hb:=wik bkE 44 t.bs λb hb=>by
  have q1:=wcd (h.rg.b b hb).1;have q2:=wcd (h.rg.b b hb).2;unfold bkE;rw[lA7];omega
 have hm:t.bs.length * 44<=1000 * 44:=Nat.mul_le_mul_right _ h.rg.n;unfold rtE;simp only[lA7];omega
theorem FL.Tn.rg{F:FL}(h:F.Tn):F.Rg:=by
 refine⟨h.ver,h.kind,h.m.1,h.r.1,h.t.1,λm hm=>(h.m.2 m hm).rg,λr hr=>(h.r.2 r hr).rg,λt ht=>(h.t.2 t ht).rg,?_⟩;have h1:=wc9 h.id;have n1:=wcd h.ver;have n2:=wcd h.kind;have n3:=wjq h.m.1;have n4:=wjq h.r.1;have n5:=wjq h.t.1;have f1:=wik mgE 1100 F.ms λm hm=>mgE_len (h.m.2 m hm);have f2:=wik rwE 1100 F.rs λr hr=>rwE_len (h.r.2 r hr);have f3:=wik rtE 50000 F.ts λt ht=>rtE_len (h.t.2 t ht);have m1:F.ms.length * 1100<=1000 * 1100:=Nat.mul_le_mul_right _ h.m.1;have m2:F.rs.length * 1100<=1000 * 1100:=Nat.mul_le_mul_right _ h.r.1;have m3:F.ts.length * 50000<=1000 * 50000:=Nat.mul_le_mul_right _ h.t.1;unfold encF;simp only[lA7];omega
theorem MG.Tn.sm{m:MG}(h:m.Tn):m.Sm:=⟨by have:=h.a;omega,by have:=h.b;omega,by have:=h.e;omega,by have:=h.g;omega⟩
theorem FL.Tn.gd{F:FL}(h:F.Tn):F.Gd:=
 ⟨⟨by have:=h.id;omega,⟨h.m.1,λm hm=>(h.m.2 m hm).sm⟩,⟨h.r.1,λr hr=>by have:=(h.r.2 r hr).a;omega⟩,⟨h.t.1,λt ht=>⟨by have:=(h.t.2 t ht).a;omega⟩⟩⟩,h.rg⟩
theorem wpq{s:List UInt8}(h:wa8 s=true):s.length<=24:=by
 unfold wa8 at h;simp only[bA7,decide_eq_true_eq] at h;omega
theorem wo2{s:List UInt8}(h:wbf s=true):s.length<=13:=by
 unfold wbf wb2 at h;split at h
 ·rename_i q;simp only[bA7,Bool.or_eq_true,decide_eq_true_eq] at q;omega
 ·cases h
theorem wpa{o p:List UInt8}{per:Int}(h:wby o p per=true):o.length<=24/\p.length<=13/\0<=per/\per<=5999:=by
 unfold wby at h;simp only[bA7,decide_eq_true_eq] at h;exact⟨wpq h.1.1.1,wo2 h.1.1.2,h.1.2,h.2⟩
theorem wpf{r:RW}(h:rowF r=true):r.Tn:=by
 unfold rowF at h;simp only[bA7,decide_eq_true_eq] at h;obtain⟨h1,h2,h3,h4⟩:=wpa h.1.1;exact⟨⟨by simp only[inR];omega,by simp only[inR];omega,by simp only[inR];omega⟩,by omega,by omega⟩
theorem wtc{n:Int}(h:numF n=true):inR .i64 n:=by
 unfold numF at h;simp only[bA7,decide_eq_true_eq] at h;simp only[inR];omega
theorem visF_tn{v:VT}(h:visF v=true):v.o.length<=24/\v.p.length<=13/\v.rep.length<=13/\inR .i64 v.per/\inR .i64 v.day/\inR .i64 v.st/\inR .i64 v.pr:=by
 unfold visF at h;simp only[bA7,decide_eq_true_eq] at h;obtain⟨⟨⟨h0,h1⟩,h2⟩,h3⟩:=h;obtain⟨k1,k2,k3,k4⟩:=wpa h0;have hp:inR .i64 v.per:=by simp only[inR];omega
 have hd:inR .i64 v.day:=by simp only[inR];omega
 by_cases q1:v.st=1∨v.st=2
 ·have:(decide (v.st=1) || decide (v.st=2))=true:=by rcases q1 with q | q<;>simp[q]
  rw[this] at h3;simp only[cond_true,bA7,decide_eq_true_eq] at h3;exact⟨k1,k2,by rw[h3.2];simp,hp,hd,by simp only[inR];omega,by simp only[inR];omega⟩
 ·have:(decide (v.st=1) || decide (v.st=2))=false:=by simp only[Bool.or_eq_false_iff,decide_eq_false_iff_not];omega
  rw[this] at h3;simp only[cond_false] at h3
  by_cases q2:v.st=3∨v.st=4
  ·have:(decide (v.st=3) || decide (v.st=4))=true:=by rcases q2 with q | q<;>simp[q]
   rw[this] at h3;simp only[cond_true,bA7,decide_eq_true_eq] at h3;exact⟨k1,k2,by rw[h3.2];simp,hp,hd,by simp only[inR];omega,by simp only[inR];omega⟩
  ·have:(decide (v.st=3) || decide (v.st=4))=false:=by simp only[Bool.or_eq_false_iff,decide_eq_false_iff_not];omega
   rw[this] at h3;simp only[cond_false] at h3
   by_cases q3:v.st=5
   ·rw[decide_eq_true q3] at h3;simp only[cond_true,bA7,decide_eq_true_eq] at h3;exact⟨k1,k2,wo2 h3.1.2,hp,hd,by simp only[inR];omega,by simp only[inR];omega⟩
   ·rw[decide_eq_false q3] at h3
    cases h3
theorem wtp{m:MG}(h:msgF m=0):m.Tn:=by
 unfold msgF at h
 cases h1:wa8 m.dev with
 |false=>rw[h1] at h;exact absurd (show (110:Int)=0 from h) (by decide)
 |true=>
  cases h2:numF m.seq with
  |false=>rw[h1,h2] at h;exact absurd (show (111:Int)=0 from h) (by decide)
  |true=>
   cases h3: !decide (m.kind=1) && !decide (m.kind=2) with
   |true=>rw[h1,h2,h3] at h;exact absurd (show (112:Int)=0 from h) (by decide)
   |false=>
    cases h4:(decide (m.kind=1) && !visF m.v) || (decide (m.kind=2) && !m.v.nil) with
    |true=>rw[h1,h2,h3,h4] at h;exact absurd (show (113:Int)=0 from h) (by decide)
    |false=>
     cases h5:(decide (m.kind=1) && !m.d.nil) || (decide (m.kind=2) && !(wby m.d.o m.d.p m.d.per && wa8 m.d.dev && numF m.d.num)) with
     |true=>rw[h1,h2,h3,h4,h5] at h;exact absurd (show (114:Int)=0 from h) (by decide)
     |false=>
      have a:=wpq h1;have b:=wtc h2
      by_cases k1:m.kind=1
      ·have k2:¬ m.kind=2:=by omega
       rw[decide_eq_true k1,decide_eq_false k2] at h4 h5;simp only[Bool.true_and,Bool.false_and,Bool.or_false,Bool.not_eq_false'] at h4 h5;obtain⟨v1,v2,v3,v4,v5,v6,v7⟩:=visF_tn h4;unfold DT.nil at h5;simp only[bA7,decide_eq_true_eq] at h5;obtain⟨d1,d2,d3,d4,d5⟩:=h5;exact⟨⟨b,by simp only[inR];omega,v4,v5,v6,v7,by simp only[inR];omega,by simp only[inR];omega⟩,by omega,by omega,by omega,by omega,by rw[d1];simp,by rw[d2];simp,by rw[d4];simp⟩
      ·have k2:m.kind=2:=by
        rw[decide_eq_false k1] at h3;simp only[Bool.not_false,Bool.true_and,Bool.not_eq_false',decide_eq_true_eq] at h3;exact h3
       rw[decide_eq_false k1,decide_eq_true k2] at h4 h5;simp only[Bool.true_and,Bool.false_and,Bool.false_or,Bool.not_eq_false'] at h4 h5;simp only[bA7] at h5;obtain⟨⟨s1,s2⟩,s3⟩:=h5;obtain⟨t1,t2,t3,t4⟩:=wpa s1;have t5:=wpq s2;unfold VT.nil at h4;simp only[bA7,decide_eq_true_eq] at h4;obtain⟨v1,v2,v3,v4,v5,v6,v7⟩:=h4;exact⟨⟨b,by simp only[inR];omega,by simp only[inR];omega,by simp only[inR];omega,by simp only[inR];omega,by simp only[inR];omega,by simp only[inR];omega,wtc s3⟩,by omega,by rw[v1];simp,by rw[v2];simp,by rw[v7];simp,by omega,by omega,by omega⟩
end Go.Eng
namespace Go.Eng
structure RW.Made (r:RW):Prop where
 ok:rowF r=true
 o:r.o.length<=2
 u:1<=r.u/\r.u<=20
 tv:1<=r.tv/\r.tv<=2400
structure RwS where
 c:Nat
 g:Nat->RW
 a:Int
def RW.put(g:Nat->RW)(k:Nat)(r:RW)(i:Nat):RW:=if i<k then g i else r
def wlw(n:Nat)(v:Nat->Int)(N:Int)(i:RwS):St:=⟨[(0,.ptr 0 0),(5,.own 1 i.c),(9,.q N),(10,.q i.c)],
 [(0,.cells [.view 1 n (wab v),.q i.a] 27),(1,.row 61 5 i.c (wai i.g) false)],2,[]⟩
def wn1(n:Nat)(v:Nat->Int)(a N:Int):war:=λst Q=>canonIs te 1 [0,5,9,10] (ownNil 5 61 5 st) (wlw n v N ⟨0,λ_=>default,a⟩)/\(0<=N/\N<=100)/\(0<=a/\a<=4611686018427375000)/\
 ∀i:RwS,i.c=N.toNat->i.a=a+6 * i.c->(∀j,j<i.c->(i.g j).Made)->Q (.exit 0) ⟨[(5,.own 1 i.c)],[(0,.cells [.view 1 n (wab v),.q i.a] 27),(1,.row 61 5 i.c (wai i.g) false)],2,[]⟩
def wnm:wb8
 |[.ptr 0 0,.int .i64 most],[.cells [.view sz n f,.int .i64 a] t],R=>t=27/\sz=1/\f=wab (vInt f)/\(0<=a/\a<=4611686018427370000)/\(0<=most/\most<=90)/\
   ∀(c:Nat) (g:Nat->RW) (a':Int),c<=most.toNat->(a<=a'/\a'<=a+600)->(∀j,j<c->(g j).Made)->
   R (.own 1 c) [(0,.cells [.view 1 n f,.q a'] 27),(1,.row 61 5 c (wai g) false)]
 |_,_,_=>False
end Go.Eng
namespace Go.Eng
open Go.RowKit
def allP{α:Type}(p:α->Prop):List α->Prop
 |[]=>True
 |[x]=>p x
 |x::l=>p x/\allP p l
theorem wrh{α:Type}{p:α->Prop}:∀ {l:List α},allP p l->∀x∈l,p x
 |[],_,x,hx=>by cases hx
 |[y],h,x,hx=>by obtain rfl:=List.mem_singleton.1 hx;exact h
 |y::z::l,h,x,hx=>by
  obtain⟨h1,h2⟩:=h
  rcases List.mem_cons.1 hx with rfl | hx
  ·exact h1
  ·exact wrh h2 x hx
def wf6(done:List Nat):List Edge->Bool
 |[]=>true
 |e::l=>match Region.binds .any e with
  |true=>match hasN done e.on with
   |true=>wf6 done l
   |false=>false
  |false=>wf6 done l
def rdyL(done:List Nat):Nat->List Oper->List (Nat×Oper)
 |_,[]=>[]
 |i,o::l=>match hasN done i with
  |true=>rdyL done (i+1) l
  |false=>match wf6 done o.after.toList with
   |true=>(i,o)::rdyL done (i+1) l
   |false=>rdyL done (i+1) l
theorem wq2{done:List Nat}:∀ {l:List Edge},wf6 done l=true↔∀e∈l,Region.binds .any e=true->e.on∈done
 |[]=>by simp[wf6]
 |e::l=>by
  unfold wf6;have ih:=wq2 (done:=done) (l:=l)
  cases hb:Region.binds .any e with
  |true=>
   cases hh:hasN done e.on with
   |true=>
    dsimp only
    rw[ih]
    constructor
    ·intro h e' he hb'
     rcases List.mem_cons.1 he with rfl | he
     ·exact(wbj _ _).1 hh
     ·exact h e' he hb'
    ·exact λh e' he hb'=>h e' (List.mem_cons_of_mem _ he) hb'
   |false=>
    dsimp only
    refine⟨λh=>(by cases h),λh=>?_⟩;rw[(wbj _ _).2 (h e (List.mem_cons_self ..) hb)] at hh;cases hh
  |false=>
   dsimp only
   rw[ih]
   constructor
   ·intro h e' he hb'
    rcases List.mem_cons.1 he with rfl | he
    ·rw[hb] at hb';cases hb'
    ·exact h e' he hb'
   ·exact λh e' he hb'=>h e' (List.mem_cons_of_mem _ he) hb'
theorem wh0{done:List Nat}:∀ {l:List Oper} {j i:Nat} {o:Oper},(i,o)∈rdyL done j l↔∃i',i=j+i'/\l[i']?=some o/\i ∉ done/\∀e∈o.after.toList,Region.binds .any e=true->e.on∈done
 |[],j,i,o=>by simp[rdyL]
 |o'::l,j,i,o=>by
  have ih:=wh0 (done:=done) (l:=l) (j:=j+1) (i:=i) (o:=o);have tail:(∃i',i=j+1+i'/\l[i']?=some o/\i ∉ done/\∀e∈o.after.toList,Region.binds .any e=true->e.on∈done)->∃i',i=j+i'/\(o'::l)[i']?=some o/\i ∉ done/\∀e∈o.after.toList,Region.binds .any e=true->e.on∈done:=by
   rintro⟨i',h1,h2,h3⟩;exact⟨i'+1,by omega,by simpa using h2,h3⟩
  have back:(∃i',i=j+i'/\(o'::l)[i']?=some o/\i ∉ done/\∀e∈o.after.toList,Region.binds .any e=true->e.on∈done)->(i=j/\o=o'/\j ∉ done/\∀e∈o'.after.toList,Region.binds .any e=true->e.on∈done)∨∃i',i=j+1+i'/\l[i']?=some o/\i ∉ done/\∀e∈o.after.toList,Region.binds .any e=true->e.on∈done:=by
   rintro⟨i',h1,h2,h3,h4⟩
   cases i' with
   |zero=>
    simp only[List.getElem?_cons_zero,sI7] at h2;subst h2;obtain rfl:i=j:=by omega
    exact .inl ⟨rfl,rfl,h3,h4⟩
   |succ i'=>exact .inr ⟨i',by omega,by simpa using h2,h3,h4⟩
  unfold rdyL
  cases hh:hasN done j with
  |true=>
   dsimp only
   rw[ih];refine⟨tail,λh=>?_⟩
   rcases back h with⟨_,_,h3,_⟩ | h
   ·exact absurd ((wbj _ _).1 hh) h3
   ·exact h
  |false=>
   cases hd:wf6 done o'.after.toList with
   |true=>
    dsimp only
    rw[List.mem_cons,ih,pI7]
    constructor
    ·rintro(⟨rfl,rfl⟩ | h)
     ·refine⟨0,rfl,rfl,λq=>?_,wq2.1 hd⟩;rw[(wbj _ _).2 q] at hh;cases hh
     ·exact tail h
    ·intro h
     rcases back h with⟨h1,h2,_⟩ | h
     ·exact .inl ⟨h1,h2⟩
     ·exact .inr h
   |false=>
    dsimp only
    rw[ih];refine⟨tail,λh=>?_⟩
    rcases back h with⟨_,_,_,h4⟩ | h
    ·rw[wq2.2 h4] at hd;cases hd
    ·exact h
def wei(G:Env)(opl:List Oper)(Q:St->Prop):Nat->List Nat->KT
 |0,done,T,O,nx=>match rdyL done 0 opl with
  |[]=>Q ⟨T,O,nx,[]⟩
  |_::_=>False
 |fuel+1,done,T,O,nx=>match rdyL done 0 opl with
  |[]=>Q ⟨T,O,nx,[]⟩
  |p0::l=>allP (λp:Nat×Oper=>match p.2.guard with
   |none=>wp1 G p.2 T O nx (wei G opl Q fuel (p.1::done))
   |some _=>False) (p0::l)
def wgn(K:St->Prop)(Q:Exit->St->Prop):Exit->St->Prop
 |.normal,s=>K s
 |e,s=>Q e s
theorem wrn{P:Program}{o:Oper}{a:Act}{w:World}{K K':Act->World->Prop}{Q Q':Exit->Act->World->Prop}(h:∀a w,K a w->K' a w)(hq:∀e a w,e≠ .normal->Q e a w->Q' e a w)(hh:o.wp P a w K Q):o.wp P a w K' Q':=by
 unfold Oper.wp at *;generalize (execOp a.eval o).run P w=r at *
 cases r with
 |ok n w'=>
   cases n<;>simp only[Oper.upon] at hh ⊢ <;>
     first
       |exact h _ _ hh
       |exact hh.elim
       |exact Calls.mono hh (λe w'' he=>by
           cases e with
           |returned v=>exact h _ _ he
           |panicked c=>exact hq _ _ _ (by simp) he
           |outgrown=>obtain⟨a',w3,h3⟩:=he;exact⟨a',w3,hq _ _ _ (by simp) h3⟩)
       |exact Rows.mono hh (λ_ _ he=>h _ _ he)
 |halt x w'=>cases x<;>simp only[Oper.upon] at hh ⊢ <;>first | exact hq _ _ _ (by simp) hh | exact hh.elim
theorem wgk{opl:List Oper}{done:List Nat}{listed:Array Bool}(hsz:listed.size=opl.length)(hl:∀i,listed.getD i false=true↔i∈done)(i:Nat):i∈Region.ready .any opl.toArray listed↔∃o,opl[i]?=some o/\(i,o)∈rdyL done 0 opl:=by
 rw[mem_ready];have e:∀o,opl[i]?=some o->(listed.getD i true=false↔i ∉ done):=λo ho=>by
  have hi:i<listed.size:=by rw[hsz];exact(List.getElem?_eq_some_iff.1 ho).1
  rw[wkd hi true false, ← hl]
  cases listed.getD i false<;>simp
 constructor
 ·rintro⟨h0,o,ho,h⟩;have ho:opl[i]?=some o:=by simpa using ho
  exact⟨o,ho,wh0.2 ⟨i,by omega,ho,(e o ho).1 h0,λx hx hb=>(hl _).1 (h x (by simpa using hx) hb)⟩⟩
 ·rintro⟨o,ho,h⟩;obtain⟨i',h1,h2,h3,h4⟩:=wh0.1 h;exact⟨(e o ho).2 h3,o,by simpa using ho,λx hx hb=>(hl _).2 (h4 x (by simpa using hx) hb)⟩
theorem wrp{C:Ctx}{G:Env}(hG:EnvOK C G){m:Nat}{opl:List Oper}{Q:Exit->St->Prop}{E:Ent}(hE:E.m=m):∀(fuel:Nat) (done:List Nat) (listed:Array Bool) (T:List (Nat×AV)) (O:List (Nat×AObj)) (nx:Nat) (bs:Nat->Option Hd) (a:Act) (w:World),
  listed.size=opl.length->(∀i,listed.getD i false=true↔i∈done)->wei G opl (Q .normal) fuel done T O nx->RepS C E G.N ⟨T,O,nx,[]⟩ bs a w->wpAny C.P .any opl.toArray (QC C E G.N Q) fuel listed a w
 |0,done,listed,T,O,nx,bs,a,w,hsz,hl,h,hr=>by
  unfold wei at h;unfold wpAny;split at h
  ·rename_i hr0;refine⟨List.eq_nil_iff_forall_not_mem.2 λi hi=>?_,_,bs,h,hr⟩;obtain⟨o,_,ho⟩:=(wgk hsz hl i).1 hi;rw[hr0] at ho;cases ho
  ·exact h.elim
 |fuel+1,done,listed,T,O,nx,bs,a,w,hsz,hl,h,hr=>by
  unfold wei at h;unfold wpAny;split at h
  ·rename_i hr0;refine⟨λ_=>⟨_,bs,h,hr⟩,λi hi=>?_⟩;obtain⟨o,_,ho⟩:=(wgk hsz hl i).1 hi;rw[hr0] at ho;cases ho
  ·rename_i p0 l hr0;refine⟨λq=>?_,λi hi=>?_⟩
   ·obtain⟨i0,o0⟩:=p0;have hm:(i0,o0)∈rdyL done 0 opl:=by rw[hr0];exact List.mem_cons_self ..
    obtain⟨i',h1,h2,_⟩:=wh0.1 hm;obtain rfl:i0=i':=by omega
    have:=(wgk hsz hl i0).2 ⟨o0,h2,hm⟩;rw[q] at this;cases this
   obtain⟨o,ho,hm⟩:=(wgk hsz hl i).1 hi;rw[hr0] at hm;have hp:=wrh h _ hm;dsimp only at hp;have hilt:i<listed.size:=by rw[hsz];exact(List.getElem?_eq_some_iff.1 ho).1
   have hsz':(listed.setIfInBounds i true).size=opl.length:=by simp[hsz]
   have hl':∀j,(listed.setIfInBounds i true).getD j false=true↔j∈i::done:=λj=>by
    by_cases e:i=j
    ·subst e;simp[Array.getD,hilt]
    ·rw[getD_set_ne _ e,hl,List.mem_cons];exact⟨.inr,λh=>h.resolve_left λq=>e q.symm⟩
   split at hp
   ·rename_i hg;have:=wi2 (m:=m) (ops:=opl.toArray) (rest:=[]) (Q:=wgn (λs=>wei G opl (Q .normal) fuel (i::done) s.T s.O s.nx) Q) hG hg hp (λT' O' nx' hK=>by
     intro E' hE' bs' a' w' hr';exact⟨⟨T',O',nx',[]⟩,bs',hK,hr'⟩) E hE bs a w hr
    have fin:∀a' w',QC C E G.N (wgn (λs=>wei G opl (Q .normal) fuel (i::done) s.T s.O s.nx) Q) .normal a' w'->wpAny C.P .any opl.toArray (QC C E G.N Q) fuel (listed.setIfInBounds i true) a' w':=by
     rintro a' w' ⟨⟨T',O',nx',d'⟩,bs',hK,hr'⟩;exact wrp hG hE fuel _ _ T' O' nx' bs' a' w' hsz' hl' hK hr'
    have other:∀e a' w',e≠Exit.normal->QC C E G.N (wgn (λs=>wei G opl (Q .normal) fuel (i::done) s.T s.O s.nx) Q) e a' w'->QC C E G.N Q e a' w':=by
     rintro e a' w' hne ⟨s,bs',hs,hr'⟩;refine⟨s,bs',?_,hr'⟩
     cases e with
     |normal=>exact absurd rfl hne
     |_=>exact hs
    unfold wpOp;have ho':opl.toArray[i]?=some o:=by simpa using ho
    rw[ho'];unfold wpList at this;dsimp only
    split
    ·rename_i hw;rw[if_pos hw] at this
     rcases this with h | ⟨h1,a',w',h2⟩
     ·exact .inl (wrn fin other h)
     ·exact .inr ⟨h1,a',w',other _ _ _ (by simp) h2⟩
    ·rename_i hw;rw[if_neg hw] at this;exact fin _ _ this
   ·exact hp.elim
def allH(A:List Nat):List Nat->Bool
 |[]=>true
 |i::l=>match hasN A i with
  |true=>allH A l
  |false=>false
theorem wri{A:List Nat}:∀ {l:List Nat},allH A l=true↔∀i∈l,i∈A
 |[]=>by simp[allH]
 |i::l=>by
  unfold allH;have ih:=wri (A:=A) (l:=l)
  cases h:hasN A i with
  |true=>
   dsimp only
   rw[ih]
   constructor
   ·intro h' j hj
    rcases List.mem_cons.1 hj with rfl | hj
    ·exact(wbj _ _).1 h
    ·exact h' j hj
   ·exact λh' j hj=>h' j (List.mem_cons_of_mem _ hj)
  |false=>
   refine⟨λh=>(by cases h),λh'=>?_⟩;rw[(wbj _ _).2 (h' i (List.mem_cons_self ..))] at h;cases h
def wib(T:List (Nat×AV)):List Nat->List (Nat×AV)
 |[]=>[]
 |j::F=>match lk T j with
  |some u=>(j,u)::wib T F
  |none=>wib T F
theorem wqg{T:List (Nat×AV)}:∀ {F:List Nat} {j:Nat} {u:AV},lk (wib T F) j=some u->lk T j=some u
 |[],j,u,h=>by cases h
 |i::F,j,u,h=>by
  unfold wib at h;split at h
  ·rename_i v hv;rw[wa3] at h
   by_cases e:i=j
   ·subst e;rw[if_pos rfl] at h;rw[hv,h]
   ·rw[if_neg e] at h;exact wqg h
  ·exact wqg h
def wej(G:Env)(opl:List Oper)(A:List Nat)(K:KT):Nat->List Nat->KT
 |0,_,_,_,_=>False
 |fuel+1,done,T,O,nx=>match Nat.beq done.length A.length with
  |true=>match allH A done with
   |true=>match allH done A with
    |true=>K T O nx
    |false=>False
   |false=>False
  |false=>match rdyL done 0 opl with
   |[]=>False
   |p0::l=>allP (λp:Nat×Oper=>match p.2.guard with
    |none=>wp1 G p.2 T O nx (wej G opl A K fuel (p.1::done))
    |some _=>False) (p0::l)
theorem RepS.sub{C:Ctx}{E:Ent}{N:Nat}{T T':List (Nat×AV)}{O:List (Nat×AObj)}{nx:Nat}{bs:Nat->Option Hd}{a:Act}{w:World}(h:RepS C E N ⟨T,O,nx,[]⟩ bs a w)(hs:∀j u,lk T' j=some u->lk T j=some u):RepS C E N ⟨T',O,nx,[]⟩ bs a w:=
 ⟨⟨⟨h.1.1.1,h.1.1.2.1,λi u hu=>h.1.1.2.2 i u (hs i u hu)⟩,h.1.2⟩,h.2⟩
theorem wrr{C:Ctx}{G:Env}(hG:EnvOK C G){m:Nat}{opl:List Oper}{A:List Nat}{K:KT}{Q:Exit->St->Prop}{E:Ent}(hE:E.m=m)
  (leaf:∀(listed:Array Bool) (T:List (Nat×AV)) (O:List (Nat×AObj)) (nx:Nat) (bs:Nat->Option Hd) (a:Act) (w:World),listed.size=opl.length->(∀i,listed.getD i false=true↔i∈A)->K T O nx->RepS C E G.N ⟨T,O,nx,[]⟩ bs a w->
   wpAny C.P .any opl.toArray (QC C E G.N Q) (opl.length - A.length) listed a w):∀(fuel:Nat) (done:List Nat) (listed:Array Bool) (T:List (Nat×AV)) (O:List (Nat×AObj)) (nx:Nat) (bs:Nat->Option Hd) (a:Act) (w:World),
  fuel+done.length=opl.length->listed.size=opl.length->(∀i,listed.getD i false=true↔i∈done)->wej G opl A K fuel done T O nx->RepS C E G.N ⟨T,O,nx,[]⟩ bs a w->wpAny C.P .any opl.toArray (QC C E G.N Q) fuel listed a w
 |0,done,listed,T,O,nx,bs,a,w,hf,hsz,hl,h,hr=>by
  unfold wej at h;exact h.elim
 |fuel+1,done,listed,T,O,nx,bs,a,w,hf,hsz,hl,h,hr=>by
  unfold wej at h;split at h
  ·rename_i hlen;have hlen:=Nat.eq_of_beq_eq_true hlen;split at h
   ·rename_i h1;split at h
    ·rename_i h2;have e:fuel+1=opl.length - A.length:=by omega
     rw[e];exact leaf listed T O nx bs a w hsz (λi=>(hl i).trans ⟨λq=>wri.1 h1 i q,λq=>wri.1 h2 i q⟩) h hr
    ·exact h.elim
   ·exact h.elim
  ·split at h
   ·exact h.elim
   ·rename_i p0 l hr0;unfold wpAny;refine⟨λq=>?_,λi hi=>?_⟩
    ·obtain⟨i0,o0⟩:=p0;have hm:(i0,o0)∈rdyL done 0 opl:=by rw[hr0];exact List.mem_cons_self ..
     obtain⟨i',h1,h2,_⟩:=wh0.1 hm;obtain rfl:i0=i':=by omega
     have:=(wgk hsz hl i0).2 ⟨o0,h2,hm⟩;rw[q] at this;cases this
    obtain⟨o,ho,hm⟩:=(wgk hsz hl i).1 hi;rw[hr0] at hm;have hp:=wrh h _ hm;dsimp only at hp;have hilt:i<listed.size:=by rw[hsz];exact(List.getElem?_eq_some_iff.1 ho).1
    have hsz':(listed.setIfInBounds i true).size=opl.length:=by simp[hsz]
    have hl':∀j,(listed.setIfInBounds i true).getD j false=true↔j∈i::done:=λj=>by
     by_cases e:i=j
     ·subst e;simp[Array.getD,hilt]
     ·rw[getD_set_ne _ e,hl,List.mem_cons];exact⟨.inr,λh=>h.resolve_left λq=>e q.symm⟩
    split at hp
    ·rename_i hg;have:=wi2 (m:=m) (ops:=opl.toArray) (rest:=[]) (Q:=wgn (λs=>wej G opl A K fuel (i::done) s.T s.O s.nx) Q) hG hg hp (λT' O' nx' hK=>by
      intro E' hE' bs' a' w' hr';exact⟨⟨T',O',nx',[]⟩,bs',hK,hr'⟩) E hE bs a w hr
     have fin:∀a' w',QC C E G.N (wgn (λs=>wej G opl A K fuel (i::done) s.T s.O s.nx) Q) .normal a' w'->wpAny C.P .any opl.toArray (QC C E G.N Q) fuel (listed.setIfInBounds i true) a' w':=by
      rintro a' w' ⟨⟨T',O',nx',d'⟩,bs',hK,hr'⟩;exact wrr hG hE leaf fuel (i::done) _ T' O' nx' bs' a' w' (by rw[List.length_cons];omega) hsz' hl' hK hr'
     have other:∀e a' w',e≠Exit.normal->QC C E G.N (wgn (λs=>wej G opl A K fuel (i::done) s.T s.O s.nx) Q) e a' w'->QC C E G.N Q e a' w':=by
      rintro e a' w' hne ⟨s,bs',hs,hr'⟩;refine⟨s,bs',?_,hr'⟩
      cases e with
      |normal=>exact absurd rfl hne
      |_=>exact hs
     unfold wpOp;have ho':opl.toArray[i]?=some o:=by simpa using ho
     rw[ho'];unfold wpList at this;dsimp only
     split
     ·rename_i hw;rw[if_pos hw] at this
      rcases this with h | ⟨h1,a',w',h2⟩
      ·exact .inl (wrn fin other h)
      ·exact .inr ⟨h1,a',w',other _ _ _ (by simp) h2⟩
     ·rename_i hw;rw[if_neg hw] at this;exact fin _ _ this
    ·exact hp.elim
def cutIs(F:List Nat)(SA:St):KT:=λT O nx=>wib T F=SA.T/\O=SA.O/\nx=SA.nx
def rgA(G:Env)(x:Code)(A F:List Nat)(SA s:St):Prop:=match x with
 |.region _ ops true=>wej G ops.toList A (cutIs F SA) ops.toList.length [] s.T s.O s.nx
 |_=>False
def rgB(G:Env)(x:Code)(A Fe:List Nat)(Q:Exit->St->Prop)(SA:St):Prop:=match x with
 |.region _ ops true=>wei G ops.toList (Eng.canQ G.te G.m Fe [] Q .normal) (ops.toList.length - A.length) A SA.T SA.O SA.nx
 |_=>False
theorem AWP.cut{C:Ctx}{G:Env}(hG:EnvOK C G){m id:Nat}{opl:List Oper}{A F:List Nat}{SA:St}{Q:Exit->St->Prop}{T0:List (Nat×AV)}{O0:List (Nat×AObj)}{nx:Nat}{dec:List Nat}
  (h:wej G opl A (cutIs F SA) opl.length [] T0 O0 nx) (h2:wei G opl (Q .normal) (opl.length - A.length) A SA.T SA.O SA.nx):AWP C m G.N (.region id opl.toArray true) Q ⟨T0,O0,nx,dec⟩:=by
 intro E hE bs a w hr;have hS:Step w (MB E (lk O0) bs) bs { w with drawn:=w.drawn+1 } (MB E (lk O0) bs) bs/\WRep C E (lk O0) bs { w with drawn:=w.drawn+1 }:=by
  refine hr.1.2.next (λ_=>False) (λ_ _ h=>h) (λ_ _ _ h=>.inl h) (λ_ h=>h.elim) (λ_ _ _=>rfl) (lR7 _) (λ_ h=>.inl h) (λ_ _ _ h=>.inl ⟨h,λ_ _ _ h=>h⟩) hr.1.2.sep ?_ rfl ⟨rfl,λ_=>Nat.le_succ _⟩ rfl;intro r t sz n f b c ho hb;have:=hr.1.2.frz r t sz n f b c ho hb;exact⟨λh=>this (.inr h),λh=>this (.inl h)⟩
 refine wp_region_any C.mixed (wrr hG hE (λlisted T O nx' bs' a' w' hsz hl hK hr'=>?_) _ [] _ T0 O0 nx bs a _ (by simp) (by simp) (λi=>by simp[Array.getD]) (by simpa using h) ⟨⟨hr.1.1.step hS.1,hS.2⟩,hr.2.1,hr.2.2⟩);obtain⟨k1,k2,k3⟩:=hK;subst k2;subst k3;refine wrp hG hE _ A listed SA.T SA.O SA.nx bs' a' w' hsz hl h2 ?_;rw[← k1];exact hr'.sub λj u hu=>wqg hu
theorem waj.cut{C:Ctx}{te:TE}(hte:Prg C te){m N:Nat}{x:Code}{s S SA:St}{Q:Exit->St->Prop}(calls:List (Nat×CSpec))(fuel:Nat)(hc:wc7 C calls)(F Fe A FA:List Nat)
  (h0:canonIs te m F s S) (h:rgA ⟨te,calls,[],m,N,fuel⟩ x A FA SA S) (h2:rgB ⟨te,calls,[],m,N,fuel⟩ x A Fe Q SA) (hS:wcg S.O True):AWP C m N x Q s:=by
 have hG:EnvOK C ⟨te,calls,[],m,N,fuel⟩:=⟨hte.ok,hte.one,hc⟩;have h1:AWP C m N x (Eng.canQ te m Fe [] Q) S:=by
  unfold rgA at h;split at h
  ·rename_i id ops;have:=AWP.cut (m:=m) (id:=id) (dec:=S.dec) hG h h2;simpa using this
  ·exact h.elim
 exact AWP.canonIs F h0 h1.canQ hS
end Go.Eng
namespace Go.Eng
def mapR(φ:AV->AV)(b:Bool):AObj->AObj
 |.cells cs t=>.cells (cs.map φ) t
 |.row t sz n f fr=>match b with
  |true=>.row t sz n (λi=>(f i).map φ) fr
  |false=>.row t sz n f fr
 |.amap es=>.amap es
 |.siter s pos=>.siter s pos
 |.miter m n0 left=>.miter m n0 left
 |.dead=>.dead
theorem wp2(φ:AV->AV)(b:Bool)(o:AObj):(mapR φ b o).mut=o.mut:=by
 cases o with
 |row t sz n f fr=>cases b<;>cases fr<;>rfl
 |_=>rfl
def mapO(φ:AV->AV)(rs:List Nat):List (Nat×AObj)->List (Nat×AObj)
 |[]=>[]
 |p::l=>(p.1,mapR φ (hasN rs p.1) p.2)::mapO φ rs l
theorem wh6(φ:AV->AV)(rs:List Nat):∀(O:List (Nat×AObj)) (k:Nat),lk (mapO φ rs O) k=(lk O k).map (mapR φ (hasN rs k))
 |[],k=>rfl
 |p::l,k=>by
  rw[mapO,wa3,wa3]
  by_cases e:p.1=k
  ·subst e;rw[if_pos rfl,if_pos rfl];rfl
  ·rw[if_neg e,if_neg e];exact wh6 φ rs l k
theorem WRep.mapR{C:Ctx}{E:Ent}{O:Nat->Option AObj}{bs:Nat->Option Hd}{w:World}(hW:WRep C E O bs w)(φ:AV->AV)(hφ:∀v u,V w (MB E O bs) bs v u->V w (MB E O bs) bs v (φ u))(rs:List Nat):
  MB E (λk=>(O k).map (Eng.mapR φ (hasN rs k))) bs=MB E O bs/\WRep C E (λk=>(O k).map (Eng.mapR φ (hasN rs k))) bs w:=by
 have hold:∀r o,(O r).map (Eng.mapR φ (hasN rs r))=some o->∃o',O r=some o'/\o=Eng.mapR φ (hasN rs r) o':=λr o ho=>by
  obtain⟨o',h1,h2⟩:=Option.map_eq_some_iff.1 ho;exact⟨o',h1,h2.symm⟩
 have hmb:∀b,mutB (λk=>(O k).map (Eng.mapR φ (hasN rs k))) bs b->mutB O bs b:=λb ⟨r,o,c,h1,h2,h3⟩=>by
  obtain⟨o',q1,rfl⟩:=hold r o h1;exact⟨r,o',c,q1,by rw[← h2,wp2],h3⟩
 have hMB:MB E (λk=>(O k).map (Eng.mapR φ (hasN rs k))) bs=MB E O bs:=by
  funext b;apply propext
  constructor
  ·rintro(h | h)
   ·exact .inl h
   ·exact .inr (hmb b h)
  ·rintro(h | ⟨r,o,c,h1,h2,h3⟩)
   ·exact .inl h
   ·exact .inr ⟨r,Eng.mapR φ (hasN rs r) o,c,by simp[h1],by rw[wp2];exact h2,h3⟩
 refine⟨hMB,?_⟩
 exact {
  obj:=λr o ho=>by
   rw[hMB];obtain⟨o',h0,rfl⟩:=hold r o ho;have h:=hW.obj r o' h0
   cases o' with
   |cells cs t=>
    obtain⟨b,c,vs,h1,h2,h3,h4,h5⟩:=h;refine⟨b,c,vs,h1,h2,by rw[List.length_map];exact h3,h4,λj v u hv hu=>?_⟩;rw[List.getElem?_map] at hu;obtain⟨u0,q1,rfl⟩:=Option.map_eq_some_iff.1 hu;exact hφ v u0 (h5 j v u0 hv q1)
   |row t sz n f fr=>
    unfold Eng.mapR
    cases hasN rs r with
    |false=>exact h
    |true=>
     dsimp only
     rcases h with h | ⟨b,c,vs,h1,h2,h3,h4,h5,h6,h7,h8⟩
     ·exact .inl h
     ·refine .inr ⟨b,c,vs,h1,h2,h3,h4,h5,λi hi=>by rw[List.length_map];exact h6 i hi,h7,λi hi j v u hj hv hu=>?_⟩;rw[List.getElem?_map] at hu;obtain⟨u0,q1,rfl⟩:=Option.map_eq_some_iff.1 hu;exact hφ v u0 (h8 i hi j v u0 hj hv q1)
   |amap es=>exact h
   |siter s pos=>exact h
   |miter m n0 left=>exact h
   |dead=>exact h
  sep:=λr r' o1 o2 b c c' h1 h2 m1 m2 b1 b2=>by
   obtain⟨o1',p1,rfl⟩:=hold r o1 h1;obtain⟨o2',p3,rfl⟩:=hold r' o2 h2;rw[wp2] at m1 m2;exact hW.sep r r' o1' o2' b c c' p1 p3 m1 m2 b1 b2
  out:=λb hb=>hW.out b (hmb b hb)
  frz:=λr t' sz' n' f2 b c ho hb=>by
   rw[hMB];obtain⟨o',p1,p2⟩:=hold r _ ho
   cases o' with
   |row t sz n f fr=>
    unfold Eng.mapR at p2
    cases hq:hasN rs r with
    |false=>
     rw[hq] at p2;injection p2 with e1 e2 e3 e4 e5;subst e5;exact hW.frz r _ _ _ _ b c p1 hb
    |true=>
     rw[hq] at p2;injection p2 with e1 e2 e3 e4 e5;subst e5;exact hW.frz r _ _ _ _ b c p1 hb
   |_=>cases p2
  high:=λb hb=>hW.high b (by rw[← hMB];exact hb)
  lt:=hW.lt
  outlt:=hW.outlt
  keep:=hW.keep
  old:=λb hb=>hW.old b (hmb b hb)
  size:=hW.size
  pre:=hW.pre
  os:=hW.os
  tape:=hW.tape
  output:=hW.output
  laid:=hW.laid
  gle:=hW.gle }
def frzX(r:Nat)(rs:List Nat)(s:St):St:=match lk s.O r with
 |some (.row _ sz n g _)=>⟨frzT r sz n g s.T,mapO (frz r sz n g) rs (rm r s.O),s.nx,[]⟩
 |_=>s
theorem RepS.frzX{C:Ctx}{E:Ent}{N:Nat}{s:St}{bs:Nat->Option Hd}{a:Act}{w:World}(h:RepS C E N s bs a w)(r:Nat)(rs:List Nat)(hf:frzOK r s):RepS C E N (Eng.frzX r rs s) bs a w:=by
 unfold Eng.frzX;unfold frzOK at hf;split
 ·rename_i t sz n g fr hO;rw[hO] at hf;obtain⟨⟨hF,hW⟩,hnx,hm⟩:=h;obtain⟨hS,hW1⟩:=hW.freeze hO;have hF1:=hF.step hS;obtain⟨e2,hW2⟩:=hW1.mapR (Eng.frz r sz n g) (λv u hV=>V.frz hW1 (wav _ _ _) hf hV) rs;obtain⟨hS3,hW3⟩:=hW2.less (O':=lk (mapO (Eng.frz r sz n g) rs (rm r s.O))) λk o hk=>by
   rw[wh6] at hk;obtain⟨o',q0,rfl⟩:=Option.map_eq_some_iff.1 hk;obtain⟨q1,q2⟩:=wgq r s.O k o' q0;show Option.map _ (up (lk s.O) r _ k)=_;rw[wau _ _ _ q1,q2];rfl
  refine⟨⟨⟨hF.1,hF.2.1,λi u hu=>?_⟩,hW3⟩,λk hk=>⟨?_,(hnx k hk).2⟩,hm⟩
  ·obtain⟨u0,h0,rfl⟩:=wt7 hu;obtain⟨v,hv,hV⟩:=hF1.2.2 i u0 h0;have hV2:=V.frzC hW1 (wav _ _ _) hf hV;rw[← e2] at hV2;exact⟨v,hv,hV2.step hS3⟩
  ·show lk (mapO _ rs (rm r s.O)) k=none;rw[wh6]
   cases hx:lk (rm r s.O) k with
   |none=>rfl
   |some o=>
    have:=(wgq r s.O k o hx).2;rw[(hnx k hk).1] at this;cases this
 ·exact h
theorem AWP.frzX{C:Ctx}{m N:Nat}{c:Code}{Q:Exit->St->Prop}{s:St}(r:Nat)(rs:List Nat)(hf:frzOK r s)(h:AWP C m N c Q (Eng.frzX r rs s)):AWP C m N c Q s:=by
 intro E hE bs a w hr;exact h E hE bs a w (hr.frzX r rs hf)
def BK.Rg(b:BK):Prop:=inR .i64 b.up/\inR .i64 b.pr
structure TfS where
 up:Int
 bs:List BK
 a:Int
def wiy(n:Nat)(v:Nat->Int)(N st:Int)(i:TfS):St:=⟨[(0,.ptr 0 0),(2,.ptr 1 0),(3,.ptr 2 0),(4,.q i.up),(9,.q N),(10,.q i.bs.length)],
 [(0,.cells [.view 1 n (wab v),.q i.a] 27),(1,.cells [.q 0,.nil] 95),(2,.cells [.q st,.own 3 i.bs.length] 95),(3,.row 115 2 i.bs.length (wa1 (atB i.bs)) false)],4,[]⟩
def wdv(n:Nat)(v:Nat->Int)(a:Int):Nat->Int
 |0=>0
 |k+1=>wdv n v a k+(1+waa n v (a+2 * k) 60)
def tarB(n:Nat)(v:Nat->Int)(a:Int):Nat->List BK
 |0=>[]
 |k+1=>tarB n v a k++[⟨wdv n v a (k+1),waa n v (a+2 * k+1) 4 * 10⟩]
def tarL(n:Nat)(v:Nat->Int)(a:Int):List BK:=tarB n v (a+2) (waa n v (a+1) 4).toNat++[⟨0,waa n v (a+2+2 * waa n v (a+1) 4) 4 * 10⟩]
def tarA(n:Nat)(v:Nat->Int)(a:Int):Int:=a+2+2 * waa n v (a+1) 4+1
theorem wsa(n:Nat)(v:Nat->Int)(a:Int):∀k,(tarB n v a k).length=k
 |0=>rfl
 |k+1=>by rw[tarB,lA7,wsa n v a k];rfl
theorem wo6(n:Nat)(v:Nat->Int)(a:Int):∀k:Nat,0<=wdv n v a k/\wdv n v a k<=60 * k
 |0=>⟨Int.le_refl _,Int.le_refl _⟩
 |k+1=>by
  have:=wo6 n v a k;have r:=was (show (1:Int)<=60 by omega) n v (a+2 * k);rw[wdv];omega
theorem wr9(n:Nat)(v:Nat->Int)(a:Int):∀k,k<=1000->∀b∈tarB n v a k,b.Rg
 |0,_,b,hb=>by cases hb
 |k+1,hk,b,hb=>by
  rw[tarB] at hb
  rcases List.mem_append.1 hb with hb | hb
  ·exact wr9 n v a k (by omega) b hb
  ·rw[List.mem_singleton.1 hb];have:=wo6 n v a (k+1);have r:=was (show (1:Int)<=4 by omega) n v (a+2 * k+1)
   constructor
   ·show inR .i64 (wdv n v a (k+1));simp only[inR];omega
   ·show inR .i64 (waa n v (a+2 * k+1) 4 * 10);simp only[inR];omega
theorem ww9(n:Nat)(v:Nat->Int)(a:Int):(tarL n v a).length<=10/\(∀b∈tarL n v a,b.Rg)/\(a<=tarA n v a/\tarA n v a<=a+12):=by
 have r:=was (show (1:Int)<=4 by omega) n v (a+1);have r2:=was (show (1:Int)<=4 by omega) n v (a+2+2 * waa n v (a+1) 4);refine⟨?_,λb hb=>?_,?_⟩
 ·unfold tarL;rw[lA7,wsa];show _+1<=10;omega
 ·unfold tarL at hb
  rcases List.mem_append.1 hb with hb | hb
  ·exact wr9 n v _ _ (by omega) b hb
  ·rw[List.mem_singleton.1 hb]
   constructor
   ·show inR .i64 0;simp only[inR];omega
   ·show inR .i64 (waa n v (a+2+2 * waa n v (a+1) 4) 4 * 10);simp only[inR];omega
 ·unfold tarA;omega
def wny(n:Nat)(v:Nat->Int)(a N st:Int):war:=λs Q=>canonIs te 1 [0,2,3,4,9,10] (ownNilP 3 1 115 2 s) (wiy n v N st ⟨0,[],a⟩)/\(0<=N/\N<=3)/\(0<=a/\a<=4611686018427375000)/\
 ∀i:TfS,(i.bs.length:Int)=N->i.a=a+2 * N->i.bs=tarB n v a N.toNat->
  Q (.exit 0) ⟨[(0,.ptr 0 0),(2,.ptr 1 0),(3,.ptr 2 0)],(wiy n v N st i).O,4,[]⟩
def wln:Spec
 |[.ptr 0 0],[.cells [.view sz n f,.int .i64 a] t]=>some (.agg [.q (waa n (vInt f) a 500),.view 2 (tarL n (vInt f) a).length (wa1 (atB (tarL n (vInt f) a)))],
   [(0,.cells [.view 1 n f,.q (tarA n (vInt f) a)] 27)],t=27/\sz=1/\f=wab (vInt f)/\(0<=a/\a<=4611686018427370000))
 |_,_=>none
end Go.Eng
