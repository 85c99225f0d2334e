/- A row that nobody writes any more, told as data wherever it is held: in slots, cells, elements of other rows. -/
import Derived.Test.YtgcboligphndhaaGreatDoorBs
import Derived.Test.YtgcboligphndhaaGreatDoorBq
import Derived.Test.YtgcboligphndhaaGreatDoorBp
namespace Go.Eng
def badM (m:MG):Bool:= !decide (msgF m=0)
def badT (t:RT):Bool:= !rtOK t
structure RT.Sm (t:RT):Prop where
 o:t.o.length<4294967281
structure FL.Sm (F:FL):Prop where
 id:F.id.length<4294967281
 m:F.ms.length≤1000∧∀ m∈F.ms,m.Sm
 r:F.rs.length≤1000∧∀ r∈F.rs,r.o.length<4294967281
 t:F.ts.length≤1000∧∀ t∈F.ts,t.Sm
def S_k1:Spec
 |[.agg [.str dev,.int .i64 seq,.int .i64 kind,.str o,.str p,.int .i64 per,.int .i64 day,.int .i64 st,.int .i64 pr,.str rep,.str o',.str p',.int .i64 per',.str dev',.int .i64 num]],[]=>some (.bool (badM ⟨dev,seq,kind,⟨o,p,per,day,st,pr,rep⟩,⟨o',p',per',dev',num⟩⟩),[],dev.length<4294967281∧o.length<4294967281∧o'.length<4294967281∧dev'.length<4294967281)
 |_,_=>none
def S_k2:Spec
 |[.agg [.str o,.str p,.int .i64 per,.int .i64 st,.view 2 n f]],[]=>some (.bool (badT ⟨o,p,per,st,lst (bkOf f) n⟩),[],o.length<4294967281∧f=wa6 (atB (lst (bkOf f) n)))
 |_,_=>none
def wll:Spec
 |[.view 15 n f,.func 125 []],[]=>some (.int .i64 (ixB (fun i=>badM (mgOf f i)) n),[],n≤1000000∧f=wah (mgOf f)∧∀ i,i<n→(mgOf f i).Sm)
 |_,_=>none
def wlj (g:Nat→MG) (n k:Nat):St:=⟨[(0,.view 15 n (wah g)),(1,.func 125 []),(7,.int .i64 n),(8,.int .i64 k)],[],0,[]⟩
def wmx (g:Nat→MG) (n:Nat):wau:=fun st Q=>canonIs te 0 [0,1,7,8] st (wlj g n 0)∧n≤1000000∧(∀ i,i<n→(g i).Sm)∧
 waa (decide (fstB (fun i=>badM (g i)) n<n)) (Q .ret ⟨[(4,.int .i64 (fstB (fun i=>badM (g i)) n))],[],0,[]⟩) (Q (.exit 0) ⟨[],[],0,[]⟩)
def wlz:Spec
 |[.view 15 n f,.func 125 []],[]=>some (.bool (decide (0≤ixB (fun i=>badM (mgOf f i)) n)),[],n≤1000000∧f=wah (mgOf f)∧∀ i,i<n→(mgOf f i).Sm)
 |_,_=>none
def wlk:Spec
 |[.view 5 n f,.func 127 []],[]=>some (.int .i64 (ixB (fun i=>badT (rtOf f i)) n),[],n≤1000000∧f=wai (rtOf f)∧∀ i,i<n→(rtOf f i).Sm)
 |_,_=>none
def wli (g:Nat→RT) (n k:Nat):St:=⟨[(0,.view 5 n (wai g)),(1,.func 127 []),(7,.int .i64 n),(8,.int .i64 k)],[],0,[]⟩
def wmw (g:Nat→RT) (n:Nat):wau:=fun st Q=>canonIs te 0 [0,1,7,8] st (wli g n 0)∧n≤1000000∧(∀ i,i<n→(g i).Sm)∧
 waa (decide (fstB (fun i=>badT (g i)) n<n)) (Q .ret ⟨[(4,.int .i64 (fstB (fun i=>badT (g i)) n))],[],0,[]⟩) (Q (.exit 0) ⟨[],[],0,[]⟩)
def wly:Spec
 |[.view 5 n f,.func 127 []],[]=>some (.bool (decide (0≤ixB (fun i=>badT (rtOf f i)) n)),[],n≤1000000∧f=wai (rtOf f)∧∀ i,i<n→(rtOf f i).Sm)
 |_,_=>none
def wlv:Spec
 |[.agg [.str id,.int .i64 ver,.int .i64 day,.int .i64 kind,.view 15 nm fm,.view 5 nr fr,.view 5 nt ft]],[]=>some (.bool (ctF (flV id ver day kind nm fm nr fr nt ft)),[],FlC nm fm nr fr nt ft∧(flV id ver day kind nm fm nr fr nt ft).Sm)
 |_,_=>none
def wkh:Spec
 |[.agg [.str id,.int .i64 ver,.int .i64 day,.int .i64 kind,.view 15 nm fm,.view 5 nr fr,.view 5 nt ft]],[]=>some (.int .i64 (vinF (flV id ver day kind nm fm nr fr nt ft)),[],FlC nm fm nr fr nt ft∧(flV id ver day kind nm fm nr fr nt ft).Sm)
 |_,_=>none
def txF (g:Nat→List UInt8):Nat→List UInt8
 |0=>[]
 |k+1=>txF g k++txtE (g k)
def nuF (g:Nat→Int):Nat→List UInt8
 |0=>[]
 |k+1=>nuF g k++numE (g k)
def wax (g:Nat→List UInt8) (i:Nat):List AV:=[.str (g i)]
def stOf (f:Nat→List AV) (i:Nat):List UInt8:=wbt ((f i).headD .any)
def wds:Spec
 |[.int .i64 n,.int .i64 10],[]=>some (.str (Go.Lib.itoa n),[],inR .i64 n)
 |_,_=>none
def wdr:Spec
 |[.int .i64 n],[]=>some (.str (Go.Lib.itoa n),[],inR .i64 n)
 |_,_=>none
def S_cc:Spec
 |[.ptr 0 0],[.cells [.nilptr,.nil] t]=>some (.tuple [],[(0,.cells [.ptr 0 0,.nil] 111)],t=111)
 |[.ptr 0 0],[.cells [.ptr 0 0,.own 1 n] t,.row t8 1 m f false]=>some (.tuple [],[(0,.cells [.ptr 0 0,.own 1 n] 111),(1,.row t8 1 m f false)],t=111)
 |_,_=>none
def S_ws:Spec
 |[.ptr 0 0,.str s],[.cells [.nilptr,.nil] t]=>some (.tuple [.int .i64 s.length,.nilIface],[(0,.cells [.ptr 0 0,.own 1 s.length] 111),(1,.row 5 1 s.length (strG s) false)],t=111∧s.length≤1099511627776)
 |[.ptr 0 0,.str s],[.cells [.ptr 0 0,.own 1 n] t,.row t8 1 m f false]=>some (.tuple [.int .i64 s.length,.nilIface],[(0,.cells [.ptr 0 0,.own 2 (waj m f++s).length] 111),(2,.row 5 1 (waj m f++s).length (strG (waj m f++s)) false)],
   t=111∧t8=5∧n=m∧f=strG (waj m f)∧(waj m f++s).length≤1099511627776)
 |_,_=>none
def wl2:Spec
 |[.ptr 0 0],[.cells [.ptr 0 0,.own 1 n] t,.row t8 1 m f false]=>some (.str (waj m f),[(0,.cells [.ptr 0 0,.own 1 n] 111)],t=111∧t8=5∧n=m∧f=strG (waj m f)∧0<n∧n≤1099511627776)
 |_,_=>none
def S_text:Spec
 |[.ptr 0 0,.own 1 n],[.cells [.nilptr,.nil] t,.row ts 1 n' h false]=>some (.tuple [],[(0,.cells [.ptr 0 0,.own 2 (txF (stOf h) n).length] 111),(1,.row 9 1 n' h false),(2,.row 5 1 (txF (stOf h) n).length (strG (txF (stOf h) n)) false)],
   t=111∧ts=9∧n=1∧n'=1∧h 0=wax (stOf h) 0∧(txF (stOf h) n).length≤1099511627776)
 |[.ptr 0 0,.own 1 n],[.cells [.ptr 0 0,.own 2 c] t,.row ts 1 n' h false,.row t8 1 m f false]=>some (.tuple [],[(0,.cells [.ptr 0 0,.own 3 (waj m f++txF (stOf h) n).length] 111),(1,.row 9 1 n' h false),(3,.row 5 1 (waj m f++txF (stOf h) n).length (strG (waj m f++txF (stOf h) n)) false)],
   t=111∧t8=5∧ts=9∧c=m∧n=n'∧(1≤n∧n≤3)∧f=strG (waj m f)∧(∀ i,i<n→h i=wax (stOf h) i)∧(waj m f++txF (stOf h) n).length≤1099511627776)
 |_,_=>none
def wuf:Spec
 |[.ptr 0 0,.own 1 n],[.cells [.ptr 0 0,.own 2 c] t,.row ts 1 n' h false,.row t8 1 m f false]=>some (.tuple [],[(0,.cells [.ptr 0 0,.own 3 (waj m f++nuF (vInt h) n).length] 111),(1,.row 2 1 n' h false),(3,.row 5 1 (waj m f++nuF (vInt h) n).length (strG (waj m f++nuF (vInt h) n)) false)],
   t=111∧t8=5∧ts=2∧c=m∧n=n'∧(1≤n∧n≤4)∧f=strG (waj m f)∧(∀ i,i<n→h i=waf (vInt h) i)∧(∀ i,i<n→inR .i64 (vInt h i))∧(waj m f++nuF (vInt h) n).length≤1099511627776)
 |_,_=>none
def wbd:we3
 |[.ptr 0 0,.own 1 n],[.cells [.nilptr,.nil] t,.row ts 1 n' h false],R=>(t=111∧ts=9∧n=1∧n'=1)∧h 0=wax (stOf h) 0∧(txF (stOf h) n).length≤1099511627776∧
   ∀ L':List UInt8,L'=txF (stOf h) n→R (.tuple []) [(0,.cells [.ptr 0 0,.own 2 L'.length] 111),(1,.row 9 1 n' h false),(2,.row 5 1 L'.length (strG L') false)]
 |[.ptr 0 0,.own 1 n],[.cells [.ptr 0 0,.own 2 c] t,.row ts 1 n' h false,.row t8 1 m f false],R=>(t=111∧t8=5∧ts=9∧c=m∧n=n'∧(1≤n∧n≤3))∧∃ L:List UInt8,(m=L.length∧f=strG L)∧
   (∀ i,i<n→h i=wax (stOf h) i)∧(L++txF (stOf h) n).length≤1099511627776∧
   ∀ L':List UInt8,L'=L++txF (stOf h) n→R (.tuple []) [(0,.cells [.ptr 0 0,.own 3 L'.length] 111),(1,.row 9 1 n' h false),(3,.row 5 1 L'.length (strG L') false)]
 |_,_,_=>False
def wbe:we3
 |[.ptr 0 0,.own 1 n],[.cells [.ptr 0 0,.own 2 c] t,.row ts 1 n' h false,.row t8 1 m f false],R=>(t=111∧t8=5∧ts=2∧c=m∧n=n'∧(1≤n∧n≤4))∧∃ L:List UInt8,(m=L.length∧f=strG L)∧
   (∀ i,i<n→h i=waf (vInt h) i)∧(∀ i,i<n→inR .i64 (vInt h i))∧(L++nuF (vInt h) n).length≤1099511627776∧
   ∀ L':List UInt8,L'=L++nuF (vInt h) n→R (.tuple []) [(0,.cells [.ptr 0 0,.own 3 L'.length] 111),(1,.row 2 1 n' h false),(3,.row 5 1 L'.length (strG L') false)]
 |_,_,_=>False
structure DcS where
 out:List UInt8
 m:Int
structure MG.Rg (m:MG):Prop where
 seq:inR .i64 m.seq
 kind:inR .i64 m.kind
 per:inR .i64 m.v.per
 day:inR .i64 m.v.day
 st:inR .i64 m.v.st
 pr:inR .i64 m.v.pr
 dper:inR .i64 m.d.per
 num:inR .i64 m.d.num
structure RW.Rg (r:RW):Prop where
 per:inR .i64 r.per
 u:inR .i64 r.u
 tv:inR .i64 r.tv
structure RT.Rg (t:RT):Prop where
 per:inR .i64 t.per
 st:inR .i64 t.st
 n:t.bs.length≤1000
 b:∀ b∈t.bs,inR .i64 b.up∧inR .i64 b.pr
structure FL.Rg (F:FL):Prop where
 ver:inR .i64 F.ver
 kind:inR .i64 F.kind
 nm:F.ms.length≤1000
 nr:F.rs.length≤1000
 nt:F.ts.length≤1000
 m:∀ m∈F.ms,m.Rg
 r:∀ r∈F.rs,r.Rg
 t:∀ t∈F.ts,t.Rg
 len:(encF F).length≤1099511627776
def e1F (F:FL):Nat→List UInt8
 |0=>txtE F.id++(numE F.ver++(numE F.kind++numE F.ms.length))
 |k+1=>e1F F k++mgE (atM F.ms k)
def e2F (F:FL):Nat→List UInt8
 |0=>e1F F F.ms.length++numE F.rs.length
 |k+1=>e2F F k++rwE (atR F.rs k)
def e3F (F:FL):Nat→List UInt8
 |0=>e2F F F.rs.length++numE F.ts.length
 |k+1=>e3F F k++rtE (atT F.ts k)
def e4F (L:List UInt8) (t:RT):Nat→List UInt8
 |0=>L++(txtE t.o++(txtE t.p++(numE t.per++(numE t.st++numE t.bs.length))))
 |k+1=>e4F L t k++bkE (atB t.bs k)
theorem wh1 {α:Type} (e:α→List UInt8) (d:α) (l:List α) (g:Nat→List UInt8) (L:List UInt8) (h0:g 0=L) (hs:∀ k,k<l.length→g (k+1)=g k++e (l.getD k d)):∀ k,k≤l.length→g k=L++(l.take k).flatMap e
 |0,_=>by simp [h0]
 |k+1,h=>by
  rw [hs k (by omega),wh1 e d l g L h0 hs k (by omega),List.take_add_one,List.append_assoc]
  congr 1
  rw [List.flatMap_append]
  congr 1
  simp [List.getD,List.getElem?_eq_getElem (show k<l.length by omega)]
theorem e1F_all (F:FL):e1F F F.ms.length=e1F F 0++F.ms.flatMap mgE:=by
 rw [wh1 mgE default F.ms (e1F F) (e1F F 0) rfl (fun _ _=>rfl) _ (Nat.le_refl _),List.take_length]
theorem e2F_all (F:FL):e2F F F.rs.length=e2F F 0++F.rs.flatMap rwE:=by
 rw [wh1 rwE default F.rs (e2F F) (e2F F 0) rfl (fun _ _=>rfl) _ (Nat.le_refl _),List.take_length]
theorem e3F_all (F:FL):e3F F F.ts.length=e3F F 0++F.ts.flatMap rtE:=by
 rw [wh1 rtE wif F.ts (e3F F) (e3F F 0) rfl (fun _ _=>rfl) _ (Nat.le_refl _),List.take_length]
theorem wti (L:List UInt8) (t:RT):e4F L t t.bs.length=L++rtE t:=by
 rw [wh1 bkE ⟨0,0⟩ t.bs (e4F L t) (e4F L t 0) rfl (fun _ _=>rfl) _ (Nat.le_refl _),List.take_length]
 simp only [e4F,rtE,List.append_assoc]
theorem wf9 (F:FL):e3F F F.ts.length=encF F:=by
 rw [e3F_all,e3F,e2F_all,e2F,e1F_all,e1F]
 simp only [encF,List.append_assoc]
def S_p1 (F:FL) (k:Nat):St:=⟨[(1,.ptr 0 0),(3,.ptr 1 0),(28,.view 15 F.ms.length (wah (atM F.ms))),(29,.int .i64 F.ms.length),(30,.int .i64 k)],[(0,.cells [.str F.id,.int .i64 F.ver,.int .i64 F.day,.int .i64 F.kind,.view 15 F.ms.length (wah (atM F.ms)),.view 5 F.rs.length (wak (atR F.rs)),.view 5 F.ts.length (wai (atT F.ts))] 49),(1,.cells [.ptr 1 0,.own 2 (e1F F k).length] 111),(2,.row 5 1 (e1F F k).length (strG (e1F F k)) false)],3,[]⟩
def L_p1 (F:FL):wau:=fun st Q=>canonIs te 0 [1,3,28,29,30] st (S_p1 F 0)∧F.Rg∧Q (.exit 0) ⟨[(1,.ptr 0 0),(3,.ptr 1 0)],[(0,.cells [.str F.id,.int .i64 F.ver,.int .i64 F.day,.int .i64 F.kind,.view 15 F.ms.length (wah (atM F.ms)),.view 5 F.rs.length (wak (atR F.rs)),.view 5 F.ts.length (wai (atT F.ts))] 49),(1,.cells [.ptr 1 0,.own 2 (e1F F F.ms.length).length] 111),(2,.row 5 1 (e1F F F.ms.length).length (strG (e1F F F.ms.length)) false)],3,[]⟩
def S_p2 (F:FL) (k:Nat):St:=⟨[(1,.ptr 0 0),(3,.ptr 1 0),(91,.view 5 F.rs.length (wak (atR F.rs))),(92,.int .i64 F.rs.length),(93,.int .i64 k)],[(0,.cells [.str F.id,.int .i64 F.ver,.int .i64 F.day,.int .i64 F.kind,.view 15 F.ms.length (wah (atM F.ms)),.view 5 F.rs.length (wak (atR F.rs)),.view 5 F.ts.length (wai (atT F.ts))] 49),(1,.cells [.ptr 1 0,.own 2 (e2F F k).length] 111),(2,.row 5 1 (e2F F k).length (strG (e2F F k)) false)],3,[]⟩
def L_p2 (F:FL):wau:=fun st Q=>canonIs te 0 [1,3,91,92,93] st (S_p2 F 0)∧F.Rg∧Q (.exit 2) ⟨[(1,.ptr 0 0),(3,.ptr 1 0)],[(0,.cells [.str F.id,.int .i64 F.ver,.int .i64 F.day,.int .i64 F.kind,.view 15 F.ms.length (wah (atM F.ms)),.view 5 F.rs.length (wak (atR F.rs)),.view 5 F.ts.length (wai (atT F.ts))] 49),(1,.cells [.ptr 1 0,.own 2 (e2F F F.rs.length).length] 111),(2,.row 5 1 (e2F F F.rs.length).length (strG (e2F F F.rs.length)) false)],3,[]⟩
def S_p3 (F:FL) (k:Nat):St:=⟨[(3,.ptr 0 0),(118,.view 5 F.ts.length (wai (atT F.ts))),(119,.int .i64 F.ts.length),(120,.int .i64 k)],[(0,.cells [.ptr 0 0,.own 1 (e3F F k).length] 111),(1,.row 5 1 (e3F F k).length (strG (e3F F k)) false)],2,[]⟩
def L_p3 (F:FL):wau:=fun st Q=>canonIs te 0 [3,118,119,120] st (S_p3 F 0)∧F.Rg∧Q (.exit 4) ⟨[(3,.ptr 0 0)],[(0,.cells [.ptr 0 0,.own 1 (e3F F F.ts.length).length] 111),(1,.row 5 1 (e3F F F.ts.length).length (strG (e3F F F.ts.length)) false)],2,[]⟩
def S_ms (F:FL) (k:Nat) (m:MG) (L:List UInt8):St:=⟨[(1,.ptr 0 0),(3,.ptr 1 0),(5,.ptr 2 0),(6,.ptr 3 0),(7,.ptr 4 0),(28,.view 15 F.ms.length (wah (atM F.ms))),(29,.int .i64 F.ms.length),(30,.int .i64 k)],[(0,.cells [.str F.id,.int .i64 F.ver,.int .i64 F.day,.int .i64 F.kind,.view 15 F.ms.length (wah (atM F.ms)),.view 5 F.rs.length (wak (atR F.rs)),.view 5 F.ts.length (wai (atT F.ts))] 49),(1,.cells [.ptr 1 0,.own 5 L.length] 111),(2,.cells [.str m.dev,.int .i64 m.seq,.int .i64 m.kind,.str m.v.o,.str m.v.p,.int .i64 m.v.per,.int .i64 m.v.day,.int .i64 m.v.st,.int .i64 m.v.pr,.str m.v.rep,.str m.d.o,.str m.d.p,.int .i64 m.d.per,.str m.d.dev,.int .i64 m.d.num] 40),(3,.cells [.str m.v.o,.str m.v.p,.int .i64 m.v.per,.int .i64 m.v.day,.int .i64 m.v.st,.int .i64 m.v.pr,.str m.v.rep] 36),(4,.cells [.str m.d.o,.str m.d.p,.int .i64 m.d.per,.str m.d.dev,.int .i64 m.d.num] 38),(5,.row 5 1 (L).length (strG (L)) false)],6,[]⟩
def L_m8 (F:FL) (k:Nat) (m:MG) (L:List UInt8):wau:=fun st Q=>canonIs te 0 [1,3,5,6,7,28,29,30] st (S_ms F k m L)∧m.Rg∧(L++(txtE m.dev)).length≤1099511627776∧Q .normal (S_ms F k m (L++(txtE m.dev)))
def L_m9 (F:FL) (k:Nat) (m:MG) (L:List UInt8):wau:=fun st Q=>canonIs te 0 [1,3,5,6,7,28,29,30] st (S_ms F k m L)∧m.Rg∧(L++(numE m.seq++(numE m.kind))).length≤1099511627776∧Q .normal (S_ms F k m (L++(numE m.seq++(numE m.kind))))
def wmq (F:FL) (k:Nat) (m:MG) (L:List UInt8):wau:=fun st Q=>canonIs te 0 [1,3,5,6,7,28,29,30] st (S_ms F k m L)∧m.Rg∧(L++(txtE m.v.o++(txtE m.v.p))).length≤1099511627776∧Q .normal (S_ms F k m (L++(txtE m.v.o++(txtE m.v.p))))
def wmp (F:FL) (k:Nat) (m:MG) (L:List UInt8):wau:=fun st Q=>canonIs te 0 [1,3,5,6,7,28,29,30] st (S_ms F k m L)∧m.Rg∧(L++(numE m.v.per++(numE m.v.day++(numE m.v.st++(numE m.v.pr))))).length≤1099511627776∧Q .normal (S_ms F k m (L++(numE m.v.per++(numE m.v.day++(numE m.v.st++(numE m.v.pr))))))
def wmo (F:FL) (k:Nat) (m:MG) (L:List UInt8):wau:=fun st Q=>canonIs te 0 [1,3,5,6,7,28,29,30] st (S_ms F k m L)∧m.Rg∧(L++(txtE m.v.rep++(txtE m.d.o++(txtE m.d.p)))).length≤1099511627776∧Q .normal (S_ms F k m (L++(txtE m.v.rep++(txtE m.d.o++(txtE m.d.p)))))
def wmn (F:FL) (k:Nat) (m:MG) (L:List UInt8):wau:=fun st Q=>canonIs te 0 [1,3,5,6,7,28,29,30] st (S_ms F k m L)∧m.Rg∧(L++(numE m.d.per)).length≤1099511627776∧Q .normal (S_ms F k m (L++(numE m.d.per)))
def wmm (F:FL) (k:Nat) (m:MG) (L:List UInt8):wau:=fun st Q=>canonIs te 0 [1,3,5,6,7,28,29,30] st (S_ms F k m L)∧m.Rg∧(L++(txtE m.d.dev)).length≤1099511627776∧Q .normal (S_ms F k m (L++(txtE m.d.dev)))
def wml (F:FL) (k:Nat) (m:MG) (L:List UInt8):wau:=fun st Q=>canonIs te 0 [1,3,5,6,7,28,29,30] st (S_ms F k m L)∧m.Rg∧(L++(numE m.d.num)).length≤1099511627776∧Q .normal (S_ms F k m (L++(numE m.d.num)))
def S_p4 (F:FL) (k:Nat) (L:List UInt8) (t:RT) (j:Nat):St:=⟨[(3,.ptr 0 0),(118,.view 5 F.ts.length (wai (atT F.ts))),(119,.int .i64 F.ts.length),(120,.int .i64 k),(143,.view 2 t.bs.length (wa6 (atB t.bs))),(144,.int .i64 t.bs.length),(145,.int .i64 j)],[(0,.cells [.ptr 0 0,.own 1 (e4F L t j).length] 111),(1,.row 5 1 (e4F L t j).length (strG (e4F L t j)) false)],2,[]⟩
def L_p4 (F:FL) (k:Nat) (L:List UInt8) (t:RT):wau:=fun st Q=>canonIs te 0 [3,118,119,120,143,144,145] st (S_p4 F k L t 0)∧t.Rg∧(e4F L t t.bs.length).length≤1099511627776∧Q (.exit 6) ⟨[(3,.ptr 0 0),(118,.view 5 F.ts.length (wai (atT F.ts))),(119,.int .i64 F.ts.length),(120,.int .i64 k)],[(0,.cells [.ptr 0 0,.own 1 (L++rtE t).length] 111),(1,.row 5 1 (L++rtE t).length (strG (L++rtE t)) false)],2,[]⟩
def wgq:Spec
 |[.agg [.str id,.int .i64 ver,.int .i64 day,.int .i64 kind,.view 15 nm fm,.view 5 nr fr,.view 5 nt ft]],[]=>some (.str (encF (flV id ver day kind nm fm nr fr nt ft)),[],FlC nm fm nr fr nt ft∧(flV id ver day kind nm fm nr fr nt ft).Rg)
 |_,_=>none
def wig:AV:=.agg [.str [],.int .i64 0,.int .i64 0,.int .i64 0,.nil,.nil,.nil]
def zeroFA:AV:=.agg [.str [],.int .i64 0,.int .i64 0,.int .i64 0,.view 0 0 (fun _=>[]),.view 0 0 (fun _=>[]),.view 0 0 (fun _=>[])]
def entN (g:Nat→FL) (k:Nat):List (AV×AV):=(waq okV g k).map fun t=>(.str t,.agg (wba (wa9 okV g k t)))
def gotN (es:List (AV×AV)) (x:List UInt8):AV:=(mget es (.str x)).getD zeroFA
def cmpN (es:List (AV×AV)) (x y:List UInt8):Int:=orL [cmpS (wbt (wav (gotN es x) 0)) (wbt (wav (gotN es y) 0)),cmpI (was (wav (gotN es x) 1)) (was (wav (gotN es y) 1)),cmpI (was (wav (gotN es x) 2)) (was (wav (gotN es y) 2)),cmpS x y]
structure FL.Gd (F:FL):Prop where
 sm:F.Sm
 rg:F.Rg
def S_n3 (g:Nat→FL) (n k:Nat):St:=⟨[(3,.ptr 0 0),(15,.view 7 n (wab g)),(16,.int .i64 n),(17,.int .i64 k)],[(0,.cells [.map 1] 121),(1,.amap (entN g k))],2,[]⟩
def L_n3 (g:Nat→FL) (n:Nat):wau:=fun st Q=>canonIs te 0 [3,15,16,17] st (S_n3 g n 0)∧n≤1000∧(∀ i,i<n→(g i).Gd)∧Q (.exit 0) ⟨[(3,.ptr 0 0)],[(0,.cells [.map 1] 121),(1,.amap (entN g n))],2,[]⟩
structure IN where
 c:Nat
 h:Nat→List UInt8
 c0:Nat
 left:List Nat
def wk6 (es:List (AV×AV)) (i:IN):St:=⟨[(3,.ptr 0 0),(9,.own 1 i.c),(46,.ptr 2 0)],[(0,.cells [.map 3] 121),(1,.row 9 1 i.c (wax i.h) false),(2,.miter 3 es.length (121::i.c0::i.left)),(3,.amap es)],4,[]⟩
def wmk (g:Nat→FL) (n:Nat):wau:=fun st Q=>canonIs te 0 [3,9,46] (ownNil 9 9 1 st) (wk6 (entN g n) ⟨0,fun _=>[],(entN g n).length,List.range (entN g n).length⟩)∧n≤1000∧
 ∀ h:Nat→List UInt8,(lst h (waq okV g n).length).Perm (waq okV g n)→Q (.exit 2) ⟨[(3,.ptr 0 0),(9,.own 1 (waq okV g n).length)],[(0,.cells [.map 2] 121),(1,.row 9 1 (waq okV g n).length (wax h) false),(2,.amap (entN g n))],3,[]⟩
def wl7:we3
 |[.own 0 n,.func 92 [.ptr 1 0]],[.row t 1 m f fr,.cells [.map 2] ct,.amap es],R=>t=9∧fr=false∧n=m∧n≤1000000∧f=wax (stOf f)∧wbl .string es∧(∀ x,wcc wig (gotN es x)=gotN es x)∧(∀ p∈es,nref p.1=true∧nref p.2=true)∧
   ∀ h:Nat→List UInt8,(lst h n).Perm (lst (stOf f) n)→(∀ i j,i<j→j<n→¬ cmpN es (h j) (h i)<0)→R (.tuple []) [(0,.row 9 1 n (wax h) false),(1,.cells [.map 2] ct),(2,.amap es)]
 |_,_,_=>False
def isFl (u:AV) (F:FL):Prop:=u= .agg (wba F)
def wlu:Spec
 |[u],[]=>some (u,[],∃ F:FL,isFl u F∧F.ms.length≤1000∧F.rs.length≤1000∧F.ts.length≤1000∧∀ t∈F.ts,t.bs.length≤1000)
 |_,_=>none
def wk5 (es:List (AV×AV)) (m:Nat) (h:Nat→List UInt8) (o:Nat→FL) (k:Nat):St:=⟨[(3,.ptr 0 0),(11,.own 1 k),(58,.own 2 m),(59,.int .i64 m),(60,.int .i64 k)],
 [(0,.cells [.map 3] 121),(1,.row 49 7 k (wab o) false),(2,.row 9 1 m (wax h) false),(3,.amap es)],4,[]⟩
def wmj (g:Nat→FL) (n:Nat):wau:=fun st Q=>∃ h:Nat→List UInt8,∃ o:Nat→FL,canonIs te 0 [3,11,58,59,60] (ownNil 11 49 7 st) (wk5 (entN g n) (waq okV g n).length h o 0)∧n≤1000∧(∀ i,i<(waq okV g n).length→isFl (gotN (entN g n) (h i)) (o i)∧(o i).Gd)∧
 Q (.exit 4) ⟨[(11,.own 0 (waq okV g n).length)],[(0,.row 49 7 (waq okV g n).length (wab o) false)],1,[]⟩
def wk2:Spec
 |[.view 7 n f],[]=>some (.own 0 (nrmL okV (flOf f) n).length,[(0,.row 49 7 (nrmL okV (flOf f) n).length (wab (atF (nrmL okV (flOf f) n))) false)],n≤1000∧f=wab (flOf f)∧∀ i,i<n→(flOf f i).Gd)
 |_,_=>none
def entI (K:List (List UInt8)) (v:List UInt8→Int):List (AV×AV):=K.map fun t=>(.str t,.int .i64 (v t))
def EsV (es:List (AV×AV)):Prop:=∃ (K:List (List UInt8)) (v:List UInt8→Int),es=entI K v∧K.Nodup
def qD (d:Int) (F:FL):Bool:=decide (d<F.day)
def qV (es:List (AV×AV)) (F:FL):Bool:= !decide (F.kind=1) && decide (F.ver<was ((mget es (.str F.id)).getD (.int .i64 0)))
def kfL (q:FL→Bool) (g:Nat→FL) (n:Nat):List FL:=(lst g n).filter fun x=> !q x
structure FI where
 k:Nat
 w:Nat
 h:Nat→FL
def we0:Spec
 |[.agg [.str id,.int .i64 ver,.int .i64 day,.int .i64 kind,.view 15 nm fm,.view 5 nr fr,.view 5 nt ft],.ptr 0 0],[.cells [.int .i64 d] t2]=>some (.bool (qD d (flV id ver day kind nm fm nr fr nt ft)),[(0,.cells [.int .i64 d] t2)],(FlC nm fm nr fr nt ft∧(flV id ver day kind nm fm nr fr nt ft).Rg)∧t2=3∧True)
 |_,_=>none
def wld:Spec
 |[.own 0 n,.func 143 [.ptr 1 0]],[.row t 7 m f fr,.cells [.int .i64 d] t2]=>
   some (.int .i64 (ixB (fun i=>qD d (flOf f i)) n),[(0,.row 49 7 n f false),(1,.cells [.int .i64 d] 3)],t=49∧t2=3∧fr=false∧n=m∧n≤1000∧f=wab (flOf f)∧(∀ i,i<n→(flOf f i).Rg)∧True)
 |_,_=>none
def wlc (d:Int) (g:Nat→FL) (n k:Nat):St:=⟨[(0,.own 0 n),(1,.func 143 [.ptr 1 0]),(7,.int .i64 n),(8,.int .i64 k)],[(0,.row 49 7 n (wab g) false),(1,.cells [.int .i64 d] 3)],2,[]⟩
def wms (d:Int) (g:Nat→FL) (n:Nat):wau:=fun st Q=>canonIs te 2 [0,1,7,8] st (wlc d g n 0)∧n≤1000∧(∀ i,i<n→(g i).Rg)∧True∧
 waa (decide (fstB (fun i=>qD d (g i)) n<n)) (Q .ret ⟨[(4,.int .i64 (fstB (fun i=>qD d (g i)) n))],[(0,.row 49 7 n (wab g) false),(1,.cells [.int .i64 d] 3)],2,[]⟩)
  (Q (.exit 0) ⟨[],[(0,.row 49 7 n (wab g) false),(1,.cells [.int .i64 d] 3)],2,[]⟩)
def wma:we3
 |[.own 0 n,.func 143 [.ptr 1 0]],[.row t 7 m f fr,.cells [.int .i64 d] t2],R=>t=49∧t2=3∧fr=false∧n=m∧n≤1000∧f=wab (flOf f)∧(∀ i,i<n→(flOf f i).Rg)∧True∧
   ∀ (k:Nat) (h:Nat→FL),k≤n→lst h k=kfL (qD d) (flOf f) n→R (.own 0 k) [(0,.row 49 7 k (wab h) false),(1,.cells [.int .i64 d] 3)]
 |_,_,_=>False
def wlt (d:Int) (n:Nat) (i:FI):St:=⟨[(0,.own 0 n),(1,.func 143 [.ptr 1 0]),(5,.int .i64 i.w),(6,.int .i64 i.k)],[(0,.row 49 7 n (wab i.h) false),(1,.cells [.int .i64 d] 3)],2,[]⟩
def wm0 (d:Int) (g:Nat→FL) (n i0:Nat):wau:=fun st Q=>canonIs te 2 [0,1,5,6] st (wlt d n ⟨i0+1,i0,g⟩)∧(i0<n∧n≤1000)∧(∀ i,i<n→(g i).Rg)∧True∧(∀ j,j<i0→qD d (g j)=false)∧qD d (g i0)=true∧
 ∀ (w:Nat) (h:Nat→FL),w≤n→lst h w=kfL (qD d) g n→Q (.exit 0) ⟨[(0,.own 0 n),(5,.int .i64 w)],[(0,.row 49 7 n (wab h) false),(1,.cells [.int .i64 d] 3)],2,[]⟩
def wez:Spec
 |[.agg [.str id,.int .i64 ver,.int .i64 day,.int .i64 kind,.view 15 nm fm,.view 5 nr fr,.view 5 nt ft],.ptr 0 0],[.cells [.map 1] t2,.amap es]=>some (.bool (qV es (flV id ver day kind nm fm nr fr nt ft)),[(0,.cells [.map 1] t2),(1,.amap es)],(FlC nm fm nr fr nt ft∧(flV id ver day kind nm fm nr fr nt ft).Rg)∧t2=132∧EsV es)
 |_,_=>none
def wlb:Spec
 |[.own 0 n,.func 101 [.ptr 1 0]],[.row t 7 m f fr,.cells [.map 2] t2,.amap es]=>
   some (.int .i64 (ixB (fun i=>qV es (flOf f i)) n),[(0,.row 49 7 n f false),(1,.cells [.map 2] 132),(2,.amap es)],t=49∧t2=132∧fr=false∧n=m∧n≤1000∧f=wab (flOf f)∧(∀ i,i<n→(flOf f i).Rg)∧EsV es)
 |_,_=>none
def wla (es:List (AV×AV)) (g:Nat→FL) (n k:Nat):St:=⟨[(0,.own 0 n),(1,.func 101 [.ptr 1 0]),(7,.int .i64 n),(8,.int .i64 k)],[(0,.row 49 7 n (wab g) false),(1,.cells [.map 2] 132),(2,.amap es)],3,[]⟩
def wmr (es:List (AV×AV)) (g:Nat→FL) (n:Nat):wau:=fun st Q=>canonIs te 3 [0,1,7,8] st (wla es g n 0)∧n≤1000∧(∀ i,i<n→(g i).Rg)∧EsV es∧
 waa (decide (fstB (fun i=>qV es (g i)) n<n)) (Q .ret ⟨[(4,.int .i64 (fstB (fun i=>qV es (g i)) n))],[(0,.row 49 7 n (wab g) false),(1,.cells [.map 2] 132),(2,.amap es)],3,[]⟩)
  (Q (.exit 0) ⟨[],[(0,.row 49 7 n (wab g) false),(1,.cells [.map 2] 132),(2,.amap es)],3,[]⟩)
def wl9:we3
 |[.own 0 n,.func 101 [.ptr 1 0]],[.row t 7 m f fr,.cells [.map 2] t2,.amap es],R=>t=49∧t2=132∧fr=false∧n=m∧n≤1000∧f=wab (flOf f)∧(∀ i,i<n→(flOf f i).Rg)∧EsV es∧
   ∀ (k:Nat) (h:Nat→FL),k≤n→lst h k=kfL (qV es) (flOf f) n→R (.own 0 k) [(0,.row 49 7 k (wab h) false),(1,.cells [.map 2] 132),(2,.amap es)]
 |_,_,_=>False
def wls (es:List (AV×AV)) (n:Nat) (i:FI):St:=⟨[(0,.own 0 n),(1,.func 101 [.ptr 1 0]),(5,.int .i64 i.w),(6,.int .i64 i.k)],[(0,.row 49 7 n (wab i.h) false),(1,.cells [.map 2] 132),(2,.amap es)],3,[]⟩
def wmz (es:List (AV×AV)) (g:Nat→FL) (n i0:Nat):wau:=fun st Q=>canonIs te 3 [0,1,5,6] st (wls es n ⟨i0+1,i0,g⟩)∧(i0<n∧n≤1000)∧(∀ i,i<n→(g i).Rg)∧EsV es∧(∀ j,j<i0→qV es (g j)=false)∧qV es (g i0)=true∧
 ∀ (w:Nat) (h:Nat→FL),w≤n→lst h w=kfL (qV es) g n→Q (.exit 0) ⟨[(0,.own 0 n),(5,.int .i64 w)],[(0,.row 49 7 n (wab h) false),(1,.cells [.map 2] 132),(2,.amap es)],3,[]⟩
def edG (L:List FL) (j:Nat):MG:=edM (atF L j)
def selG (L:List FL) (k:Nat):List FL:=selK (fun i=> !cfB L i) L k
def selB (L:List FL) (k:Nat):List FL:=selK (cfB L) L k
def S_s4 (L:List FL) (k:Nat):St:=⟨[(4,.nil),(5,.nil),(6,.own 0 L.length),(7,.map 1),(17,.own 0 L.length),(18,.int .i64 L.length),(19,.int .i64 k)],[(0,.row 49 7 L.length (wab (atF L)) false),(1,.amap (entM (cntL (edG L) k)))],2,[]⟩
def L_s4 (L:List FL):wau:=fun st Q=>canonIs te 0 [4,5,6,7,17,18,19] st (S_s4 L 0)∧L.length≤1000∧Q (.exit 0) ⟨[(4,.nil),(5,.nil),(6,.own 0 L.length),(7,.map 1)],[(0,.row 49 7 L.length (wab (atF L)) false),(1,.amap (entM (cntL (edG L) L.length)))],2,[]⟩
def S_s6 (E:List ((List UInt8×Int)×Int)) (F:FL) (L:List FL) (k:Nat):St:=⟨[(4,.nil),(5,.nil),(6,.own 0 L.length),(7,.map 1),(9,.ptr 2 0),(17,.own 0 L.length),(18,.int .i64 L.length),(19,.int .i64 k)],
 [(0,.row 49 7 L.length (wab (atF L)) false),(1,.amap (entM E)),(2,.cells [.str F.id,.int .i64 F.ver,.int .i64 F.day,.int .i64 F.kind,.view 15 F.ms.length (wah (atM F.ms)),.view 5 F.rs.length (wak (atR F.rs)),.view 5 F.ts.length (wai (atT F.ts))] 49)],3,[]⟩
def S_s6b (E:List ((List UInt8×Int)×Int)) (F:FL) (L:List FL) (k:Nat):St:=⟨[(4,.nil),(5,.nil),(6,.own 0 L.length),(7,.map 1),(9,.ptr 2 0),(17,.own 0 L.length),(18,.int .i64 L.length),(19,.int .i64 k),(23,.map 1),(28,.agg [.str F.id,.int .i64 F.ver])],
 [(0,.row 49 7 L.length (wab (atF L)) false),(1,.amap (entM E)),(2,.cells [.str F.id,.int .i64 F.ver,.int .i64 F.day,.int .i64 F.kind,.view 15 F.ms.length (wah (atM F.ms)),.view 5 F.rs.length (wak (atR F.rs)),.view 5 F.ts.length (wai (atT F.ts))] 49)],3,[]⟩
def L_s6 (E:List ((List UInt8×Int)×Int)) (F:FL) (L:List FL) (k:Nat):wau:=fun st Q=>canonIs te 0 [4,5,6,7,9,17,18,19] st (S_s6 E F L k)∧(E.map Prod.fst).Nodup∧inR .i64 (getC E (mk2 (edM F))+1)∧Q .normal (S_s6 (addC E (mk2 (edM F))) F L k)
def S_s9 (L:List FL) (k:Nat):St:=⟨[(4,.own 0 (selG L k).length),(5,.own 1 (selB L k).length),(7,.map 2),(34,.own 3 L.length),(35,.int .i64 L.length),(36,.int .i64 k)],
 [(0,.row 49 7 (selG L k).length (wab (atF (selG L k))) false),(1,.row 49 7 (selB L k).length (wab (atF (selB L k))) false),(2,.amap (entM (cntL (edG L) L.length))),(3,.row 49 7 L.length (wab (atF L)) false)],4,[]⟩
def L_s9 (L:List FL):wau:=fun st Q=>canonIs te 0 [4,5,7,34,35,36] (ownNil 4 49 7 (ownNil 5 49 7 st)) (S_s9 L 0)∧L.length≤1000∧
 Q (.exit 2) ⟨[(4,.own 0 (wbh L).length),(5,.own 1 (badL L).length)],[(0,.row 49 7 (wbh L).length (wab (atF (wbh L))) false),(1,.row 49 7 (badL L).length (wab (atF (badL L))) false)],2,[]⟩
def wkq:Spec
 |[.view 7 n f,.int .i64 d],[]=>some (.tuple [.own 0 (wbh (knwL okV (flOf f) n d)).length,.own 1 (badL (knwL okV (flOf f) n d)).length],
   [(0,.row 49 7 (wbh (knwL okV (flOf f) n d)).length (wab (atF (wbh (knwL okV (flOf f) n d)))) false),(1,.row 49 7 (badL (knwL okV (flOf f) n d)).length (wab (atF (badL (knwL okV (flOf f) n d)))) false)],n≤1000∧f=wab (flOf f)∧∀ i,i<n→(flOf f i).Gd)
 |_,_=>none
def idK (G:List FL):Nat→List (List UInt8)
 |0=>[]
 |k+1=>bif !decide ((atF G k).kind=1) && !decide ((atF G k).id∈idK G k) then idK G k++[(atF G k).id] else idK G k
def nwE (G:List FL) (k:Nat):List (AV×AV):=entI (idK G k) fun t=>nwF G t k
def S_v4 (G:List FL) (k:Nat):St:=⟨[(5,.own 0 G.length),(7,.ptr 1 0),(17,.own 0 G.length),(18,.int .i64 G.length),(19,.int .i64 k)],[(0,.row 49 7 G.length (wab (atF G)) false),(1,.cells [.map 2] 132),(2,.amap (nwE G k))],3,[]⟩
def L_v4 (G:List FL):wau:=fun st Q=>canonIs te 0 [5,7,17,18,19] st (S_v4 G 0)∧G.length≤1000∧(∀ F∈G,0≤F.ver)∧Q (.exit 0) ⟨[(5,.own 0 G.length),(7,.ptr 1 0)],[(0,.row 49 7 G.length (wab (atF G)) false),(1,.cells [.map 2] 132),(2,.amap (nwE G G.length))],3,[]⟩
end Go.Eng
namespace Go.Eng
open Go.RowKit
def allP {α:Type} (p:α→Prop):List α→Prop
 |[]=>True
 |[x]=>p x
 |x::l=>p x∧allP p l
theorem wpi {α:Type} {p:α→Prop}:∀ {l:List α},allP p l→∀ x∈l,p x
 |[],_,x,hx=>by cases hx
 |[y],h,x,hx=>by obtain rfl:=List.mem_singleton.1 hx;exact h
 |y::z::l,h,x,hx=>by
  obtain ⟨h1,h2⟩:=h
  rcases List.mem_cons.1 hx with rfl | hx
  ·exact h1
  ·exact wpi h2 x hx
def wfo (done:List Nat):List Edge→Bool
 |[]=>true
 |e::l=>match Region.binds .any e with
  |true=>match hasN done e.on with
   |true=>wfo done l
   |false=>false
  |false=>wfo done l
def rdyL (done:List Nat):Nat→List Oper→List (Nat×Oper)
 |_,[]=>[]
 |i,o::l=>match hasN done i with
  |true=>rdyL done (i+1) l
  |false=>match wfo done o.after.toList with
   |true=>(i,o)::rdyL done (i+1) l
   |false=>rdyL done (i+1) l
theorem wo5 {done:List Nat}:∀ {l:List Edge},wfo done l=true↔∀ e∈l,Region.binds .any e=true→e.on∈done
 |[]=>by simp [wfo]
 |e::l=>by
  unfold wfo
  have ih:=wo5 (done:=done) (l:=l)
  cases hb:Region.binds .any e with
  |true=>
   cases hh:hasN done e.on with
   |true=>
    dsimp only
    rw [ih]
    constructor
    ·intro h e' he hb'
     rcases List.mem_cons.1 he with rfl | he
     ·exact (wbf _ _).1 hh
     ·exact h e' he hb'
    ·exact fun h e' he hb'=>h e' (List.mem_cons_of_mem _ he) hb'
   |false=>
    dsimp only
    refine ⟨fun h=>(by cases h),fun h=>?_⟩
    rw [(wbf _ _).2 (h e (List.mem_cons_self ..) hb)] at hh;cases hh
  |false=>
   dsimp only
   rw [ih]
   constructor
   ·intro h e' he hb'
    rcases List.mem_cons.1 he with rfl | he
    ·rw [hb] at hb';cases hb'
    ·exact h e' he hb'
   ·exact fun h e' he hb'=>h e' (List.mem_cons_of_mem _ he) hb'
theorem whb {done:List Nat}:∀ {l:List Oper} {j i:Nat} {o:Oper},(i,o)∈rdyL done j l↔∃ i',i=j+i'∧l[i']?=some o∧i ∉ done∧∀ e∈o.after.toList,Region.binds .any e=true→e.on∈done
 |[],j,i,o=>by simp [rdyL]
 |o'::l,j,i,o=>by
  have ih:=whb (done:=done) (l:=l) (j:=j+1) (i:=i) (o:=o)
  have tail:(∃ i',i=j+1+i'∧l[i']?=some o∧i ∉ done∧∀ e∈o.after.toList,Region.binds .any e=true→e.on∈done)→∃ i',i=j+i'∧(o'::l)[i']?=some o∧i ∉ done∧∀ e∈o.after.toList,Region.binds .any e=true→e.on∈done:=by
   rintro ⟨i',h1,h2,h3⟩
   exact ⟨i'+1,by omega,by simpa using h2,h3⟩
  have back:(∃ i',i=j+i'∧(o'::l)[i']?=some o∧i ∉ done∧∀ e∈o.after.toList,Region.binds .any e=true→e.on∈done)→(i=j∧o=o'∧j ∉ done∧∀ e∈o'.after.toList,Region.binds .any e=true→e.on∈done)∨∃ i',i=j+1+i'∧l[i']?=some o∧i ∉ done∧∀ e∈o.after.toList,Region.binds .any e=true→e.on∈done:=by
   rintro ⟨i',h1,h2,h3,h4⟩
   cases i' with
   |zero=>
    simp only [List.getElem?_cons_zero,Option.some.injEq] at h2
    subst h2
    obtain rfl:i=j:=by omega
    exact .inl ⟨rfl,rfl,h3,h4⟩
   |succ i'=>exact .inr ⟨i',by omega,by simpa using h2,h3,h4⟩
  unfold rdyL
  cases hh:hasN done j with
  |true=>
   dsimp only
   rw [ih]
   refine ⟨tail,fun h=>?_⟩
   rcases back h with ⟨_,_,h3,_⟩ | h
   ·exact absurd ((wbf _ _).1 hh) h3
   ·exact h
  |false=>
   cases hd:wfo done o'.after.toList with
   |true=>
    dsimp only
    rw [List.mem_cons,ih,Prod.mk.injEq]
    constructor
    ·rintro (⟨rfl,rfl⟩ | h)
     ·refine ⟨0,rfl,rfl,fun q=>?_,wo5.1 hd⟩
      rw [(wbf _ _).2 q] at hh;cases hh
     ·exact tail h
    ·intro h
     rcases back h with ⟨h1,h2,_⟩ | h
     ·exact .inl ⟨h1,h2⟩
     ·exact .inr h
   |false=>
    dsimp only
    rw [ih]
    refine ⟨tail,fun h=>?_⟩
    rcases back h with ⟨_,_,_,h4⟩ | h
    ·rw [wo5.2 h4] at hd;cases hd
    ·exact h
def wc9 (G:Env) (opl:List Oper) (Q:St→Prop):Nat→List Nat→KT
 |0,done,T,O,nx=>match rdyL done 0 opl with
  |[]=>Q ⟨T,O,nx,[]⟩
  |_::_=>False
 |fuel+1,done,T,O,nx=>match rdyL done 0 opl with
  |[]=>Q ⟨T,O,nx,[]⟩
  |p0::l=>allP (fun p:Nat×Oper=>match p.2.guard with
   |none=>wp1 G p.2 T O nx (wc9 G opl Q fuel (p.1::done))
   |some _=>False) (p0::l)
def wf2 (K:St→Prop) (Q:Exit→St→Prop):Exit→St→Prop
 |.normal,s=>K s
 |e,s=>Q e s
theorem wpo {P:Program} {o:Oper} {a:Act} {w:World} {K K':Act→World→Prop} {Q Q':Exit→Act→World→Prop} (h:∀ a w,K a w→K' a w) (hq:∀ e a w,e≠ .normal→Q e a w→Q' e a w) (hh:o.wp P a w K Q):o.wp P a w K' Q':=by
 unfold Oper.wp at *
 generalize (execOp a.eval o).run P w=r at *
 cases r with
 |ok n w'=>
   cases n<;>simp only [Oper.upon] at hh ⊢ <;>
     first
       |exact h _ _ hh
       |exact hh.elim
       |exact Calls.mono hh (fun e w'' he=>by
           cases e with
           |returned v=>exact h _ _ he
           |panicked c=>exact hq _ _ _ (by simp) he
           |outgrown=>obtain ⟨a',w3,h3⟩:=he;exact ⟨a',w3,hq _ _ _ (by simp) h3⟩)
       |exact Rows.mono hh (fun _ _ he=>h _ _ he)
 |halt x w'=>cases x<;>simp only [Oper.upon] at hh ⊢ <;>first | exact hq _ _ _ (by simp) hh | exact hh.elim
theorem wf1 {opl:List Oper} {done:List Nat} {listed:Array Bool} (hsz:listed.size=opl.length) (hl:∀ i,listed.getD i false=true↔i∈done) (i:Nat):i∈Region.ready .any opl.toArray listed↔∃ o,opl[i]?=some o∧(i,o)∈rdyL done 0 opl:=by
 rw [mem_ready]
 have e:∀ o,opl[i]?=some o→(listed.getD i true=false↔i ∉ done):=fun o ho=>by
  have hi:i<listed.size:=by rw [hsz];exact (List.getElem?_eq_some_iff.1 ho).1
  rw [wjm hi true false, ← hl]
  cases listed.getD i false<;>simp
 constructor
 ·rintro ⟨h0,o,ho,h⟩
  have ho:opl[i]?=some o:=by simpa using ho
  exact ⟨o,ho,whb.2 ⟨i,by omega,ho,(e o ho).1 h0,fun x hx hb=>(hl _).1 (h x (by simpa using hx) hb)⟩⟩
 ·rintro ⟨o,ho,h⟩
  obtain ⟨i',h1,h2,h3,h4⟩:=whb.1 h
  exact ⟨(e o ho).2 h3,o,by simpa using ho,fun x hx hb=>(hl _).2 (h4 x (by simpa using hx) hb)⟩
theorem wm9 {C:Ctx} {G:Env} (hG:EnvOK C G) {m:Nat} {opl:List Oper} {Q:Exit→St→Prop} {E:Ent} (hE:E.m=m):∀ (fuel:Nat) (done:List Nat) (listed:Array Bool) (T:List (Nat×AV)) (O:List (Nat×AObj)) (nx:Nat) (bs:Nat→Option Hd) (a:Act) (w:World),
  listed.size=opl.length→(∀ i,listed.getD i false=true↔i∈done)→wc9 G opl (Q .normal) fuel done T O nx→RepS C E G.N ⟨T,O,nx,[]⟩ bs a w→wpAny C.P .any opl.toArray (QC C E G.N Q) fuel listed a w
 |0,done,listed,T,O,nx,bs,a,w,hsz,hl,h,hr=>by
  unfold wc9 at h
  unfold wpAny
  split at h
  ·rename_i hr0
   refine ⟨List.eq_nil_iff_forall_not_mem.2 fun i hi=>?_,_,bs,h,hr⟩
   obtain ⟨o,_,ho⟩:=(wf1 hsz hl i).1 hi
   rw [hr0] at ho;cases ho
  ·exact h.elim
 |fuel+1,done,listed,T,O,nx,bs,a,w,hsz,hl,h,hr=>by
  unfold wc9 at h
  unfold wpAny
  split at h
  ·rename_i hr0
   refine ⟨fun _=>⟨_,bs,h,hr⟩,fun i hi=>?_⟩
   obtain ⟨o,_,ho⟩:=(wf1 hsz hl i).1 hi
   rw [hr0] at ho;cases ho
  ·rename_i p0 l hr0
   refine ⟨fun q=>?_,fun i hi=>?_⟩
   ·obtain ⟨i0,o0⟩:=p0
    have hm:(i0,o0)∈rdyL done 0 opl:=by rw [hr0];exact List.mem_cons_self ..
    obtain ⟨i',h1,h2,_⟩:=whb.1 hm
    obtain rfl:i0=i':=by omega
    have:=(wf1 hsz hl i0).2 ⟨o0,h2,hm⟩
    rw [q] at this;cases this
   obtain ⟨o,ho,hm⟩:=(wf1 hsz hl i).1 hi
   rw [hr0] at hm
   have hp:=wpi h _ hm
   dsimp only at hp
   have hilt:i<listed.size:=by rw [hsz];exact (List.getElem?_eq_some_iff.1 ho).1
   have hsz':(listed.setIfInBounds i true).size=opl.length:=by simp [hsz]
   have hl':∀ j,(listed.setIfInBounds i true).getD j false=true↔j∈i::done:=fun j=>by
    by_cases e:i=j
    ·subst e
     simp [Array.getD,hilt]
    ·rw [getD_set_ne _ e,hl,List.mem_cons]
     exact ⟨.inr,fun h=>h.resolve_left fun q=>e q.symm⟩
   split at hp
   ·rename_i hg
    have:=wii (m:=m) (ops:=opl.toArray) (rest:=[]) (Q:=wf2 (fun s=>wc9 G opl (Q .normal) fuel (i::done) s.T s.O s.nx) Q) hG hg hp (fun T' O' nx' hK=>by
     intro E' hE' bs' a' w' hr'
     exact ⟨⟨T',O',nx',[]⟩,bs',hK,hr'⟩) E hE bs a w hr
    have fin:∀ a' w',QC C E G.N (wf2 (fun s=>wc9 G opl (Q .normal) fuel (i::done) s.T s.O s.nx) Q) .normal a' w'→wpAny C.P .any opl.toArray (QC C E G.N Q) fuel (listed.setIfInBounds i true) a' w':=by
     rintro a' w' ⟨⟨T',O',nx',d'⟩,bs',hK,hr'⟩
     exact wm9 hG hE fuel _ _ T' O' nx' bs' a' w' hsz' hl' hK hr'
    have other:∀ e a' w',e≠Exit.normal→QC C E G.N (wf2 (fun s=>wc9 G opl (Q .normal) fuel (i::done) s.T s.O s.nx) Q) e a' w'→QC C E G.N Q e a' w':=by
     rintro e a' w' hne ⟨s,bs',hs,hr'⟩
     refine ⟨s,bs',?_,hr'⟩
     cases e with
     |normal=>exact absurd rfl hne
     |_=>exact hs
    unfold wpOp
    have ho':opl.toArray[i]?=some o:=by simpa using ho
    rw [ho']
    unfold wpList at this
    dsimp only
    split
    ·rename_i hw
     rw [if_pos hw] at this
     rcases this with h | ⟨h1,a',w',h2⟩
     ·exact .inl (wpo fin other h)
     ·exact .inr ⟨h1,a',w',other _ _ _ (by simp) h2⟩
    ·rename_i hw
     rw [if_neg hw] at this
     exact fin _ _ this
   ·exact hp.elim
theorem AWP.each {C:Ctx} {G:Env} (hG:EnvOK C G) {m id:Nat} {opl:List Oper} {Q:Exit→St→Prop} {T0:List (Nat×AV)} {O0:List (Nat×AObj)} {nx:Nat} {dec:List Nat}
  (h:wc9 G opl (Q .normal) opl.length [] T0 O0 nx):AWP C m G.N (.region id opl.toArray true) Q ⟨T0,O0,nx,dec⟩:=by
 intro E hE bs a w hr
 have hS:Step w (MB E (lk O0) bs) bs { w with drawn:=w.drawn+1 } (MB E (lk O0) bs) bs∧WRep C E (lk O0) bs { w with drawn:=w.drawn+1 }:=by
  refine hr.1.2.next (fun _=>False) (fun _ _ h=>h) (fun _ _ _ h=>.inl h) (fun _ h=>h.elim) (fun _ _ _=>rfl) (Nat.le_refl _) (fun _ h=>.inl h) (fun _ _ _ h=>.inl ⟨h,fun _ _ _ h=>h⟩) hr.1.2.sep ?_ rfl ⟨rfl,fun _=>Nat.le_succ _⟩ rfl
  intro r t sz n f b c ho hb
  have:=hr.1.2.frz r t sz n f b c ho hb
  exact ⟨fun h=>this (.inr h),fun h=>this (.inl h)⟩
 exact wp_region_any C.mixed (wm9 hG hE _ [] _ T0 O0 nx bs a _ (by simp) (fun i=>by simp [Array.getD]) (by simpa using h) ⟨⟨hr.1.1.step hS.1,hS.2⟩,hr.2.1,hr.2.2⟩)
def allH (A:List Nat):List Nat→Bool
 |[]=>true
 |i::l=>match hasN A i with
  |true=>allH A l
  |false=>false
theorem wpj {A:List Nat}:∀ {l:List Nat},allH A l=true↔∀ i∈l,i∈A
 |[]=>by simp [allH]
 |i::l=>by
  unfold allH
  have ih:=wpj (A:=A) (l:=l)
  cases h:hasN A i with
  |true=>
   dsimp only
   rw [ih]
   constructor
   ·intro h' j hj
    rcases List.mem_cons.1 hj with rfl | hj
    ·exact (wbf _ _).1 h
    ·exact h' j hj
   ·exact fun h' j hj=>h' j (List.mem_cons_of_mem _ hj)
  |false=>
   refine ⟨fun h=>(by cases h),fun h'=>?_⟩
   rw [(wbf _ _).2 (h' i (List.mem_cons_self ..))] at h;cases h
def whp (T:List (Nat×AV)):List Nat→List (Nat×AV)
 |[]=>[]
 |j::F=>match lk T j with
  |some u=>(j,u)::whp T F
  |none=>whp T F
theorem woj {T:List (Nat×AV)}:∀ {F:List Nat} {j:Nat} {u:AV},lk (whp T F) j=some u→lk T j=some u
 |[],j,u,h=>by cases h
 |i::F,j,u,h=>by
  unfold whp at h
  split at h
  ·rename_i v hv
   rw [waw] at h
   by_cases e:i=j
   ·subst e
    rw [if_pos rfl] at h
    rw [hv,h]
   ·rw [if_neg e] at h
    exact woj h
  ·exact woj h
def wdx (G:Env) (opl:List Oper) (A:List Nat) (K:KT):Nat→List Nat→KT
 |0,_,_,_,_=>False
 |fuel+1,done,T,O,nx=>match Nat.beq done.length A.length with
  |true=>match allH A done with
   |true=>match allH done A with
    |true=>K T O nx
    |false=>False
   |false=>False
  |false=>match rdyL done 0 opl with
   |[]=>False
   |p0::l=>allP (fun p:Nat×Oper=>match p.2.guard with
    |none=>wp1 G p.2 T O nx (wdx G opl A K fuel (p.1::done))
    |some _=>False) (p0::l)
theorem RepS.sub {C:Ctx} {E:Ent} {N:Nat} {T T':List (Nat×AV)} {O:List (Nat×AObj)} {nx:Nat} {bs:Nat→Option Hd} {a:Act} {w:World} (h:RepS C E N ⟨T,O,nx,[]⟩ bs a w) (hs:∀ j u,lk T' j=some u→lk T j=some u):RepS C E N ⟨T',O,nx,[]⟩ bs a w:=
 ⟨⟨⟨h.1.1.1,h.1.1.2.1,fun i u hu=>h.1.1.2.2 i u (hs i u hu)⟩,h.1.2⟩,h.2⟩
theorem wpr {C:Ctx} {G:Env} (hG:EnvOK C G) {m:Nat} {opl:List Oper} {A:List Nat} {K:KT} {Q:Exit→St→Prop} {E:Ent} (hE:E.m=m)
  (leaf:∀ (listed:Array Bool) (T:List (Nat×AV)) (O:List (Nat×AObj)) (nx:Nat) (bs:Nat→Option Hd) (a:Act) (w:World),listed.size=opl.length→(∀ i,listed.getD i false=true↔i∈A)→K T O nx→RepS C E G.N ⟨T,O,nx,[]⟩ bs a w→
   wpAny C.P .any opl.toArray (QC C E G.N Q) (opl.length - A.length) listed a w):∀ (fuel:Nat) (done:List Nat) (listed:Array Bool) (T:List (Nat×AV)) (O:List (Nat×AObj)) (nx:Nat) (bs:Nat→Option Hd) (a:Act) (w:World),
  fuel+done.length=opl.length→listed.size=opl.length→(∀ i,listed.getD i false=true↔i∈done)→wdx G opl A K fuel done T O nx→RepS C E G.N ⟨T,O,nx,[]⟩ bs a w→wpAny C.P .any opl.toArray (QC C E G.N Q) fuel listed a w
 |0,done,listed,T,O,nx,bs,a,w,hf,hsz,hl,h,hr=>by
  unfold wdx at h
  exact h.elim
 |fuel+1,done,listed,T,O,nx,bs,a,w,hf,hsz,hl,h,hr=>by
  unfold wdx at h
  split at h
  ·rename_i hlen
   have hlen:=Nat.eq_of_beq_eq_true hlen
   split at h
   ·rename_i h1
    split at h
    ·rename_i h2
     have e:fuel+1=opl.length - A.length:=by omega
     rw [e]
     exact leaf listed T O nx bs a w hsz (fun i=>(hl i).trans ⟨fun q=>wpj.1 h1 i q,fun q=>wpj.1 h2 i q⟩) h hr
    ·exact h.elim
   ·exact h.elim
  ·split at h
   ·exact h.elim
   ·rename_i p0 l hr0
    unfold wpAny
    refine ⟨fun q=>?_,fun i hi=>?_⟩
    ·obtain ⟨i0,o0⟩:=p0
     have hm:(i0,o0)∈rdyL done 0 opl:=by rw [hr0];exact List.mem_cons_self ..
     obtain ⟨i',h1,h2,_⟩:=whb.1 hm
     obtain rfl:i0=i':=by omega
     have:=(wf1 hsz hl i0).2 ⟨o0,h2,hm⟩
     rw [q] at this;cases this
    obtain ⟨o,ho,hm⟩:=(wf1 hsz hl i).1 hi
    rw [hr0] at hm
    have hp:=wpi h _ hm
    dsimp only at hp
    have hilt:i<listed.size:=by rw [hsz];exact (List.getElem?_eq_some_iff.1 ho).1
    have hsz':(listed.setIfInBounds i true).size=opl.length:=by simp [hsz]
    have hl':∀ j,(listed.setIfInBounds i true).getD j false=true↔j∈i::done:=fun j=>by
     by_cases e:i=j
     ·subst e
      simp [Array.getD,hilt]
     ·rw [getD_set_ne _ e,hl,List.mem_cons]
      exact ⟨.inr,fun h=>h.resolve_left fun q=>e q.symm⟩
    split at hp
    ·rename_i hg
     have:=wii (m:=m) (ops:=opl.toArray) (rest:=[]) (Q:=wf2 (fun s=>wdx G opl A K fuel (i::done) s.T s.O s.nx) Q) hG hg hp (fun T' O' nx' hK=>by
      intro E' hE' bs' a' w' hr'
      exact ⟨⟨T',O',nx',[]⟩,bs',hK,hr'⟩) E hE bs a w hr
     have fin:∀ a' w',QC C E G.N (wf2 (fun s=>wdx G opl A K fuel (i::done) s.T s.O s.nx) Q) .normal a' w'→wpAny C.P .any opl.toArray (QC C E G.N Q) fuel (listed.setIfInBounds i true) a' w':=by
      rintro a' w' ⟨⟨T',O',nx',d'⟩,bs',hK,hr'⟩
      exact wpr hG hE leaf fuel (i::done) _ T' O' nx' bs' a' w' (by rw [List.length_cons];omega) hsz' hl' hK hr'
     have other:∀ e a' w',e≠Exit.normal→QC C E G.N (wf2 (fun s=>wdx G opl A K fuel (i::done) s.T s.O s.nx) Q) e a' w'→QC C E G.N Q e a' w':=by
      rintro e a' w' hne ⟨s,bs',hs,hr'⟩
      refine ⟨s,bs',?_,hr'⟩
      cases e with
      |normal=>exact absurd rfl hne
      |_=>exact hs
     unfold wpOp
     have ho':opl.toArray[i]?=some o:=by simpa using ho
     rw [ho']
     unfold wpList at this
     dsimp only
     split
     ·rename_i hw
      rw [if_pos hw] at this
      rcases this with h | ⟨h1,a',w',h2⟩
      ·exact .inl (wpo fin other h)
      ·exact .inr ⟨h1,a',w',other _ _ _ (by simp) h2⟩
     ·rename_i hw
      rw [if_neg hw] at this
      exact fin _ _ this
    ·exact hp.elim
def cutIs (F:List Nat) (SA:St):KT:=fun T O nx=>whp T F=SA.T∧O=SA.O∧nx=SA.nx
def rgA (G:Env) (x:Code) (A F:List Nat) (SA s:St):Prop:=match x with
 |.region _ ops true=>wdx G ops.toList A (cutIs F SA) ops.toList.length [] s.T s.O s.nx
 |_=>False
def rgB (G:Env) (x:Code) (A Fe:List Nat) (Q:Exit→St→Prop) (SA:St):Prop:=match x with
 |.region _ ops true=>wc9 G ops.toList (Eng.canQ G.te G.m Fe [] Q .normal) (ops.toList.length - A.length) A SA.T SA.O SA.nx
 |_=>False
theorem AWP.cut {C:Ctx} {G:Env} (hG:EnvOK C G) {m id:Nat} {opl:List Oper} {A F:List Nat} {SA:St} {Q:Exit→St→Prop} {T0:List (Nat×AV)} {O0:List (Nat×AObj)} {nx:Nat} {dec:List Nat}
  (h:wdx G opl A (cutIs F SA) opl.length [] T0 O0 nx) (h2:wc9 G opl (Q .normal) (opl.length - A.length) A SA.T SA.O SA.nx):AWP C m G.N (.region id opl.toArray true) Q ⟨T0,O0,nx,dec⟩:=by
 intro E hE bs a w hr
 have hS:Step w (MB E (lk O0) bs) bs { w with drawn:=w.drawn+1 } (MB E (lk O0) bs) bs∧WRep C E (lk O0) bs { w with drawn:=w.drawn+1 }:=by
  refine hr.1.2.next (fun _=>False) (fun _ _ h=>h) (fun _ _ _ h=>.inl h) (fun _ h=>h.elim) (fun _ _ _=>rfl) (Nat.le_refl _) (fun _ h=>.inl h) (fun _ _ _ h=>.inl ⟨h,fun _ _ _ h=>h⟩) hr.1.2.sep ?_ rfl ⟨rfl,fun _=>Nat.le_succ _⟩ rfl
  intro r t sz n f b c ho hb
  have:=hr.1.2.frz r t sz n f b c ho hb
  exact ⟨fun h=>this (.inr h),fun h=>this (.inl h)⟩
 refine wp_region_any C.mixed (wpr hG hE (fun listed T O nx' bs' a' w' hsz hl hK hr'=>?_) _ [] _ T0 O0 nx bs a _ (by simp) (by simp) (fun i=>by simp [Array.getD]) (by simpa using h) ⟨⟨hr.1.1.step hS.1,hS.2⟩,hr.2.1,hr.2.2⟩)
 obtain ⟨k1,k2,k3⟩:=hK
 subst k2;subst k3
 refine wm9 hG hE _ A listed SA.T SA.O SA.nx bs' a' w' hsz hl h2 ?_
 rw [← k1]
 exact hr'.sub fun j u hu=>woj hu
theorem wae.cut {C:Ctx} {te:TE} (hte:Prg C te) {m N:Nat} {x:Code} {s S SA:St} {Q:Exit→St→Prop} (calls:List (Nat×CSpec)) (fuel:Nat) (hc:wcs C calls) (F Fe A FA:List Nat)
  (h0:canonIs te m F s S) (h:rgA ⟨te,calls,[],m,N,fuel⟩ x A FA SA S) (h2:rgB ⟨te,calls,[],m,N,fuel⟩ x A Fe Q SA) (hS:wb9 S.O True):AWP C m N x Q s:=by
 have hG:EnvOK C ⟨te,calls,[],m,N,fuel⟩:=⟨hte.ok,hte.one,hc⟩
 have h1:AWP C m N x (Eng.canQ te m Fe [] Q) S:=by
  unfold rgA at h
  split at h
  ·rename_i id ops
   have:=AWP.cut (m:=m) (id:=id) (dec:=S.dec) hG h h2
   simpa using this
  ·exact h.elim
 exact AWP.canonIs F h0 h1.canQ hS
end Go.Eng
namespace Go.Eng
def mapR (φ:AV→AV) (b:Bool):AObj→AObj
 |.cells cs t=>.cells (cs.map φ) t
 |.row t sz n f fr=>match b with
  |true=>.row t sz n (fun i=>(f i).map φ) fr
  |false=>.row t sz n f fr
 |.amap es=>.amap es
 |.siter s pos=>.siter s pos
 |.miter m n0 left=>.miter m n0 left
 |.dead=>.dead
theorem wn8 (φ:AV→AV) (b:Bool) (o:AObj):(mapR φ b o).mut=o.mut:=by
 cases o with
 |row t sz n f fr=>cases b<;>cases fr<;>rfl
 |_=>rfl
def mapO (φ:AV→AV) (rs:List Nat):List (Nat×AObj)→List (Nat×AObj)
 |[]=>[]
 |p::l=>(p.1,mapR φ (hasN rs p.1) p.2)::mapO φ rs l
theorem whj (φ:AV→AV) (rs:List Nat):∀ (O:List (Nat×AObj)) (k:Nat),lk (mapO φ rs O) k=(lk O k).map (mapR φ (hasN rs k))
 |[],k=>rfl
 |p::l,k=>by
  rw [mapO,waw,waw]
  by_cases e:p.1=k
  ·subst e;rw [if_pos rfl,if_pos rfl];rfl
  ·rw [if_neg e,if_neg e];exact whj φ rs l k
theorem WRep.mapR {C:Ctx} {E:Ent} {O:Nat→Option AObj} {bs:Nat→Option Hd} {w:World} (hW:WRep C E O bs w) (φ:AV→AV) (hφ:∀ v u,V w (MB E O bs) bs v u→V w (MB E O bs) bs v (φ u)) (rs:List Nat):
  MB E (fun k=>(O k).map (Eng.mapR φ (hasN rs k))) bs=MB E O bs∧WRep C E (fun k=>(O k).map (Eng.mapR φ (hasN rs k))) bs w:=by
 have hold:∀ r o,(O r).map (Eng.mapR φ (hasN rs r))=some o→∃ o',O r=some o'∧o=Eng.mapR φ (hasN rs r) o':=fun r o ho=>by
  obtain ⟨o',h1,h2⟩:=Option.map_eq_some_iff.1 ho
  exact ⟨o',h1,h2.symm⟩
 have hmb:∀ b,mutB (fun k=>(O k).map (Eng.mapR φ (hasN rs k))) bs b→mutB O bs b:=fun b ⟨r,o,c,h1,h2,h3⟩=>by
  obtain ⟨o',q1,rfl⟩:=hold r o h1
  exact ⟨r,o',c,q1,by rw [← h2,wn8],h3⟩
 have hMB:MB E (fun k=>(O k).map (Eng.mapR φ (hasN rs k))) bs=MB E O bs:=by
  funext b
  apply propext
  constructor
  ·rintro (h | h)
   ·exact .inl h
   ·exact .inr (hmb b h)
  ·rintro (h | ⟨r,o,c,h1,h2,h3⟩)
   ·exact .inl h
   ·exact .inr ⟨r,Eng.mapR φ (hasN rs r) o,c,by simp [h1],by rw [wn8];exact h2,h3⟩
 refine ⟨hMB,?_⟩
 exact {
  obj:=fun r o ho=>by
   rw [hMB]
   obtain ⟨o',h0,rfl⟩:=hold r o ho
   have h:=hW.obj r o' h0
   cases o' with
   |cells cs t=>
    obtain ⟨b,c,vs,h1,h2,h3,h4,h5⟩:=h
    refine ⟨b,c,vs,h1,h2,by rw [List.length_map];exact h3,h4,fun j v u hv hu=>?_⟩
    rw [List.getElem?_map] at hu
    obtain ⟨u0,q1,rfl⟩:=Option.map_eq_some_iff.1 hu
    exact hφ v u0 (h5 j v u0 hv q1)
   |row t sz n f fr=>
    unfold Eng.mapR
    cases hasN rs r with
    |false=>exact h
    |true=>
     dsimp only
     rcases h with h | ⟨b,c,vs,h1,h2,h3,h4,h5,h6,h7,h8⟩
     ·exact .inl h
     ·refine .inr ⟨b,c,vs,h1,h2,h3,h4,h5,fun i hi=>by rw [List.length_map];exact h6 i hi,h7,fun i hi j v u hj hv hu=>?_⟩
      rw [List.getElem?_map] at hu
      obtain ⟨u0,q1,rfl⟩:=Option.map_eq_some_iff.1 hu
      exact hφ v u0 (h8 i hi j v u0 hj hv q1)
   |amap es=>exact h
   |siter s pos=>exact h
   |miter m n0 left=>exact h
   |dead=>exact h
  sep:=fun r r' o1 o2 b c c' h1 h2 m1 m2 b1 b2=>by
   obtain ⟨o1',p1,rfl⟩:=hold r o1 h1
   obtain ⟨o2',p3,rfl⟩:=hold r' o2 h2
   rw [wn8] at m1 m2
   exact hW.sep r r' o1' o2' b c c' p1 p3 m1 m2 b1 b2
  out:=fun b hb=>hW.out b (hmb b hb)
  frz:=fun r t' sz' n' f2 b c ho hb=>by
   rw [hMB]
   obtain ⟨o',p1,p2⟩:=hold r _ ho
   cases o' with
   |row t sz n f fr=>
    unfold Eng.mapR at p2
    cases hq:hasN rs r with
    |false=>
     rw [hq] at p2
     injection p2 with e1 e2 e3 e4 e5
     subst e5
     exact hW.frz r _ _ _ _ b c p1 hb
    |true=>
     rw [hq] at p2
     injection p2 with e1 e2 e3 e4 e5
     subst e5
     exact hW.frz r _ _ _ _ b c p1 hb
   |_=>cases p2
  high:=fun b hb=>hW.high b (by rw [← hMB];exact hb)
  lt:=hW.lt
  outlt:=hW.outlt
  keep:=hW.keep
  old:=fun b hb=>hW.old b (hmb b hb)
  size:=hW.size
  pre:=hW.pre
  os:=hW.os
  tape:=hW.tape
  output:=hW.output
  laid:=hW.laid
  gle:=hW.gle }
def frzX (r:Nat) (rs:List Nat) (s:St):St:=match lk s.O r with
 |some (.row _ sz n g _)=>⟨frzT r sz n g s.T,mapO (frz r sz n g) rs (rm r s.O),s.nx,[]⟩
 |_=>s
theorem RepS.frzX {C:Ctx} {E:Ent} {N:Nat} {s:St} {bs:Nat→Option Hd} {a:Act} {w:World} (h:RepS C E N s bs a w) (r:Nat) (rs:List Nat) (hf:wfl r s):RepS C E N (Eng.frzX r rs s) bs a w:=by
 unfold Eng.frzX
 unfold wfl at hf
 split
 ·rename_i t sz n g fr hO
  rw [hO] at hf
  obtain ⟨⟨hF,hW⟩,hnx,hm⟩:=h
  obtain ⟨hS,hW1⟩:=hW.freeze hO
  have hF1:=hF.step hS
  obtain ⟨e2,hW2⟩:=hW1.mapR (Eng.frz r sz n g) (fun v u hV=>V.frz hW1 (wap _ _ _) hf hV) rs
  obtain ⟨hS3,hW3⟩:=hW2.less (O':=lk (mapO (Eng.frz r sz n g) rs (rm r s.O))) fun k o hk=>by
   rw [whj] at hk
   obtain ⟨o',q0,rfl⟩:=Option.map_eq_some_iff.1 hk
   obtain ⟨q1,q2⟩:=wdg r s.O k o' q0
   show Option.map _ (up (lk s.O) r _ k)=_
   rw [wal _ _ _ q1,q2];rfl
  refine ⟨⟨⟨hF.1,hF.2.1,fun i u hu=>?_⟩,hW3⟩,fun k hk=>⟨?_,(hnx k hk).2⟩,hm⟩
  ·obtain ⟨u0,h0,rfl⟩:=wod hu
   obtain ⟨v,hv,hV⟩:=hF1.2.2 i u0 h0
   have hV2:=V.frzC hW1 (wap _ _ _) hf hV
   rw [← e2] at hV2
   exact ⟨v,hv,hV2.step hS3⟩
  ·show lk (mapO _ rs (rm r s.O)) k=none
   rw [whj]
   cases hx:lk (rm r s.O) k with
   |none=>rfl
   |some o=>
    have:=(wdg r s.O k o hx).2
    rw [(hnx k hk).1] at this;cases this
 ·exact h
theorem AWP.frzX {C:Ctx} {m N:Nat} {c:Code} {Q:Exit→St→Prop} {s:St} (r:Nat) (rs:List Nat) (hf:wfl r s) (h:AWP C m N c Q (Eng.frzX r rs s)):AWP C m N c Q s:=by
 intro E hE bs a w hr
 exact h E hE bs a w (hr.frzX r rs hf)
end Go.Eng
