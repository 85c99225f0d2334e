/- The weakest precondition as a function: a region that draws its order and falls into two parts, the first behind every operation of the second. -/
import Derived.Test.YtgcboligphndhaaGreatDoorQs
import Derived.Test.YtgcboligphndhaaGreatDoorQq
import Derived.Lib.ItoaNum
namespace Go.Eng
def wbd (F:FL):List AV:=[.str F.id,.int .i64 F.ver,.int .i64 F.day,.int .i64 F.kind,.view 15 F.ms.length (waf (atM F.ms)),.view 5 F.rs.length (wah (atR F.rs)),.view 5 F.ts.length (wai (atT F.ts))]
def S_kc (F:FL) (k:Nat):St:=⟨[(1,.ptr 0 0),(2,.ptr 1 0),(17,.own 2 F.ts.length),(18,.int .i64 F.ts.length),(19,.int .i64 k)],
 [(0,.cells [.str F.id,.int .i64 F.ver,.int .i64 F.day,.int .i64 F.kind,.view 15 F.ms.length (waf (atM F.ms)),.view 5 F.rs.length (wah (atR F.rs)),.own 2 F.ts.length] 49),(1,.cells [.str [],.int .i64 0,.int .i64 0,.int .i64 0,.nil,.nil,.nil] 49),
  (2,.row 97 5 F.ts.length (wai (atT F.ts)) false)],3,[]⟩
def L_kc (F:FL):wau:=fun st Q=>canonIs te 0 [1,2,17,18,19] st (S_kc F 0)∧F.ts.length≤1000∧(∀ t∈F.ts,t.bs.length≤1000)∧Q (.exit 0) ⟨[(1,.ptr 0 0),(2,.ptr 1 0)],[(0,.cells [.str F.id,.int .i64 F.ver,.int .i64 F.day,.int .i64 F.kind,.view 15 F.ms.length (waf (atM F.ms)),.view 5 F.rs.length (wah (atR F.rs)),.own 2 F.ts.length] 49),(1,.cells [.str [],.int .i64 0,.int .i64 0,.int .i64 0,.nil,.nil,.nil] 49),
  (2,.row 97 5 F.ts.length (wai (atT F.ts)) false)],3,[]⟩
end Go.Eng
namespace Go.Eng
open Go.Lib
theorem wz1 (n : Int) (h : -9223372036854775808 ≤ n ∧ n ≤ 9223372036854775807) : (itoa n).length ≤ 20 := by
  have dl : ∀ (k u : Nat), u < 10 ^ (k + 1) → (decDigits u).length ≤ k + 1 := by
    intro k
    induction k with
    | zero => intro u hu; rw [decDigits, dif_pos (by simpa using hu)]; simp
    | succ k ih =>
      intro u hu
      rw [decDigits]
      by_cases q : u < 10
      · rw [dif_pos q]; simp
      · rw [dif_neg q, List.length_append]
        have := ih (u / 10) (by rw [Nat.pow_succ] at hu; omega)
        simp; omega
  unfold itoa
  by_cases q : n < 0
  · rw [if_pos q, List.length_cons]
    have := dl 18 n.natAbs (by have : (10 : Nat) ^ 19 = 10000000000000000000 := by decide
                               omega)
    omega
  · rw [if_neg q]
    have := dl 18 n.toNat (by have : (10 : Nat) ^ 19 = 10000000000000000000 := by decide
                              omega)
    omega
end Go.Eng
namespace Go.Eng
def wgw:Spec
 |[.int .i64 n],[]=>some (.bool (decide (0≤n) && decide (n≤1099511627776)),[],True)
 |_,_=>none
def S_tv (st:Int) (bs:List BK) (k:Nat):St:=⟨[(1,.ptr 0 0),(3,.int .i64 (lowB bs k)),(22,.view 2 bs.length (wa1 (atB bs))),(23,.int .i64 bs.length),(24,.int .i64 k)],[(0,.cells [.int .i64 st,.view 2 bs.length (wa1 (atB bs))] 95)],1,[]⟩
def L_tv (st:Int) (bs:List BK):wau:=fun S Q=>canonIs te 0 [1,3,22,23,24] S (S_tv st bs 0)∧bs.length≤8∧wac (bksB bs bs.length) (Q (.exit 0) ⟨[],[],0,[]⟩) (Q .ret ⟨[(2,.int .i64 141)],[],0,[]⟩)
def wk4:Spec
 |[.agg [.int .i64 st,.view 2 n f]],[]=>some (.int .i64 (tfF st (lst (bkOf f) n)),[],f=wa1 (atB (lst (bkOf f) n)))
 |_,_=>none
def wk5:Spec
 |[.own 0 n],[.row _ 5 m f _]=>some (.int .i64 (svF (rwOf f) n),[],n=m∧n≤1000000∧(∀ i,i<n→f i=wah (rwOf f) i)∧∀ i,i<n→(rwOf f i).o.length<4294967281)
 |_,_=>none
def wlc:Spec
 |[.agg [.str o,.str p,.int .i64 per,.int .i64 st,.view 2 n f]],[]=>some (.bool (rtOK ⟨o,p,per,st,lst (bkOf f) n⟩),[],o.length<4294967281∧f=wa1 (atB (lst (bkOf f) n)))
 |_,_=>none
def badM (m:MG):Bool:= !decide (msgF m=0)
def badT (t:RT):Bool:= !rtOK t
structure RT.Sm (t:RT):Prop where
 o:t.o.length<4294967281
structure FL.Sm (F:FL):Prop where
 id:F.id.length<4294967281
 m:F.ms.length≤1000∧∀ m∈F.ms,m.Sm
 r:F.rs.length≤1000∧∀ r∈F.rs,r.o.length<4294967281
 t:F.ts.length≤1000∧∀ t∈F.ts,t.Sm
def S_k1:Spec
 |[.agg [.str dev,.int .i64 seq,.int .i64 kind,.str o,.str p,.int .i64 per,.int .i64 day,.int .i64 st,.int .i64 pr,.str rep,.str o',.str p',.int .i64 per',.str dev',.int .i64 num]],[]=>some (.bool (badM ⟨dev,seq,kind,⟨o,p,per,day,st,pr,rep⟩,⟨o',p',per',dev',num⟩⟩),[],dev.length<4294967281∧o.length<4294967281∧o'.length<4294967281∧dev'.length<4294967281)
 |_,_=>none
def S_k2:Spec
 |[.agg [.str o,.str p,.int .i64 per,.int .i64 st,.view 2 n f]],[]=>some (.bool (badT ⟨o,p,per,st,lst (bkOf f) n⟩),[],o.length<4294967281∧f=wa1 (atB (lst (bkOf f) n)))
 |_,_=>none
def wl2:Spec
 |[.view 15 n f,.func 125 []],[]=>some (.int .i64 (ixB (fun i=>badM (mgOf f i)) n),[],n≤1000000∧f=waf (mgOf f)∧∀ i,i<n→(mgOf f i).Sm)
 |_,_=>none
def wl0 (g:Nat→MG) (n k:Nat):St:=⟨[(0,.view 15 n (waf g)),(1,.func 125 []),(7,.int .i64 n),(8,.int .i64 k)],[],0,[]⟩
def wnj (g:Nat→MG) (n:Nat):wau:=fun st Q=>canonIs te 0 [0,1,7,8] st (wl0 g n 0)∧n≤1000000∧(∀ i,i<n→(g i).Sm)∧
 wac (decide (fstB (fun i=>badM (g i)) n<n)) (Q .ret ⟨[(4,.int .i64 (fstB (fun i=>badM (g i)) n))],[],0,[]⟩) (Q (.exit 0) ⟨[],[],0,[]⟩)
def wmg:Spec
 |[.view 15 n f,.func 125 []],[]=>some (.bool (decide (0≤ixB (fun i=>badM (mgOf f i)) n)),[],n≤1000000∧f=waf (mgOf f)∧∀ i,i<n→(mgOf f i).Sm)
 |_,_=>none
def wl1:Spec
 |[.view 5 n f,.func 127 []],[]=>some (.int .i64 (ixB (fun i=>badT (rtOf f i)) n),[],n≤1000000∧f=wai (rtOf f)∧∀ i,i<n→(rtOf f i).Sm)
 |_,_=>none
def wlz (g:Nat→RT) (n k:Nat):St:=⟨[(0,.view 5 n (wai g)),(1,.func 127 []),(7,.int .i64 n),(8,.int .i64 k)],[],0,[]⟩
def wni (g:Nat→RT) (n:Nat):wau:=fun st Q=>canonIs te 0 [0,1,7,8] st (wlz g n 0)∧n≤1000000∧(∀ i,i<n→(g i).Sm)∧
 wac (decide (fstB (fun i=>badT (g i)) n<n)) (Q .ret ⟨[(4,.int .i64 (fstB (fun i=>badT (g i)) n))],[],0,[]⟩) (Q (.exit 0) ⟨[],[],0,[]⟩)
def wmf:Spec
 |[.view 5 n f,.func 127 []],[]=>some (.bool (decide (0≤ixB (fun i=>badT (rtOf f i)) n)),[],n≤1000000∧f=wai (rtOf f)∧∀ i,i<n→(rtOf f i).Sm)
 |_,_=>none
def wmc:Spec
 |[.agg [.str id,.int .i64 ver,.int .i64 day,.int .i64 kind,.view 15 nm fm,.view 5 nr fr,.view 5 nt ft]],[]=>some (.bool (ctF (flV id ver day kind nm fm nr fr nt ft)),[],FlC nm fm nr fr nt ft∧(flV id ver day kind nm fm nr fr nt ft).Sm)
 |_,_=>none
def wkx:Spec
 |[.agg [.str id,.int .i64 ver,.int .i64 day,.int .i64 kind,.view 15 nm fm,.view 5 nr fr,.view 5 nt ft]],[]=>some (.int .i64 (vinF (flV id ver day kind nm fm nr fr nt ft)),[],FlC nm fm nr fr nt ft∧(flV id ver day kind nm fm nr fr nt ft).Sm)
 |_,_=>none
def txF (g:Nat→List UInt8):Nat→List UInt8
 |0=>[]
 |k+1=>txF g k++txtE (g k)
def nuF (g:Nat→Int):Nat→List UInt8
 |0=>[]
 |k+1=>nuF g k++numE (g k)
def wa0 (g:Nat→List UInt8) (i:Nat):List AV:=[.str (g i)]
def stOf (f:Nat→List AV) (i:Nat):List UInt8:=wbx ((f i).headD .any)
def wd2:Spec
 |[.int .i64 n,.int .i64 10],[]=>some (.str (Go.Lib.itoa n),[],inR .i64 n)
 |_,_=>none
def wd1:Spec
 |[.int .i64 n],[]=>some (.str (Go.Lib.itoa n),[],inR .i64 n)
 |_,_=>none
def S_cc:Spec
 |[.ptr 0 0],[.cells [.nilptr,.nil] t]=>some (.tuple [],[(0,.cells [.ptr 0 0,.nil] 111)],t=111)
 |[.ptr 0 0],[.cells [.ptr 0 0,.own 1 n] t,.row t8 1 m f false]=>some (.tuple [],[(0,.cells [.ptr 0 0,.own 1 n] 111),(1,.row t8 1 m f false)],t=111)
 |_,_=>none
def S_ws:Spec
 |[.ptr 0 0,.str s],[.cells [.nilptr,.nil] t]=>some (.tuple [.int .i64 s.length,.nilIface],[(0,.cells [.ptr 0 0,.own 1 s.length] 111),(1,.row 5 1 s.length (strG s) false)],t=111∧s.length≤1099511627776)
 |[.ptr 0 0,.str s],[.cells [.ptr 0 0,.own 1 n] t,.row t8 1 m f false]=>some (.tuple [.int .i64 s.length,.nilIface],[(0,.cells [.ptr 0 0,.own 2 (wam m f++s).length] 111),(2,.row 5 1 (wam m f++s).length (strG (wam m f++s)) false)],
   t=111∧t8=5∧n=m∧f=strG (wam m f)∧(wam m f++s).length≤1099511627776)
 |_,_=>none
def wmj:Spec
 |[.ptr 0 0],[.cells [.ptr 0 0,.own 1 n] t,.row t8 1 m f false]=>some (.str (wam m f),[(0,.cells [.ptr 0 0,.own 1 n] 111)],t=111∧t8=5∧n=m∧f=strG (wam m f)∧0<n∧n≤1099511627776)
 |_,_=>none
def S_text:Spec
 |[.ptr 0 0,.own 1 n],[.cells [.nilptr,.nil] t,.row ts 1 n' h false]=>some (.tuple [],[(0,.cells [.ptr 0 0,.own 2 (txF (stOf h) n).length] 111),(1,.row 9 1 n' h false),(2,.row 5 1 (txF (stOf h) n).length (strG (txF (stOf h) n)) false)],
   t=111∧ts=9∧n=1∧n'=1∧h 0=wa0 (stOf h) 0∧(txF (stOf h) n).length≤1099511627776)
 |[.ptr 0 0,.own 1 n],[.cells [.ptr 0 0,.own 2 c] t,.row ts 1 n' h false,.row t8 1 m f false]=>some (.tuple [],[(0,.cells [.ptr 0 0,.own 3 (wam m f++txF (stOf h) n).length] 111),(1,.row 9 1 n' h false),(3,.row 5 1 (wam m f++txF (stOf h) n).length (strG (wam m f++txF (stOf h) n)) false)],
   t=111∧t8=5∧ts=9∧c=m∧n=n'∧(1≤n∧n≤3)∧f=strG (wam m f)∧(∀ i,i<n→h i=wa0 (stOf h) i)∧(wam m f++txF (stOf h) n).length≤1099511627776)
 |_,_=>none
def wve:Spec
 |[.ptr 0 0,.own 1 n],[.cells [.ptr 0 0,.own 2 c] t,.row ts 1 n' h false,.row t8 1 m f false]=>some (.tuple [],[(0,.cells [.ptr 0 0,.own 3 (wam m f++nuF (vInt h) n).length] 111),(1,.row 2 1 n' h false),(3,.row 5 1 (wam m f++nuF (vInt h) n).length (strG (wam m f++nuF (vInt h) n)) false)],
   t=111∧t8=5∧ts=2∧c=m∧n=n'∧(1≤n∧n≤4)∧f=strG (wam m f)∧(∀ i,i<n→h i=waa (vInt h) i)∧(∀ i,i<n→inR .i64 (vInt h i))∧(wam m f++nuF (vInt h) n).length≤1099511627776)
 |_,_=>none
def wbi:wcq
 |[.ptr 0 0,.own 1 n],[.cells [.nilptr,.nil] t,.row ts 1 n' h false],R=>(t=111∧ts=9∧n=1∧n'=1)∧h 0=wa0 (stOf h) 0∧(txF (stOf h) n).length≤1099511627776∧
   ∀ L':List UInt8,L'=txF (stOf h) n→R (.tuple []) [(0,.cells [.ptr 0 0,.own 2 L'.length] 111),(1,.row 9 1 n' h false),(2,.row 5 1 L'.length (strG L') false)]
 |[.ptr 0 0,.own 1 n],[.cells [.ptr 0 0,.own 2 c] t,.row ts 1 n' h false,.row t8 1 m f false],R=>(t=111∧t8=5∧ts=9∧c=m∧n=n'∧(1≤n∧n≤3))∧∃ L:List UInt8,(m=L.length∧f=strG L)∧
   (∀ i,i<n→h i=wa0 (stOf h) i)∧(L++txF (stOf h) n).length≤1099511627776∧
   ∀ L':List UInt8,L'=L++txF (stOf h) n→R (.tuple []) [(0,.cells [.ptr 0 0,.own 3 L'.length] 111),(1,.row 9 1 n' h false),(3,.row 5 1 L'.length (strG L') false)]
 |_,_,_=>False
def wbj:wcq
 |[.ptr 0 0,.own 1 n],[.cells [.ptr 0 0,.own 2 c] t,.row ts 1 n' h false,.row t8 1 m f false],R=>(t=111∧t8=5∧ts=2∧c=m∧n=n'∧(1≤n∧n≤4))∧∃ L:List UInt8,(m=L.length∧f=strG L)∧
   (∀ i,i<n→h i=waa (vInt h) i)∧(∀ i,i<n→inR .i64 (vInt h i))∧(L++nuF (vInt h) n).length≤1099511627776∧
   ∀ L':List UInt8,L'=L++nuF (vInt h) n→R (.tuple []) [(0,.cells [.ptr 0 0,.own 3 L'.length] 111),(1,.row 2 1 n' h false),(3,.row 5 1 L'.length (strG L') false)]
 |_,_,_=>False
structure DcS where
 out:List UInt8
 m:Int
structure MG.Rg (m:MG):Prop where
 seq:inR .i64 m.seq
 kind:inR .i64 m.kind
 per:inR .i64 m.v.per
 day:inR .i64 m.v.day
 st:inR .i64 m.v.st
 pr:inR .i64 m.v.pr
 dper:inR .i64 m.d.per
 num:inR .i64 m.d.num
structure RW.Rg (r:RW):Prop where
 per:inR .i64 r.per
 u:inR .i64 r.u
 tv:inR .i64 r.tv
structure RT.Rg (t:RT):Prop where
 per:inR .i64 t.per
 st:inR .i64 t.st
 n:t.bs.length≤1000
 b:∀ b∈t.bs,inR .i64 b.up∧inR .i64 b.pr
structure FL.Rg (F:FL):Prop where
 ver:inR .i64 F.ver
 kind:inR .i64 F.kind
 nm:F.ms.length≤1000
 nr:F.rs.length≤1000
 nt:F.ts.length≤1000
 m:∀ m∈F.ms,m.Rg
 r:∀ r∈F.rs,r.Rg
 t:∀ t∈F.ts,t.Rg
 len:(encF F).length≤1099511627776
def e1F (F:FL):Nat→List UInt8
 |0=>txtE F.id++(numE F.ver++(numE F.kind++numE F.ms.length))
 |k+1=>e1F F k++mgE (atM F.ms k)
def e2F (F:FL):Nat→List UInt8
 |0=>e1F F F.ms.length++numE F.rs.length
 |k+1=>e2F F k++rwE (atR F.rs k)
def e3F (F:FL):Nat→List UInt8
 |0=>e2F F F.rs.length++numE F.ts.length
 |k+1=>e3F F k++rtE (atT F.ts k)
def e4F (L:List UInt8) (t:RT):Nat→List UInt8
 |0=>L++(txtE t.o++(txtE t.p++(numE t.per++(numE t.st++numE t.bs.length))))
 |k+1=>e4F L t k++bkE (atB t.bs k)
theorem wib {α:Type} (e:α→List UInt8) (d:α) (l:List α) (g:Nat→List UInt8) (L:List UInt8) (h0:g 0=L) (hs:∀ k,k<l.length→g (k+1)=g k++e (l.getD k d)):∀ k,k≤l.length→g k=L++(l.take k).flatMap e
 |0,_=>by simp [h0]
 |k+1,h=>by
  rw [hs k (by omega),wib e d l g L h0 hs k (by omega),List.take_add_one,List.append_assoc]
  congr 1
  rw [List.flatMap_append]
  congr 1
  simp [List.getD,List.getElem?_eq_getElem (show k<l.length by omega)]
theorem e1F_all (F:FL):e1F F F.ms.length=e1F F 0++F.ms.flatMap mgE:=by
 rw [wib mgE default F.ms (e1F F) (e1F F 0) rfl (fun _ _=>rfl) _ (Nat.le_refl _),List.take_length]
theorem e2F_all (F:FL):e2F F F.rs.length=e2F F 0++F.rs.flatMap rwE:=by
 rw [wib rwE default F.rs (e2F F) (e2F F 0) rfl (fun _ _=>rfl) _ (Nat.le_refl _),List.take_length]
theorem e3F_all (F:FL):e3F F F.ts.length=e3F F 0++F.ts.flatMap rtE:=by
 rw [wib rtE wha F.ts (e3F F) (e3F F 0) rfl (fun _ _=>rfl) _ (Nat.le_refl _),List.take_length]
theorem wuh (L:List UInt8) (t:RT):e4F L t t.bs.length=L++rtE t:=by
 rw [wib bkE ⟨0,0⟩ t.bs (e4F L t) (e4F L t 0) rfl (fun _ _=>rfl) _ (Nat.le_refl _),List.take_length]
 simp only [e4F,rtE,List.append_assoc]
theorem wgl (F:FL):e3F F F.ts.length=encF F:=by
 rw [e3F_all,e3F,e2F_all,e2F,e1F_all,e1F]
 simp only [encF,List.append_assoc]
def S_p1 (F:FL) (k:Nat):St:=⟨[(1,.ptr 0 0),(3,.ptr 1 0),(28,.view 15 F.ms.length (waf (atM F.ms))),(29,.int .i64 F.ms.length),(30,.int .i64 k)],[(0,.cells [.str F.id,.int .i64 F.ver,.int .i64 F.day,.int .i64 F.kind,.view 15 F.ms.length (waf (atM F.ms)),.view 5 F.rs.length (wah (atR F.rs)),.view 5 F.ts.length (wai (atT F.ts))] 49),(1,.cells [.ptr 1 0,.own 2 (e1F F k).length] 111),(2,.row 5 1 (e1F F k).length (strG (e1F F k)) false)],3,[]⟩
def L_p1 (F:FL):wau:=fun st Q=>canonIs te 0 [1,3,28,29,30] st (S_p1 F 0)∧F.Rg∧Q (.exit 0) ⟨[(1,.ptr 0 0),(3,.ptr 1 0)],[(0,.cells [.str F.id,.int .i64 F.ver,.int .i64 F.day,.int .i64 F.kind,.view 15 F.ms.length (waf (atM F.ms)),.view 5 F.rs.length (wah (atR F.rs)),.view 5 F.ts.length (wai (atT F.ts))] 49),(1,.cells [.ptr 1 0,.own 2 (e1F F F.ms.length).length] 111),(2,.row 5 1 (e1F F F.ms.length).length (strG (e1F F F.ms.length)) false)],3,[]⟩
def S_p2 (F:FL) (k:Nat):St:=⟨[(1,.ptr 0 0),(3,.ptr 1 0),(91,.view 5 F.rs.length (wah (atR F.rs))),(92,.int .i64 F.rs.length),(93,.int .i64 k)],[(0,.cells [.str F.id,.int .i64 F.ver,.int .i64 F.day,.int .i64 F.kind,.view 15 F.ms.length (waf (atM F.ms)),.view 5 F.rs.length (wah (atR F.rs)),.view 5 F.ts.length (wai (atT F.ts))] 49),(1,.cells [.ptr 1 0,.own 2 (e2F F k).length] 111),(2,.row 5 1 (e2F F k).length (strG (e2F F k)) false)],3,[]⟩
def L_p2 (F:FL):wau:=fun st Q=>canonIs te 0 [1,3,91,92,93] st (S_p2 F 0)∧F.Rg∧Q (.exit 2) ⟨[(1,.ptr 0 0),(3,.ptr 1 0)],[(0,.cells [.str F.id,.int .i64 F.ver,.int .i64 F.day,.int .i64 F.kind,.view 15 F.ms.length (waf (atM F.ms)),.view 5 F.rs.length (wah (atR F.rs)),.view 5 F.ts.length (wai (atT F.ts))] 49),(1,.cells [.ptr 1 0,.own 2 (e2F F F.rs.length).length] 111),(2,.row 5 1 (e2F F F.rs.length).length (strG (e2F F F.rs.length)) false)],3,[]⟩
def S_p3 (F:FL) (k:Nat):St:=⟨[(3,.ptr 0 0),(118,.view 5 F.ts.length (wai (atT F.ts))),(119,.int .i64 F.ts.length),(120,.int .i64 k)],[(0,.cells [.ptr 0 0,.own 1 (e3F F k).length] 111),(1,.row 5 1 (e3F F k).length (strG (e3F F k)) false)],2,[]⟩
def L_p3 (F:FL):wau:=fun st Q=>canonIs te 0 [3,118,119,120] st (S_p3 F 0)∧F.Rg∧Q (.exit 4) ⟨[(3,.ptr 0 0)],[(0,.cells [.ptr 0 0,.own 1 (e3F F F.ts.length).length] 111),(1,.row 5 1 (e3F F F.ts.length).length (strG (e3F F F.ts.length)) false)],2,[]⟩
def S_ms (F:FL) (k:Nat) (m:MG) (L:List UInt8):St:=⟨[(1,.ptr 0 0),(3,.ptr 1 0),(5,.ptr 2 0),(6,.ptr 3 0),(7,.ptr 4 0),(28,.view 15 F.ms.length (waf (atM F.ms))),(29,.int .i64 F.ms.length),(30,.int .i64 k)],[(0,.cells [.str F.id,.int .i64 F.ver,.int .i64 F.day,.int .i64 F.kind,.view 15 F.ms.length (waf (atM F.ms)),.view 5 F.rs.length (wah (atR F.rs)),.view 5 F.ts.length (wai (atT F.ts))] 49),(1,.cells [.ptr 1 0,.own 5 L.length] 111),(2,.cells [.str m.dev,.int .i64 m.seq,.int .i64 m.kind,.str m.v.o,.str m.v.p,.int .i64 m.v.per,.int .i64 m.v.day,.int .i64 m.v.st,.int .i64 m.v.pr,.str m.v.rep,.str m.d.o,.str m.d.p,.int .i64 m.d.per,.str m.d.dev,.int .i64 m.d.num] 40),(3,.cells [.str m.v.o,.str m.v.p,.int .i64 m.v.per,.int .i64 m.v.day,.int .i64 m.v.st,.int .i64 m.v.pr,.str m.v.rep] 36),(4,.cells [.str m.d.o,.str m.d.p,.int .i64 m.d.per,.str m.d.dev,.int .i64 m.d.num] 38),(5,.row 5 1 (L).length (strG (L)) false)],6,[]⟩
def L_m8 (F:FL) (k:Nat) (m:MG) (L:List UInt8):wau:=fun st Q=>canonIs te 0 [1,3,5,6,7,28,29,30] st (S_ms F k m L)∧m.Rg∧(L++(txtE m.dev)).length≤1099511627776∧Q .normal (S_ms F k m (L++(txtE m.dev)))
def L_m9 (F:FL) (k:Nat) (m:MG) (L:List UInt8):wau:=fun st Q=>canonIs te 0 [1,3,5,6,7,28,29,30] st (S_ms F k m L)∧m.Rg∧(L++(numE m.seq++(numE m.kind))).length≤1099511627776∧Q .normal (S_ms F k m (L++(numE m.seq++(numE m.kind))))
def wnc (F:FL) (k:Nat) (m:MG) (L:List UInt8):wau:=fun st Q=>canonIs te 0 [1,3,5,6,7,28,29,30] st (S_ms F k m L)∧m.Rg∧(L++(txtE m.v.o++(txtE m.v.p))).length≤1099511627776∧Q .normal (S_ms F k m (L++(txtE m.v.o++(txtE m.v.p))))
def wnb (F:FL) (k:Nat) (m:MG) (L:List UInt8):wau:=fun st Q=>canonIs te 0 [1,3,5,6,7,28,29,30] st (S_ms F k m L)∧m.Rg∧(L++(numE m.v.per++(numE m.v.day++(numE m.v.st++(numE m.v.pr))))).length≤1099511627776∧Q .normal (S_ms F k m (L++(numE m.v.per++(numE m.v.day++(numE m.v.st++(numE m.v.pr))))))
def wna (F:FL) (k:Nat) (m:MG) (L:List UInt8):wau:=fun st Q=>canonIs te 0 [1,3,5,6,7,28,29,30] st (S_ms F k m L)∧m.Rg∧(L++(txtE m.v.rep++(txtE m.d.o++(txtE m.d.p)))).length≤1099511627776∧Q .normal (S_ms F k m (L++(txtE m.v.rep++(txtE m.d.o++(txtE m.d.p)))))
def wm9 (F:FL) (k:Nat) (m:MG) (L:List UInt8):wau:=fun st Q=>canonIs te 0 [1,3,5,6,7,28,29,30] st (S_ms F k m L)∧m.Rg∧(L++(numE m.d.per)).length≤1099511627776∧Q .normal (S_ms F k m (L++(numE m.d.per)))
def wm8 (F:FL) (k:Nat) (m:MG) (L:List UInt8):wau:=fun st Q=>canonIs te 0 [1,3,5,6,7,28,29,30] st (S_ms F k m L)∧m.Rg∧(L++(txtE m.d.dev)).length≤1099511627776∧Q .normal (S_ms F k m (L++(txtE m.d.dev)))
def wm7 (F:FL) (k:Nat) (m:MG) (L:List UInt8):wau:=fun st Q=>canonIs te 0 [1,3,5,6,7,28,29,30] st (S_ms F k m L)∧m.Rg∧(L++(numE m.d.num)).length≤1099511627776∧Q .normal (S_ms F k m (L++(numE m.d.num)))
def S_p4 (F:FL) (k:Nat) (L:List UInt8) (t:RT) (j:Nat):St:=⟨[(3,.ptr 0 0),(118,.view 5 F.ts.length (wai (atT F.ts))),(119,.int .i64 F.ts.length),(120,.int .i64 k),(143,.view 2 t.bs.length (wa1 (atB t.bs))),(144,.int .i64 t.bs.length),(145,.int .i64 j)],[(0,.cells [.ptr 0 0,.own 1 (e4F L t j).length] 111),(1,.row 5 1 (e4F L t j).length (strG (e4F L t j)) false)],2,[]⟩
def L_p4 (F:FL) (k:Nat) (L:List UInt8) (t:RT):wau:=fun st Q=>canonIs te 0 [3,118,119,120,143,144,145] st (S_p4 F k L t 0)∧t.Rg∧(e4F L t t.bs.length).length≤1099511627776∧Q (.exit 6) ⟨[(3,.ptr 0 0),(118,.view 5 F.ts.length (wai (atT F.ts))),(119,.int .i64 F.ts.length),(120,.int .i64 k)],[(0,.cells [.ptr 0 0,.own 1 (L++rtE t).length] 111),(1,.row 5 1 (L++rtE t).length (strG (L++rtE t)) false)],2,[]⟩
def we8:Spec
 |[.agg [.str id,.int .i64 ver,.int .i64 day,.int .i64 kind,.view 15 nm fm,.view 5 nr fr,.view 5 nt ft]],[]=>some (.str (encF (flV id ver day kind nm fm nr fr nt ft)),[],FlC nm fm nr fr nt ft∧(flV id ver day kind nm fm nr fr nt ft).Rg)
 |_,_=>none
def wit:AV:=.agg [.str [],.int .i64 0,.int .i64 0,.int .i64 0,.nil,.nil,.nil]
def zeroFA:AV:=.agg [.str [],.int .i64 0,.int .i64 0,.int .i64 0,.view 0 0 (fun _=>[]),.view 0 0 (fun _=>[]),.view 0 0 (fun _=>[])]
def entN (g:Nat→FL) (k:Nat):List (AV×AV):=(wat okV g k).map fun t=>(.str t,.agg (wbd (wbb okV g k t)))
def gotN (es:List (AV×AV)) (x:List UInt8):AV:=(mget es (.str x)).getD zeroFA
def cmpN (es:List (AV×AV)) (x y:List UInt8):Int:=orL [cmpS (wbx (waw (gotN es x) 0)) (wbx (waw (gotN es y) 0)),cmpI (was (waw (gotN es x) 1)) (was (waw (gotN es y) 1)),cmpI (was (waw (gotN es x) 2)) (was (waw (gotN es y) 2)),cmpS x y]
structure FL.Gd (F:FL):Prop where
 sm:F.Sm
 rg:F.Rg
def S_n3 (g:Nat→FL) (n k:Nat):St:=⟨[(3,.ptr 0 0),(15,.view 7 n (wad g)),(16,.int .i64 n),(17,.int .i64 k)],[(0,.cells [.map 1] 121),(1,.amap (entN g k))],2,[]⟩
def L_n3 (g:Nat→FL) (n:Nat):wau:=fun st Q=>canonIs te 0 [3,15,16,17] st (S_n3 g n 0)∧n≤1000∧(∀ i,i<n→(g i).Gd)∧Q (.exit 0) ⟨[(3,.ptr 0 0)],[(0,.cells [.map 1] 121),(1,.amap (entN g n))],2,[]⟩
structure IN where
 c:Nat
 h:Nat→List UInt8
 c0:Nat
 left:List Nat
def wll (es:List (AV×AV)) (i:IN):St:=⟨[(3,.ptr 0 0),(9,.own 1 i.c),(46,.ptr 2 0)],[(0,.cells [.map 3] 121),(1,.row 9 1 i.c (wa0 i.h) false),(2,.miter 3 es.length (121::i.c0::i.left)),(3,.amap es)],4,[]⟩
def wm5 (g:Nat→FL) (n:Nat):wau:=fun st Q=>canonIs te 0 [3,9,46] (ownNil 9 9 1 st) (wll (entN g n) ⟨0,fun _=>[],(entN g n).length,List.range (entN g n).length⟩)∧n≤1000∧
 ∀ h:Nat→List UInt8,(lst h (wat okV g n).length).Perm (wat okV g n)→Q (.exit 2) ⟨[(3,.ptr 0 0),(9,.own 1 (wat okV g n).length)],[(0,.cells [.map 2] 121),(1,.row 9 1 (wat okV g n).length (wa0 h) false),(2,.amap (entN g n))],3,[]⟩
def wmp:wcq
 |[.own 0 n,.func 92 [.ptr 1 0]],[.row t 1 m f fr,.cells [.map 2] ct,.amap es],R=>t=9∧fr=false∧n=m∧n≤1000000∧f=wa0 (stOf f)∧wbr .string es∧(∀ x,wcg wit (gotN es x)=gotN es x)∧(∀ p∈es,nref p.1=true∧nref p.2=true)∧
   ∀ h:Nat→List UInt8,(lst h n).Perm (lst (stOf f) n)→(∀ i j,i<j→j<n→¬ cmpN es (h j) (h i)<0)→R (.tuple []) [(0,.row 9 1 n (wa0 h) false),(1,.cells [.map 2] ct),(2,.amap es)]
 |_,_,_=>False
def isFl (u:AV) (F:FL):Prop:=u= .agg (wbd F)
def wmb:Spec
 |[u],[]=>some (u,[],∃ F:FL,isFl u F∧F.ms.length≤1000∧F.rs.length≤1000∧F.ts.length≤1000∧∀ t∈F.ts,t.bs.length≤1000)
 |_,_=>none
def wlk (es:List (AV×AV)) (m:Nat) (h:Nat→List UInt8) (o:Nat→FL) (k:Nat):St:=⟨[(3,.ptr 0 0),(11,.own 1 k),(58,.own 2 m),(59,.int .i64 m),(60,.int .i64 k)],
 [(0,.cells [.map 3] 121),(1,.row 49 7 k (wad o) false),(2,.row 9 1 m (wa0 h) false),(3,.amap es)],4,[]⟩
def wm4 (g:Nat→FL) (n:Nat):wau:=fun st Q=>∃ h:Nat→List UInt8,∃ o:Nat→FL,canonIs te 0 [3,11,58,59,60] (ownNil 11 49 7 st) (wlk (entN g n) (wat okV g n).length h o 0)∧n≤1000∧(∀ i,i<(wat okV g n).length→isFl (gotN (entN g n) (h i)) (o i)∧(o i).Gd)∧
 Q (.exit 4) ⟨[(11,.own 0 (wat okV g n).length)],[(0,.row 49 7 (wat okV g n).length (wad o) false)],1,[]⟩
def wlh:Spec
 |[.view 7 n f],[]=>some (.own 0 (nrmL okV (flOf f) n).length,[(0,.row 49 7 (nrmL okV (flOf f) n).length (wad (atF (nrmL okV (flOf f) n))) false)],n≤1000∧f=wad (flOf f)∧∀ i,i<n→(flOf f i).Gd)
 |_,_=>none
end Go.Eng
namespace Go.Eng
open Go.Lib
structure MG.Tn (m:MG):Prop where
 rg:m.Rg
 a:m.dev.length≤100
 b:m.v.o.length≤100
 c:m.v.p.length≤100
 d:m.v.rep.length≤100
 e:m.d.o.length≤100
 f:m.d.p.length≤100
 g:m.d.dev.length≤100
structure RW.Tn (r:RW):Prop where
 rg:r.Rg
 a:r.o.length≤100
 b:r.p.length≤100
structure RT.Tn (t:RT):Prop where
 rg:t.Rg
 a:t.o.length≤100
 b:t.p.length≤100
structure FL.Tn (F:FL):Prop where
 id:F.id.length≤100
 ver:inR .i64 F.ver
 kind:inR .i64 F.kind
 m:F.ms.length≤1000∧∀ m∈F.ms,m.Tn
 r:F.rs.length≤1000∧∀ r∈F.rs,r.Tn
 t:F.ts.length≤1000∧∀ t∈F.ts,t.Tn
theorem wsm:∀ (k u:Nat),u<10 ^ (k+1)→nDigits u≤k+1
 |0,u,h=>by rw [nDigits_small (by omega)];exact Nat.le_refl _
 |k+1,u,h=>by
  by_cases q:u<10
  ·rw [nDigits_small q];omega
  ·rw [nDigits_big q]
   have:=wsm k (u / 10) (by rw [Nat.pow_succ] at h;omega)
   omega
theorem wsl (u:Nat) (h:u<18446744073709551616):nDigits u≤20:=wsm 19 u (by omega)
theorem itoa21 {n:Int} (h:inR .i64 n):(itoa n).length≤21:=by
 simp only [inR] at h
 unfold itoa
 by_cases q:n<0
 ·rw [if_pos q,List.length_cons,decDigits_length]
  have:=wsl n.natAbs (by omega)
  omega
 ·rw [if_neg q,decDigits_length]
  have:=wsl n.toNat (by omega)
  omega
theorem wca {n:Int} (h:inR .i64 n):(numE n).length≤22:=by
 have:=itoa21 h
 unfold numE
 rw [List.length_append]
 show _+1≤_
 omega
theorem wjg {n:Nat} (h:n≤1000):(numE n).length≤22:=wca (by simp only [inR];omega)
theorem wc1 {s:List UInt8} (h:s.length≤100):(txtE s).length≤123:=by
 have:=itoa21 (n:=(s.length:Int)) (by simp only [inR];omega)
 unfold txtE
 rw [List.length_append,List.length_cons,List.length_append]
 show _+(s.length+1+1)≤_
 omega
theorem wia {α:Type} (e:α→List UInt8) (B:Nat):∀ l:List α,(∀ x∈l,(e x).length≤B)→(l.flatMap e).length≤l.length * B
 |[],_=>by simp
 |x::l,h=>by
  have h1:=h x (List.mem_cons_self ..)
  have h2:=wia e B l fun y hy=>h y (List.mem_cons_of_mem _ hy)
  rw [List.flatMap_cons,List.length_append,List.length_cons,Nat.add_mul,Nat.one_mul]
  omega
theorem mgE_len {m:MG} (h:m.Tn):(mgE m).length≤1100:=by
 have h1:=wc1 h.a
 have h2:=wc1 h.b
 have h3:=wc1 h.c
 have h4:=wc1 h.d
 have h5:=wc1 h.e
 have h6:=wc1 h.f
 have h7:=wc1 h.g
 have n1:=wca h.rg.seq
 have n2:=wca h.rg.kind
 have n3:=wca h.rg.per
 have n4:=wca h.rg.day
 have n5:=wca h.rg.st
 have n6:=wca h.rg.pr
 have n7:=wca h.rg.dper
 have n8:=wca h.rg.num
 unfold mgE
 simp only [List.length_append]
 omega
theorem rwE_len {r:RW} (h:r.Tn):(rwE r).length≤1100:=by
 have h1:=wc1 h.a
 have h2:=wc1 h.b
 have n1:=wca h.rg.per
 have n2:=wca h.rg.u
 have n3:=wca h.rg.tv
 unfold rwE
 simp only [List.length_append]
 omega
theorem rtE_len {t:RT} (h:t.Tn):(rtE t).length≤50000:=by
 have h1:=wc1 h.a
 have h2:=wc1 h.b
 have n1:=wca h.rg.per
 have n2:=wca h.rg.st
 have n3:=wjg h.rg.n
 have hb:=wia bkE 44 t.bs fun b hb=>by
  have q1:=wca (h.rg.b b hb).1
  have q2:=wca (h.rg.b b hb).2
  unfold bkE
  rw [List.length_append];omega
 have hm:t.bs.length * 44≤1000 * 44:=Nat.mul_le_mul_right _ h.rg.n
 unfold rtE
 simp only [List.length_append]
 omega
theorem FL.Tn.rg {F:FL} (h:F.Tn):F.Rg:=by
 refine ⟨h.ver,h.kind,h.m.1,h.r.1,h.t.1,fun m hm=>(h.m.2 m hm).rg,fun r hr=>(h.r.2 r hr).rg,fun t ht=>(h.t.2 t ht).rg,?_⟩
 have h1:=wc1 h.id
 have n1:=wca h.ver
 have n2:=wca h.kind
 have n3:=wjg h.m.1
 have n4:=wjg h.r.1
 have n5:=wjg h.t.1
 have f1:=wia mgE 1100 F.ms fun m hm=>mgE_len (h.m.2 m hm)
 have f2:=wia rwE 1100 F.rs fun r hr=>rwE_len (h.r.2 r hr)
 have f3:=wia rtE 50000 F.ts fun t ht=>rtE_len (h.t.2 t ht)
 have m1:F.ms.length * 1100≤1000 * 1100:=Nat.mul_le_mul_right _ h.m.1
 have m2:F.rs.length * 1100≤1000 * 1100:=Nat.mul_le_mul_right _ h.r.1
 have m3:F.ts.length * 50000≤1000 * 50000:=Nat.mul_le_mul_right _ h.t.1
 unfold encF
 simp only [List.length_append]
 omega
theorem MG.Tn.sm {m:MG} (h:m.Tn):m.Sm:=⟨by have:=h.a;omega,by have:=h.b;omega,by have:=h.e;omega,by have:=h.g;omega⟩
theorem wos {s:List UInt8} (h:wa5 s=true):s.length≤24:=by
 unfold wa5 at h
 simp only [Bool.and_eq_true,decide_eq_true_eq] at h
 omega
theorem wqv {s:List UInt8} (h:wbg s=true):s.length≤13:=by
 unfold wbg wb3 at h
 split at h
 ·rename_i q
  simp only [Bool.and_eq_true,Bool.or_eq_true,decide_eq_true_eq] at q
  omega
 ·cases h
theorem wn8 {o p:List UInt8} {per:Int} (h:wby o p per=true):o.length≤24∧p.length≤13∧0≤per∧per≤5999:=by
 unfold wby at h
 simp only [Bool.and_eq_true,decide_eq_true_eq] at h
 exact ⟨wos h.1.1.1,wqv h.1.1.2,h.1.2,h.2⟩
theorem wog {r:RW} (h:rowF r=true):r.Tn:=by
 unfold rowF at h
 simp only [Bool.and_eq_true,decide_eq_true_eq] at h
 obtain ⟨h1,h2,h3,h4⟩:=wn8 h.1.1
 exact ⟨⟨by simp only [inR];omega,by simp only [inR];omega,by simp only [inR];omega⟩,by omega,by omega⟩
theorem wsd {n:Int} (h:numF n=true):inR .i64 n:=by
 unfold numF at h
 simp only [Bool.and_eq_true,decide_eq_true_eq] at h
 simp only [inR];omega
theorem visF_tn {v:VT} (h:visF v=true):v.o.length≤24∧v.p.length≤13∧v.rep.length≤13∧inR .i64 v.per∧inR .i64 v.day∧inR .i64 v.st∧inR .i64 v.pr:=by
 unfold visF at h
 simp only [Bool.and_eq_true,decide_eq_true_eq] at h
 obtain ⟨⟨⟨h0,h1⟩,h2⟩,h3⟩:=h
 obtain ⟨k1,k2,k3,k4⟩:=wn8 h0
 have hp:inR .i64 v.per:=by simp only [inR];omega
 have hd:inR .i64 v.day:=by simp only [inR];omega
 by_cases q1:v.st=1∨v.st=2
 ·have:(decide (v.st=1) || decide (v.st=2))=true:=by rcases q1 with q | q<;>simp [q]
  rw [this] at h3
  simp only [cond_true,Bool.and_eq_true,decide_eq_true_eq] at h3
  exact ⟨k1,k2,by rw [h3.2];simp,hp,hd,by simp only [inR];omega,by simp only [inR];omega⟩
 ·have:(decide (v.st=1) || decide (v.st=2))=false:=by simp only [Bool.or_eq_false_iff,decide_eq_false_iff_not];omega
  rw [this] at h3
  simp only [cond_false] at h3
  by_cases q2:v.st=3∨v.st=4
  ·have:(decide (v.st=3) || decide (v.st=4))=true:=by rcases q2 with q | q<;>simp [q]
   rw [this] at h3
   simp only [cond_true,Bool.and_eq_true,decide_eq_true_eq] at h3
   exact ⟨k1,k2,by rw [h3.2];simp,hp,hd,by simp only [inR];omega,by simp only [inR];omega⟩
  ·have:(decide (v.st=3) || decide (v.st=4))=false:=by simp only [Bool.or_eq_false_iff,decide_eq_false_iff_not];omega
   rw [this] at h3
   simp only [cond_false] at h3
   by_cases q3:v.st=5
   ·rw [decide_eq_true q3] at h3
    simp only [cond_true,Bool.and_eq_true,decide_eq_true_eq] at h3
    exact ⟨k1,k2,wqv h3.1.2,hp,hd,by simp only [inR];omega,by simp only [inR];omega⟩
   ·rw [decide_eq_false q3] at h3
    cases h3
theorem wsp {m:MG} (h:msgF m=0):m.Tn:=by
 unfold msgF at h
 cases h1:wa5 m.dev with
 |false=>rw [h1] at h;exact absurd (show (110:Int)=0 from h) (by decide)
 |true=>
  cases h2:numF m.seq with
  |false=>rw [h1,h2] at h;exact absurd (show (111:Int)=0 from h) (by decide)
  |true=>
   cases h3: !decide (m.kind=1) && !decide (m.kind=2) with
   |true=>rw [h1,h2,h3] at h;exact absurd (show (112:Int)=0 from h) (by decide)
   |false=>
    cases h4:(decide (m.kind=1) && !visF m.v) || (decide (m.kind=2) && !m.v.nil) with
    |true=>rw [h1,h2,h3,h4] at h;exact absurd (show (113:Int)=0 from h) (by decide)
    |false=>
     cases h5:(decide (m.kind=1) && !m.d.nil) || (decide (m.kind=2) && !(wby m.d.o m.d.p m.d.per && wa5 m.d.dev && numF m.d.num)) with
     |true=>rw [h1,h2,h3,h4,h5] at h;exact absurd (show (114:Int)=0 from h) (by decide)
     |false=>
      have a:=wos h1
      have b:=wsd h2
      by_cases k1:m.kind=1
      ·have k2:¬ m.kind=2:=by omega
       rw [decide_eq_true k1,decide_eq_false k2] at h4 h5
       simp only [Bool.true_and,Bool.false_and,Bool.or_false,Bool.not_eq_false'] at h4 h5
       obtain ⟨v1,v2,v3,v4,v5,v6,v7⟩:=visF_tn h4
       unfold DT.nil at h5
       simp only [Bool.and_eq_true,decide_eq_true_eq] at h5
       obtain ⟨d1,d2,d3,d4,d5⟩:=h5
       exact ⟨⟨b,by simp only [inR];omega,v4,v5,v6,v7,by simp only [inR];omega,by simp only [inR];omega⟩,by omega,by omega,by omega,by omega,by rw [d1];simp,by rw [d2];simp,by rw [d4];simp⟩
      ·have k2:m.kind=2:=by
        rw [decide_eq_false k1] at h3
        simp only [Bool.not_false,Bool.true_and,Bool.not_eq_false',decide_eq_true_eq] at h3
        exact h3
       rw [decide_eq_false k1,decide_eq_true k2] at h4 h5
       simp only [Bool.true_and,Bool.false_and,Bool.false_or,Bool.not_eq_false'] at h4 h5
       simp only [Bool.and_eq_true] at h5
       obtain ⟨⟨s1,s2⟩,s3⟩:=h5
       obtain ⟨t1,t2,t3,t4⟩:=wn8 s1
       have t5:=wos s2
       unfold VT.nil at h4
       simp only [Bool.and_eq_true,decide_eq_true_eq] at h4
       obtain ⟨v1,v2,v3,v4,v5,v6,v7⟩:=h4
       exact ⟨⟨b,by simp only [inR];omega,by simp only [inR];omega,by simp only [inR];omega,by simp only [inR];omega,by simp only [inR];omega,by simp only [inR];omega,wsd s3⟩,by omega,by rw [v1];simp,by rw [v2];simp,by rw [v7];simp,by omega,by omega,by omega⟩
end Go.Eng
namespace Go.Eng
structure RW.Made (r:RW):Prop where
 ok:rowF r=true
 o:r.o.length≤2
 u:1≤r.u∧r.u≤20
 tv:1≤r.tv∧r.tv≤2400
structure RwS where
 c:Nat
 g:Nat→RW
 a:Int
def RW.put (g:Nat→RW) (k:Nat) (r:RW) (i:Nat):RW:=if i<k then g i else r
def wlb (n:Nat) (v:Nat→Int) (N:Int) (i:RwS):St:=⟨[(0,.ptr 0 0),(5,.own 1 i.c),(9,.int .i64 N),(10,.int .i64 i.c)],
 [(0,.cells [.view 1 n (waa v),.int .i64 i.a] 27),(1,.row 61 5 i.c (wah i.g) false)],2,[]⟩
def wm2 (n:Nat) (v:Nat→Int) (a N:Int):wau:=fun st Q=>canonIs te 1 [0,5,9,10] (ownNil 5 61 5 st) (wlb n v N ⟨0,fun _=>default,a⟩)∧(0≤N∧N≤100)∧(0≤a∧a≤4611686018427375000)∧
 ∀ i:RwS,i.c=N.toNat→i.a=a+6 * i.c→(∀ j,j<i.c→(i.g j).Made)→Q (.exit 0) ⟨[(5,.own 1 i.c)],[(0,.cells [.view 1 n (waa v),.int .i64 i.a] 27),(1,.row 61 5 i.c (wah i.g) false)],2,[]⟩
def wmq:wcq
 |[.ptr 0 0,.int .i64 most],[.cells [.view sz n f,.int .i64 a] t],R=>t=27∧sz=1∧f=waa (vInt f)∧(0≤a∧a≤4611686018427370000)∧(0≤most∧most≤90)∧
   ∀ (c:Nat) (g:Nat→RW) (a':Int),c≤most.toNat→(a≤a'∧a'≤a+600)→(∀ j,j<c→(g j).Made)→
   R (.own 1 c) [(0,.cells [.view 1 n f,.int .i64 a'] 27),(1,.row 61 5 c (wah g) false)]
 |_,_,_=>False
end Go.Eng
namespace Go.Eng
open Go.RowKit
def allP {α:Type} (p:α→Prop):List α→Prop
 |[]=>True
 |[x]=>p x
 |x::l=>p x∧allP p l
theorem wqe {α:Type} {p:α→Prop}:∀ {l:List α},allP p l→∀ x∈l,p x
 |[],_,x,hx=>by cases hx
 |[y],h,x,hx=>by obtain rfl:=List.mem_singleton.1 hx;exact h
 |y::z::l,h,x,hx=>by
  obtain ⟨h1,h2⟩:=h
  rcases List.mem_cons.1 hx with rfl | hx
  ·exact h1
  ·exact wqe h2 x hx
def wfy (done:List Nat):List Edge→Bool
 |[]=>true
 |e::l=>match Region.binds .any e with
  |true=>match hasN done e.on with
   |true=>wfy done l
   |false=>false
  |false=>wfy done l
def rdyL (done:List Nat):Nat→List Oper→List (Nat×Oper)
 |_,[]=>[]
 |i,o::l=>match hasN done i with
  |true=>rdyL done (i+1) l
  |false=>match wfy done o.after.toList with
   |true=>(i,o)::rdyL done (i+1) l
   |false=>rdyL done (i+1) l
theorem wpz {done:List Nat}:∀ {l:List Edge},wfy done l=true↔∀ e∈l,Region.binds .any e=true→e.on∈done
 |[]=>by simp [wfy]
 |e::l=>by
  unfold wfy
  have ih:=wpz (done:=done) (l:=l)
  cases hb:Region.binds .any e with
  |true=>
   cases hh:hasN done e.on with
   |true=>
    dsimp only
    rw [ih]
    constructor
    ·intro h e' he hb'
     rcases List.mem_cons.1 he with rfl | he
     ·exact (wbl _ _).1 hh
     ·exact h e' he hb'
    ·exact fun h e' he hb'=>h e' (List.mem_cons_of_mem _ he) hb'
   |false=>
    dsimp only
    refine ⟨fun h=>(by cases h),fun h=>?_⟩
    rw [(wbl _ _).2 (h e (List.mem_cons_self ..) hb)] at hh;cases hh
  |false=>
   dsimp only
   rw [ih]
   constructor
   ·intro h e' he hb'
    rcases List.mem_cons.1 he with rfl | he
    ·rw [hb] at hb';cases hb'
    ·exact h e' he hb'
   ·exact fun h e' he hb'=>h e' (List.mem_cons_of_mem _ he) hb'
theorem whm {done:List Nat}:∀ {l:List Oper} {j i:Nat} {o:Oper},(i,o)∈rdyL done j l↔∃ i',i=j+i'∧l[i']?=some o∧i ∉ done∧∀ e∈o.after.toList,Region.binds .any e=true→e.on∈done
 |[],j,i,o=>by simp [rdyL]
 |o'::l,j,i,o=>by
  have ih:=whm (done:=done) (l:=l) (j:=j+1) (i:=i) (o:=o)
  have tail:(∃ i',i=j+1+i'∧l[i']?=some o∧i ∉ done∧∀ e∈o.after.toList,Region.binds .any e=true→e.on∈done)→∃ i',i=j+i'∧(o'::l)[i']?=some o∧i ∉ done∧∀ e∈o.after.toList,Region.binds .any e=true→e.on∈done:=by
   rintro ⟨i',h1,h2,h3⟩
   exact ⟨i'+1,by omega,by simpa using h2,h3⟩
  have back:(∃ i',i=j+i'∧(o'::l)[i']?=some o∧i ∉ done∧∀ e∈o.after.toList,Region.binds .any e=true→e.on∈done)→(i=j∧o=o'∧j ∉ done∧∀ e∈o'.after.toList,Region.binds .any e=true→e.on∈done)∨∃ i',i=j+1+i'∧l[i']?=some o∧i ∉ done∧∀ e∈o.after.toList,Region.binds .any e=true→e.on∈done:=by
   rintro ⟨i',h1,h2,h3,h4⟩
   cases i' with
   |zero=>
    simp only [List.getElem?_cons_zero,Option.some.injEq] at h2
    subst h2
    obtain rfl:i=j:=by omega
    exact .inl ⟨rfl,rfl,h3,h4⟩
   |succ i'=>exact .inr ⟨i',by omega,by simpa using h2,h3,h4⟩
  unfold rdyL
  cases hh:hasN done j with
  |true=>
   dsimp only
   rw [ih]
   refine ⟨tail,fun h=>?_⟩
   rcases back h with ⟨_,_,h3,_⟩ | h
   ·exact absurd ((wbl _ _).1 hh) h3
   ·exact h
  |false=>
   cases hd:wfy done o'.after.toList with
   |true=>
    dsimp only
    rw [List.mem_cons,ih,Prod.mk.injEq]
    constructor
    ·rintro (⟨rfl,rfl⟩ | h)
     ·refine ⟨0,rfl,rfl,fun q=>?_,wpz.1 hd⟩
      rw [(wbl _ _).2 q] at hh;cases hh
     ·exact tail h
    ·intro h
     rcases back h with ⟨h1,h2,_⟩ | h
     ·exact .inl ⟨h1,h2⟩
     ·exact .inr h
   |false=>
    dsimp only
    rw [ih]
    refine ⟨tail,fun h=>?_⟩
    rcases back h with ⟨_,_,_,h4⟩ | h
    ·rw [wpz.2 h4] at hd;cases hd
    ·exact h
def wdi (G:Env) (opl:List Oper) (Q:St→Prop):Nat→List Nat→KT
 |0,done,T,O,nx=>match rdyL done 0 opl with
  |[]=>Q ⟨T,O,nx,[]⟩
  |_::_=>False
 |fuel+1,done,T,O,nx=>match rdyL done 0 opl with
  |[]=>Q ⟨T,O,nx,[]⟩
  |p0::l=>allP (fun p:Nat×Oper=>match p.2.guard with
   |none=>wp1 G p.2 T O nx (wdi G opl Q fuel (p.1::done))
   |some _=>False) (p0::l)
def wge (K:St→Prop) (Q:Exit→St→Prop):Exit→St→Prop
 |.normal,s=>K s
 |e,s=>Q e s
theorem wqk {P:Program} {o:Oper} {a:Act} {w:World} {K K':Act→World→Prop} {Q Q':Exit→Act→World→Prop} (h:∀ a w,K a w→K' a w) (hq:∀ e a w,e≠ .normal→Q e a w→Q' e a w) (hh:o.wp P a w K Q):o.wp P a w K' Q':=by
 unfold Oper.wp at *
 generalize (execOp a.eval o).run P w=r at *
 cases r with
 |ok n w'=>
   cases n<;>simp only [Oper.upon] at hh ⊢ <;>
     first
       |exact h _ _ hh
       |exact hh.elim
       |exact Calls.mono hh (fun e w'' he=>by
           cases e with
           |returned v=>exact h _ _ he
           |panicked c=>exact hq _ _ _ (by simp) he
           |outgrown=>obtain ⟨a',w3,h3⟩:=he;exact ⟨a',w3,hq _ _ _ (by simp) h3⟩)
       |exact Rows.mono hh (fun _ _ he=>h _ _ he)
 |halt x w'=>cases x<;>simp only [Oper.upon] at hh ⊢ <;>first | exact hq _ _ _ (by simp) hh | exact hh.elim
theorem wgc {opl:List Oper} {done:List Nat} {listed:Array Bool} (hsz:listed.size=opl.length) (hl:∀ i,listed.getD i false=true↔i∈done) (i:Nat):i∈Region.ready .any opl.toArray listed↔∃ o,opl[i]?=some o∧(i,o)∈rdyL done 0 opl:=by
 rw [mem_ready]
 have e:∀ o,opl[i]?=some o→(listed.getD i true=false↔i ∉ done):=fun o ho=>by
  have hi:i<listed.size:=by rw [hsz];exact (List.getElem?_eq_some_iff.1 ho).1
  rw [wj1 hi true false, ← hl]
  cases listed.getD i false<;>simp
 constructor
 ·rintro ⟨h0,o,ho,h⟩
  have ho:opl[i]?=some o:=by simpa using ho
  exact ⟨o,ho,whm.2 ⟨i,by omega,ho,(e o ho).1 h0,fun x hx hb=>(hl _).1 (h x (by simpa using hx) hb)⟩⟩
 ·rintro ⟨o,ho,h⟩
  obtain ⟨i',h1,h2,h3,h4⟩:=whm.1 h
  exact ⟨(e o ho).2 h3,o,by simpa using ho,fun x hx hb=>(hl _).2 (h4 x (by simpa using hx) hb)⟩
theorem wnx {C:Ctx} {G:Env} (hG:EnvOK C G) {m:Nat} {opl:List Oper} {Q:Exit→St→Prop} {E:Ent} (hE:E.m=m):∀ (fuel:Nat) (done:List Nat) (listed:Array Bool) (T:List (Nat×AV)) (O:List (Nat×AObj)) (nx:Nat) (bs:Nat→Option Hd) (a:Act) (w:World),
  listed.size=opl.length→(∀ i,listed.getD i false=true↔i∈done)→wdi G opl (Q .normal) fuel done T O nx→RepS C E G.N ⟨T,O,nx,[]⟩ bs a w→wpAny C.P .any opl.toArray (QC C E G.N Q) fuel listed a w
 |0,done,listed,T,O,nx,bs,a,w,hsz,hl,h,hr=>by
  unfold wdi at h
  unfold wpAny
  split at h
  ·rename_i hr0
   refine ⟨List.eq_nil_iff_forall_not_mem.2 fun i hi=>?_,_,bs,h,hr⟩
   obtain ⟨o,_,ho⟩:=(wgc hsz hl i).1 hi
   rw [hr0] at ho;cases ho
  ·exact h.elim
 |fuel+1,done,listed,T,O,nx,bs,a,w,hsz,hl,h,hr=>by
  unfold wdi at h
  unfold wpAny
  split at h
  ·rename_i hr0
   refine ⟨fun _=>⟨_,bs,h,hr⟩,fun i hi=>?_⟩
   obtain ⟨o,_,ho⟩:=(wgc hsz hl i).1 hi
   rw [hr0] at ho;cases ho
  ·rename_i p0 l hr0
   refine ⟨fun q=>?_,fun i hi=>?_⟩
   ·obtain ⟨i0,o0⟩:=p0
    have hm:(i0,o0)∈rdyL done 0 opl:=by rw [hr0];exact List.mem_cons_self ..
    obtain ⟨i',h1,h2,_⟩:=whm.1 hm
    obtain rfl:i0=i':=by omega
    have:=(wgc hsz hl i0).2 ⟨o0,h2,hm⟩
    rw [q] at this;cases this
   obtain ⟨o,ho,hm⟩:=(wgc hsz hl i).1 hi
   rw [hr0] at hm
   have hp:=wqe h _ hm
   dsimp only at hp
   have hilt:i<listed.size:=by rw [hsz];exact (List.getElem?_eq_some_iff.1 ho).1
   have hsz':(listed.setIfInBounds i true).size=opl.length:=by simp [hsz]
   have hl':∀ j,(listed.setIfInBounds i true).getD j false=true↔j∈i::done:=fun j=>by
    by_cases e:i=j
    ·subst e
     simp [Array.getD,hilt]
    ·rw [getD_set_ne _ e,hl,List.mem_cons]
     exact ⟨.inr,fun h=>h.resolve_left fun q=>e q.symm⟩
   split at hp
   ·rename_i hg
    have:=wiv (m:=m) (ops:=opl.toArray) (rest:=[]) (Q:=wge (fun s=>wdi G opl (Q .normal) fuel (i::done) s.T s.O s.nx) Q) hG hg hp (fun T' O' nx' hK=>by
     intro E' hE' bs' a' w' hr'
     exact ⟨⟨T',O',nx',[]⟩,bs',hK,hr'⟩) E hE bs a w hr
    have fin:∀ a' w',QC C E G.N (wge (fun s=>wdi G opl (Q .normal) fuel (i::done) s.T s.O s.nx) Q) .normal a' w'→wpAny C.P .any opl.toArray (QC C E G.N Q) fuel (listed.setIfInBounds i true) a' w':=by
     rintro a' w' ⟨⟨T',O',nx',d'⟩,bs',hK,hr'⟩
     exact wnx hG hE fuel _ _ T' O' nx' bs' a' w' hsz' hl' hK hr'
    have other:∀ e a' w',e≠Exit.normal→QC C E G.N (wge (fun s=>wdi G opl (Q .normal) fuel (i::done) s.T s.O s.nx) Q) e a' w'→QC C E G.N Q e a' w':=by
     rintro e a' w' hne ⟨s,bs',hs,hr'⟩
     refine ⟨s,bs',?_,hr'⟩
     cases e with
     |normal=>exact absurd rfl hne
     |_=>exact hs
    unfold wpOp
    have ho':opl.toArray[i]?=some o:=by simpa using ho
    rw [ho']
    unfold wpList at this
    dsimp only
    split
    ·rename_i hw
     rw [if_pos hw] at this
     rcases this with h | ⟨h1,a',w',h2⟩
     ·exact .inl (wqk fin other h)
     ·exact .inr ⟨h1,a',w',other _ _ _ (by simp) h2⟩
    ·rename_i hw
     rw [if_neg hw] at this
     exact fin _ _ this
   ·exact hp.elim
theorem AWP.each {C:Ctx} {G:Env} (hG:EnvOK C G) {m id:Nat} {opl:List Oper} {Q:Exit→St→Prop} {T0:List (Nat×AV)} {O0:List (Nat×AObj)} {nx:Nat} {dec:List Nat}
  (h:wdi G opl (Q .normal) opl.length [] T0 O0 nx):AWP C m G.N (.region id opl.toArray true) Q ⟨T0,O0,nx,dec⟩:=by
 intro E hE bs a w hr
 have hS:Step w (MB E (lk O0) bs) bs { w with drawn:=w.drawn+1 } (MB E (lk O0) bs) bs∧WRep C E (lk O0) bs { w with drawn:=w.drawn+1 }:=by
  refine hr.1.2.next (fun _=>False) (fun _ _ h=>h) (fun _ _ _ h=>.inl h) (fun _ h=>h.elim) (fun _ _ _=>rfl) (Nat.le_refl _) (fun _ h=>.inl h) (fun _ _ _ h=>.inl ⟨h,fun _ _ _ h=>h⟩) hr.1.2.sep ?_ rfl ⟨rfl,fun _=>Nat.le_succ _⟩ rfl
  intro r t sz n f b c ho hb
  have:=hr.1.2.frz r t sz n f b c ho hb
  exact ⟨fun h=>this (.inr h),fun h=>this (.inl h)⟩
 exact wp_region_any C.mixed (wnx hG hE _ [] _ T0 O0 nx bs a _ (by simp) (fun i=>by simp [Array.getD]) (by simpa using h) ⟨⟨hr.1.1.step hS.1,hS.2⟩,hr.2.1,hr.2.2⟩)
def allH (A:List Nat):List Nat→Bool
 |[]=>true
 |i::l=>match hasN A i with
  |true=>allH A l
  |false=>false
theorem wqf {A:List Nat}:∀ {l:List Nat},allH A l=true↔∀ i∈l,i∈A
 |[]=>by simp [allH]
 |i::l=>by
  unfold allH
  have ih:=wqf (A:=A) (l:=l)
  cases h:hasN A i with
  |true=>
   dsimp only
   rw [ih]
   constructor
   ·intro h' j hj
    rcases List.mem_cons.1 hj with rfl | hj
    ·exact (wbl _ _).1 h
    ·exact h' j hj
   ·exact fun h' j hj=>h' j (List.mem_cons_of_mem _ hj)
  |false=>
   refine ⟨fun h=>(by cases h),fun h'=>?_⟩
   rw [(wbl _ _).2 (h' i (List.mem_cons_self ..))] at h;cases h
def wh0 (T:List (Nat×AV)):List Nat→List (Nat×AV)
 |[]=>[]
 |j::F=>match lk T j with
  |some u=>(j,u)::wh0 T F
  |none=>wh0 T F
theorem wpc {T:List (Nat×AV)}:∀ {F:List Nat} {j:Nat} {u:AV},lk (wh0 T F) j=some u→lk T j=some u
 |[],j,u,h=>by cases h
 |i::F,j,u,h=>by
  unfold wh0 at h
  split at h
  ·rename_i v hv
   rw [way] at h
   by_cases e:i=j
   ·subst e
    rw [if_pos rfl] at h
    rw [hv,h]
   ·rw [if_neg e] at h
    exact wpc h
  ·exact wpc h
def wd6 (G:Env) (opl:List Oper) (A:List Nat) (K:KT):Nat→List Nat→KT
 |0,_,_,_,_=>False
 |fuel+1,done,T,O,nx=>match Nat.beq done.length A.length with
  |true=>match allH A done with
   |true=>match allH done A with
    |true=>K T O nx
    |false=>False
   |false=>False
  |false=>match rdyL done 0 opl with
   |[]=>False
   |p0::l=>allP (fun p:Nat×Oper=>match p.2.guard with
    |none=>wp1 G p.2 T O nx (wd6 G opl A K fuel (p.1::done))
    |some _=>False) (p0::l)
theorem RepS.sub {C:Ctx} {E:Ent} {N:Nat} {T T':List (Nat×AV)} {O:List (Nat×AObj)} {nx:Nat} {bs:Nat→Option Hd} {a:Act} {w:World} (h:RepS C E N ⟨T,O,nx,[]⟩ bs a w) (hs:∀ j u,lk T' j=some u→lk T j=some u):RepS C E N ⟨T',O,nx,[]⟩ bs a w:=
 ⟨⟨⟨h.1.1.1,h.1.1.2.1,fun i u hu=>h.1.1.2.2 i u (hs i u hu)⟩,h.1.2⟩,h.2⟩
theorem wqn {C:Ctx} {G:Env} (hG:EnvOK C G) {m:Nat} {opl:List Oper} {A:List Nat} {K:KT} {Q:Exit→St→Prop} {E:Ent} (hE:E.m=m)
  (leaf:∀ (listed:Array Bool) (T:List (Nat×AV)) (O:List (Nat×AObj)) (nx:Nat) (bs:Nat→Option Hd) (a:Act) (w:World),listed.size=opl.length→(∀ i,listed.getD i false=true↔i∈A)→K T O nx→RepS C E G.N ⟨T,O,nx,[]⟩ bs a w→
   wpAny C.P .any opl.toArray (QC C E G.N Q) (opl.length - A.length) listed a w):∀ (fuel:Nat) (done:List Nat) (listed:Array Bool) (T:List (Nat×AV)) (O:List (Nat×AObj)) (nx:Nat) (bs:Nat→Option Hd) (a:Act) (w:World),
  fuel+done.length=opl.length→listed.size=opl.length→(∀ i,listed.getD i false=true↔i∈done)→wd6 G opl A K fuel done T O nx→RepS C E G.N ⟨T,O,nx,[]⟩ bs a w→wpAny C.P .any opl.toArray (QC C E G.N Q) fuel listed a w
 |0,done,listed,T,O,nx,bs,a,w,hf,hsz,hl,h,hr=>by
  unfold wd6 at h
  exact h.elim
 |fuel+1,done,listed,T,O,nx,bs,a,w,hf,hsz,hl,h,hr=>by
  unfold wd6 at h
  split at h
  ·rename_i hlen
   have hlen:=Nat.eq_of_beq_eq_true hlen
   split at h
   ·rename_i h1
    split at h
    ·rename_i h2
     have e:fuel+1=opl.length - A.length:=by omega
     rw [e]
     exact leaf listed T O nx bs a w hsz (fun i=>(hl i).trans ⟨fun q=>wqf.1 h1 i q,fun q=>wqf.1 h2 i q⟩) h hr
    ·exact h.elim
   ·exact h.elim
  ·split at h
   ·exact h.elim
   ·rename_i p0 l hr0
    unfold wpAny
    refine ⟨fun q=>?_,fun i hi=>?_⟩
    ·obtain ⟨i0,o0⟩:=p0
     have hm:(i0,o0)∈rdyL done 0 opl:=by rw [hr0];exact List.mem_cons_self ..
     obtain ⟨i',h1,h2,_⟩:=whm.1 hm
     obtain rfl:i0=i':=by omega
     have:=(wgc hsz hl i0).2 ⟨o0,h2,hm⟩
     rw [q] at this;cases this
    obtain ⟨o,ho,hm⟩:=(wgc hsz hl i).1 hi
    rw [hr0] at hm
    have hp:=wqe h _ hm
    dsimp only at hp
    have hilt:i<listed.size:=by rw [hsz];exact (List.getElem?_eq_some_iff.1 ho).1
    have hsz':(listed.setIfInBounds i true).size=opl.length:=by simp [hsz]
    have hl':∀ j,(listed.setIfInBounds i true).getD j false=true↔j∈i::done:=fun j=>by
     by_cases e:i=j
     ·subst e
      simp [Array.getD,hilt]
     ·rw [getD_set_ne _ e,hl,List.mem_cons]
      exact ⟨.inr,fun h=>h.resolve_left fun q=>e q.symm⟩
    split at hp
    ·rename_i hg
     have:=wiv (m:=m) (ops:=opl.toArray) (rest:=[]) (Q:=wge (fun s=>wd6 G opl A K fuel (i::done) s.T s.O s.nx) Q) hG hg hp (fun T' O' nx' hK=>by
      intro E' hE' bs' a' w' hr'
      exact ⟨⟨T',O',nx',[]⟩,bs',hK,hr'⟩) E hE bs a w hr
     have fin:∀ a' w',QC C E G.N (wge (fun s=>wd6 G opl A K fuel (i::done) s.T s.O s.nx) Q) .normal a' w'→wpAny C.P .any opl.toArray (QC C E G.N Q) fuel (listed.setIfInBounds i true) a' w':=by
      rintro a' w' ⟨⟨T',O',nx',d'⟩,bs',hK,hr'⟩
      exact wqn hG hE leaf fuel (i::done) _ T' O' nx' bs' a' w' (by rw [List.length_cons];omega) hsz' hl' hK hr'
     have other:∀ e a' w',e≠Exit.normal→QC C E G.N (wge (fun s=>wd6 G opl A K fuel (i::done) s.T s.O s.nx) Q) e a' w'→QC C E G.N Q e a' w':=by
      rintro e a' w' hne ⟨s,bs',hs,hr'⟩
      refine ⟨s,bs',?_,hr'⟩
      cases e with
      |normal=>exact absurd rfl hne
      |_=>exact hs
     unfold wpOp
     have ho':opl.toArray[i]?=some o:=by simpa using ho
     rw [ho']
     unfold wpList at this
     dsimp only
     split
     ·rename_i hw
      rw [if_pos hw] at this
      rcases this with h | ⟨h1,a',w',h2⟩
      ·exact .inl (wqk fin other h)
      ·exact .inr ⟨h1,a',w',other _ _ _ (by simp) h2⟩
     ·rename_i hw
      rw [if_neg hw] at this
      exact fin _ _ this
    ·exact hp.elim
def cutIs (F:List Nat) (SA:St):KT:=fun T O nx=>wh0 T F=SA.T∧O=SA.O∧nx=SA.nx
def rgA (G:Env) (x:Code) (A F:List Nat) (SA s:St):Prop:=match x with
 |.region _ ops true=>wd6 G ops.toList A (cutIs F SA) ops.toList.length [] s.T s.O s.nx
 |_=>False
def rgB (G:Env) (x:Code) (A Fe:List Nat) (Q:Exit→St→Prop) (SA:St):Prop:=match x with
 |.region _ ops true=>wdi G ops.toList (Eng.canQ G.te G.m Fe [] Q .normal) (ops.toList.length - A.length) A SA.T SA.O SA.nx
 |_=>False
theorem AWP.cut {C:Ctx} {G:Env} (hG:EnvOK C G) {m id:Nat} {opl:List Oper} {A F:List Nat} {SA:St} {Q:Exit→St→Prop} {T0:List (Nat×AV)} {O0:List (Nat×AObj)} {nx:Nat} {dec:List Nat}
  (h:wd6 G opl A (cutIs F SA) opl.length [] T0 O0 nx) (h2:wdi G opl (Q .normal) (opl.length - A.length) A SA.T SA.O SA.nx):AWP C m G.N (.region id opl.toArray true) Q ⟨T0,O0,nx,dec⟩:=by
 intro E hE bs a w hr
 have hS:Step w (MB E (lk O0) bs) bs { w with drawn:=w.drawn+1 } (MB E (lk O0) bs) bs∧WRep C E (lk O0) bs { w with drawn:=w.drawn+1 }:=by
  refine hr.1.2.next (fun _=>False) (fun _ _ h=>h) (fun _ _ _ h=>.inl h) (fun _ h=>h.elim) (fun _ _ _=>rfl) (Nat.le_refl _) (fun _ h=>.inl h) (fun _ _ _ h=>.inl ⟨h,fun _ _ _ h=>h⟩) hr.1.2.sep ?_ rfl ⟨rfl,fun _=>Nat.le_succ _⟩ rfl
  intro r t sz n f b c ho hb
  have:=hr.1.2.frz r t sz n f b c ho hb
  exact ⟨fun h=>this (.inr h),fun h=>this (.inl h)⟩
 refine wp_region_any C.mixed (wqn hG hE (fun listed T O nx' bs' a' w' hsz hl hK hr'=>?_) _ [] _ T0 O0 nx bs a _ (by simp) (by simp) (fun i=>by simp [Array.getD]) (by simpa using h) ⟨⟨hr.1.1.step hS.1,hS.2⟩,hr.2.1,hr.2.2⟩)
 obtain ⟨k1,k2,k3⟩:=hK
 subst k2;subst k3
 refine wnx hG hE _ A listed SA.T SA.O SA.nx bs' a' w' hsz hl h2 ?_
 rw [← k1]
 exact hr'.sub fun j u hu=>wpc hu
theorem waj.cut {C:Ctx} {te:TE} (hte:Prg C te) {m N:Nat} {x:Code} {s S SA:St} {Q:Exit→St→Prop} (calls:List (Nat×CSpec)) (fuel:Nat) (hc:wc0 C calls) (F Fe A FA:List Nat)
  (h0:canonIs te m F s S) (h:rgA ⟨te,calls,[],m,N,fuel⟩ x A FA SA S) (h2:rgB ⟨te,calls,[],m,N,fuel⟩ x A Fe Q SA) (hS:wcd S.O True):AWP C m N x Q s:=by
 have hG:EnvOK C ⟨te,calls,[],m,N,fuel⟩:=⟨hte.ok,hte.one,hc⟩
 have h1:AWP C m N x (Eng.canQ te m Fe [] Q) S:=by
  unfold rgA at h
  split at h
  ·rename_i id ops
   have:=AWP.cut (m:=m) (id:=id) (dec:=S.dec) hG h h2
   simpa using this
  ·exact h.elim
 exact AWP.canonIs F h0 h1.canQ hS
end Go.Eng
