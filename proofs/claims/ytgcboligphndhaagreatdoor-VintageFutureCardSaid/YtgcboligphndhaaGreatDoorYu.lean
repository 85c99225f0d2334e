/- The weakest precondition as a function: a region that draws its order, each order by itself. -/
import Derived.Test.YtgcboligphndhaaGreatDoorYt
import Derived.Test.YtgcboligphndhaaGreatDoorYr
import Derived.Lib.ItoaNum
namespace Go.Eng
theorem wep {α:Type} (L:List α) (d:α):lst (fun i=>L.getD i d) L.length=L:=by
 apply List.ext_getElem?
 intro i
 unfold lst
 rw [List.getElem?_map]
 rcases Nat.lt_or_ge i L.length with h | h
 ·rw [List.getElem?_range h,Option.map_some,List.getElem?_eq_getElem h]
  simp [h]
 ·rw [List.getElem?_eq_none (by simpa using h),List.getElem?_eq_none h];rfl
def wa0 (g:Nat→BK) (i:Nat):List AV:=[.int .i64 (g i).up,.int .i64 (g i).pr]
def bkOf (f:Nat→List AV) (i:Nat):BK:=match f i with
 |[.int .i64 u,.int .i64 p]=>⟨u,p⟩
 |_=>⟨0,0⟩
def wah (g:Nat→RT) (i:Nat):List AV:=[.str (g i).o,.str (g i).p,.int .i64 (g i).per,.int .i64 (g i).st,.view 2 (g i).bs.length (wa0 (atB (g i).bs))]
def rtOf (f:Nat→List AV) (i:Nat):RT:=match f i with
 |[.str o,.str p,.int .i64 per,.int .i64 st,.view _ n h]=>⟨o,p,per,st,lst (bkOf h) n⟩
 |_=>whn
def wac (g:Nat→FL) (i:Nat):List AV:=[.str (g i).id,.int .i64 (g i).ver,.int .i64 (g i).day,.int .i64 (g i).kind,.view 15 (g i).ms.length (wag (atM (g i).ms)),.view 5 (g i).rs.length (wai (atR (g i).rs)),.view 5 (g i).ts.length (wah (atT (g i).ts))]
def flV (id:List UInt8) (ver day kind:Int) (nm:Nat) (fm:Nat→List AV) (nr:Nat) (fr:Nat→List AV) (nt:Nat) (ft:Nat→List AV):FL:=⟨id,ver,day,kind,lst (mgOf fm) nm,lst (rwOf fr) nr,lst (rtOf ft) nt⟩
def flOf (f:Nat→List AV) (i:Nat):FL:=match f i with
 |[.str id,.int .i64 ver,.int .i64 day,.int .i64 kind,.view _ nm fm,.view _ nr fr,.view _ nt ft]=>flV id ver day kind nm fm nr fr nt ft
 |_=>wdq
theorem wk6 (L:List BK):lst (bkOf (wa0 (atB L))) L.length=L:=wep L _
theorem wjn (g:Nat→RT):rtOf (wah g)=g:=by
 funext i
 show (⟨(g i).o,(g i).p,(g i).per,(g i).st,lst (bkOf (wa0 (atB (g i).bs))) (g i).bs.length⟩:RT)=g i
 rw [wk6]
theorem wtr (L:List MG):lst (mgOf (wag (atM L))) L.length=L:=wep L _
theorem wsh (L:List RW):lst (rwOf (wai (atR L))) L.length=L:=wep L _
theorem wso (L:List RT):lst (rtOf (wah (atT L))) L.length=L:=by rw [wjn];exact wep L _
theorem wdn (f:FL):flV f.id f.ver f.day f.kind f.ms.length (wag (atM f.ms)) f.rs.length (wai (atR f.rs)) f.ts.length (wah (atT f.ts))=f:=by
 unfold flV
 rw [wtr,wsh,wso]
theorem wdo (g:Nat→FL):flOf (wac g)=g:=by
 funext i
 exact wdn (g i)
structure FlC (nm:Nat) (fm:Nat→List AV) (nr:Nat) (fr:Nat→List AV) (nt:Nat) (ft:Nat→List AV):Prop where
 m:fm=wag (atM (lst (mgOf fm) nm))
 r:fr=wai (atR (lst (rwOf fr) nr))
 t:ft=wah (atT (lst (rtOf ft) nt))
theorem wer (f:FL):FlC f.ms.length (wag (atM f.ms)) f.rs.length (wai (atR f.rs)) f.ts.length (wah (atT f.ts)):=⟨by rw [wtr],by rw [wsh],by rw [wso]⟩
def wm4:Spec
 |[.view 2 n f],[]=>some (.view 2 n f,[],n≤100000∧∀ i,i<n→nrefL (f i)=true)
 |_,_=>none
def whi:Spec
 |[.view 15 n f],[]=>some (.view 15 n f,[],n≤100000∧∀ i,i<n→nrefL (f i)=true)
 |_,_=>none
def whg:Spec
 |[.view 5 n f],[]=>some (.view 5 n f,[],n≤100000∧∀ i,i<n→nrefL (f i)=true)
 |_,_=>none
def whh:Spec
 |[.view 5 0 f],[]=>some (.view 5 0 f,[],True)
 |[.view 5 (n+1) f],[]=>some (.own 0 (n+1),[(0,.row 97 5 (n+1) f false)],n+1≤100000∧∀ i,i<n+1→nrefL (f i)=true)
 |_,_=>none
def wbd (F:FL):List AV:=[.str F.id,.int .i64 F.ver,.int .i64 F.day,.int .i64 F.kind,.view 15 F.ms.length (wag (atM F.ms)),.view 5 F.rs.length (wai (atR F.rs)),.view 5 F.ts.length (wah (atT F.ts))]
def S_kc (F:FL) (k:Nat):St:=⟨[(1,.ptr 0 0),(2,.ptr 1 0),(17,.own 2 F.ts.length),(18,.int .i64 F.ts.length),(19,.int .i64 k)],
 [(0,.cells [.str F.id,.int .i64 F.ver,.int .i64 F.day,.int .i64 F.kind,.view 15 F.ms.length (wag (atM F.ms)),.view 5 F.rs.length (wai (atR F.rs)),.own 2 F.ts.length] 49),(1,.cells [.str [],.int .i64 0,.int .i64 0,.int .i64 0,.nil,.nil,.nil] 49),
  (2,.row 97 5 F.ts.length (wah (atT F.ts)) false)],3,[]⟩
def L_kc (F:FL):war:=fun st Q=>canonIs te 0 [1,2,17,18,19] st (S_kc F 0)∧F.ts.length≤1000∧(∀ t∈F.ts,t.bs.length≤1000)∧Q (.exit 0) ⟨[(1,.ptr 0 0),(2,.ptr 1 0)],[(0,.cells [.str F.id,.int .i64 F.ver,.int .i64 F.day,.int .i64 F.kind,.view 15 F.ms.length (wag (atM F.ms)),.view 5 F.rs.length (wai (atR F.rs)),.own 2 F.ts.length] 49),(1,.cells [.str [],.int .i64 0,.int .i64 0,.int .i64 0,.nil,.nil,.nil] 49),
  (2,.row 97 5 F.ts.length (wah (atT F.ts)) false)],3,[]⟩
end Go.Eng
namespace Go.Eng
open Go.Lib
def digT (u:Nat):List UInt8:=if u=0 then [] else decDigits u
theorem w2p {u:Nat} (h:u≠0):digT u=digT (u / 10)++[UInt8.ofNat (48+u % 10)]:=by
 unfold digT
 rw [if_neg h,decDigits]
 by_cases q:u<10
 ·rw [dif_pos q,if_pos (show u / 10=0 by omega),Nat.mod_eq_of_lt q];rfl
 ·rw [dif_neg q,if_neg (show ¬ u / 10=0 by omega)]
theorem wt9 {n:Int} (h:n≠0):itoa n=bif decide (n<0) then 45::digT n.natAbs else digT n.natAbs:=by
 unfold itoa digT
 rw [if_neg (show ¬ n.natAbs=0 by omega)]
 by_cases q:n<0
 ·rw [if_pos q,decide_eq_true q];rfl
 ·rw [if_neg q,decide_eq_false q,show n.natAbs=n.toNat by omega];rfl
theorem w1i:itoa 0=[48]:=by
 unfold itoa
 rw [if_neg (by decide),decDigits]
 rfl
theorem w2o {m:Int} (h:m≠0):digT m.natAbs=digT (Int.tdiv m 10).natAbs++[UInt8.ofNat (48+(Int.tmod m 10).natAbs)]:=by
 have e1:(Int.tdiv m 10).natAbs=m.natAbs / 10:=by rw [Int.natAbs_tdiv];rfl
 have e2:(Int.tmod m 10).natAbs=m.natAbs % 10:=by rw [Int.natAbs_tmod];rfl
 rw [e1,e2]
 exact w2p (by omega)
theorem w1k (n : Int) (h : -9223372036854775808 ≤ n ∧ n ≤ 9223372036854775807) : (itoa n).length ≤ 20 := by
  have dl : ∀ (k u : Nat), u < 10 ^ (k + 1) → (decDigits u).length ≤ k + 1 := by
    intro k
    induction k with
    | zero => intro u hu; rw [decDigits, dif_pos (by simpa using hu)]; simp
    | succ k ih =>
      intro u hu
      rw [decDigits]
      by_cases q : u < 10
      · rw [dif_pos q]; simp
      · rw [dif_neg q, List.length_append]
        have := ih (u / 10) (by rw [Nat.pow_succ] at hu; omega)
        simp; omega
  unfold itoa
  by_cases q : n < 0
  · rw [if_pos q, List.length_cons]
    have := dl 18 n.natAbs (by have : (10 : Nat) ^ 19 = 10000000000000000000 := by decide
                               omega)
    omega
  · rw [if_neg q]
    have := dl 18 n.toNat (by have : (10 : Nat) ^ 19 = 10000000000000000000 := by decide
                              omega)
    omega
end Go.Eng
namespace Go.Eng
def wg9:Spec
 |[.int .i64 n],[]=>some (.bool (decide (0≤n) && decide (n≤1099511627776)),[],True)
 |_,_=>none
def S_tv (st:Int) (bs:List BK) (k:Nat):St:=⟨[(1,.ptr 0 0),(3,.int .i64 (lowB bs k)),(22,.view 2 bs.length (wa0 (atB bs))),(23,.int .i64 bs.length),(24,.int .i64 k)],[(0,.cells [.int .i64 st,.view 2 bs.length (wa0 (atB bs))] 95)],1,[]⟩
def L_tv (st:Int) (bs:List BK):war:=fun S Q=>canonIs te 0 [1,3,22,23,24] S (S_tv st bs 0)∧bs.length≤8∧wad (bksB bs bs.length) (Q (.exit 0) ⟨[],[],0,[]⟩) (Q .ret ⟨[(2,.int .i64 141)],[],0,[]⟩)
def wlo:Spec
 |[.agg [.int .i64 st,.view 2 n f]],[]=>some (.int .i64 (tfF st (lst (bkOf f) n)),[],f=wa0 (atB (lst (bkOf f) n)))
 |_,_=>none
def wlp:Spec
 |[.own 0 n],[.row _ 5 m f _]=>some (.int .i64 (svF (rwOf f) n),[],n=m∧n≤1000000∧(∀ i,i<n→f i=wai (rwOf f) i)∧∀ i,i<n→(rwOf f i).o.length<4294967281)
 |_,_=>none
def wlx:Spec
 |[.agg [.str o,.str p,.int .i64 per,.int .i64 st,.view 2 n f]],[]=>some (.bool (rtOK ⟨o,p,per,st,lst (bkOf f) n⟩),[],o.length<4294967281∧f=wa0 (atB (lst (bkOf f) n)))
 |_,_=>none
def badM (m:MG):Bool:= !decide (msgF m=0)
def badT (t:RT):Bool:= !rtOK t
structure RT.Sm (t:RT):Prop where
 o:t.o.length<4294967281
structure FL.Sm (F:FL):Prop where
 id:F.id.length<4294967281
 m:F.ms.length≤1000∧∀ m∈F.ms,m.Sm
 r:F.rs.length≤1000∧∀ r∈F.rs,r.o.length<4294967281
 t:F.ts.length≤1000∧∀ t∈F.ts,t.Sm
def S_k1:Spec
 |[.agg [.str dev,.int .i64 seq,.int .i64 kind,.str o,.str p,.int .i64 per,.int .i64 day,.int .i64 st,.int .i64 pr,.str rep,.str o',.str p',.int .i64 per',.str dev',.int .i64 num]],[]=>some (.bool (badM ⟨dev,seq,kind,⟨o,p,per,day,st,pr,rep⟩,⟨o',p',per',dev',num⟩⟩),[],dev.length<4294967281∧o.length<4294967281∧o'.length<4294967281∧dev'.length<4294967281)
 |_,_=>none
def S_k2:Spec
 |[.agg [.str o,.str p,.int .i64 per,.int .i64 st,.view 2 n f]],[]=>some (.bool (badT ⟨o,p,per,st,lst (bkOf f) n⟩),[],o.length<4294967281∧f=wa0 (atB (lst (bkOf f) n)))
 |_,_=>none
def wmo:Spec
 |[.view 15 n f,.func 125 []],[]=>some (.int .i64 (ixB (fun i=>badM (mgOf f i)) n),[],n≤1000000∧f=wag (mgOf f)∧∀ i,i<n→(mgOf f i).Sm)
 |_,_=>none
def wmm (g:Nat→MG) (n k:Nat):St:=⟨[(0,.view 15 n (wag g)),(1,.func 125 []),(7,.int .i64 n),(8,.int .i64 k)],[],0,[]⟩
def wod (g:Nat→MG) (n:Nat):war:=fun st Q=>canonIs te 0 [0,1,7,8] st (wmm g n 0)∧n≤1000000∧(∀ i,i<n→(g i).Sm)∧
 wad (decide (fstB (fun i=>badM (g i)) n<n)) (Q .ret ⟨[(4,.int .i64 (fstB (fun i=>badM (g i)) n))],[],0,[]⟩) (Q (.exit 0) ⟨[],[],0,[]⟩)
def wm6:Spec
 |[.view 15 n f,.func 125 []],[]=>some (.bool (decide (0≤ixB (fun i=>badM (mgOf f i)) n)),[],n≤1000000∧f=wag (mgOf f)∧∀ i,i<n→(mgOf f i).Sm)
 |_,_=>none
def wmn:Spec
 |[.view 5 n f,.func 127 []],[]=>some (.int .i64 (ixB (fun i=>badT (rtOf f i)) n),[],n≤1000000∧f=wah (rtOf f)∧∀ i,i<n→(rtOf f i).Sm)
 |_,_=>none
def wml (g:Nat→RT) (n k:Nat):St:=⟨[(0,.view 5 n (wah g)),(1,.func 127 []),(7,.int .i64 n),(8,.int .i64 k)],[],0,[]⟩
def woc (g:Nat→RT) (n:Nat):war:=fun st Q=>canonIs te 0 [0,1,7,8] st (wml g n 0)∧n≤1000000∧(∀ i,i<n→(g i).Sm)∧
 wad (decide (fstB (fun i=>badT (g i)) n<n)) (Q .ret ⟨[(4,.int .i64 (fstB (fun i=>badT (g i)) n))],[],0,[]⟩) (Q (.exit 0) ⟨[],[],0,[]⟩)
def wm5:Spec
 |[.view 5 n f,.func 127 []],[]=>some (.bool (decide (0≤ixB (fun i=>badT (rtOf f i)) n)),[],n≤1000000∧f=wah (rtOf f)∧∀ i,i<n→(rtOf f i).Sm)
 |_,_=>none
def wm1:Spec
 |[.agg [.str id,.int .i64 ver,.int .i64 day,.int .i64 kind,.view 15 nm fm,.view 5 nr fr,.view 5 nt ft]],[]=>some (.bool (ctF (flV id ver day kind nm fm nr fr nt ft)),[],FlC nm fm nr fr nt ft∧(flV id ver day kind nm fm nr fr nt ft).Sm)
 |_,_=>none
def wlf:Spec
 |[.agg [.str id,.int .i64 ver,.int .i64 day,.int .i64 kind,.view 15 nm fm,.view 5 nr fr,.view 5 nt ft]],[]=>some (.int .i64 (vinF (flV id ver day kind nm fm nr fr nt ft)),[],FlC nm fm nr fr nt ft∧(flV id ver day kind nm fm nr fr nt ft).Sm)
 |_,_=>none
def txF (g:Nat→List UInt8):Nat→List UInt8
 |0=>[]
 |k+1=>txF g k++txtE (g k)
def nuF (g:Nat→Int):Nat→List UInt8
 |0=>[]
 |k+1=>nuF g k++numE (g k)
def wax (g:Nat→List UInt8) (i:Nat):List AV:=[.str (g i)]
def stOf (f:Nat→List AV) (i:Nat):List UInt8:=wby ((f i).headD .any)
def wed:Spec
 |[.int .i64 n,.int .i64 10],[]=>some (.str (Go.Lib.itoa n),[],inR .i64 n)
 |_,_=>none
def wco:Spec
 |[.int .i64 n],[]=>some (.str (Go.Lib.itoa n),[],inR .i64 n)
 |_,_=>none
def S_cc:Spec
 |[.ptr 0 0],[.cells [.nilptr,.nil] t]=>some (.tuple [],[(0,.cells [.ptr 0 0,.nil] 111)],t=111)
 |[.ptr 0 0],[.cells [.ptr 0 0,.own 1 n] t,.row t8 1 m f false]=>some (.tuple [],[(0,.cells [.ptr 0 0,.own 1 n] 111),(1,.row t8 1 m f false)],t=111)
 |_,_=>none
def S_ws:Spec
 |[.ptr 0 0,.str s],[.cells [.nilptr,.nil] t]=>some (.tuple [.int .i64 s.length,.nilIface],[(0,.cells [.ptr 0 0,.own 1 s.length] 111),(1,.row 5 1 s.length (strG s) false)],t=111∧s.length≤1099511627776)
 |[.ptr 0 0,.str s],[.cells [.ptr 0 0,.own 1 n] t,.row t8 1 m f false]=>some (.tuple [.int .i64 s.length,.nilIface],[(0,.cells [.ptr 0 0,.own 2 (wao m f++s).length] 111),(2,.row 5 1 (wao m f++s).length (strG (wao m f++s)) false)],
   t=111∧t8=5∧n=m∧f=strG (wao m f)∧(wao m f++s).length≤1099511627776)
 |_,_=>none
def wm9:Spec
 |[.ptr 0 0],[.cells [.ptr 0 0,.own 1 n] t,.row t8 1 m f false]=>some (.str (wao m f),[(0,.cells [.ptr 0 0,.own 1 n] 111)],t=111∧t8=5∧n=m∧f=strG (wao m f)∧0<n∧n≤1099511627776)
 |_,_=>none
def S_text:Spec
 |[.ptr 0 0,.own 1 n],[.cells [.nilptr,.nil] t,.row ts 1 n' h false]=>some (.tuple [],[(0,.cells [.ptr 0 0,.own 2 (txF (stOf h) n).length] 111),(1,.row 9 1 n' h false),(2,.row 5 1 (txF (stOf h) n).length (strG (txF (stOf h) n)) false)],
   t=111∧ts=9∧n=1∧n'=1∧h 0=wax (stOf h) 0∧(txF (stOf h) n).length≤1099511627776)
 |[.ptr 0 0,.own 1 n],[.cells [.ptr 0 0,.own 2 c] t,.row ts 1 n' h false,.row t8 1 m f false]=>some (.tuple [],[(0,.cells [.ptr 0 0,.own 3 (wao m f++txF (stOf h) n).length] 111),(1,.row 9 1 n' h false),(3,.row 5 1 (wao m f++txF (stOf h) n).length (strG (wao m f++txF (stOf h) n)) false)],
   t=111∧t8=5∧ts=9∧c=m∧n=n'∧(1≤n∧n≤3)∧f=strG (wao m f)∧(∀ i,i<n→h i=wax (stOf h) i)∧(wao m f++txF (stOf h) n).length≤1099511627776)
 |_,_=>none
def wwe:Spec
 |[.ptr 0 0,.own 1 n],[.cells [.ptr 0 0,.own 2 c] t,.row ts 1 n' h false,.row t8 1 m f false]=>some (.tuple [],[(0,.cells [.ptr 0 0,.own 3 (wao m f++nuF (vInt h) n).length] 111),(1,.row 2 1 n' h false),(3,.row 5 1 (wao m f++nuF (vInt h) n).length (strG (wao m f++nuF (vInt h) n)) false)],
   t=111∧t8=5∧ts=2∧c=m∧n=n'∧(1≤n∧n≤4)∧f=strG (wao m f)∧(∀ i,i<n→h i=waa (vInt h) i)∧(∀ i,i<n→inR .i64 (vInt h i))∧(wao m f++nuF (vInt h) n).length≤1099511627776)
 |_,_=>none
def wbi:wci
 |[.ptr 0 0,.own 1 n],[.cells [.nilptr,.nil] t,.row ts 1 n' h false],R=>(t=111∧ts=9∧n=1∧n'=1)∧h 0=wax (stOf h) 0∧(txF (stOf h) n).length≤1099511627776∧
   ∀ L':List UInt8,L'=txF (stOf h) n→R (.tuple []) [(0,.cells [.ptr 0 0,.own 2 L'.length] 111),(1,.row 9 1 n' h false),(2,.row 5 1 L'.length (strG L') false)]
 |[.ptr 0 0,.own 1 n],[.cells [.ptr 0 0,.own 2 c] t,.row ts 1 n' h false,.row t8 1 m f false],R=>(t=111∧t8=5∧ts=9∧c=m∧n=n'∧(1≤n∧n≤3))∧∃ L:List UInt8,(m=L.length∧f=strG L)∧
   (∀ i,i<n→h i=wax (stOf h) i)∧(L++txF (stOf h) n).length≤1099511627776∧
   ∀ L':List UInt8,L'=L++txF (stOf h) n→R (.tuple []) [(0,.cells [.ptr 0 0,.own 3 L'.length] 111),(1,.row 9 1 n' h false),(3,.row 5 1 L'.length (strG L') false)]
 |_,_,_=>False
def wbj:wci
 |[.ptr 0 0,.own 1 n],[.cells [.ptr 0 0,.own 2 c] t,.row ts 1 n' h false,.row t8 1 m f false],R=>(t=111∧t8=5∧ts=2∧c=m∧n=n'∧(1≤n∧n≤4))∧∃ L:List UInt8,(m=L.length∧f=strG L)∧
   (∀ i,i<n→h i=waa (vInt h) i)∧(∀ i,i<n→inR .i64 (vInt h i))∧(L++nuF (vInt h) n).length≤1099511627776∧
   ∀ L':List UInt8,L'=L++nuF (vInt h) n→R (.tuple []) [(0,.cells [.ptr 0 0,.own 3 L'.length] 111),(1,.row 2 1 n' h false),(3,.row 5 1 L'.length (strG L') false)]
 |_,_,_=>False
structure DcS where
 out:List UInt8
 m:Int
def S_dc (n:Int) (i:DcS):St:=⟨[(0,.int .i64 n),(3,.str i.out),(4,.int .i64 i.m)],[],0,[]⟩
def L_dc (n:Int):war:=fun st Q=>canonIs te 0 [0,3,4] st (S_dc n ⟨[],n⟩)∧inR .i64 n∧Q (.exit 0) ⟨[(0,.int .i64 n),(3,.str (digT n.natAbs))],[],0,[]⟩
def wlm (g:Nat→List UInt8) (n k:Nat):St:=⟨[(3,.str (txF g k)),(6,.own 0 n),(7,.int .i64 n),(8,.int .i64 k)],[(0,.row 9 1 n (wax g) false)],1,[]⟩
def wnt (g:Nat→List UInt8) (n:Nat):war:=fun st Q=>canonIs te 1 [3,6,7,8] st (wlm g n 0)∧n≤100∧(∀ i,i<n→(g i).length≤1099511627776)∧
 Q (.exit 0) ⟨[(3,.str (txF g n))],[(0,.row 9 1 n (wax g) false)],1,[]⟩
def wde:Spec
 |[.own 0 n],[.row ts 1 n' h false]=>some (.str (txF (stOf h) n),[(0,.row 9 1 n' h false)],ts=9∧n=n'∧n≤100∧(∀ i,i<n→h i=wax (stOf h) i)∧∀ i,i<n→(stOf h i).length≤1099511627776)
 |_,_=>none
def wl3 (g:Nat→Int) (n k:Nat):St:=⟨[(3,.str (nuF g k)),(6,.own 0 n),(7,.int .i64 n),(8,.int .i64 k)],[(0,.row 2 1 n (waa g) false)],1,[]⟩
def wnx (g:Nat→Int) (n:Nat):war:=fun st Q=>canonIs te 1 [3,6,7,8] st (wl3 g n 0)∧n≤100∧(∀ i,i<n→inR .i64 (g i))∧
 Q (.exit 0) ⟨[(3,.str (nuF g n))],[(0,.row 2 1 n (waa g) false)],1,[]⟩
def wdf:Spec
 |[.own 0 n],[.row ts 1 n' h false]=>some (.str (nuF (vInt h) n),[(0,.row 2 1 n' h false)],ts=2∧n=n'∧n≤100∧(∀ i,i<n→h i=waa (vInt h) i)∧∀ i,i<n→inR .i64 (vInt h i))
 |_,_=>none
structure MG.Rg (m:MG):Prop where
 seq:inR .i64 m.seq
 kind:inR .i64 m.kind
 per:inR .i64 m.v.per
 day:inR .i64 m.v.day
 st:inR .i64 m.v.st
 pr:inR .i64 m.v.pr
 dper:inR .i64 m.d.per
 num:inR .i64 m.d.num
structure RW.Rg (r:RW):Prop where
 per:inR .i64 r.per
 u:inR .i64 r.u
 tv:inR .i64 r.tv
structure RT.Rg (t:RT):Prop where
 per:inR .i64 t.per
 st:inR .i64 t.st
 n:t.bs.length≤1000
 b:∀ b∈t.bs,inR .i64 b.up∧inR .i64 b.pr
structure FL.Rg (F:FL):Prop where
 ver:inR .i64 F.ver
 kind:inR .i64 F.kind
 nm:F.ms.length≤1000
 nr:F.rs.length≤1000
 nt:F.ts.length≤1000
 m:∀ m∈F.ms,m.Rg
 r:∀ r∈F.rs,r.Rg
 t:∀ t∈F.ts,t.Rg
 len:(encF F).length≤1099511627776
def e1F (F:FL):Nat→List UInt8
 |0=>txtE F.id++(numE F.ver++(numE F.kind++numE F.ms.length))
 |k+1=>e1F F k++mgE (atM F.ms k)
def e2F (F:FL):Nat→List UInt8
 |0=>e1F F F.ms.length++numE F.rs.length
 |k+1=>e2F F k++rwE (atR F.rs k)
def e3F (F:FL):Nat→List UInt8
 |0=>e2F F F.rs.length++numE F.ts.length
 |k+1=>e3F F k++rtE (atT F.ts k)
def e4F (L:List UInt8) (t:RT):Nat→List UInt8
 |0=>L++(txtE t.o++(txtE t.p++(numE t.per++(numE t.st++numE t.bs.length))))
 |k+1=>e4F L t k++bkE (atB t.bs k)
theorem wiq {α:Type} (e:α→List UInt8) (d:α) (l:List α) (g:Nat→List UInt8) (L:List UInt8) (h0:g 0=L) (hs:∀ k,k<l.length→g (k+1)=g k++e (l.getD k d)):∀ k,k≤l.length→g k=L++(l.take k).flatMap e
 |0,_=>by simp [h0]
 |k+1,h=>by
  rw [hs k (by omega),wiq e d l g L h0 hs k (by omega),List.take_add_one,List.append_assoc]
  congr 1
  rw [List.flatMap_append]
  congr 1
  simp [List.getD,List.getElem?_eq_getElem (show k<l.length by omega)]
theorem e1F_all (F:FL):e1F F F.ms.length=e1F F 0++F.ms.flatMap mgE:=by
 rw [wiq mgE default F.ms (e1F F) (e1F F 0) rfl (fun _ _=>rfl) _ (Nat.le_refl _),List.take_length]
theorem e2F_all (F:FL):e2F F F.rs.length=e2F F 0++F.rs.flatMap rwE:=by
 rw [wiq rwE default F.rs (e2F F) (e2F F 0) rfl (fun _ _=>rfl) _ (Nat.le_refl _),List.take_length]
theorem e3F_all (F:FL):e3F F F.ts.length=e3F F 0++F.ts.flatMap rtE:=by
 rw [wiq rtE whn F.ts (e3F F) (e3F F 0) rfl (fun _ _=>rfl) _ (Nat.le_refl _),List.take_length]
theorem wkt (L:List UInt8) (t:RT):e4F L t t.bs.length=L++rtE t:=by
 rw [wiq bkE ⟨0,0⟩ t.bs (e4F L t) (e4F L t 0) rfl (fun _ _=>rfl) _ (Nat.le_refl _),List.take_length]
 simp only [e4F,rtE,List.append_assoc]
theorem wf5 (F:FL):e3F F F.ts.length=encF F:=by
 rw [e3F_all,e3F,e2F_all,e2F,e1F_all,e1F]
 simp only [encF,List.append_assoc]
def S_p1 (F:FL) (k:Nat):St:=⟨[(1,.ptr 0 0),(3,.ptr 1 0),(28,.view 15 F.ms.length (wag (atM F.ms))),(29,.int .i64 F.ms.length),(30,.int .i64 k)],[(0,.cells [.str F.id,.int .i64 F.ver,.int .i64 F.day,.int .i64 F.kind,.view 15 F.ms.length (wag (atM F.ms)),.view 5 F.rs.length (wai (atR F.rs)),.view 5 F.ts.length (wah (atT F.ts))] 49),(1,.cells [.ptr 1 0,.own 2 (e1F F k).length] 111),(2,.row 5 1 (e1F F k).length (strG (e1F F k)) false)],3,[]⟩
def L_p1 (F:FL):war:=fun st Q=>canonIs te 0 [1,3,28,29,30] st (S_p1 F 0)∧F.Rg∧Q (.exit 0) ⟨[(1,.ptr 0 0),(3,.ptr 1 0)],[(0,.cells [.str F.id,.int .i64 F.ver,.int .i64 F.day,.int .i64 F.kind,.view 15 F.ms.length (wag (atM F.ms)),.view 5 F.rs.length (wai (atR F.rs)),.view 5 F.ts.length (wah (atT F.ts))] 49),(1,.cells [.ptr 1 0,.own 2 (e1F F F.ms.length).length] 111),(2,.row 5 1 (e1F F F.ms.length).length (strG (e1F F F.ms.length)) false)],3,[]⟩
def S_q1 (F:FL) (k:Nat):St:=⟨[(1,.ptr 0 0),(3,.str (e1F F k)),(29,.view 15 F.ms.length (wag (atM F.ms))),(30,.int .i64 F.ms.length),(31,.int .i64 k)],[(0,.cells [.str F.id,.int .i64 F.ver,.int .i64 F.day,.int .i64 F.kind,.view 15 F.ms.length (wag (atM F.ms)),.view 5 F.rs.length (wai (atR F.rs)),.view 5 F.ts.length (wah (atT F.ts))] 49)],1,[]⟩
def L_q1 (F:FL):war:=fun st Q=>canonIs te 0 [1,3,29,30,31] st (S_q1 F 0)∧F.Rg∧Q (.exit 0) ⟨[(1,.ptr 0 0),(3,.str (e1F F F.ms.length))],[(0,.cells [.str F.id,.int .i64 F.ver,.int .i64 F.day,.int .i64 F.kind,.view 15 F.ms.length (wag (atM F.ms)),.view 5 F.rs.length (wai (atR F.rs)),.view 5 F.ts.length (wah (atT F.ts))] 49)],1,[]⟩
def S_p2 (F:FL) (k:Nat):St:=⟨[(1,.ptr 0 0),(3,.ptr 1 0),(91,.view 5 F.rs.length (wai (atR F.rs))),(92,.int .i64 F.rs.length),(93,.int .i64 k)],[(0,.cells [.str F.id,.int .i64 F.ver,.int .i64 F.day,.int .i64 F.kind,.view 15 F.ms.length (wag (atM F.ms)),.view 5 F.rs.length (wai (atR F.rs)),.view 5 F.ts.length (wah (atT F.ts))] 49),(1,.cells [.ptr 1 0,.own 2 (e2F F k).length] 111),(2,.row 5 1 (e2F F k).length (strG (e2F F k)) false)],3,[]⟩
def L_p2 (F:FL):war:=fun st Q=>canonIs te 0 [1,3,91,92,93] st (S_p2 F 0)∧F.Rg∧Q (.exit 2) ⟨[(1,.ptr 0 0),(3,.ptr 1 0)],[(0,.cells [.str F.id,.int .i64 F.ver,.int .i64 F.day,.int .i64 F.kind,.view 15 F.ms.length (wag (atM F.ms)),.view 5 F.rs.length (wai (atR F.rs)),.view 5 F.ts.length (wah (atT F.ts))] 49),(1,.cells [.ptr 1 0,.own 2 (e2F F F.rs.length).length] 111),(2,.row 5 1 (e2F F F.rs.length).length (strG (e2F F F.rs.length)) false)],3,[]⟩
def S_q2 (F:FL) (k:Nat):St:=⟨[(1,.ptr 0 0),(3,.str (e2F F k)),(108,.view 5 F.rs.length (wai (atR F.rs))),(109,.int .i64 F.rs.length),(110,.int .i64 k)],[(0,.cells [.str F.id,.int .i64 F.ver,.int .i64 F.day,.int .i64 F.kind,.view 15 F.ms.length (wag (atM F.ms)),.view 5 F.rs.length (wai (atR F.rs)),.view 5 F.ts.length (wah (atT F.ts))] 49)],1,[]⟩
def L_q2 (F:FL):war:=fun st Q=>canonIs te 0 [1,3,108,109,110] st (S_q2 F 0)∧F.Rg∧Q (.exit 2) ⟨[(1,.ptr 0 0),(3,.str (e2F F F.rs.length))],[(0,.cells [.str F.id,.int .i64 F.ver,.int .i64 F.day,.int .i64 F.kind,.view 15 F.ms.length (wag (atM F.ms)),.view 5 F.rs.length (wai (atR F.rs)),.view 5 F.ts.length (wah (atT F.ts))] 49)],1,[]⟩
def S_p3 (F:FL) (k:Nat):St:=⟨[(3,.ptr 0 0),(118,.view 5 F.ts.length (wah (atT F.ts))),(119,.int .i64 F.ts.length),(120,.int .i64 k)],[(0,.cells [.ptr 0 0,.own 1 (e3F F k).length] 111),(1,.row 5 1 (e3F F k).length (strG (e3F F k)) false)],2,[]⟩
def L_p3 (F:FL):war:=fun st Q=>canonIs te 0 [3,118,119,120] st (S_p3 F 0)∧F.Rg∧Q (.exit 4) ⟨[(3,.ptr 0 0)],[(0,.cells [.ptr 0 0,.own 1 (e3F F F.ts.length).length] 111),(1,.row 5 1 (e3F F F.ts.length).length (strG (e3F F F.ts.length)) false)],2,[]⟩
def S_q3 (F:FL) (k:Nat):St:=⟨[(3,.str (e3F F k)),(140,.view 5 F.ts.length (wah (atT F.ts))),(141,.int .i64 F.ts.length),(142,.int .i64 k)],[],0,[]⟩
def L_q3 (F:FL):war:=fun st Q=>canonIs te 0 [3,140,141,142] st (S_q3 F 0)∧F.Rg∧Q (.exit 4) ⟨[(3,.str (e3F F F.ts.length))],[],0,[]⟩
def S_ms (F:FL) (k:Nat) (m:MG) (L:List UInt8):St:=⟨[(1,.ptr 0 0),(3,.ptr 1 0),(5,.ptr 2 0),(6,.ptr 3 0),(7,.ptr 4 0),(28,.view 15 F.ms.length (wag (atM F.ms))),(29,.int .i64 F.ms.length),(30,.int .i64 k)],[(0,.cells [.str F.id,.int .i64 F.ver,.int .i64 F.day,.int .i64 F.kind,.view 15 F.ms.length (wag (atM F.ms)),.view 5 F.rs.length (wai (atR F.rs)),.view 5 F.ts.length (wah (atT F.ts))] 49),(1,.cells [.ptr 1 0,.own 5 L.length] 111),(2,.cells [.str m.dev,.int .i64 m.seq,.int .i64 m.kind,.str m.v.o,.str m.v.p,.int .i64 m.v.per,.int .i64 m.v.day,.int .i64 m.v.st,.int .i64 m.v.pr,.str m.v.rep,.str m.d.o,.str m.d.p,.int .i64 m.d.per,.str m.d.dev,.int .i64 m.d.num] 40),(3,.cells [.str m.v.o,.str m.v.p,.int .i64 m.v.per,.int .i64 m.v.day,.int .i64 m.v.st,.int .i64 m.v.pr,.str m.v.rep] 36),(4,.cells [.str m.d.o,.str m.d.p,.int .i64 m.d.per,.str m.d.dev,.int .i64 m.d.num] 38),(5,.row 5 1 (L).length (strG (L)) false)],6,[]⟩
def L_m8 (F:FL) (k:Nat) (m:MG) (L:List UInt8):war:=fun st Q=>canonIs te 0 [1,3,5,6,7,28,29,30] st (S_ms F k m L)∧m.Rg∧(L++(txtE m.dev)).length≤1099511627776∧Q .normal (S_ms F k m (L++(txtE m.dev)))
def L_m9 (F:FL) (k:Nat) (m:MG) (L:List UInt8):war:=fun st Q=>canonIs te 0 [1,3,5,6,7,28,29,30] st (S_ms F k m L)∧m.Rg∧(L++(numE m.seq++(numE m.kind))).length≤1099511627776∧Q .normal (S_ms F k m (L++(numE m.seq++(numE m.kind))))
def wn6 (F:FL) (k:Nat) (m:MG) (L:List UInt8):war:=fun st Q=>canonIs te 0 [1,3,5,6,7,28,29,30] st (S_ms F k m L)∧m.Rg∧(L++(txtE m.v.o++(txtE m.v.p))).length≤1099511627776∧Q .normal (S_ms F k m (L++(txtE m.v.o++(txtE m.v.p))))
def wn5 (F:FL) (k:Nat) (m:MG) (L:List UInt8):war:=fun st Q=>canonIs te 0 [1,3,5,6,7,28,29,30] st (S_ms F k m L)∧m.Rg∧(L++(numE m.v.per++(numE m.v.day++(numE m.v.st++(numE m.v.pr))))).length≤1099511627776∧Q .normal (S_ms F k m (L++(numE m.v.per++(numE m.v.day++(numE m.v.st++(numE m.v.pr))))))
def wn4 (F:FL) (k:Nat) (m:MG) (L:List UInt8):war:=fun st Q=>canonIs te 0 [1,3,5,6,7,28,29,30] st (S_ms F k m L)∧m.Rg∧(L++(txtE m.v.rep++(txtE m.d.o++(txtE m.d.p)))).length≤1099511627776∧Q .normal (S_ms F k m (L++(txtE m.v.rep++(txtE m.d.o++(txtE m.d.p)))))
def wn3 (F:FL) (k:Nat) (m:MG) (L:List UInt8):war:=fun st Q=>canonIs te 0 [1,3,5,6,7,28,29,30] st (S_ms F k m L)∧m.Rg∧(L++(numE m.d.per)).length≤1099511627776∧Q .normal (S_ms F k m (L++(numE m.d.per)))
def wn2 (F:FL) (k:Nat) (m:MG) (L:List UInt8):war:=fun st Q=>canonIs te 0 [1,3,5,6,7,28,29,30] st (S_ms F k m L)∧m.Rg∧(L++(txtE m.d.dev)).length≤1099511627776∧Q .normal (S_ms F k m (L++(txtE m.d.dev)))
def wn1 (F:FL) (k:Nat) (m:MG) (L:List UInt8):war:=fun st Q=>canonIs te 0 [1,3,5,6,7,28,29,30] st (S_ms F k m L)∧m.Rg∧(L++(numE m.d.num)).length≤1099511627776∧Q .normal (S_ms F k m (L++(numE m.d.num)))
def S_p4 (F:FL) (k:Nat) (L:List UInt8) (t:RT) (j:Nat):St:=⟨[(3,.ptr 0 0),(118,.view 5 F.ts.length (wah (atT F.ts))),(119,.int .i64 F.ts.length),(120,.int .i64 k),(143,.view 2 t.bs.length (wa0 (atB t.bs))),(144,.int .i64 t.bs.length),(145,.int .i64 j)],[(0,.cells [.ptr 0 0,.own 1 (e4F L t j).length] 111),(1,.row 5 1 (e4F L t j).length (strG (e4F L t j)) false)],2,[]⟩
def L_p4 (F:FL) (k:Nat) (L:List UInt8) (t:RT):war:=fun st Q=>canonIs te 0 [3,118,119,120,143,144,145] st (S_p4 F k L t 0)∧t.Rg∧(e4F L t t.bs.length).length≤1099511627776∧Q (.exit 6) ⟨[(3,.ptr 0 0),(118,.view 5 F.ts.length (wah (atT F.ts))),(119,.int .i64 F.ts.length),(120,.int .i64 k)],[(0,.cells [.ptr 0 0,.own 1 (L++rtE t).length] 111),(1,.row 5 1 (L++rtE t).length (strG (L++rtE t)) false)],2,[]⟩
def S_q4 (F:FL) (k:Nat) (L:List UInt8) (t:RT) (j:Nat):St:=⟨[(3,.str (e4F L t j)),(140,.view 5 F.ts.length (wah (atT F.ts))),(141,.int .i64 F.ts.length),(142,.int .i64 k),(168,.view 2 t.bs.length (wa0 (atB t.bs))),(169,.int .i64 t.bs.length),(170,.int .i64 j)],[],0,[]⟩
def L_q4 (F:FL) (k:Nat) (L:List UInt8) (t:RT):war:=fun st Q=>canonIs te 0 [3,140,141,142,168,169,170] st (S_q4 F k L t 0)∧t.Rg∧(e4F L t t.bs.length).length≤1099511627776∧Q (.exit 6) ⟨[(3,.str (L++rtE t)),(140,.view 5 F.ts.length (wah (atT F.ts))),(141,.int .i64 F.ts.length),(142,.int .i64 k)],[],0,[]⟩
def S_q1s (F:FL) (s:List UInt8) (k:Nat):St:=⟨[(1,.ptr 0 0),(3,.str s),(29,.view 15 F.ms.length (wag (atM F.ms))),(30,.int .i64 F.ms.length),(31,.int .i64 k)],[(0,.cells [.str F.id,.int .i64 F.ver,.int .i64 F.day,.int .i64 F.kind,.view 15 F.ms.length (wag (atM F.ms)),.view 5 F.rs.length (wai (atR F.rs)),.view 5 F.ts.length (wah (atT F.ts))] 49)],1,[]⟩
def S_q2s (F:FL) (s:List UInt8) (k:Nat):St:=⟨[(1,.ptr 0 0),(3,.str s),(108,.view 5 F.rs.length (wai (atR F.rs))),(109,.int .i64 F.rs.length),(110,.int .i64 k)],[(0,.cells [.str F.id,.int .i64 F.ver,.int .i64 F.day,.int .i64 F.kind,.view 15 F.ms.length (wag (atM F.ms)),.view 5 F.rs.length (wai (atR F.rs)),.view 5 F.ts.length (wah (atT F.ts))] 49)],1,[]⟩
def S_q3s (F:FL) (s:List UInt8) (k:Nat):St:=⟨[(3,.str s),(140,.view 5 F.ts.length (wah (atT F.ts))),(141,.int .i64 F.ts.length),(142,.int .i64 k)],[],0,[]⟩
def S_q4s (F:FL) (k:Nat) (s:List UInt8) (t:RT) (j:Nat):St:=⟨[(3,.str s),(140,.view 5 F.ts.length (wah (atT F.ts))),(141,.int .i64 F.ts.length),(142,.int .i64 k),(168,.view 2 t.bs.length (wa0 (atB t.bs))),(169,.int .i64 t.bs.length),(170,.int .i64 j)],[],0,[]⟩
def wee:Spec
 |[.agg [.str id,.int .i64 ver,.int .i64 day,.int .i64 kind,.view 15 nm fm,.view 5 nr fr,.view 5 nt ft]],[]=>some (.str (encF (flV id ver day kind nm fm nr fr nt ft)),[],FlC nm fm nr fr nt ft∧(flV id ver day kind nm fm nr fr nt ft).Rg)
 |_,_=>none
def wi6:AV:=.agg [.str [],.int .i64 0,.int .i64 0,.int .i64 0,.nil,.nil,.nil]
def zeroFA:AV:=.agg [.str [],.int .i64 0,.int .i64 0,.int .i64 0,.view 0 0 (fun _=>[]),.view 0 0 (fun _=>[]),.view 0 0 (fun _=>[])]
def entN (g:Nat→FL) (k:Nat):List (AV×AV):=(waw okV g k).map fun t=>(.str t,.agg (wbd (wbf okV g k t)))
def gotN (es:List (AV×AV)) (x:List UInt8):AV:=(mget es (.str x)).getD zeroFA
def cmpN (es:List (AV×AV)) (x y:List UInt8):Int:=orL [cmpS (wby (way (gotN es x) 0)) (wby (way (gotN es y) 0)),cmpI (wap (way (gotN es x) 1)) (wap (way (gotN es y) 1)),cmpI (wap (way (gotN es x) 2)) (wap (way (gotN es y) 2)),cmpS x y]
structure FL.Gd (F:FL):Prop where
 sm:F.Sm
 rg:F.Rg
def S_n3 (g:Nat→FL) (n k:Nat):St:=⟨[(3,.ptr 0 0),(15,.view 7 n (wac g)),(16,.int .i64 n),(17,.int .i64 k)],[(0,.cells [.map 1] 121),(1,.amap (entN g k))],2,[]⟩
def L_n3 (g:Nat→FL) (n:Nat):war:=fun st Q=>canonIs te 0 [3,15,16,17] st (S_n3 g n 0)∧n≤1000∧(∀ i,i<n→(g i).Gd)∧Q (.exit 0) ⟨[(3,.ptr 0 0)],[(0,.cells [.map 1] 121),(1,.amap (entN g n))],2,[]⟩
structure IN where
 c:Nat
 h:Nat→List UInt8
 c0:Nat
 left:List Nat
def wl7 (es:List (AV×AV)) (i:IN):St:=⟨[(3,.ptr 0 0),(9,.own 1 i.c),(46,.ptr 2 0)],[(0,.cells [.map 3] 121),(1,.row 9 1 i.c (wax i.h) false),(2,.miter 3 es.length (121::i.c0::i.left)),(3,.amap es)],4,[]⟩
def wnz (g:Nat→FL) (n:Nat):war:=fun st Q=>canonIs te 0 [3,9,46] (ownNil 9 9 1 st) (wl7 (entN g n) ⟨0,fun _=>[],(entN g n).length,List.range (entN g n).length⟩)∧n≤1000∧
 ∀ h:Nat→List UInt8,(lst h (waw okV g n).length).Perm (waw okV g n)→Q (.exit 2) ⟨[(3,.ptr 0 0),(9,.own 1 (waw okV g n).length)],[(0,.cells [.map 2] 121),(1,.row 9 1 (waw okV g n).length (wax h) false),(2,.amap (entN g n))],3,[]⟩
def wng:wci
 |[.own 0 n,.func 92 [.ptr 1 0]],[.row t 1 m f fr,.cells [.map 2] ct,.amap es],R=>t=9∧fr=false∧n=m∧n≤1000000∧f=wax (stOf f)∧wbq .string es∧(∀ x,wcl wi6 (gotN es x)=gotN es x)∧(∀ p∈es,nref p.1=true∧nref p.2=true)∧
   ∀ h:Nat→List UInt8,(lst h n).Perm (lst (stOf f) n)→(∀ i j,i<j→j<n→¬ cmpN es (h j) (h i)<0)→R (.tuple []) [(0,.row 9 1 n (wax h) false),(1,.cells [.map 2] ct),(2,.amap es)]
 |_,_,_=>False
def isFl (u:AV) (F:FL):Prop:=u= .agg (wbd F)
def wm0:Spec
 |[u],[]=>some (u,[],∃ F:FL,isFl u F∧F.ms.length≤1000∧F.rs.length≤1000∧F.ts.length≤1000∧∀ t∈F.ts,t.bs.length≤1000)
 |_,_=>none
def wl6 (es:List (AV×AV)) (m:Nat) (h:Nat→List UInt8) (o:Nat→FL) (k:Nat):St:=⟨[(3,.ptr 0 0),(11,.own 1 k),(58,.own 2 m),(59,.int .i64 m),(60,.int .i64 k)],
 [(0,.cells [.map 3] 121),(1,.row 49 7 k (wac o) false),(2,.row 9 1 m (wax h) false),(3,.amap es)],4,[]⟩
def wny (g:Nat→FL) (n:Nat):war:=fun st Q=>∃ h:Nat→List UInt8,∃ o:Nat→FL,canonIs te 0 [3,11,58,59,60] (ownNil 11 49 7 st) (wl6 (entN g n) (waw okV g n).length h o 0)∧n≤1000∧(∀ i,i<(waw okV g n).length→isFl (gotN (entN g n) (h i)) (o i)∧(o i).Gd)∧
 Q (.exit 4) ⟨[(11,.own 0 (waw okV g n).length)],[(0,.row 49 7 (waw okV g n).length (wac o) false)],1,[]⟩
def wl2:Spec
 |[.view 7 n f],[]=>some (.own 0 (nrmL okV (flOf f) n).length,[(0,.row 49 7 (nrmL okV (flOf f) n).length (wac (atF (nrmL okV (flOf f) n))) false)],n≤1000∧f=wac (flOf f)∧∀ i,i<n→(flOf f i).Gd)
 |_,_=>none
end Go.Eng
namespace Go.Eng
open Go.Lib
structure MG.Tn (m:MG):Prop where
 rg:m.Rg
 a:m.dev.length≤100
 b:m.v.o.length≤100
 c:m.v.p.length≤100
 d:m.v.rep.length≤100
 e:m.d.o.length≤100
 f:m.d.p.length≤100
 g:m.d.dev.length≤100
structure RW.Tn (r:RW):Prop where
 rg:r.Rg
 a:r.o.length≤100
 b:r.p.length≤100
structure RT.Tn (t:RT):Prop where
 rg:t.Rg
 a:t.o.length≤100
 b:t.p.length≤100
structure FL.Tn (F:FL):Prop where
 id:F.id.length≤100
 ver:inR .i64 F.ver
 kind:inR .i64 F.kind
 m:F.ms.length≤1000∧∀ m∈F.ms,m.Tn
 r:F.rs.length≤1000∧∀ r∈F.rs,r.Tn
 t:F.ts.length≤1000∧∀ t∈F.ts,t.Tn
theorem wtg:∀ (k u:Nat),u<10 ^ (k+1)→nDigits u≤k+1
 |0,u,h=>by rw [nDigits_small (by omega)];exact Nat.le_refl _
 |k+1,u,h=>by
  by_cases q:u<10
  ·rw [nDigits_small q];omega
  ·rw [nDigits_big q]
   have:=wtg k (u / 10) (by rw [Nat.pow_succ] at h;omega)
   omega
theorem wtf (u:Nat) (h:u<18446744073709551616):nDigits u≤20:=wtg 19 u (by omega)
theorem itoa21 {n:Int} (h:inR .i64 n):(itoa n).length≤21:=by
 simp only [inR] at h
 unfold itoa
 by_cases q:n<0
 ·rw [if_pos q,List.length_cons,decDigits_length]
  have:=wtf n.natAbs (by omega)
  omega
 ·rw [if_neg q,decDigits_length]
  have:=wtf n.toNat (by omega)
  omega
theorem wce {n:Int} (h:inR .i64 n):(numE n).length≤22:=by
 have:=itoa21 h
 unfold numE
 rw [List.length_append]
 show _+1≤_
 omega
theorem wju {n:Nat} (h:n≤1000):(numE n).length≤22:=wce (by simp only [inR];omega)
theorem wc6 {s:List UInt8} (h:s.length≤100):(txtE s).length≤123:=by
 have:=itoa21 (n:=(s.length:Int)) (by simp only [inR];omega)
 unfold txtE
 rw [List.length_append,List.length_cons,List.length_append]
 show _+(s.length+1+1)≤_
 omega
theorem wip {α:Type} (e:α→List UInt8) (B:Nat):∀ l:List α,(∀ x∈l,(e x).length≤B)→(l.flatMap e).length≤l.length * B
 |[],_=>by simp
 |x::l,h=>by
  have h1:=h x (List.mem_cons_self ..)
  have h2:=wip e B l fun y hy=>h y (List.mem_cons_of_mem _ hy)
  rw [List.flatMap_cons,List.length_append,List.length_cons,Nat.add_mul,Nat.one_mul]
  omega
theorem mgE_len {m:MG} (h:m.Tn):(mgE m).length≤1100:=by
 have h1:=wc6 h.a
 have h2:=wc6 h.b
 have h3:=wc6 h.c
 have h4:=wc6 h.d
 have h5:=wc6 h.e
 have h6:=wc6 h.f
 have h7:=wc6 h.g
 have n1:=wce h.rg.seq
 have n2:=wce h.rg.kind
 have n3:=wce h.rg.per
 have n4:=wce h.rg.day
 have n5:=wce h.rg.st
 have n6:=wce h.rg.pr
 have n7:=wce h.rg.dper
 have n8:=wce h.rg.num
 unfold mgE
 simp only [List.length_append]
 omega
theorem rwE_len {r:RW} (h:r.Tn):(rwE r).length≤1100:=by
 have h1:=wc6 h.a
 have h2:=wc6 h.b
 have n1:=wce h.rg.per
 have n2:=wce h.rg.u
 have n3:=wce h.rg.tv
 unfold rwE
 simp only [List.length_append]
 omega
theorem rtE_len {t:RT} (h:t.Tn):(rtE t).length≤50000:=by
 have h1:=wc6 h.a
 have h2:=wc6 h.b
 have n1:=wce h.rg.per
 have n2:=wce h.rg.st
 have n3:=wju h.rg.n
 have hb:=wip bkE 44 t.bs fun b hb=>by
  have q1:=wce (h.rg.b b hb).1
  have q2:=wce (h.rg.b b hb).2
  unfold bkE
  rw [List.length_append];omega
 have hm:t.bs.length * 44≤1000 * 44:=Nat.mul_le_mul_right _ h.rg.n
 unfold rtE
 simp only [List.length_append]
 omega
theorem FL.Tn.rg {F:FL} (h:F.Tn):F.Rg:=by
 refine ⟨h.ver,h.kind,h.m.1,h.r.1,h.t.1,fun m hm=>(h.m.2 m hm).rg,fun r hr=>(h.r.2 r hr).rg,fun t ht=>(h.t.2 t ht).rg,?_⟩
 have h1:=wc6 h.id
 have n1:=wce h.ver
 have n2:=wce h.kind
 have n3:=wju h.m.1
 have n4:=wju h.r.1
 have n5:=wju h.t.1
 have f1:=wip mgE 1100 F.ms fun m hm=>mgE_len (h.m.2 m hm)
 have f2:=wip rwE 1100 F.rs fun r hr=>rwE_len (h.r.2 r hr)
 have f3:=wip rtE 50000 F.ts fun t ht=>rtE_len (h.t.2 t ht)
 have m1:F.ms.length * 1100≤1000 * 1100:=Nat.mul_le_mul_right _ h.m.1
 have m2:F.rs.length * 1100≤1000 * 1100:=Nat.mul_le_mul_right _ h.r.1
 have m3:F.ts.length * 50000≤1000 * 50000:=Nat.mul_le_mul_right _ h.t.1
 unfold encF
 simp only [List.length_append]
 omega
theorem MG.Tn.sm {m:MG} (h:m.Tn):m.Sm:=⟨by have:=h.a;omega,by have:=h.b;omega,by have:=h.e;omega,by have:=h.g;omega⟩
theorem FL.Tn.gd {F:FL} (h:F.Tn):F.Gd:=
 ⟨⟨by have:=h.id;omega,⟨h.m.1,fun m hm=>(h.m.2 m hm).sm⟩,⟨h.r.1,fun r hr=>by have:=(h.r.2 r hr).a;omega⟩,⟨h.t.1,fun t ht=>⟨by have:=(h.t.2 t ht).a;omega⟩⟩⟩,h.rg⟩
theorem wpl {s:List UInt8} (h:wa8 s=true):s.length≤24:=by
 unfold wa8 at h
 simp only [Bool.and_eq_true,decide_eq_true_eq] at h
 omega
theorem wov {s:List UInt8} (h:wbg s=true):s.length≤13:=by
 unfold wbg wb4 at h
 split at h
 ·rename_i q
  simp only [Bool.and_eq_true,Bool.or_eq_true,decide_eq_true_eq] at q
  omega
 ·cases h
theorem wo5 {o p:List UInt8} {per:Int} (h:wbz o p per=true):o.length≤24∧p.length≤13∧0≤per∧per≤5999:=by
 unfold wbz at h
 simp only [Bool.and_eq_true,decide_eq_true_eq] at h
 exact ⟨wpl h.1.1.1,wov h.1.1.2,h.1.2,h.2⟩
theorem wpc {r:RW} (h:rowF r=true):r.Tn:=by
 unfold rowF at h
 simp only [Bool.and_eq_true,decide_eq_true_eq] at h
 obtain ⟨h1,h2,h3,h4⟩:=wo5 h.1.1
 exact ⟨⟨by simp only [inR];omega,by simp only [inR];omega,by simp only [inR];omega⟩,by omega,by omega⟩
theorem ws6 {n:Int} (h:numF n=true):inR .i64 n:=by
 unfold numF at h
 simp only [Bool.and_eq_true,decide_eq_true_eq] at h
 simp only [inR];omega
theorem visF_tn {v:VT} (h:visF v=true):v.o.length≤24∧v.p.length≤13∧v.rep.length≤13∧inR .i64 v.per∧inR .i64 v.day∧inR .i64 v.st∧inR .i64 v.pr:=by
 unfold visF at h
 simp only [Bool.and_eq_true,decide_eq_true_eq] at h
 obtain ⟨⟨⟨h0,h1⟩,h2⟩,h3⟩:=h
 obtain ⟨k1,k2,k3,k4⟩:=wo5 h0
 have hp:inR .i64 v.per:=by simp only [inR];omega
 have hd:inR .i64 v.day:=by simp only [inR];omega
 by_cases q1:v.st=1∨v.st=2
 ·have:(decide (v.st=1) || decide (v.st=2))=true:=by rcases q1 with q | q<;>simp [q]
  rw [this] at h3
  simp only [cond_true,Bool.and_eq_true,decide_eq_true_eq] at h3
  exact ⟨k1,k2,by rw [h3.2];simp,hp,hd,by simp only [inR];omega,by simp only [inR];omega⟩
 ·have:(decide (v.st=1) || decide (v.st=2))=false:=by simp only [Bool.or_eq_false_iff,decide_eq_false_iff_not];omega
  rw [this] at h3
  simp only [cond_false] at h3
  by_cases q2:v.st=3∨v.st=4
  ·have:(decide (v.st=3) || decide (v.st=4))=true:=by rcases q2 with q | q<;>simp [q]
   rw [this] at h3
   simp only [cond_true,Bool.and_eq_true,decide_eq_true_eq] at h3
   exact ⟨k1,k2,by rw [h3.2];simp,hp,hd,by simp only [inR];omega,by simp only [inR];omega⟩
  ·have:(decide (v.st=3) || decide (v.st=4))=false:=by simp only [Bool.or_eq_false_iff,decide_eq_false_iff_not];omega
   rw [this] at h3
   simp only [cond_false] at h3
   by_cases q3:v.st=5
   ·rw [decide_eq_true q3] at h3
    simp only [cond_true,Bool.and_eq_true,decide_eq_true_eq] at h3
    exact ⟨k1,k2,wov h3.1.2,hp,hd,by simp only [inR];omega,by simp only [inR];omega⟩
   ·rw [decide_eq_false q3] at h3
    cases h3
theorem wtj {m:MG} (h:msgF m=0):m.Tn:=by
 unfold msgF at h
 cases h1:wa8 m.dev with
 |false=>rw [h1] at h;exact absurd (show (110:Int)=0 from h) (by decide)
 |true=>
  cases h2:numF m.seq with
  |false=>rw [h1,h2] at h;exact absurd (show (111:Int)=0 from h) (by decide)
  |true=>
   cases h3: !decide (m.kind=1) && !decide (m.kind=2) with
   |true=>rw [h1,h2,h3] at h;exact absurd (show (112:Int)=0 from h) (by decide)
   |false=>
    cases h4:(decide (m.kind=1) && !visF m.v) || (decide (m.kind=2) && !m.v.nil) with
    |true=>rw [h1,h2,h3,h4] at h;exact absurd (show (113:Int)=0 from h) (by decide)
    |false=>
     cases h5:(decide (m.kind=1) && !m.d.nil) || (decide (m.kind=2) && !(wbz m.d.o m.d.p m.d.per && wa8 m.d.dev && numF m.d.num)) with
     |true=>rw [h1,h2,h3,h4,h5] at h;exact absurd (show (114:Int)=0 from h) (by decide)
     |false=>
      have a:=wpl h1
      have b:=ws6 h2
      by_cases k1:m.kind=1
      ·have k2:¬ m.kind=2:=by omega
       rw [decide_eq_true k1,decide_eq_false k2] at h4 h5
       simp only [Bool.true_and,Bool.false_and,Bool.or_false,Bool.not_eq_false'] at h4 h5
       obtain ⟨v1,v2,v3,v4,v5,v6,v7⟩:=visF_tn h4
       unfold DT.nil at h5
       simp only [Bool.and_eq_true,decide_eq_true_eq] at h5
       obtain ⟨d1,d2,d3,d4,d5⟩:=h5
       exact ⟨⟨b,by simp only [inR];omega,v4,v5,v6,v7,by simp only [inR];omega,by simp only [inR];omega⟩,by omega,by omega,by omega,by omega,by rw [d1];simp,by rw [d2];simp,by rw [d4];simp⟩
      ·have k2:m.kind=2:=by
        rw [decide_eq_false k1] at h3
        simp only [Bool.not_false,Bool.true_and,Bool.not_eq_false',decide_eq_true_eq] at h3
        exact h3
       rw [decide_eq_false k1,decide_eq_true k2] at h4 h5
       simp only [Bool.true_and,Bool.false_and,Bool.false_or,Bool.not_eq_false'] at h4 h5
       simp only [Bool.and_eq_true] at h5
       obtain ⟨⟨s1,s2⟩,s3⟩:=h5
       obtain ⟨t1,t2,t3,t4⟩:=wo5 s1
       have t5:=wpl s2
       unfold VT.nil at h4
       simp only [Bool.and_eq_true,decide_eq_true_eq] at h4
       obtain ⟨v1,v2,v3,v4,v5,v6,v7⟩:=h4
       exact ⟨⟨b,by simp only [inR];omega,by simp only [inR];omega,by simp only [inR];omega,by simp only [inR];omega,by simp only [inR];omega,by simp only [inR];omega,ws6 s3⟩,by omega,by rw [v1];simp,by rw [v2];simp,by rw [v7];simp,by omega,by omega,by omega⟩
end Go.Eng
namespace Go.Eng
structure RW.Made (r:RW):Prop where
 ok:rowF r=true
 o:r.o.length≤2
 u:1≤r.u∧r.u≤20
 tv:1≤r.tv∧r.tv≤2400
structure RwS where
 c:Nat
 g:Nat→RW
 a:Int
def RW.put (g:Nat→RW) (k:Nat) (r:RW) (i:Nat):RW:=if i<k then g i else r
def wlw (n:Nat) (v:Nat→Int) (N:Int) (i:RwS):St:=⟨[(0,.ptr 0 0),(5,.own 1 i.c),(9,.int .i64 N),(10,.int .i64 i.c)],
 [(0,.cells [.view 1 n (waa v),.int .i64 i.a] 27),(1,.row 61 5 i.c (wai i.g) false)],2,[]⟩
def wnv (n:Nat) (v:Nat→Int) (a N:Int):war:=fun st Q=>canonIs te 1 [0,5,9,10] (ownNil 5 61 5 st) (wlw n v N ⟨0,fun _=>default,a⟩)∧(0≤N∧N≤100)∧(0≤a∧a≤4611686018427375000)∧
 ∀ i:RwS,i.c=N.toNat→i.a=a+6 * i.c→(∀ j,j<i.c→(i.g j).Made)→Q (.exit 0) ⟨[(5,.own 1 i.c)],[(0,.cells [.view 1 n (waa v),.int .i64 i.a] 27),(1,.row 61 5 i.c (wai i.g) false)],2,[]⟩
def wnh:wci
 |[.ptr 0 0,.int .i64 most],[.cells [.view sz n f,.int .i64 a] t],R=>t=27∧sz=1∧f=waa (vInt f)∧(0≤a∧a≤4611686018427370000)∧(0≤most∧most≤90)∧
   ∀ (c:Nat) (g:Nat→RW) (a':Int),c≤most.toNat→(a≤a'∧a'≤a+600)→(∀ j,j<c→(g j).Made)→
   R (.own 1 c) [(0,.cells [.view 1 n f,.int .i64 a'] 27),(1,.row 61 5 c (wai g) false)]
 |_,_,_=>False
end Go.Eng
namespace Go.Eng
open Go.RowKit
def allP {α:Type} (p:α→Prop):List α→Prop
 |[]=>True
 |[x]=>p x
 |x::l=>p x∧allP p l
theorem wq8 {α:Type} {p:α→Prop}:∀ {l:List α},allP p l→∀ x∈l,p x
 |[],_,x,hx=>by cases hx
 |[y],h,x,hx=>by obtain rfl:=List.mem_singleton.1 hx;exact h
 |y::z::l,h,x,hx=>by
  obtain ⟨h1,h2⟩:=h
  rcases List.mem_cons.1 hx with rfl | hx
  ·exact h1
  ·exact wq8 h2 x hx
def wf6 (done:List Nat):List Edge→Bool
 |[]=>true
 |e::l=>match Region.binds .any e with
  |true=>match hasN done e.on with
   |true=>wf6 done l
   |false=>false
  |false=>wf6 done l
def rdyL (done:List Nat):Nat→List Oper→List (Nat×Oper)
 |_,[]=>[]
 |i,o::l=>match hasN done i with
  |true=>rdyL done (i+1) l
  |false=>match wf6 done o.after.toList with
   |true=>(i,o)::rdyL done (i+1) l
   |false=>rdyL done (i+1) l
theorem wqv {done:List Nat}:∀ {l:List Edge},wf6 done l=true↔∀ e∈l,Region.binds .any e=true→e.on∈done
 |[]=>by simp [wf6]
 |e::l=>by
  unfold wf6
  have ih:=wqv (done:=done) (l:=l)
  cases hb:Region.binds .any e with
  |true=>
   cases hh:hasN done e.on with
   |true=>
    dsimp only
    rw [ih]
    constructor
    ·intro h e' he hb'
     rcases List.mem_cons.1 he with rfl | he
     ·exact (wbk _ _).1 hh
     ·exact h e' he hb'
    ·exact fun h e' he hb'=>h e' (List.mem_cons_of_mem _ he) hb'
   |false=>
    dsimp only
    refine ⟨fun h=>(by cases h),fun h=>?_⟩
    rw [(wbk _ _).2 (h e (List.mem_cons_self ..) hb)] at hh;cases hh
  |false=>
   dsimp only
   rw [ih]
   constructor
   ·intro h e' he hb'
    rcases List.mem_cons.1 he with rfl | he
    ·rw [hb] at hb';cases hb'
    ·exact h e' he hb'
   ·exact fun h e' he hb'=>h e' (List.mem_cons_of_mem _ he) hb'
theorem wh1 {done:List Nat}:∀ {l:List Oper} {j i:Nat} {o:Oper},(i,o)∈rdyL done j l↔∃ i',i=j+i'∧l[i']?=some o∧i ∉ done∧∀ e∈o.after.toList,Region.binds .any e=true→e.on∈done
 |[],j,i,o=>by simp [rdyL]
 |o'::l,j,i,o=>by
  have ih:=wh1 (done:=done) (l:=l) (j:=j+1) (i:=i) (o:=o)
  have tail:(∃ i',i=j+1+i'∧l[i']?=some o∧i ∉ done∧∀ e∈o.after.toList,Region.binds .any e=true→e.on∈done)→∃ i',i=j+i'∧(o'::l)[i']?=some o∧i ∉ done∧∀ e∈o.after.toList,Region.binds .any e=true→e.on∈done:=by
   rintro ⟨i',h1,h2,h3⟩
   exact ⟨i'+1,by omega,by simpa using h2,h3⟩
  have back:(∃ i',i=j+i'∧(o'::l)[i']?=some o∧i ∉ done∧∀ e∈o.after.toList,Region.binds .any e=true→e.on∈done)→(i=j∧o=o'∧j ∉ done∧∀ e∈o'.after.toList,Region.binds .any e=true→e.on∈done)∨∃ i',i=j+1+i'∧l[i']?=some o∧i ∉ done∧∀ e∈o.after.toList,Region.binds .any e=true→e.on∈done:=by
   rintro ⟨i',h1,h2,h3,h4⟩
   cases i' with
   |zero=>
    simp only [List.getElem?_cons_zero,Option.some.injEq] at h2
    subst h2
    obtain rfl:i=j:=by omega
    exact .inl ⟨rfl,rfl,h3,h4⟩
   |succ i'=>exact .inr ⟨i',by omega,by simpa using h2,h3,h4⟩
  unfold rdyL
  cases hh:hasN done j with
  |true=>
   dsimp only
   rw [ih]
   refine ⟨tail,fun h=>?_⟩
   rcases back h with ⟨_,_,h3,_⟩ | h
   ·exact absurd ((wbk _ _).1 hh) h3
   ·exact h
  |false=>
   cases hd:wf6 done o'.after.toList with
   |true=>
    dsimp only
    rw [List.mem_cons,ih,Prod.mk.injEq]
    constructor
    ·rintro (⟨rfl,rfl⟩ | h)
     ·refine ⟨0,rfl,rfl,fun q=>?_,wqv.1 hd⟩
      rw [(wbk _ _).2 q] at hh;cases hh
     ·exact tail h
    ·intro h
     rcases back h with ⟨h1,h2,_⟩ | h
     ·exact .inl ⟨h1,h2⟩
     ·exact .inr h
   |false=>
    dsimp only
    rw [ih]
    refine ⟨tail,fun h=>?_⟩
    rcases back h with ⟨_,_,_,h4⟩ | h
    ·rw [wqv.2 h4] at hd;cases hd
    ·exact h
def wdr (G:Env) (opl:List Oper) (Q:St→Prop):Nat→List Nat→KT
 |0,done,T,O,nx=>match rdyL done 0 opl with
  |[]=>Q ⟨T,O,nx,[]⟩
  |_::_=>False
 |fuel+1,done,T,O,nx=>match rdyL done 0 opl with
  |[]=>Q ⟨T,O,nx,[]⟩
  |p0::l=>allP (fun p:Nat×Oper=>match p.2.guard with
   |none=>wp1 G p.2 T O nx (wdr G opl Q fuel (p.1::done))
   |some _=>False) (p0::l)
def wgn (K:St→Prop) (Q:Exit→St→Prop):Exit→St→Prop
 |.normal,s=>K s
 |e,s=>Q e s
theorem wrf {P:Program} {o:Oper} {a:Act} {w:World} {K K':Act→World→Prop} {Q Q':Exit→Act→World→Prop} (h:∀ a w,K a w→K' a w) (hq:∀ e a w,e≠ .normal→Q e a w→Q' e a w) (hh:o.wp P a w K Q):o.wp P a w K' Q':=by
 unfold Oper.wp at *
 generalize (execOp a.eval o).run P w=r at *
 cases r with
 |ok n w'=>
   cases n<;>simp only [Oper.upon] at hh ⊢ <;>
     first
       |exact h _ _ hh
       |exact hh.elim
       |exact Calls.mono hh (fun e w'' he=>by
           cases e with
           |returned v=>exact h _ _ he
           |panicked c=>exact hq _ _ _ (by simp) he
           |outgrown=>obtain ⟨a',w3,h3⟩:=he;exact ⟨a',w3,hq _ _ _ (by simp) h3⟩)
       |exact Rows.mono hh (fun _ _ he=>h _ _ he)
 |halt x w'=>cases x<;>simp only [Oper.upon] at hh ⊢ <;>first | exact hq _ _ _ (by simp) hh | exact hh.elim
theorem wgk {opl:List Oper} {done:List Nat} {listed:Array Bool} (hsz:listed.size=opl.length) (hl:∀ i,listed.getD i false=true↔i∈done) (i:Nat):i∈Region.ready .any opl.toArray listed↔∃ o,opl[i]?=some o∧(i,o)∈rdyL done 0 opl:=by
 rw [mem_ready]
 have e:∀ o,opl[i]?=some o→(listed.getD i true=false↔i ∉ done):=fun o ho=>by
  have hi:i<listed.size:=by rw [hsz];exact (List.getElem?_eq_some_iff.1 ho).1
  rw [wkh hi true false, ← hl]
  cases listed.getD i false<;>simp
 constructor
 ·rintro ⟨h0,o,ho,h⟩
  have ho:opl[i]?=some o:=by simpa using ho
  exact ⟨o,ho,wh1.2 ⟨i,by omega,ho,(e o ho).1 h0,fun x hx hb=>(hl _).1 (h x (by simpa using hx) hb)⟩⟩
 ·rintro ⟨o,ho,h⟩
  obtain ⟨i',h1,h2,h3,h4⟩:=wh1.1 h
  exact ⟨(e o ho).2 h3,o,by simpa using ho,fun x hx hb=>(hl _).2 (h4 x (by simpa using hx) hb)⟩
theorem wot {C:Ctx} {G:Env} (hG:EnvOK C G) {m:Nat} {opl:List Oper} {Q:Exit→St→Prop} {E:Ent} (hE:E.m=m):∀ (fuel:Nat) (done:List Nat) (listed:Array Bool) (T:List (Nat×AV)) (O:List (Nat×AObj)) (nx:Nat) (bs:Nat→Option Hd) (a:Act) (w:World),
  listed.size=opl.length→(∀ i,listed.getD i false=true↔i∈done)→wdr G opl (Q .normal) fuel done T O nx→RepS C E G.N ⟨T,O,nx,[]⟩ bs a w→wpAny C.P .any opl.toArray (QC C E G.N Q) fuel listed a w
 |0,done,listed,T,O,nx,bs,a,w,hsz,hl,h,hr=>by
  unfold wdr at h
  unfold wpAny
  split at h
  ·rename_i hr0
   refine ⟨List.eq_nil_iff_forall_not_mem.2 fun i hi=>?_,_,bs,h,hr⟩
   obtain ⟨o,_,ho⟩:=(wgk hsz hl i).1 hi
   rw [hr0] at ho;cases ho
  ·exact h.elim
 |fuel+1,done,listed,T,O,nx,bs,a,w,hsz,hl,h,hr=>by
  unfold wdr at h
  unfold wpAny
  split at h
  ·rename_i hr0
   refine ⟨fun _=>⟨_,bs,h,hr⟩,fun i hi=>?_⟩
   obtain ⟨o,_,ho⟩:=(wgk hsz hl i).1 hi
   rw [hr0] at ho;cases ho
  ·rename_i p0 l hr0
   refine ⟨fun q=>?_,fun i hi=>?_⟩
   ·obtain ⟨i0,o0⟩:=p0
    have hm:(i0,o0)∈rdyL done 0 opl:=by rw [hr0];exact List.mem_cons_self ..
    obtain ⟨i',h1,h2,_⟩:=wh1.1 hm
    obtain rfl:i0=i':=by omega
    have:=(wgk hsz hl i0).2 ⟨o0,h2,hm⟩
    rw [q] at this;cases this
   obtain ⟨o,ho,hm⟩:=(wgk hsz hl i).1 hi
   rw [hr0] at hm
   have hp:=wq8 h _ hm
   dsimp only at hp
   have hilt:i<listed.size:=by rw [hsz];exact (List.getElem?_eq_some_iff.1 ho).1
   have hsz':(listed.setIfInBounds i true).size=opl.length:=by simp [hsz]
   have hl':∀ j,(listed.setIfInBounds i true).getD j false=true↔j∈i::done:=fun j=>by
    by_cases e:i=j
    ·subst e
     simp [Array.getD,hilt]
    ·rw [getD_set_ne _ e,hl,List.mem_cons]
     exact ⟨.inr,fun h=>h.resolve_left fun q=>e q.symm⟩
   split at hp
   ·rename_i hg
    have:=wi8 (m:=m) (ops:=opl.toArray) (rest:=[]) (Q:=wgn (fun s=>wdr G opl (Q .normal) fuel (i::done) s.T s.O s.nx) Q) hG hg hp (fun T' O' nx' hK=>by
     intro E' hE' bs' a' w' hr'
     exact ⟨⟨T',O',nx',[]⟩,bs',hK,hr'⟩) E hE bs a w hr
    have fin:∀ a' w',QC C E G.N (wgn (fun s=>wdr G opl (Q .normal) fuel (i::done) s.T s.O s.nx) Q) .normal a' w'→wpAny C.P .any opl.toArray (QC C E G.N Q) fuel (listed.setIfInBounds i true) a' w':=by
     rintro a' w' ⟨⟨T',O',nx',d'⟩,bs',hK,hr'⟩
     exact wot hG hE fuel _ _ T' O' nx' bs' a' w' hsz' hl' hK hr'
    have other:∀ e a' w',e≠Exit.normal→QC C E G.N (wgn (fun s=>wdr G opl (Q .normal) fuel (i::done) s.T s.O s.nx) Q) e a' w'→QC C E G.N Q e a' w':=by
     rintro e a' w' hne ⟨s,bs',hs,hr'⟩
     refine ⟨s,bs',?_,hr'⟩
     cases e with
     |normal=>exact absurd rfl hne
     |_=>exact hs
    unfold wpOp
    have ho':opl.toArray[i]?=some o:=by simpa using ho
    rw [ho']
    unfold wpList at this
    dsimp only
    split
    ·rename_i hw
     rw [if_pos hw] at this
     rcases this with h | ⟨h1,a',w',h2⟩
     ·exact .inl (wrf fin other h)
     ·exact .inr ⟨h1,a',w',other _ _ _ (by simp) h2⟩
    ·rename_i hw
     rw [if_neg hw] at this
     exact fin _ _ this
   ·exact hp.elim
theorem AWP.each {C:Ctx} {G:Env} (hG:EnvOK C G) {m id:Nat} {opl:List Oper} {Q:Exit→St→Prop} {T0:List (Nat×AV)} {O0:List (Nat×AObj)} {nx:Nat} {dec:List Nat}
  (h:wdr G opl (Q .normal) opl.length [] T0 O0 nx):AWP C m G.N (.region id opl.toArray true) Q ⟨T0,O0,nx,dec⟩:=by
 intro E hE bs a w hr
 have hS:Step w (MB E (lk O0) bs) bs { w with drawn:=w.drawn+1 } (MB E (lk O0) bs) bs∧WRep C E (lk O0) bs { w with drawn:=w.drawn+1 }:=by
  refine hr.1.2.next (fun _=>False) (fun _ _ h=>h) (fun _ _ _ h=>.inl h) (fun _ h=>h.elim) (fun _ _ _=>rfl) (Nat.le_refl _) (fun _ h=>.inl h) (fun _ _ _ h=>.inl ⟨h,fun _ _ _ h=>h⟩) hr.1.2.sep ?_ rfl ⟨rfl,fun _=>Nat.le_succ _⟩ rfl
  intro r t sz n f b c ho hb
  have:=hr.1.2.frz r t sz n f b c ho hb
  exact ⟨fun h=>this (.inr h),fun h=>this (.inl h)⟩
 exact wp_region_any C.mixed (wot hG hE _ [] _ T0 O0 nx bs a _ (by simp) (fun i=>by simp [Array.getD]) (by simpa using h) ⟨⟨hr.1.1.step hS.1,hS.2⟩,hr.2.1,hr.2.2⟩)
end Go.Eng
