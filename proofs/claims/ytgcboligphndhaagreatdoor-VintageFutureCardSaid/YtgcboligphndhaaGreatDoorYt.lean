/- The laws of messages: what their helpers answer. -/
import Derived.Test.YtgcboligphndhaaGreatDoorYq
import Derived.Test.YtgcboligphndhaaGreatDoorYs
import Derived.Test.YtgcboligphndhaaGreatDoorYr
import Derived.Test.YtgcboligphndhaaGreatDoorYm
import Derived.Lib.ItoaNum
namespace Go.Eng
open Go.Proofs Go.RowKit
variable {C:Ctx} [C.Loose]
set_option maxRecDepth 20000
theorem wz8 (s:List UInt8) (R:AV→List (Nat×AObj)→Prop):wpFn te [(159,.det wlj)] [] 0 Tryz.f120 [.str s] [] R=((2<4294967281∧List.length s<4294967281)∧R (.bool (decide ((valF [(48:UInt8),48,48,48,48,48,48,48] [(48:UInt8),49] s (4:Int) (1:Int) (1:Int) 0 (fun (_x:Nat)=>[]) fun (_x:Nat)=>[])=(0:Int)))) []):=by kernel_rfl
theorem nf_cnum (n:Int) (R:AV→List (Nat×AObj)→Prop):wpFn te [] [] 0 Tryz.f121 [.int .i64 n] [] R=(wad (decide ((1:Int)≤n)) (R (.bool (decide (n≤(1048576:Int)))) []) (R (.bool false) [])):=by kernel_rfl
theorem nf_calv (n:Int) (R:AV→List (Nat×AObj)→Prop):wpFn te [] [] 0 Tryz.f124 [.int .i64 n] [] R=(wad (decide ((0:Int)≤n)) (R (.bool (decide (n≤(182620:Int)))) []) (R (.bool false) [])):=by kernel_rfl
theorem wx7 (n:Int) (R:AV→List (Nat×AObj)→Prop):wpFn te [(124,.det wm8)] [] 0 Tryz.f73 [.int .i64 n] [] R=(True∧wad (!(decide ((0:Int)≤n) && decide (n≤(182620:Int)))) (R (.int .i64 (-1:Int)) []) ((7:Int)≠(0:Int)∧R (.int .i64 (Int.tmod n (7:Int))) [])):=by kernel_rfl
theorem nf_slot (o p:List UInt8) (per:Int) (R:AV→List (Nat×AObj)→Prop):wpFn te [(120,.det whf),(160,.det wea)] [] 0 Tryz.f123 [.str o,.str p,.int .i64 per] [] R=(List.length o<4294967281∧wad (wa8 o) (True∧wad (wbg p) (wad (decide ((0:Int)≤per)) (R (.bool (decide (per≤(5999:Int)))) []) (R (.bool false) [])) (R (.bool false) [])) (R (.bool false) [])):=by kernel_rfl
theorem wx9 (o p:List UInt8) (per day st pr:Int) (rep:List UInt8) (R:AV→List (Nat×AObj)→Prop):wpFn te [(123,.det wec),(160,.det wea),(73,.det wg6)] [] 0 Tryz.f122 [.agg [.str o,.str p,.int .i64 per,.int .i64 day,.int .i64 st,.int .i64 pr,.str rep]] [] R=(letI z3:=R (.bool false) [];letI z0:=(wad (decide (st=(5:Int))) (True∧wad (wbg rep) (R (.bool !decide (rep=p)) []) z3) (R (.bool (decide (rep=[]))) []));letI z2:=(wad (decide (pr<(1:Int))) z3 (wad (decide ((1099511627776:Int)<pr)) z3 z0));letI z1:=(wad (decide (st=(3:Int))) (wad (decide (st=(3:Int))) (wad (!decide (pr=(0:Int))) z3 z0) z3) (wad (decide (st=(4:Int))) (wad (!decide (pr=(0:Int))) z3 z0) z3));List.length o<4294967281∧wad (!wbz o p per) z3 (True∧wad (decide ((bif decide ((0:Int)≤day) && decide (day≤(182620:Int)) then day % (7:Int) else (-1:Int))<(0:Int))) z3 (wad (decide (st=(1:Int))) (wad (decide (st=(1:Int))) z2 z1) (wad (decide (st=(2:Int))) (wad (decide (st=(2:Int))) z2 z1) (wad (decide (st=(5:Int))) z2 z1))))):=by kernel_rfl
theorem nf_msg (m:MG) (R:AV→List (Nat×AObj)→Prop):wpFn te [(120,.det whf),(123,.det wec),(122,.det wld),(121,.det wl1)] [] 0 Tryz.f72 [.agg [.str m.dev,.int .i64 m.seq,.int .i64 m.kind,.str m.v.o,.str m.v.p,.int .i64 m.v.per,.int .i64 m.v.day,.int .i64 m.v.st,.int .i64 m.v.pr,.str m.v.rep,.str m.d.o,.str m.d.p,.int .i64 m.d.per,.str m.d.dev,.int .i64 m.d.num]] [] R=(letI z6:=(MG.kind m=(1:Int));letI z5:=(MG.kind m=(2:Int));letI z4:=R (.int .i64 114) [];letI z2:=(wad (decide z5) (List.length (DT.o (MG.d m))<4294967281∧wad (wbz (DT.o (MG.d m)) (DT.p (MG.d m)) (DT.per (MG.d m))) (List.length (DT.dev (MG.d m))<4294967281∧wad (wa8 (DT.dev (MG.d m))) (True∧wad (!numF (DT.num (MG.d m))) z4 (R (.int .i64 0) [])) z4) z4) (R (.int .i64 0) []));letI z0:=(wad (decide z6) (wad (!(decide (DT.o (MG.d m)=[]) && (decide (DT.p (MG.d m)=[]) && (decide (DT.per (MG.d m)=(0:Int)) && (decide (DT.dev (MG.d m)=[]) && decide (DT.num (MG.d m)=(0:Int))))))) z4 z2) z2);letI z1:=(wad (decide z5) (wad (!(decide (VT.o (MG.v m)=[]) && (decide (VT.p (MG.v m)=[]) && (decide (VT.per (MG.v m)=(0:Int)) && (decide (VT.day (MG.v m)=(0:Int)) && (decide (VT.st (MG.v m)=(0:Int)) && (decide (VT.pr (MG.v m)=(0:Int)) && decide (VT.rep (MG.v m)=[])))))))) (R (.int .i64 113) []) z0) z0);letI z3:=(wad (decide z6) (List.length (VT.o (MG.v m))<4294967281∧wad (!visF (VT.mk (VT.o (MG.v m)) (VT.p (MG.v m)) (VT.per (MG.v m)) (VT.day (MG.v m)) (VT.st (MG.v m)) (VT.pr (MG.v m)) (VT.rep (MG.v m)))) (R (.int .i64 113) []) z1) z1);List.length (MG.dev m)<4294967281∧wad (!wa8 (MG.dev m)) (R (.int .i64 110) []) (True∧wad (!numF (MG.seq m)) (R (.int .i64 111) []) (wad (!decide z6) (wad (!decide z5) (R (.int .i64 112) []) z3) z3))):=by kernel_rfl
theorem val0_ok (hP:C.P=Tryz.prog) (hL:∀ w,C.laid w→LaidW w):waf C 159 wlj:=by
 rintro args objs U Os vc h hvc
 unfold wlj at h
 split at h<;>simp only [Option.some.injEq,Prod.mk.injEq,reduceCtorEq] at h
 rename_i id code brand d c a
 obtain ⟨rfl,rfl,rfl⟩:=h
 exact wal.nilArg 2 (wfc (fun _=>[]) (fun _=>[])) (valV_ok hP hL _ _ _ _ _ rfl ⟨Nat.zero_le _,hvc.1,hvc.2,fun i hi=>absurd hi (Nat.not_lt_zero i),rfl⟩)
theorem w2y (s:List UInt8):decide (valF [48,48,48,48,48,48,48,48] [48,49] s 4 1 1 0 (fun _=>[]) (fun _=>[])=0)=wa8 s:=by
 unfold valF
 rw [show wbg [48,48,48,48,48,48,48,48]=true by decide+kernel,show wdv [48,49]=true by decide+kernel,show qtyF 4 1 1=0 by rfl]
 cases wa8 s<;>rfl
theorem wvp (hP:C.P=Tryz.prog) (hL:∀ w,C.laid w→LaidW w):waf C 120 whf:=by
 rintro args objs U Os vc h hvc
 unfold whf at h
 split at h<;>simp only [Option.some.injEq,Prod.mk.injEq,reduceCtorEq] at h
 rename_i s
 obtain ⟨rfl,rfl,rfl⟩:=h
 refine waf.wp0 (prg hP) [(159,.det wlj)] 0 (.cons (val0_ok hP hL) .nil) (hP ▸ Tryz.func120) rfl rfl rfl ?_
 rw [wz8,w2y]
 exact ⟨⟨by omega,hvc⟩,rfl,rfl⟩
theorem cnum_ok (hP:C.P=Tryz.prog):waf C 121 wl1:=by
 have _:C.Loose:=inferInstance
 rintro args objs U Os vc h hvc
 unfold wl1 at h
 split at h<;>simp only [Option.some.injEq,Prod.mk.injEq,reduceCtorEq] at h
 rename_i n
 obtain ⟨rfl,rfl,rfl⟩:=h
 refine waf.wp0 (prg hP) [] 0 .nil (hP ▸ Tryz.func121) rfl rfl rfl ?_
 rw [nf_cnum]
 unfold numF
 exact waz (fun h=>by rw [h];exact ⟨rfl,rfl⟩) (fun h=>by rw [h];exact ⟨rfl,rfl⟩)
theorem calv_ok (hP:C.P=Tryz.prog):waf C 124 wm8:=by
 have _:C.Loose:=inferInstance
 rintro args objs U Os vc h hvc
 unfold wm8 at h
 split at h<;>simp only [Option.some.injEq,Prod.mk.injEq,reduceCtorEq] at h
 rename_i n
 obtain ⟨rfl,rfl,rfl⟩:=h
 refine waf.wp0 (prg hP) [] 0 .nil (hP ▸ Tryz.func124) rfl rfl rfl ?_
 rw [nf_calv]
 exact waz (fun h=>by rw [h];exact ⟨rfl,rfl⟩) (fun h=>by rw [h];exact ⟨rfl,rfl⟩)
theorem wrl (hP:C.P=Tryz.prog):waf C 73 wg6:=by
 rintro args objs U Os vc h hvc
 unfold wg6 at h
 split at h<;>simp only [Option.some.injEq,Prod.mk.injEq,reduceCtorEq] at h
 rename_i n
 obtain ⟨rfl,rfl,rfl⟩:=h
 refine waf.wp0 (prg hP) [(124,.det wm8)] 0 (.cons (calv_ok hP) .nil) (hP ▸ Tryz.func73) rfl rfl rfl ?_
 rw [wx7]
 refine ⟨trivial,wc1 (fun h=>by rw [h];exact ⟨rfl,rfl⟩) (fun h=>⟨by decide,?_⟩)⟩
 rw [h]
 have h0:0≤n:=of_decide_eq_true (Bool.and_eq_true_iff.1 h).1
 exact ⟨by rw [Int.tmod_eq_emod_of_nonneg h0];rfl,rfl⟩
theorem wr8 (hP:C.P=Tryz.prog) (hL:∀ w,C.laid w→LaidW w):waf C 123 wec:=by
 rintro args objs U Os vc h hvc
 unfold wec at h
 split at h<;>simp only [Option.some.injEq,Prod.mk.injEq,reduceCtorEq] at h
 rename_i o p per
 obtain ⟨rfl,rfl,rfl⟩:=h
 refine waf.wp0 (prg hP) [(120,.det whf),(160,.det wea)] 0 (.cons (wvp hP hL) (.cons (wja hP (whr hP)) .nil)) (hP ▸ Tryz.func123) rfl rfl rfl ?_
 rw [nf_slot]
 unfold wbz
 exact ⟨hvc,waz (fun h1=>⟨trivial,waz (fun h2=>waz (fun h3=>by rw [h1,h2,h3];exact ⟨rfl,rfl⟩) (fun h3=>by rw [h1,h2,h3];exact ⟨rfl,rfl⟩)) (fun h2=>by rw [h1,h2];exact ⟨rfl,rfl⟩)⟩) (fun h1=>by rw [h1];exact ⟨rfl,rfl⟩)⟩
theorem wk_neg (day:Int):decide ((bif decide (0≤day) && decide (day≤182620) then day % 7 else -1)<0)= !(decide (0≤day) && decide (day≤182620)):=by
 cases h:decide (0≤day) && decide (day≤182620) with
 |true=>
  show decide (day % 7<0)=false
  rw [decide_eq_false]
  have:=Int.emod_nonneg day (show (7:Int)≠0 by decide)
  omega
 |false=>rfl
theorem wwo (hP:C.P=Tryz.prog) (hL:∀ w,C.laid w→LaidW w):waf C 122 wld:=by
 rintro args objs U Os vc h hvc
 unfold wld at h
 split at h<;>simp only [Option.some.injEq,Prod.mk.injEq,reduceCtorEq] at h
 rename_i o p per day st pr rep
 obtain ⟨rfl,rfl,rfl⟩:=h
 refine waf.wp0 (prg hP) [(123,.det wec),(160,.det wea),(73,.det wg6)] 0 (.cons (wr8 hP hL) (.cons (wja hP (whr hP)) (.cons (wrl hP) .nil))) (hP ▸ Tryz.func122) rfl rfl rfl ?_
 rw [wx9,wk_neg]
 refine ⟨hvc,wc1 (fun h1=>?_) (fun h1=>⟨trivial,wc1 (fun h2=>?_) (fun h2=>?_)⟩)⟩
 ·unfold visF;simp [h1]
 ·unfold visF;simp [h1,h2]
 have hv:visF ⟨o,p,per,day,st,pr,rep⟩=(bif decide (st=1) || decide (st=2) then decide (1≤pr) && decide (pr≤1099511627776) && decide (rep=[])
  else bif decide (st=3) || decide (st=4) then decide (pr=0) && decide (rep=[])
  else bif decide (st=5) then decide (1≤pr) && decide (pr≤1099511627776) && wbg rep && !decide (rep=p) else false):=by
  unfold visF;simp only [h1,Bool.true_and,h2]
 rw [hv]
 have e1:decide (1≤pr)= !decide (pr<1):=by by_cases h:pr<1<;>simp [h]<;>omega
 have e2:decide (pr≤1099511627776)= !decide (1099511627776<pr):=by by_cases h:1099511627776<pr<;>simp [h]<;>omega
 rw [e1,e2]
 clear hv h1 h2 e1 e2
 by_cases s1:st=1
 ·subst s1
  generalize decide (pr<1)=b1,decide (1099511627776<pr)=b2,decide (pr=0)=b3,decide (rep=p)=b4,decide (rep=[])=b5,wbg rep=b6
  cases b1<;>cases b2<;>exact ⟨rfl,rfl⟩
 by_cases s2:st=2
 ·subst s2
  generalize decide (pr<1)=b1,decide (1099511627776<pr)=b2,decide (pr=0)=b3,decide (rep=p)=b4,decide (rep=[])=b5,wbg rep=b6
  cases b1<;>cases b2<;>exact ⟨rfl,rfl⟩
 by_cases s3:st=3
 ·subst s3
  generalize decide (pr<1)=b1,decide (1099511627776<pr)=b2,decide (pr=0)=b3,decide (rep=p)=b4,decide (rep=[])=b5,wbg rep=b6
  cases b3<;>exact ⟨rfl,rfl⟩
 by_cases s4:st=4
 ·subst s4
  generalize decide (pr<1)=b1,decide (1099511627776<pr)=b2,decide (pr=0)=b3,decide (rep=p)=b4,decide (rep=[])=b5,wbg rep=b6
  cases b3<;>exact ⟨rfl,rfl⟩
 by_cases s5:st=5
 ·subst s5
  generalize decide (pr<1)=b1,decide (1099511627776<pr)=b2,decide (pr=0)=b3,decide (rep=p)=b4,decide (rep=[])=b5,wbg rep=b6
  cases b1<;>cases b2<;>cases b6<;>first | exact ⟨rfl,rfl⟩ | exact ⟨trivial,rfl,rfl⟩
 rw [decide_eq_false s1,decide_eq_false s2,decide_eq_false s3,decide_eq_false s4,decide_eq_false s5]
 exact ⟨rfl,rfl⟩
theorem wpm (hP:C.P=Tryz.prog) (hL:∀ w,C.laid w→LaidW w):waf C 72 wff:=by
 rintro args objs U Os vc h hvc
 unfold wff at h
 split at h<;>simp only [Option.some.injEq,Prod.mk.injEq,reduceCtorEq] at h
 rename_i dev seq kind o p per day st pr rep o2 p2 per2 dev2 num
 obtain ⟨rfl,rfl,rfl⟩:=h
 refine waf.wp0 (prg hP) [(120,.det whf),(123,.det wec),(122,.det wld),(121,.det wl1)] 0 (.cons (wvp hP hL) (.cons (wr8 hP hL) (.cons (wwo hP hL) (.cons (cnum_ok hP) .nil)))) (hP ▸ Tryz.func72) rfl rfl rfl ?_
 have nf:=fun R=>nf_msg ⟨dev,seq,kind,⟨o,p,per,day,st,pr,rep⟩,⟨o2,p2,per2,dev2,num⟩⟩ R
 refine (nf _).mpr ?_
 clear nf
 obtain ⟨l1,l2,l3,l4⟩:=hvc
 unfold msgF VT.nil DT.nil
 dsimp only
 generalize (decide (o=[]) && (decide (p=[]) && (decide (per=0) && (decide (day=0) && (decide (st=0) && (decide (pr=0) && decide (rep=[])))))))=vn
 generalize (decide (o2=[]) && (decide (p2=[]) && (decide (per2=0) && (decide (dev2=[]) && decide (num=0)))))=dn
 generalize wa8 dev=b1,numF seq=b2,visF ⟨o,p,per,day,st,pr,rep⟩=b3,wbz o2 p2 per2=b4,wa8 dev2=b5,numF num=b6
 refine ⟨l1,?_⟩
 cases b1
 ·exact ⟨rfl,rfl⟩
 refine ⟨trivial,?_⟩
 cases b2
 ·exact ⟨rfl,rfl⟩
 by_cases k1:kind=1
 ·subst k1
  refine ⟨l2,?_⟩
  cases b3<;>cases dn<;>exact ⟨rfl,rfl⟩
 by_cases k2:kind=2
 ·subst k2
  cases vn
  ·exact ⟨rfl,rfl⟩
  refine ⟨l3,?_⟩
  cases b4
  ·exact ⟨rfl,rfl⟩
  refine ⟨l4,?_⟩
  cases b5
  ·exact ⟨rfl,rfl⟩
  refine ⟨trivial,?_⟩
  cases b6<;>exact ⟨rfl,rfl⟩
 rw [decide_eq_false k1,decide_eq_false k2]
 exact ⟨rfl,rfl⟩
end Go.Eng
namespace Go.Eng
theorem atM_get {L:List MG} {i:Nat} (h:i<L.length):atM L i=L[i]:=by simp [atM,h]
theorem wv7 {L:List MG} {i:Nat} (h:i<L.length):atM L i∈L:=by rw [atM_get h];exact List.getElem_mem h
def t30 (nm:Nat→List UInt8) (i:Nat):List UInt8:=(nm i).take 30
def wd3 (n k:Int):Int:=n % 18446744073709551616 % k
def wmv:Spec
 |[.int .i64 n,.int .i64 k],[]=>some (.int .i64 (wd3 n k),[],1≤k∧k≤1000000)
 |_,_=>none
def wab (n:Nat) (v:Nat→Int) (a k:Int):Int:=wd3 (bif decide (a<n) then v a.toNat else 0) k
def wba:Spec
 |[.ptr 0 0,.int .i64 k],[.cells [.view sz n f,.int .i64 a] t]=>some (.int .i64 (wab n (vInt f) a k),[(0,.cells [.view 1 n f,.int .i64 (a+1)] 27)],t=27∧sz=1∧f=waa (vInt f)∧(1≤k∧k≤1000000)∧(0≤a∧a≤4611686018427387904))
 |_,_=>none
def pw (V j:Nat):Nat:=V / 10 ^ j
def dgI (V k:Nat):Int:=48+((V / 10 ^ (6 - k) % 10:Nat):Int)
def wa9 (V:Nat) (k:Nat):List AV:=[.int .u8 (dgI V k)]
def idV (n:Int):Nat:=1000000+(wd3 n 1000000).toNat
def id7 (n:Int):List UInt8:=wao 7 (wa9 (idV n))
def idF (n:Int):List UInt8:=id7 n++[UInt8.ofNat (48+(cdF (id7 n)).1).toNat]
def S_id:Spec
 |[.int .i64 n],[]=>some (.str (idF n),[],True)
 |_,_=>none
def wmq (V:Nat) (j:Nat):St:=⟨[(3,.int .i64 (pw V j:Nat)),(4,.own 0 7),(5,.int .i64 (6 - (j:Int)))],[(0,.row 5 1 7 (fun k=>[.int .u8 (bif decide (7≤k+j) then dgI V k else 0)]) false)],1,[]⟩
def L_id (V:Nat):war:=fun st Q=>canonIs te 0 [3,4,5] st (wmq V 0)∧V<2000000∧
 Q (.exit 0) ⟨[(4,.own 0 7)],[(0,.row 5 1 7 (wa9 V) false)],1,[]⟩
theorem wio {k:Int} (h:1≤k) (n:Int):0≤wd3 n k∧wd3 n k<k:=by
 unfold wd3
 exact ⟨Int.emod_nonneg _ (by omega),Int.emod_lt_of_pos _ (by omega)⟩
theorem wav {k:Int} (h:1≤k) (n:Nat) (v:Nat→Int) (a:Int):0≤wab n v a k∧wab n v a k<k:=wio h _
theorem wvv (s:List UInt8):0≤(cdF s).1∧(cdF s).1≤9:=by
 unfold cdF
 split
 ·show 0≤(10 - wbb s s.length % 10) % 10∧(10 - wbb s s.length % 10) % 10≤9
  omega
 ·exact ⟨by decide,by decide⟩
theorem wih (n:Int):(id7 n).length=7:=by simp [id7,wao]
theorem wud (n:Int):(idF n).length=8:=by rw [idF,List.length_append,wih];rfl
theorem w2q (V k:Nat):48≤dgI V k∧dgI V k≤57:=by
 unfold dgI
 have:=Nat.mod_lt (V / 10 ^ (6 - k)) (show 0<10 by omega)
 omega
theorem u8_to {n:Int} (h0:0≤n) (h1:n<256):((UInt8.ofNat n.toNat).toNat:Int)=n:=by
 rw [UInt8.toNat_ofNat']
 have:n.toNat % 2 ^ 8=n.toNat:=Nat.mod_eq_of_lt (by omega)
 omega
theorem id7_dig (n:Int):(id7 n).all wb1=true:=by
 unfold id7 wao
 rw [List.all_map,List.all_eq_true]
 intro k _
 have h:=w2q (idV n) k
 have e:=u8_to (n:=dgI (idV n) k) (by omega) (by omega)
 show wb1 (UInt8.ofNat (dgI (idV n) k).toNat)=true
 unfold wb1
 rw [Bool.and_eq_true,decide_eq_true_eq,decide_eq_true_eq]
 omega
theorem wd1 (n:Int):wbg (idF n)=true:=by
 have hc:=wvv (id7 n)
 have e:=u8_to (n:=48+(cdF (id7 n)).1) (by omega) (by omega)
 have hd:wb4 (idF n) 8 13=true:=by
  unfold wb4
  rw [wud,Bool.and_eq_true]
  refine ⟨rfl,?_⟩
  unfold idF
  rw [List.all_append,id7_dig,List.all_cons]
  unfold wb1
  rw [Bool.true_and,List.all_nil,Bool.and_true,Bool.and_eq_true,decide_eq_true_eq,decide_eq_true_eq]
  omega
 have ht:(idF n).take 7=id7 n:=by unfold idF;rw [← wih n];exact List.take_left
 have hg:(idF n).getD 7 0=UInt8.ofNat (48+(cdF (id7 n)).1).toNat:=by
  unfold idF
  rw [List.getD_eq_getElem?_getD,List.getElem?_append_right (by rw [wih];exact Nat.le_refl _),wih]
  rfl
 unfold wbg
 rw [hd,wud]
 show decide ((cdF ((idF n).take 7)).1=(((idF n).getD 7 0).toNat:Int) - 48)=true
 rw [ht,hg,e,decide_eq_true_eq]
 omega
def wdd (g:Nat→RW):Nat→Bool
 |0=>true
 |k+1=>wdd g k && rowF (g k)
def svF (g:Nat→RW) (n:Nat):Int:=bif decide (24000<n) then 130 else bif wdd g n then 0 else 131
def wlt:Spec
 |[.str s],[]=>some (.bool (wa8 s),[],s.length<4294967281)
 |_,_=>none
def wg7:Spec
 |[.agg [.str o,.str p,.int .i64 per,.int .i64 u,.int .i64 tv]],[]=>some (.bool (rowF ⟨o,p,per,u,tv⟩),[],o.length<4294967281)
 |_,_=>none
def wlq:Spec
 |[.view 5 n f],[]=>some (.int .i64 (svF (rwOf f) n),[],n≤1000000∧f=wai (rwOf f)∧∀ i,i<n→(rwOf f i).o.length<4294967281)
 |_,_=>none
def S_sv (g:Nat→RW) (n k:Nat):St:=⟨[(8,.view 5 n (wai g)),(9,.int .i64 n),(10,.int .i64 k)],[],0,[]⟩
def L_sv (g:Nat→RW) (n:Nat):war:=fun st Q=>canonIs te 0 [8,9,10] st (S_sv g n 0)∧n≤24000∧(∀ i,i<n→(g i).o.length<4294967281)∧
 wad (wdd g n) (Q (.exit 0) ⟨[],[],0,[]⟩) (Q .ret ⟨[(2,.int .i64 131)],[],0,[]⟩)
def atR (L:List RW) (i:Nat):RW:=L.getD i default
structure IT where
 c:Nat
 h:Nat→RW
 c0:Nat
 left:List Nat
def outF (i:Int):List UInt8:=List.getD [[111,49],[111,50],[112]] i.toNat []
def wc3:Spec
 |[.ptr 0 0],[.cells [.view sz n f,.int .i64 a] t]=>some (.str (outF (wab n (vInt f) a 3)),[(0,.cells [.view 1 n f,.int .i64 (a+1)] 27)],t=27∧sz=1∧f=waa (vInt f)∧(0≤a∧a≤4611686018427387000))
 |_,_=>none
def wc2:Spec
 |[.ptr 0 0],[.cells [.view sz n f,.int .i64 a] t]=>some (.str (idF (wab n (vInt f) a 4)),[(0,.cells [.view 1 n f,.int .i64 (a+1)] 27)],t=27∧sz=1∧f=waa (vInt f)∧(0≤a∧a≤4611686018427387000))
 |_,_=>none
def rowV (n:Nat) (v:Nat→Int) (a:Int):RW:=⟨outF (wab n v (a+1) 3),idF (wab n v (a+1+1) 4),1440+wab n v (a+1+1+1) 4,1+wab n v a 20,(1+wab n v a 20) * (90+wab n v (a+1+1+1+1) 30)+wab n v (a+1+1+1+1+1) 3⟩
def wfe:Spec
 |[.ptr 0 0],[.cells [.view sz n f,.int .i64 a] t]=>some (.agg [.str (rowV n (vInt f) a).o,.str (rowV n (vInt f) a).p,.int .i64 (rowV n (vInt f) a).per,.int .i64 (rowV n (vInt f) a).u,.int .i64 (rowV n (vInt f) a).tv],[(0,.cells [.view 1 n f,.int .i64 (a+1+1+1+1+1+1)] 27)],
   t=27∧sz=1∧f=waa (vInt f)∧(0≤a∧a≤4611686018427380000))
 |_,_=>none
end Go.Eng
namespace Go.Eng
open Go.Lib
structure BK where
 up:Int
 pr:Int
structure RT where
 o:List UInt8
 p:List UInt8
 per:Int
 st:Int
 bs:List BK
structure FL where
 id:List UInt8
 ver:Int
 day:Int
 kind:Int
 ms:List MG
 rs:List RW
 ts:List RT
def numE (n:Int):List UInt8:=itoa n++[44]
def txtE (s:List UInt8):List UInt8:=itoa s.length++58::(s++[44])
def mgE (m:MG):List UInt8:=txtE m.dev++(numE m.seq++(numE m.kind++(txtE m.v.o++(txtE m.v.p++(numE m.v.per++(numE m.v.day++(numE m.v.st++(numE m.v.pr++(txtE m.v.rep++(txtE m.d.o++(txtE m.d.p++(numE m.d.per++(txtE m.d.dev++numE m.d.num)))))))))))))
def rwE (r:RW):List UInt8:=txtE r.o++(txtE r.p++(numE r.per++(numE r.u++numE r.tv)))
def bkE (b:BK):List UInt8:=numE b.up++numE b.pr
def rtE (t:RT):List UInt8:=txtE t.o++(txtE t.p++(numE t.per++(numE t.st++(numE t.bs.length++t.bs.flatMap bkE))))
def encF (f:FL):List UInt8:=txtE f.id++(numE f.ver++(numE f.kind++(numE f.ms.length++(f.ms.flatMap mgE++(numE f.rs.length++(f.rs.flatMap rwE++(numE f.ts.length++f.ts.flatMap rtE)))))))
theorem wqw:∀ (u:Nat) {b:UInt8},b∈decDigits u→48≤b.toNat∧b.toNat≤57:=by
 intro u
 induction u using Nat.strongRecOn with
 |_ u ih=>
  intro b h
  rw [decDigits] at h
  by_cases q:u<10
  ·rw [dif_pos q] at h
   have:=List.mem_singleton.1 h
   subst this
   rw [UInt8.toNat_ofNat']
   omega
  ·rw [dif_neg q] at h
   rcases List.mem_append.1 h with h | h
   ·exact ih (u / 10) (by omega) h
   ·have:=List.mem_singleton.1 h
    subst this
    rw [UInt8.toNat_ofNat']
    omega
theorem w1j {n:Int} {b:UInt8} (h:b∈itoa n):b.toNat=45∨(48≤b.toNat∧b.toNat≤57):=by
 unfold itoa at h
 by_cases q:n<0
 ·rw [if_pos q] at h
  rcases List.mem_cons.1 h with rfl | h
  ·exact .inl rfl
  ·exact .inr (wqw _ h)
 ·rw [if_neg q] at h
  exact .inr (wqw _ h)
theorem wka {n:Int}:(44:UInt8) ∉ itoa n∧(58:UInt8) ∉ itoa n:=by
 constructor<;>intro h<;>have:=w1j h<;>revert this<;>decide
def decVal (l:List UInt8):Nat:=l.foldl (fun a b=>a * 10+(b.toNat - 48)) 0
theorem wvm (u:Nat):decVal (decDigits u)=u:=by
 induction u using Nat.strongRecOn with
 |_ u ih=>
  rw [decDigits]
  by_cases q:u<10
  ·rw [dif_pos q]
   show 0 * 10+((UInt8.ofNat (48+u)).toNat - 48)=u
   rw [UInt8.toNat_ofNat']
   omega
  ·rw [dif_neg q]
   have h:=ih (u / 10) (by omega)
   unfold decVal at h ⊢
   rw [List.foldl_append,h]
   show u / 10 * 10+((UInt8.ofNat (48+u % 10)).toNat - 48)=u
   rw [UInt8.toNat_ofNat']
   omega
theorem wvk {a b:Nat} (h:decDigits a=decDigits b):a=b:=by rw [← wvm a,h,wvm]
theorem wt8 {a b:Int} (h:itoa a=itoa b):a=b:=by
 have no:∀ {u v:Nat},45::decDigits u=decDigits v→False:=fun {u v} e=>by
  have:=wqw v (show (45:UInt8)∈decDigits v by rw [← e];exact List.mem_cons_self)
  revert this;decide
 unfold itoa at h
 by_cases q:a<0
 ·by_cases r:b<0
  ·rw [if_pos q,if_pos r] at h
   have:=wvk (List.cons.inj h).2
   omega
  ·rw [if_pos q,if_neg r] at h
   exact (no h).elim
 ·by_cases r:b<0
  ·rw [if_neg q,if_pos r] at h
   exact (no h.symm).elim
  ·rw [if_neg q,if_neg r] at h
   have:=wvk h
   omega
theorem cutAt {x:UInt8}:∀ {p q r s:List UInt8},x ∉ p→x ∉ q→p++x::r=q++x::s→p=q∧r=s
 |[],[],_,_,_,_,h=>⟨rfl,(List.cons.inj h).2⟩
 |[],y::q,_,_,_,hq,h=>by
  have:=(List.cons.inj h).1
  subst this
  exact absurd List.mem_cons_self hq
 |y::p,[],_,_,hp,_,h=>by
  have:=(List.cons.inj h).1
  subst this
  exact absurd List.mem_cons_self hp
 |y::p,z::q,r,s,hp,hq,h=>by
  obtain ⟨e,h⟩:=List.cons.inj h
  obtain ⟨e1,e2⟩:=cutAt (fun k=>hp (List.mem_cons_of_mem _ k)) (fun k=>hq (List.mem_cons_of_mem _ k)) h
  exact ⟨by rw [e,e1],e2⟩
theorem wb0 {a b:Int} {r s:List UInt8} (h:numE a++r=numE b++s):a=b∧r=s:=by
 unfold numE at h
 rw [List.append_assoc,List.append_assoc] at h
 obtain ⟨e1,e2⟩:=cutAt wka.1 wka.1 h
 exact ⟨wt8 e1,e2⟩
theorem wc7 {a b:List UInt8} {r s:List UInt8} (h:txtE a++r=txtE b++s):a=b∧r=s:=by
 unfold txtE at h
 rw [List.append_assoc,List.append_assoc,List.cons_append,List.cons_append] at h
 obtain ⟨e1,e2⟩:=cutAt wka.2 wka.2 h
 have hl:a.length=b.length:=by have:=wt8 e1;omega
 rw [List.append_assoc,List.append_assoc] at e2
 obtain ⟨e3,e4⟩:=List.append_inj e2 hl
 exact ⟨e3,(List.cons.inj e4).2⟩
def ordF (a b:FL):Int:=orL [cmpS a.id b.id,cmpI a.ver b.ver,cmpI a.day b.day,cmpS (encF a) (encF b)]
theorem wgm:PreC ordF:=(wgw.comap FL.id).or ((wix.comap FL.ver).or ((wix.comap FL.day).or ((wgw.comap encF).or .nil)))
theorem ws0 {a b:FL} (h:ordF a b=0):encF a=encF b∧a.day=b.day:=by
 simp only [ordF,wxz,w2z,w22,show orL []=0 from rfl,and_true] at h
 exact ⟨h.2.2.2,h.2.2.1⟩
end Go.Eng
namespace Go.Eng
def wdq:FL:=⟨[],0,0,0,[],[],[]⟩
def atF (L:List FL) (i:Nat):FL:=L.getD i wdq
theorem wg5 {L:List FL} {i:Nat} (h:i<L.length):atF L i=L[i]:=by simp [atF,h]
theorem wd9 {L:List FL} {i:Nat} (h:i<L.length):atF L i∈L:=by rw [wg5 h];exact List.getElem_mem h
theorem ascF_at {L:List FL} (h:Asc ordF L) {i j:Nat} (hij:i<j) (hj:j<L.length):ordF (atF L i) (atF L j)<0:=by
 rw [wg5 (show i<L.length by omega),wg5 hj]
 exact List.pairwise_iff_getElem.1 h i j (by omega) hj hij
def wcv (ok:FL→Bool) (g:Nat→FL) (t:List UInt8):Nat→Option Nat
 |0=>none
 |n+1=>bif ok (g n) && decide (encF (g n)=t) then (match wcv ok g t n with
   |none=>some n
   |some j=>bif decide ((g n).day<(g j).day) then some n else some j) else wcv ok g t n
structure Best (ok:FL→Bool) (g:Nat→FL) (t:List UInt8) (n j:Nat):Prop where
 lt:j<n
 good:ok (g j)=true
 enc:encF (g j)=t
 least:∀ k,k<n→ok (g k)=true→encF (g k)=t→(g j).day<(g k).day∨((g j).day=(g k).day∧j≤k)
theorem wi1 (ok:FL→Bool) (g:Nat→FL) (t:List UInt8):∀ n,(∀ j,wcv ok g t n=some j→Best ok g t n j)∧(wcv ok g t n=none→∀ k,k<n→ok (g k)=true→encF (g k)≠t)
 |0=>⟨(fun j h=>by cases h),fun _ k hk=>absurd hk (Nat.not_lt_zero k)⟩
 |n+1=>by
  obtain ⟨ih1,ih2⟩:=wi1 ok g t n
  rw [wcv]
  cases q:ok (g n) && decide (encF (g n)=t) with
  |false=>
   have no:ok (g n)=true→encF (g n)=t→False:=fun a b=>by rw [a,decide_eq_true b] at q;cases q
   simp only [cond_false]
   refine ⟨fun j h=>?_,fun h k hk hok e=>?_⟩
   ·have b:=ih1 j h
    exact ⟨by have:=b.lt;omega,b.good,b.enc,fun k hk hok e=>by
     by_cases z:k=n
     ·subst z;exact (no hok e).elim
     ·exact b.least k (by omega) hok e⟩
   ·by_cases z:k=n
    ·subst z;exact no hok e
    ·exact ih2 h k (by omega) hok e
  |true=>
   rw [Bool.and_eq_true,decide_eq_true_eq] at q
   simp only [cond_true]
   cases b:wcv ok g t n with
   |none=>
    refine ⟨fun j h=>?_,fun h=>by cases h⟩
    obtain rfl:=Option.some.inj h
    exact ⟨by omega,q.1,q.2,fun k hk hok e=>by
     by_cases z:k=n
     ·subst z;exact .inr ⟨rfl,Nat.le_refl _⟩
     ·exact absurd e (ih2 b k (by omega) hok)⟩
   |some i=>
    have bi:=ih1 i b
    have:=bi.lt
    by_cases d:(g n).day<(g i).day
    ·dsimp only
     rw [decide_eq_true d]
     refine ⟨fun j h=>?_,fun h=>by cases h⟩
     obtain rfl:=Option.some.inj h
     exact ⟨by omega,q.1,q.2,fun k hk hok e=>by
      by_cases z:k=n
      ·subst z;exact .inr ⟨rfl,Nat.le_refl _⟩
      ·have:=bi.least k (by omega) hok e
       omega⟩
    ·dsimp only
     rw [decide_eq_false d]
     refine ⟨fun j h=>?_,fun h=>by cases h⟩
     obtain rfl:=Option.some.inj h
     exact ⟨by omega,bi.good,bi.enc,fun k hk hok e=>by
      by_cases z:k=n
      ·subst z;omega
      ·exact bi.least k (by omega) hok e⟩
theorem Best.uniq {ok:FL→Bool} {g:Nat→FL} {t:List UInt8} {n i j:Nat} (a:Best ok g t n i) (b:Best ok g t n j):i=j:=by
 have h1:=a.least j b.lt b.good b.enc
 have h2:=b.least i a.lt a.good a.enc
 omega
def kpS (ok:FL→Bool) (g:Nat→FL) (i:Nat):Nat→Bool
 |0=>true
 |k+1=>kpS ok g i k && !(!decide (k=i) && (ok (g k) && (decide (encF (g k)=encF (g i)) && (decide ((g k).day<(g i).day) || (decide ((g k).day=(g i).day) && decide (k<i))))))
theorem wt5 {ok:FL→Bool} {g:Nat→FL} {i:Nat}:∀ {n},kpS ok g i n=true↔∀ k,k<n→k≠i→ok (g k)=true→encF (g k)=encF (g i)→¬ ((g k).day<(g i).day∨((g k).day=(g i).day∧k<i))
 |0=>by simp [kpS]
 |n+1=>by
  rw [kpS,Bool.and_eq_true,wt5 (n:=n)]
  constructor
  ·rintro ⟨h1,h2⟩ k hk hne hok e
   by_cases z:k=n
   ·subst z
    intro q
    rw [Bool.not_eq_true',decide_eq_false hne,hok,decide_eq_true e] at h2
    rcases q with q | ⟨q,r⟩
    ·rw [decide_eq_true q] at h2;simp at h2
    ·rw [decide_eq_true q,decide_eq_true r] at h2;simp at h2
   ·exact h1 k (by omega) hne hok e
  ·intro h
   refine ⟨fun k hk=>h k (by omega),?_⟩
   by_cases z:n=i
   ·simp [z]
   ·by_cases z2:ok (g n)=true
    ·by_cases z3:encF (g n)=encF (g i)
     ·have:=h n (by omega) z z2 z3
      rw [not_or,not_and] at this
      rw [decide_eq_false this.1]
      by_cases z4:(g n).day=(g i).day
      ·rw [decide_eq_false (this.2 z4)];simp
      ·rw [decide_eq_false z4];simp
     ·rw [decide_eq_false z3];simp
    ·rw [Bool.not_eq_true] at z2
     rw [z2];simp
theorem wt6 {ok:FL→Bool} {g:Nat→FL} {n i:Nat} (hi:i<n) (hok:ok (g i)=true):kpS ok g i n=true↔Best ok g (encF (g i)) n i:=by
 rw [wt5]
 constructor
 ·intro h
  refine ⟨hi,hok,rfl,fun k hk hk2 e=>?_⟩
  by_cases z:k=i
  ·subst z;exact .inr ⟨rfl,Nat.le_refl _⟩
  ·have:=h k hk z hk2 e;omega
 ·intro b k hk hne hk2 e
  have:=b.least k hk hk2 e
  omega
def kept (ok:FL→Bool) (g:Nat→FL) (n i:Nat):Bool:=ok (g i) && kpS ok g i n
theorem wj9 {ok:FL→Bool} {g:Nat→FL} {n i:Nat} (hi:i<n):kept ok g n i=true↔Best ok g (encF (g i)) n i:=by
 unfold kept
 rw [Bool.and_eq_true]
 constructor
 ·rintro ⟨a,b⟩;exact (wt6 hi a).1 b
 ·intro b;exact ⟨b.good,(wt6 hi b.good).2 b⟩
theorem w1f {ok:FL→Bool} {g:Nat→FL} {n i j:Nat} (hi:i<n) (hj:j<n) (a:kept ok g n i=true) (b:kept ok g n j=true) (e:encF (g i)=encF (g j)):i=j:=by
 have h1:=(wj9 hi).1 a
 have h2:=(wj9 hj).1 b
 rw [e] at h1
 exact h1.uniq h2
def dnF (L:List FL) (m:FL):Nat→Nat
 |0=>0
 |a+1=>bif decide (ordF m (atF L a)<0) then dnF L m a else a+1
theorem wqu (L:List FL) (m:FL):∀ a,dnF L m a≤a
 |0=>Nat.le_refl _
 |a+1=>by
  rw [dnF]
  cases decide (ordF m (atF L a)<0) with
  |true=>have:=wqu L m a;show dnF L m a≤a+1;omega
  |false=>exact Nat.le_refl _
theorem dnF_hi (L:List FL) (m:FL):∀ a i,dnF L m a≤i→i<a→ordF m (atF L i)<0
 |0,i,_,h=>absurd h (Nat.not_lt_zero _)
 |a+1,i,h1,h2=>by
  rw [dnF] at h1
  by_cases q:ordF m (atF L a)<0
  ·rw [decide_eq_true q] at h1
   by_cases e:i=a
   ·rw [e];exact q
   ·exact dnF_hi L m a i h1 (by omega)
  ·rw [decide_eq_false q] at h1
   have h1:a+1≤i:=h1
   omega
theorem dnF_lo (L:List FL) (m:FL):∀ a,dnF L m a=0∨¬ ordF m (atF L (dnF L m a - 1))<0
 |0=>.inl rfl
 |a+1=>by
  rw [dnF]
  by_cases q:ordF m (atF L a)<0
  ·rw [decide_eq_true q];exact dnF_lo L m a
  ·rw [decide_eq_false q];exact .inr q
def insF (L:List FL) (m:FL):List FL:=L.take (dnF L m L.length)++m::L.drop (dnF L m L.length)
theorem w1o {L:List FL} {m x:FL}:x∈insF L m↔x=m∨x∈L:=by
 unfold insF
 rw [List.mem_append,List.mem_cons]
 have:x∈L↔x∈L.take (dnF L m L.length)∨x∈L.drop (dnF L m L.length):=by
  rw [← List.mem_append,List.take_append_drop]
 rw [this]
 grind
theorem w1p {L:List FL} {m:FL} (h:Asc ordF L) (hn:∀ x∈L,encF x≠encF m):Asc ordF (insF L m):=by
 have hle:=wqu L m L.length
 unfold insF
 refine Asc.insert (by rw [List.take_append_drop];exact h) (fun y hy=>?_) (fun y hy=>?_)
 ·obtain ⟨i,hi,rfl⟩:=List.mem_iff_getElem.1 hy
  rw [List.length_take] at hi
  rw [List.getElem_take, ← wg5 (show i<L.length by omega)]
  have hlo:=(dnF_lo L m L.length).resolve_left (by omega)
  generalize dnF L m L.length=a at *
  have ne:ordF m (atF L (a - 1))≠0:=fun z=>hn _ (wd9 (by omega)) (ws0 z).1.symm
  have k:=wgm.neg m (atF L (a - 1))
  have k':=wgm.neg (atF L (a - 1)) m
  have lt:ordF (atF L (a - 1)) m<0:=by omega
  by_cases z:i=a - 1
  ·rw [z];exact lt
  ·exact wgm.lt_trans (ascF_at h (show i<a - 1 by omega) (by omega)) lt
 ·obtain ⟨i,hi,rfl⟩:=List.mem_iff_getElem.1 hy
  rw [List.length_drop] at hi
  rw [List.getElem_drop, ← wg5 (by omega)]
  exact dnF_hi L m L.length _ (by omega) (by omega)
def nrmK (ok:FL→Bool) (g:Nat→FL) (n:Nat):Nat→List FL
 |0=>[]
 |k+1=>bif kept ok g n k then insF (nrmK ok g n k) (g k) else nrmK ok g n k
theorem wjw {ok:FL→Bool} {g:Nat→FL} {n:Nat} {x:FL}:∀ {k},x∈nrmK ok g n k↔∃ i,i<k∧kept ok g n i=true∧g i=x
 |0=>by simp [nrmK]
 |k+1=>by
  rw [nrmK]
  cases q:kept ok g n k with
  |true=>
   rw [cond_true,w1o,wjw (k:=k)]
   constructor
   ·rintro (rfl | ⟨i,hi,h⟩)
    ·exact ⟨k,by omega,q,rfl⟩
    ·exact ⟨i,by omega,h⟩
   ·rintro ⟨i,hi,h1,h2⟩
    by_cases z:i=k
    ·subst z;exact .inl h2.symm
    ·exact .inr ⟨i,by omega,h1,h2⟩
  |false=>
   rw [cond_false,wjw (k:=k)]
   constructor
   ·rintro ⟨i,hi,h⟩;exact ⟨i,by omega,h⟩
   ·rintro ⟨i,hi,h1,h2⟩
    by_cases z:i=k
    ·subst z;rw [q] at h1;cases h1
    ·exact ⟨i,by omega,h1,h2⟩
theorem wjx {ok:FL→Bool} {g:Nat→FL} {n:Nat}:∀ {k},k≤n→Asc ordF (nrmK ok g n k)
 |0,_=>List.Pairwise.nil
 |k+1,hk=>by
  rw [nrmK]
  cases q:kept ok g n k with
  |false=>exact wjx (by omega)
  |true=>
   refine w1p (wjx (by omega)) fun x hx e=>?_
   obtain ⟨i,hi,h1,rfl⟩:=wjw.1 hx
   have:=w1f (show i<n by omega) (show k<n by omega) h1 q e
   omega
def nrmL (ok:FL→Bool) (g:Nat→FL) (n:Nat):List FL:=nrmK ok g n n
theorem wjv {ok:FL→Bool} {g:Nat→FL} {n:Nat} {x:FL}:x∈nrmL ok g n↔∃ i,Best ok g (encF x) n i∧g i=x:=by
 unfold nrmL
 rw [wjw]
 constructor
 ·rintro ⟨i,hi,h,rfl⟩;exact ⟨i,(wj9 hi).1 h,rfl⟩
 ·rintro ⟨i,h,rfl⟩;exact ⟨i,h.lt,(wj9 h.lt).2 h,rfl⟩
theorem wx4 {ok:FL→Bool} {g:Nat→FL} {n:Nat} {L:List FL} (h:Asc ordF L) (hm:∀ x,x∈L↔∃ i,Best ok g (encF x) n i∧g i=x):L=nrmL ok g n:=
 Asc.uniq wgm h (wjx (Nat.le_refl n)) fun x=>(hm x).trans wjv.symm
theorem nrm_ok {ok:FL→Bool} {g:Nat→FL} {n:Nat} {x:FL} (hx:x∈nrmL ok g n):ok x=true:=by
 obtain ⟨i,hi,rfl⟩:=wjv.1 hx
 exact hi.good
def waw (ok:FL→Bool) (g:Nat→FL):Nat→List (List UInt8)
 |0=>[]
 |k+1=>bif ok (g k) && !decide (encF (g k)∈waw ok g k) then waw ok g k++[encF (g k)] else waw ok g k
theorem wgo {ok:FL→Bool} {g:Nat→FL} {t:List UInt8}:∀ {k},t∈waw ok g k↔∃ i,i<k∧ok (g i)=true∧encF (g i)=t
 |0=>by simp [waw]
 |k+1=>by
  have ih:=wgo (ok:=ok) (g:=g) (t:=t) (k:=k)
  rw [waw]
  cases q:ok (g k) with
  |false=>
   rw [Bool.false_and,cond_false,ih]
   constructor
   ·rintro ⟨i,hi,h⟩;exact ⟨i,by omega,h⟩
   ·rintro ⟨i,hi,h1,h2⟩
    by_cases z:i=k
    ·subst z;rw [q] at h1;cases h1
    ·exact ⟨i,by omega,h1,h2⟩
  |true=>
   by_cases p:encF (g k)∈waw ok g k
   ·rw [decide_eq_true p]
    show t∈waw ok g k↔_
    rw [ih]
    constructor
    ·rintro ⟨i,hi,h⟩;exact ⟨i,by omega,h⟩
    ·rintro ⟨i,hi,h1,h2⟩
     by_cases z:i=k
     ·subst z;subst h2;exact ih.1 p
     ·exact ⟨i,by omega,h1,h2⟩
   ·rw [decide_eq_false p]
    show t∈waw ok g k++[encF (g k)]↔_
    rw [List.mem_append,List.mem_singleton,ih]
    constructor
    ·rintro (⟨i,hi,h⟩ | rfl)
     ·exact ⟨i,by omega,h⟩
     ·exact ⟨k,by omega,q,rfl⟩
    ·rintro ⟨i,hi,h1,h2⟩
     by_cases z:i=k
     ·subst z;exact .inr h2.symm
     ·exact .inl ⟨i,by omega,h1,h2⟩
theorem wfz {ok:FL→Bool} {g:Nat→FL}:∀ k,(waw ok g k).Nodup
 |0=>List.nodup_nil
 |k+1=>by
  rw [waw]
  cases q:ok (g k) && !decide (encF (g k)∈waw ok g k) with
  |false=>exact wfz k
  |true=>
   rw [Bool.and_eq_true,Bool.not_eq_true',decide_eq_false_iff_not] at q
   show (waw ok g k++[encF (g k)]).Nodup
   rw [List.nodup_append]
   refine ⟨wfz k,by simp,fun a ha b hb=>?_⟩
   rw [List.mem_singleton] at hb
   subst hb
   intro e
   subst e
   exact q.2 ha
def wbf (ok:FL→Bool) (g:Nat→FL) (n:Nat) (t:List UInt8):FL:=match wcv ok g t n with
 |some j=>g j
 |none=>wdq
theorem wg4 {ok:FL→Bool} {g:Nat→FL} {n:Nat} {t:List UInt8} (h:t∈waw ok g n):∃ j,Best ok g t n j∧wbf ok g n t=g j:=by
 obtain ⟨i,hi,h1,h2⟩:=wgo.1 h
 cases b:wcv ok g t n with
 |none=>exact absurd h2 ((wi1 ok g t n).2 b i hi h1)
 |some j=>exact ⟨j,(wi1 ok g t n).1 j b,by unfold wbf;rw [b]⟩
theorem wx5 {ok:FL→Bool} {g:Nat→FL} {n:Nat} {K:List (List UInt8)} (hp:K.Perm (waw ok g n)) (hs:K.Pairwise fun a b=>¬ ordF (wbf ok g n b) (wbf ok g n a)<0):K.map (wbf ok g n)=nrmL ok g n:=by
 have mem:∀ t,t∈K→t∈waw ok g n:=fun t h=>hp.mem_iff.1 h
 have enc:∀ t,t∈K→encF (wbf ok g n t)=t:=fun t h=>by
  obtain ⟨j,b,e⟩:=wg4 (mem t h)
  rw [e];exact b.enc
 apply wx4
 ·refine Asc.of_sorted (by rw [List.pairwise_map];exact hs) wgm ?_
  rw [List.pairwise_map]
  have nd:K.Nodup:=hp.nodup_iff.2 (wfz n)
  refine nd.imp_of_mem fun {a b} ha hb hne z=>hne ?_
  have:=(ws0 z).1
  rw [enc a ha,enc b hb] at this
  exact this
 ·intro x
  rw [List.mem_map]
  constructor
  ·rintro ⟨t,ht,rfl⟩
   obtain ⟨j,b,e⟩:=wg4 (mem t ht)
   rw [enc t ht]
   exact ⟨j,b,e.symm⟩
  ·rintro ⟨i,b,rfl⟩
   have hk:encF (g i)∈waw ok g n:=wgo.2 ⟨i,b.lt,b.good,rfl⟩
   obtain ⟨j,b',e⟩:=wg4 hk
   exact ⟨encF (g i),hp.mem_iff.2 hk,by rw [e,b'.uniq b]⟩
theorem mgE_cut {a b:MG} {r s:List UInt8} (h:mgE a++r=mgE b++s):a=b∧r=s:=by
 obtain ⟨a1,a2,a3,⟨b1,b2,b3,b4,b5,b6,b7⟩,c1,c2,c3,c4,c5⟩:=a
 obtain ⟨a1',a2',a3',⟨b1',b2',b3',b4',b5',b6',b7'⟩,c1',c2',c3',c4',c5'⟩:=b
 unfold mgE at h
 simp only [List.append_assoc] at h
 obtain ⟨e1,h⟩:=wc7 h
 obtain ⟨e2,h⟩:=wb0 h
 obtain ⟨e3,h⟩:=wb0 h
 obtain ⟨e4,h⟩:=wc7 h
 obtain ⟨e5,h⟩:=wc7 h
 obtain ⟨e6,h⟩:=wb0 h
 obtain ⟨e7,h⟩:=wb0 h
 obtain ⟨e8,h⟩:=wb0 h
 obtain ⟨e9,h⟩:=wb0 h
 obtain ⟨e10,h⟩:=wc7 h
 obtain ⟨e11,h⟩:=wc7 h
 obtain ⟨e12,h⟩:=wc7 h
 obtain ⟨e13,h⟩:=wb0 h
 obtain ⟨e14,h⟩:=wc7 h
 obtain ⟨e15,hr⟩:=wb0 h
 subst e1;subst e2;subst e3;subst e4;subst e5;subst e6;subst e7;subst e8;subst e9;subst e10;subst e11;subst e12;subst e13;subst e14;subst e15
 exact ⟨rfl,hr⟩
theorem rwE_cut {a b:RW} {r s:List UInt8} (h:rwE a++r=rwE b++s):a=b∧r=s:=by
 obtain ⟨a1,a2,a3,a4,a5⟩:=a
 obtain ⟨b1,b2,b3,b4,b5⟩:=b
 unfold rwE at h
 simp only [List.append_assoc] at h
 obtain ⟨e1,h⟩:=wc7 h
 obtain ⟨e2,h⟩:=wc7 h
 obtain ⟨e3,h⟩:=wb0 h
 obtain ⟨e4,h⟩:=wb0 h
 obtain ⟨e5,hr⟩:=wb0 h
 subst e1;subst e2;subst e3;subst e4;subst e5
 exact ⟨rfl,hr⟩
theorem bkE_cut {a b:BK} {r s:List UInt8} (h:bkE a++r=bkE b++s):a=b∧r=s:=by
 obtain ⟨a1,a2⟩:=a
 obtain ⟨b1,b2⟩:=b
 unfold bkE at h
 simp only [List.append_assoc] at h
 obtain ⟨e1,h⟩:=wb0 h
 obtain ⟨e2,hr⟩:=wb0 h
 subst e1;subst e2
 exact ⟨rfl,hr⟩
theorem wia {α:Type} {e:α→List UInt8} (hc:∀ {a b:α} {r s:List UInt8},e a++r=e b++s→a=b∧r=s):∀ {l k:List α} {r s:List UInt8},l.length=k.length→l.flatMap e++r=k.flatMap e++s→l=k∧r=s
 |[],[],_,_,_,h=>⟨rfl,h⟩
 |[],_::_,_,_,hl,_=>by simp at hl
 |_::_,[],_,_,hl,_=>by simp at hl
 |x::l,y::k,r,s,hl,h=>by
  rw [List.flatMap_cons,List.flatMap_cons,List.append_assoc,List.append_assoc] at h
  obtain ⟨e1,h⟩:=hc h
  obtain ⟨e2,h⟩:=wia hc (by simpa using hl) h
  exact ⟨by rw [e1,e2],h⟩
theorem rtE_cut {a b:RT} {r s:List UInt8} (h:rtE a++r=rtE b++s):a=b∧r=s:=by
 obtain ⟨a1,a2,a3,a4,a5⟩:=a
 obtain ⟨b1,b2,b3,b4,b5⟩:=b
 unfold rtE at h
 simp only [List.append_assoc] at h
 obtain ⟨e1,h⟩:=wc7 h
 obtain ⟨e2,h⟩:=wc7 h
 obtain ⟨e3,h⟩:=wb0 h
 obtain ⟨e4,h⟩:=wb0 h
 obtain ⟨e5,h⟩:=wb0 h
 obtain ⟨e6,hr⟩:=wia (fun h=>bkE_cut h) (by omega) h
 subst e1;subst e2;subst e3;subst e4;subst e6
 exact ⟨rfl,hr⟩
theorem w2j {f g:FL} (h:encF f=encF g) (hd:f.day=g.day):f=g:=by
 obtain ⟨a1,a2,a3,a4,a5,a6,a7⟩:=f
 obtain ⟨b1,b2,b3,b4,b5,b6,b7⟩:=g
 unfold encF at h
 dsimp only at h hd
 obtain ⟨e1,h⟩:=wc7 h
 obtain ⟨e2,h⟩:=wb0 h
 obtain ⟨e3,h⟩:=wb0 h
 obtain ⟨e4,h⟩:=wb0 h
 obtain ⟨e5,h⟩:=wia (fun h=>mgE_cut h) (by omega) h
 obtain ⟨e6,h⟩:=wb0 h
 obtain ⟨e7,h⟩:=wia (fun h=>rwE_cut h) (by omega) h
 obtain ⟨e8,h⟩:=wb0 h
 have h:a7.flatMap rtE++[]=b7.flatMap rtE++[]:=by rw [List.append_nil,List.append_nil];exact h
 obtain ⟨e9,_⟩:=wia (fun h=>rtE_cut h) (by omega) h
 subst e1;subst e2;subst e3;subst e5;subst e7;subst e9;subst hd
 rfl
theorem memL {α:Type} {g:Nat→α} {n:Nat} {x:α}:x∈lst g n↔∃ i,i<n∧g i=x:=by
 unfold lst
 rw [List.mem_map]
 constructor
 ·rintro ⟨i,hi,e⟩;exact ⟨i,List.mem_range.1 hi,e⟩
 ·rintro ⟨i,hi,e⟩;exact ⟨i,List.mem_range.2 hi,e⟩
theorem ws8 {ok:FL→Bool} {g:Nat→FL} {n:Nat} {x:FL}:x∈nrmL ok g n↔x∈lst g n∧ok x=true∧∀ y,y∈lst g n→ok y=true→encF y=encF x→x.day≤y.day:=by
 rw [wjv]
 constructor
 ·rintro ⟨i,b,rfl⟩
  refine ⟨memL.2 ⟨i,b.lt,rfl⟩,b.good,fun y hy hok e=>?_⟩
  obtain ⟨k,hk,rfl⟩:=memL.1 hy
  have:=b.least k hk hok e
  omega
 ·rintro ⟨hx,hok,hl⟩
  obtain ⟨i,hi,rfl⟩:=memL.1 hx
  have hk:encF (g i)∈waw ok g n:=wgo.2 ⟨i,hi,hok,rfl⟩
  obtain ⟨j,b,_⟩:=wg4 hk
  have h1:=b.least i hi hok rfl
  have h2:=hl (g j) (memL.2 ⟨j,b.lt,rfl⟩) b.good b.enc
  exact ⟨j,b,w2j b.enc (by omega)⟩
theorem wtx (L:List FL):lst (atF L) L.length=L:=by
 apply List.ext_getElem
 ·simp [lst]
 ·intro i h1 h2
  simp [lst,atF,h2]
def knwL (ok:FL→Bool) (g:Nat→FL) (n:Nat) (d:Int):List FL:=(nrmL ok g n).filter fun f=>decide (f.day≤d)
theorem w1b {ok:FL→Bool} {g h:Nat→FL} {n m:Nat} {d:Int} {k:List FL} (e:∀ x,x∈lst h m↔x∈k∨x∈lst g n) (hk:∀ x∈k,d<x.day):knwL ok h m d=knwL ok g n d:=by
 have asc:∀ (g:Nat→FL) (n:Nat),Asc ordF (knwL ok g n d):=fun g n=>(wjx (ok:=ok) (g:=g) (Nat.le_refl n)).filter _
 refine Asc.uniq wgm (asc h m) (asc g n) fun x=>?_
 unfold knwL
 rw [List.mem_filter,List.mem_filter,ws8,ws8,decide_eq_true_eq]
 constructor
 ·rintro ⟨⟨h1,h2,h3⟩,h4⟩
  rcases (e x).1 h1 with q | q
  ·have:=hk x q;omega
  ·exact ⟨⟨q,h2,fun y hy=>h3 y ((e y).2 (.inr hy))⟩,h4⟩
 ·rintro ⟨⟨h1,h2,h3⟩,h4⟩
  refine ⟨⟨(e x).2 (.inr h1),h2,fun y hy hok he=>?_⟩,h4⟩
  rcases (e y).1 hy with q | q
  ·have:=hk y q;omega
  ·exact h3 y q hok he
def edM (f:FL):MG:=⟨f.id,f.ver,0,⟨[],[],0,0,0,0,[]⟩,⟨[],[],0,[],0⟩⟩
def cfB (L:List FL) (i:Nat):Bool:=decide (1<numC (fun j=>edM (atF L j)) (mk2 (edM (atF L i))) L.length)
def selK (q:Nat→Bool) (L:List FL):Nat→List FL
 |0=>[]
 |k+1=>bif q k then selK q L k++[atF L k] else selK q L k
theorem wji {q:Nat→Bool} {L:List FL} {x:FL}:∀ {k},x∈selK q L k↔∃ i,i<k∧q i=true∧atF L i=x
 |0=>by simp [selK]
 |k+1=>by
  rw [selK]
  cases h:q k with
  |true=>
   rw [cond_true,List.mem_append,List.mem_singleton,wji (k:=k)]
   constructor
   ·rintro (⟨i,hi,h1,h2⟩ | rfl)
    ·exact ⟨i,by omega,h1,h2⟩
    ·exact ⟨k,by omega,h,rfl⟩
   ·rintro ⟨i,hi,h1,h2⟩
    by_cases z:i=k
    ·subst z;exact .inr h2.symm
    ·exact .inl ⟨i,by omega,h1,h2⟩
  |false=>
   rw [cond_false,wji (k:=k)]
   constructor
   ·rintro ⟨i,hi,h1,h2⟩;exact ⟨i,by omega,h1,h2⟩
   ·rintro ⟨i,hi,h1,h2⟩
    by_cases z:i=k
    ·subst z;rw [h] at h1;cases h1
    ·exact ⟨i,by omega,h1,h2⟩
theorem why (q:Nat→Bool) (L:List FL):∀ k,(selK q L k).length≤k
 |0=>Nat.le_refl _
 |k+1=>by
  have ih:=why q L k
  rw [selK]
  cases q k with
  |true=>rw [cond_true,List.length_append];show _+1≤_;omega
  |false=>rw [cond_false];omega
def badL (L:List FL):List FL:=selK (cfB L) L L.length
def wbm (L:List FL):List FL:=selK (fun i=> !cfB L i) L L.length
theorem wqj {L:List FL} {x:FL} (h:x∈wbm L):x∈L:=by
 obtain ⟨i,hi,_,rfl⟩:=wji.1 h
 exact wd9 hi
def nwF (G:List FL) (id:List UInt8):Nat→Int
 |0=>0
 |k+1=>bif !decide ((atF G k).kind=1) && decide ((atF G k).id=id) then max (nwF G id k) (atF G k).ver else nwF G id k
def vwB (G:List FL) (f:FL):Bool:= !(!decide (f.kind=1) && decide (f.ver<nwF G f.id G.length))
def wfn (G:List FL):List FL:=G.filter (vwB G)
def vwL (ok:FL→Bool) (g:Nat→FL) (n:Nat) (d:Int):List FL:=wfn (wbm (knwL ok g n d))
def cfL (ok:FL→Bool) (g:Nat→FL) (n:Nat) (d:Int):List FL:=badL (knwL ok g n d)
def atB (L:List BK) (i:Nat):BK:=L.getD i ⟨0,0⟩
def lowB (bs:List BK):Nat→Int
 |0=>0
 |k+1=>(atB bs k).up
def bkOK (bs:List BK) (i:Nat):Bool:=decide (0≤(atB bs i).pr) && (decide ((atB bs i).pr≤1099511627776) && (bif decide (i+1=bs.length) then decide ((atB bs i).up=0) else decide (lowB bs i<(atB bs i).up) && decide ((atB bs i).up≤1099511627776)))
def bksB (bs:List BK):Nat→Bool
 |0=>true
 |k+1=>bksB bs k && bkOK bs k
def tfF (st:Int) (bs:List BK):Int:=bif !(decide (0≤st) && decide (st≤1099511627776)) then 140 else bif decide (bs.length<1) || decide (8<bs.length) then 141 else bif bksB bs bs.length then 0 else 141
def rtOK (t:RT):Bool:=wbz t.o t.p t.per && decide (tfF t.st t.bs=0)
def ctF (f:FL):Bool:=bif decide (f.kind=1) then decide (f.rs.length+f.ts.length=0) && (decide (f.ms.length≤400) && f.ms.all fun m=>decide (msgF m=0))
 else bif decide (f.kind=2) then decide (f.ms.length+f.ts.length=0) && (decide (f.rs.length≤400) && f.rs.all rowF)
 else decide (f.ms.length+f.rs.length=0) && (decide (f.ts.length≤400) && f.ts.all rtOK)
def vinF (f:FL):Int:=bif !wa8 f.id then 150 else bif decide (f.ver<1) || decide (1000<f.ver) || (decide (f.kind=1) && !decide (f.ver=1)) then 151 else bif decide (f.day<0) || decide (182620<f.day) then 152
 else bif decide (f.kind<1) || decide (3<f.kind) then 153 else bif !ctF f then 154 else 0
def okV (f:FL):Bool:=decide (vinF f=0)
theorem wx2 {f:FL} (h:okV f=true):wa8 f.id=true∧(1≤f.ver∧f.ver≤1000)∧(0≤f.day∧f.day≤182620)∧(1≤f.kind∧f.kind≤3)∧(f.kind=1→f.ver=1)∧ctF f=true:=by
 unfold okV vinF at h
 rw [decide_eq_true_eq] at h
 cases h1:wa8 f.id with
 |false=>rw [h1] at h;exact absurd (show (150:Int)=0 from h) (by decide)
 |true=>
  rw [h1] at h
  cases h2:decide (f.ver<1) || decide (1000<f.ver) || (decide (f.kind=1) && !decide (f.ver=1)) with
  |true=>rw [h2] at h;exact absurd (show (151:Int)=0 from h) (by decide)
  |false=>
   rw [h2] at h
   cases h3:decide (f.day<0) || decide (182620<f.day) with
   |true=>rw [h3] at h;exact absurd (show (152:Int)=0 from h) (by decide)
   |false=>
    rw [h3] at h
    cases h4:decide (f.kind<1) || decide (3<f.kind) with
    |true=>rw [h4] at h;exact absurd (show (153:Int)=0 from h) (by decide)
    |false=>
     rw [h4] at h
     cases h5:ctF f with
     |false=>rw [h5] at h;exact absurd (show (154:Int)=0 from h) (by decide)
     |true=>
      simp only [Bool.or_eq_false_iff,Bool.and_eq_false_iff,decide_eq_false_iff_not,Bool.not_eq_false',decide_eq_true_eq] at h2 h3 h4
      obtain ⟨⟨a1,a2⟩,a3⟩:=h2
      exact ⟨rfl,⟨by omega,by omega⟩,⟨by omega,by omega⟩,⟨by omega,by omega⟩,fun k=>a3.resolve_left (fun z=>z k),rfl⟩
def nwf (v r t:Int):FL:=⟨[102],v,r,2,[],[⟨[111,49],idF 0,1440,1,t⟩],[]⟩
section
variable {V R T:Nat→Int} {n:Nat} {d:Int} (hok:∀ i,i<n→okV (nwf (V i) (R i) (T i))=true)
include hok
end
def whn:RT:=⟨[],[],0,0,[]⟩
def atT (L:List RT) (i:Nat):RT:=L.getD i whn
theorem atT_get {L:List RT} {i:Nat} (h:i<L.length):atT L i=L[i]:=by simp [atT,h]
theorem wv6 {L:List RT} {i:Nat} (h:i<L.length):atT L i∈L:=by rw [atT_get h];exact List.getElem_mem h
def sameT (a b:RT):Bool:=decide (a.o=b.o) && (decide (a.p=b.p) && decide (a.per=b.per))
def devF (i:Int):List UInt8:=List.getD [[97],[98],[99]] i.toNat []
def whe:Spec
 |[.ptr 0 0],[.cells [.view sz n f,.int .i64 a] t]=>some (.str (devF (wab n (vInt f) a 3)),[(0,.cells [.view 1 n f,.int .i64 (a+1)] 27)],t=27∧sz=1∧f=waa (vInt f)∧(0≤a∧a≤4611686018427387000))
 |_,_=>none
structure VT.Made (x:VT):Prop where
 ok:visF x=true
 o:x.o.length≤2
def wne:wci
 |[.ptr 0 0],[.cells [.view sz n f,.int .i64 a] t],R=>t=27∧sz=1∧f=waa (vInt f)∧(0≤a∧a≤4611686018427386000)∧
   ∀ (x:VT) (a':Int),x.Made→(a≤a'∧a'≤a+7)→
   R (.agg [.str x.o,.str x.p,.int .i64 x.per,.int .i64 x.day,.int .i64 x.st,.int .i64 x.pr,.str x.rep]) [(0,.cells [.view 1 n f,.int .i64 a'] 27)]
 |_,_,_=>False
structure MG.Made (m:MG):Prop where
 ok:msgF m=0
 dev:m.dev.length≤1
 o:m.v.o.length≤2
 o':m.d.o.length≤2
 dd:m.d.dev.length≤1
def whj:wci
 |[.ptr 0 0],[.cells [.view sz n f,.int .i64 a] t],R=>t=27∧sz=1∧f=waa (vInt f)∧(0≤a∧a≤4611686018427385000)∧
   ∀ (m:MG) (a':Int),m.Made→(a≤a'∧a'≤a+10)→
   R (.agg [.str m.dev,.int .i64 m.seq,.int .i64 m.kind,.str m.v.o,.str m.v.p,.int .i64 m.v.per,.int .i64 m.v.day,.int .i64 m.v.st,.int .i64 m.v.pr,.str m.v.rep,.str m.d.o,.str m.d.p,.int .i64 m.d.per,.str m.d.dev,.int .i64 m.d.num]) [(0,.cells [.view 1 n f,.int .i64 a'] 27)]
 |_,_,_=>False
theorem idF4:∀ i,i<4→¬ idF 4=idF (i:Nat):=by decide+kernel
theorem wkx:∀ i,i<3→wa8 (List.getD [[97],[98],[99]] i [])=true∧(List.getD [[97],[98],[99]] i ([]:List UInt8)).length≤1:=by decide+kernel
structure RX where
 k:Nat
 L:List RW
structure MgS where
 c:Nat
 g:Nat→MG
 a:Int
def MG.put (g:Nat→MG) (k:Nat) (r:MG) (i:Nat):MG:=if i<k then g i else r
def wl8 (n:Nat) (v:Nat→Int) (N:Int) (i:MgS):St:=⟨[(0,.ptr 0 0),(5,.own 1 i.c),(9,.int .i64 N),(10,.int .i64 i.c)],
 [(0,.cells [.view 1 n (waa v),.int .i64 i.a] 27),(1,.row 40 15 i.c (wag i.g) false)],2,[]⟩
def wn0 (n:Nat) (v:Nat→Int) (a N:Int):war:=fun st Q=>canonIs te 1 [0,5,9,10] (ownNil 5 40 15 st) (wl8 n v N ⟨0,fun _=>default,a⟩)∧(0≤N∧N≤100)∧(0≤a∧a≤4611686018427375000)∧
 ∀ i:MgS,i.c=N.toNat→(a≤i.a∧i.a≤a+10 * i.c)→(∀ j,j<i.c→(i.g j).Made)→Q (.exit 0) ⟨[(5,.own 1 i.c)],[(0,.cells [.view 1 n (waa v),.int .i64 i.a] 27),(1,.row 40 15 i.c (wag i.g) false)],2,[]⟩
def wnj:wci
 |[.ptr 0 0,.int .i64 most],[.cells [.view sz n f,.int .i64 a] t],R=>t=27∧sz=1∧f=waa (vInt f)∧(0≤a∧a≤4611686018427370000)∧(0≤most∧most≤90)∧
   ∀ (c:Nat) (g:Nat→MG) (a':Int),c≤most.toNat→(a≤a'∧a'≤a+1000)→(∀ j,j<c→(g j).Made)→
   R (.own 1 c) [(0,.cells [.view 1 n f,.int .i64 a'] 27),(1,.row 40 15 c (wag g) false)]
 |_,_,_=>False
structure RE (f:Nat→List AV) (n:Nat):Prop where
 eq:∀ i,i<n→f i=wag (mgOf f) i
structure RM (f:Nat→List AV) (n:Nat):Prop where
 eq:∀ i,i<n→f i=wag (mgOf f) i
 sm:∀ i,i<n→(mgOf f i).Sm
end Go.Eng
