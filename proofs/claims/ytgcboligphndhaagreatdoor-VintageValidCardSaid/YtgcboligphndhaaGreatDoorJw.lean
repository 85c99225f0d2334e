/- The tape's rows. -/
import Derived.Test.YtgcboligphndhaaGreatDoorJv
import Derived.Test.YtgcboligphndhaaGreatDoorJm
import Derived.Test.YtgcboligphndhaaGreatDoorJs
import Derived.Test.YtgcboligphndhaaGreatDoorJt
import Derived.Test.YtgcboligphndhaaGreatDoorJu
namespace Go.Eng
def zMg:MG:=⟨[],0,0,⟨[],[],0,0,0,0,[]⟩,⟨[],[],0,[],0⟩⟩
def zRw:RW:=⟨[],[],0,0,0⟩
def wd3 (m:MG) (j i:Nat):MG:=bif decide (i<j) then m else zMg
def wls (n:Nat) (v:Nat→Int) (a:Int) (m:MG) (N j:Nat):St:=⟨[(0,.ptr 0 0),(2,.ptr 1 0),(3,.ptr 2 0),(4,.ptr 3 0),(85,.int .i64 N),(86,.int .i64 j)],
 [(0,.cells [.view 1 n (waa v),.int .i64 a] 27),(1,.cells [.str [],.int .i64 0,.int .i64 0,.int .i64 0,.nil,.nil,.nil] 49),
  (2,.cells [.str [102],.int .i64 1,.int .i64 0,.int .i64 1,.own 4 N,.own 5 0,.own 6 0] 49),
  (3,.cells [.str m.dev,.int .i64 m.seq,.int .i64 m.kind,.str m.v.o,.str m.v.p,.int .i64 m.v.per,.int .i64 m.v.day,.int .i64 m.v.st,.int .i64 m.v.pr,.str m.v.rep,.str m.d.o,.str m.d.p,.int .i64 m.d.per,.str m.d.dev,.int .i64 m.d.num] 40),
  (4,.row 40 15 N (wae (wd3 m j)) false),(5,.row 61 5 0 (wai (atR [])) false),(6,.row 97 5 0 (wah (atT [])) false)],7,[]⟩
def L_sp5 (n:Nat) (v:Nat→Int) (a:Int) (m:MG) (N:Nat):war:=fun s Q=>
 canonIs te 1 [0,2,3,4,85,86] (ownNilP 3 6 97 5 (ownNilP 3 5 61 5 s)) (wls n v a m N 0)∧N≤401∧
 Q (.exit 1) ⟨[(0,.ptr 0 0),(2,.ptr 1 0),(3,.ptr 2 0)],(S_fl n v a [102] 1 0 1 (List.replicate N m) [] []).O,6,[]⟩
def wnt (n:Nat) (v:Nat→Int):war:=fun s Q=>∃ (b:Int) (m:MG) (N:Nat),L_sp5 n v b m N s Q
def wng:wcr
 |[.ptr 0 0],[.cells [.view sz n f,.int .i64 a] t],R=>t=27∧sz=1∧f=waa (vInt f)∧(0≤a∧a≤4611686018427350000)∧
   ∀ (F:FL) (a':Int),F.Tn→(a≤a'∧a'≤a+1200)→
   R (.agg [.str F.id,.int .i64 F.ver,.int .i64 F.day,.int .i64 F.kind,.view 15 F.ms.length (wae (atM F.ms)),.view 5 F.rs.length (wai (atR F.rs)),.view 5 F.ts.length (wah (atT F.ts))]) [(0,.cells [.view 1 n f,.int .i64 a'] 27)]
 |_,_,_=>False
end Go.Eng
namespace Go.Eng
open Go.Proofs Go.RowKit
set_option maxRecDepth 20000
theorem wzp (s:List UInt8) (R:AV→List (Nat×AObj)→Prop):wpFn te [] [(2,wn2 s)] 0 Tryz.f75 [.str s] [] R=(letI z0:=(↑(List.length s):Int);some (St.mk [(0,.str s),(6,.int .i64 z0),(7,.int .i64 0)] [] 0 [])=some (St.mk [(0,.str s),(6,.int .i64 z0),(7,.int .i64 (↑0:Int))] [] 0 [])∧((∀ (k:Nat),k<List.length s→OKat s k)→wab (decide ((1:Int)≤z0)) (R (.bool (decide (z0≤(24:Int)))) []) (R (.bool false) []))∧∀ (k:Nat),k<List.length s→¬OKat s k→R (.bool false) []):=by kernel_rfl
theorem wzo (s:List UInt8) (k:Nat) (P:Nat→Prop) (R:Exit→St→Prop):wa3 ⟨te,[],[],0,59,0⟩ (wa4 Tryz.f75 2) [0,6,7] [0] [2] (wl6 s) P R (wl6 s k)=(letI z6:=R .ret (St.mk [(2,.bool false)] [] 0 []);letI z5:=(↑(List.length s):Int);letI z3:=((0:Int)≤(↑k:Int)∧(↑k:Int)<z5:Prop);letI z2:=(↑(UInt8.toNat (List.getD s (Int.toNat (↑k:Int)) (0:UInt8))):Int);letI z1:=(inR .i64 ((↑k:Int)+(1:Int))∧∃ (i':Nat),some (St.mk [(0,.str s),(6,.int .i64 z5),(7,.int .i64 ((↑k:Int)+(1:Int)))] [] 0 [])=some (St.mk [(0,.str s),(6,.int .i64 z5),(7,.int .i64 (↑i':Int))] [] 0 [])∧P i');letI z0:=(wab (decide ((↑k:Int)=(0:Int))) z6 (z3∧wab (!decide (z2=(45:Int))) (z3∧wab (!decide (z2=(46:Int))) z6 z1) z1));letI z4:=(z3∧wab (decide ((48:Int)≤z2)) (z3∧wab (!decide (z2≤(57:Int))) z0 z1) z0);wab (decide ((↑k:Int)<z5)) (z3∧wab (decide ((97:Int)≤z2)) (z3∧wab (decide (z2≤(122:Int))) z1 z4) z4) (R (.exit 0) (St.mk [(0,.str s)] [] 0 []))):=by kernel_rfl
theorem nf_cdR (s:List UInt8) (R:AV→List (Nat×AObj)→Prop):wpFn te [] [(5,woo s)] 0 Tryz.f98 [.str s] [] R=(letI z2:=R (.tuple [.int .i64 0,.bool false]) [];letI z1:=(↑(List.length s):Int);letI z0:=(some (St.mk [(0,.str s),(4,.int .i64 0),(16,.int .i64 z1),(17,.int .i64 0)] [] 0 [])=some (St.mk [(0,.str s),(4,.int .i64 (wa8 s 0)),(16,.int .i64 z1),(17,.int .i64 (↑0:Int))] [] 0 [])∧List.length s≤12∧wab (List.all s wbi) ((10:Int)≠(0:Int)∧inR .i64 ((10:Int) - Int.tmod (wa8 s (List.length s)) (10:Int))∧(10:Int)≠(0:Int)∧R (.tuple [.int .i64 (Int.tmod ((10:Int) - Int.tmod (wa8 s (List.length s)) (10:Int)) (10:Int)),.bool true]) []) z2);wab (!decide (z1=(7:Int))) (wab (!decide (z1=(12:Int))) z2 z0) z0):=by kernel_rfl
theorem w0q (s:List UInt8) (k:Nat) (P:Nat→Prop) (R:Exit→St→Prop):wa3 ⟨te,[],[],0,50,0⟩ (wa4 Tryz.f98 5) [0,4,16,17] [4] [2,3] (wm8 s) P R (wm8 s k)=(letI z3:=R .ret (St.mk [(2,.int .i64 0),(3,.bool false)] [] 0 []);letI z1:=(↑(List.length s):Int);letI z2:=((0:Int)≤(↑k:Int)∧(↑k:Int)<z1:Prop);letI z0:=(↑(UInt8.toNat (List.getD s (Int.toNat (↑k:Int)) (0:UInt8))):Int);letI z5:=(wa8 s k+(1:Int) * ((z0 - (48:Int)) % (256:Int)));letI z4:=(wa8 s k+(3:Int) * ((z0 - (48:Int)) % (256:Int)));wab (decide ((↑k:Int)<z1)) (z2∧wab (decide (z0<(48:Int))) z3 (z2∧wab (decide ((57:Int)<z0)) z3 (inR .i64 (z1 - (↑k:Int))∧(2:Int)≠(0:Int)∧wab (decide (Int.tmod (z1 - (↑k:Int)) (2:Int)=(1:Int))) (z2∧inR .i64 ((z0 - (48:Int)) % (256:Int))∧inR .i64 ((3:Int) * ((z0 - (48:Int)) % (256:Int)))∧inR .i64 z4∧inR .i64 ((↑k:Int)+(1:Int))∧∃ (i':Nat),some (St.mk [(0,.str s),(4,.int .i64 z4),(16,.int .i64 z1),(17,.int .i64 ((↑k:Int)+(1:Int)))] [] 0 [])=some (St.mk [(0,.str s),(4,.int .i64 (wa8 s i')),(16,.int .i64 z1),(17,.int .i64 (↑i':Int))] [] 0 [])∧P i') (z2∧inR .i64 ((z0 - (48:Int)) % (256:Int))∧inR .i64 ((1:Int) * ((z0 - (48:Int)) % (256:Int)))∧inR .i64 z5∧inR .i64 ((↑k:Int)+(1:Int))∧∃ (i':Nat),some (St.mk [(0,.str s),(4,.int .i64 z5),(16,.int .i64 z1),(17,.int .i64 ((↑k:Int)+(1:Int)))] [] 0 [])=some (St.mk [(0,.str s),(4,.int .i64 (wa8 s i')),(16,.int .i64 z1),(17,.int .i64 (↑i':Int))] [] 0 [])∧P i')))) (R (.exit 0) (St.mk [(4,.int .i64 (wa8 s k))] [] 0 []))):=by kernel_rfl
theorem wyl (s:List UInt8) (R:AV→List (Nat×AObj)→Prop):wpFn te [(98,.det weg)] [] 0 Tryz.f162 [.str s] [] R=(letI z1:=(↑(List.length s):Int);letI z2:=(cdF (List.take (Int.toNat (z1 - (1:Int))) s));letI z0:=(inR .i64 (z1 - (1:Int))∧((0:Int)≤z1 - (1:Int)∧z1 - (1:Int)≤z1)∧True∧wab (Prod.snd z2) (inR .i64 (z1 - (1:Int))∧((0:Int)≤z1 - (1:Int)∧z1 - (1:Int)<z1)∧inR .i64 ((48:Int)+Prod.fst z2)∧inR .u8 ((48:Int)+Prod.fst z2)∧R (.bool (decide ((↑(UInt8.toNat (List.getD s (Int.toNat (z1 - (1:Int))) (0:UInt8))):Int)=(48:Int)+Prod.fst z2))) []) (R (.bool false) []));wab (!decide (z1=(8:Int))) (wab (!decide (z1=(13:Int))) (R (.bool false) []) z0) z0):=by kernel_rfl
variable {C:Ctx} [C.Loose]
theorem w0w (hP:C.P=Tryz.prog) (s:List UInt8) (hm:s.length≤9223372036854775806):wak C 0 59 (wam Tryz.f75 2) (wn2 s):=by
 have _:C.Loose:=inferInstance
 rintro st Q ⟨h0,hQ1,hQ2⟩
 refine wak.mk (prg hP) [] 0 .nil [0,6,7] [0] [2] (wl6 s) (fun k=>k≤s.length∧∀ j,j<k→OKat s j) (fun k=>s.length - k) 0 ⟨Nat.zero_le _,fun j h=>by omega⟩ h0 fun k ⟨hk,hall⟩=>?_
 rw [wzo]
 refine waj (fun h=>?_) (fun h=>?_)
 ·have hlt:k<s.length:=by omega
  have hret:¬ OKat s k→Q .ret ⟨[(2,.bool false)],[],0,[]⟩:=hQ2 k hlt
  have hgo:OKat s k→∃ i':Nat,some (St.mk [(0,.str s),(6,.int .i64 (s.length:Int)),(7,.int .i64 ((k:Int)+1))] [] 0 [])=some (St.mk [(0,.str s),(6,.int .i64 (s.length:Int)),(7,.int .i64 (i':Int))] [] 0 [])∧(i'≤s.length∧∀ j,j<i'→OKat s j)∧s.length - i'<s.length - k:=fun hok=>
   ⟨k+1,rfl,⟨by omega,fun j hj=>by
    rcases Nat.lt_succ_iff_lt_or_eq.1 hj with hj | rfl
    ·exact hall j hj
    ·exact hok⟩,by omega⟩
  unfold OKat at hret hgo
  simp only [Int.toNat_natCast,inR]
  repeat' (first | (refine waj (fun _=>?_) (fun _=>?_)) | (refine wb3 (fun _=>?_) (fun _=>?_)) | (refine And.intro (by omega) ?_) | fail)
  all_goals (first | exact hret (by omega) | exact hgo (by omega))
 ·exact hQ1 fun j hj=>hall j (by omega)
theorem wj5 (hP:C.P=Tryz.prog):wag C 75 wed:=by
 rintro args objs U Os vc h hvc
 unfold wed at h
 split at h<;>simp only [Option.some.injEq,Prod.mk.injEq,reduceCtorEq] at h
 rename_i s
 obtain ⟨rfl,rfl,rfl⟩:=h
 refine wag.wpL (prg hP) [] [(2,wn2 s)] 0 .nil (hP ▸ Tryz.func75) rfl rfl rfl [(wam Tryz.f75 2,wn2 s)] (by kernel_rfl) ⟨w0w hP s hvc,trivial⟩ ?_
 rw [wzp]
 refine ⟨rfl,fun hall=>waj (fun h1=>⟨congrArg AV.bool ?_,rfl⟩) (fun h1=>⟨congrArg AV.bool ?_,rfl⟩),fun k hk hno=>⟨congrArg AV.bool ?_,rfl⟩⟩
 ·by_cases h2:s.length≤24
  ·rw [(wj7 s).2 ⟨⟨by omega,h2⟩,hall⟩];exact decide_eq_true (by omega)
  ·rw [decide_eq_false (by omega)]
   cases hn:wa0 s with
   |false=>rfl
   |true=>exact absurd ((wj7 s).1 hn).1.2 h2
 ·cases hn:wa0 s with
  |false=>rfl
  |true=>exact absurd ((wj7 s).1 hn).1.1 (by omega)
 ·cases hn:wa0 s with
  |false=>rfl
  |true=>exact absurd (((wj7 s).1 hn).2 k hk) hno
theorem w3g (hP:C.P=Tryz.prog) (s:List UInt8):wak C 0 50 (wam Tryz.f98 5) (woo s):=by
 have _:C.Loose:=inferInstance
 rintro st Q ⟨h0,hlen,hQ⟩
 have hQ:=wbx hQ
 refine wak.mk (prg hP) [] 0 .nil [0,4,16,17] [4] [2,3] (wm8 s) (fun k=>k≤s.length∧∀ j,j<k→48≤(s.getD j 0).toNat∧(s.getD j 0).toNat≤57) (fun k=>s.length - k) 0 ⟨Nat.zero_le _,fun j h=>by omega⟩ h0 fun k ⟨hk,hall⟩=>?_
 rw [w0q]
 have hb:=wvr k hk hall
 refine waj (fun h=>?_) (fun h=>?_)
 ·have hlt:k<s.length:=by omega
  have hret:¬ (48≤(s.getD k 0).toNat∧(s.getD k 0).toNat≤57)→Q .ret ⟨[(2,.int .i64 0),(3,.bool false)],[],0,[]⟩:=fun hno=>hQ.2 (by
   cases ha:s.all wbi with
   |false=>rfl
   |true=>exact absurd (wki ha k hlt) hno)
  have e:Int.tmod (↑s.length - ↑k) 2=(↑s.length - ↑k) % 2:=Int.tmod_eq_emod_of_nonneg (by omega)
  have hs:wa8 s (k+1)=wa8 s k+(1+2 * ((↑s.length - ↑k) % 2)) * (↑(s.getD k 0).toNat - 48):=rfl
  have hgo:(48≤(s.getD k 0).toNat∧(s.getD k 0).toNat≤57)→(k+1≤s.length∧∀ j,j<k+1→48≤(s.getD j 0).toNat∧(s.getD j 0).toNat≤57)∧s.length - (k+1)<s.length - k:=fun hok=>
   ⟨⟨by omega,fun j hj=>by
    rcases Nat.lt_succ_iff_lt_or_eq.1 hj with hj | rfl
    ·exact hall j hj
    ·exact hok⟩,by omega⟩
  simp only [Int.toNat_natCast,inR,e]
  refine ⟨by omega,waj (fun h1=>hret (by omega)) (fun h1=>⟨by omega,waj (fun h2=>hret (by omega)) (fun h2=>⟨by omega,by omega,?_⟩)⟩)⟩
  have hgo:=hgo (by omega)
  have e3:((s.getD k 0).toNat - 48:Int) % 256=(s.getD k 0).toNat - 48:=by omega
  rw [e3]
  refine waj (fun h3=>?_) (fun h3=>?_)
  ·rw [h3] at hs
   exact ⟨by omega,by omega,by omega,by omega,by omega,k+1,by rw [hs];rfl,hgo⟩
  ·have h3:(↑s.length - ↑k:Int) % 2=0:=by omega
   rw [h3] at hs
   exact ⟨by omega,by omega,by omega,by omega,by omega,k+1,by rw [hs];rfl,hgo⟩
 ·have hks:k=s.length:=by omega
  rw [hks]
  exact hQ.1 (w35 fun j hj=>hall j (by omega))
theorem cdR_ok (hP:C.P=Tryz.prog):wag C 98 weg:=by
 rintro args objs U Os vc h hvc
 unfold weg at h
 split at h<;>simp only [Option.some.injEq,Prod.mk.injEq,reduceCtorEq] at h
 rename_i s
 obtain ⟨rfl,rfl,rfl⟩:=h
 refine wag.wpL (prg hP) [] [(5,woo s)] 0 .nil (hP ▸ Tryz.func98) rfl rfl rfl [(wam Tryz.f98 5,woo s)] (by kernel_rfl) ⟨w3g hP s,trivial⟩ ?_
 rw [nf_cdR]
 have main:(s.length=7∨s.length=12)→wab (s.all wbi) ((10:Int)≠0∧inR .i64 (10 - Int.tmod (wa8 s s.length) 10)∧(10:Int)≠0∧AV.tuple [.int .i64 (Int.tmod (10 - Int.tmod (wa8 s s.length) 10) 10),.bool true]= .tuple [.int .i64 (cdF s).1,.bool (cdF s).2]∧([]:List (Nat×AObj))=[])
   (AV.tuple [.int .i64 0,.bool false]= .tuple [.int .i64 (cdF s).1,.bool (cdF s).2]∧([]:List (Nat×AObj))=[]):=by
  intro hl
  have hd:wbn s 7 12=s.all wbi:=by
   unfold wbn
   rcases hl with h | h<;>simp [h]
  refine waw (fun ha=>?_) (fun ha=>?_)
  ·have hb:=wk4 ha s.length (Nat.le_refl _)
   have e:Int.tmod (wa8 s s.length) 10=wa8 s s.length % 10:=Int.tmod_eq_emod_of_nonneg (by omega)
   rw [e,Int.tmod_eq_emod_of_nonneg (by omega)]
   refine ⟨by omega,by simp only [inR];omega,by omega,?_,rfl⟩
   simp [cdF,hd,ha]
  ·refine ⟨?_,rfl⟩
   simp [cdF,hd,ha]
 refine wb3 (fun h1=>wb3 (fun h2=>⟨?_,rfl⟩) (fun h2=>⟨rfl,by omega,main (by omega)⟩)) (fun h1=>⟨rfl,by omega,main (by omega)⟩)
 have hd:wbn s 7 12=false:=by unfold wbn;rw [decide_eq_false h1,decide_eq_false h2];rfl
 simp [cdF,hd]
theorem wry (hP:C.P=Tryz.prog):wag C 162 wcl:=by
 rintro args objs U Os vc h hvc
 unfold wcl at h
 split at h<;>simp only [Option.some.injEq,Prod.mk.injEq,reduceCtorEq] at h
 rename_i s
 obtain ⟨rfl,rfl,rfl⟩:=h
 refine wag.wp0 (prg hP) [(98,.det weg)] 0 (.cons (cdR_ok hP) .nil) (hP ▸ Tryz.func162) rfl rfl rfl ?_
 rw [wyl]
 have e1:∀ h:s.length=8∨s.length=13,(↑s.length - 1:Int).toNat=s.length - 1:=by intro h;omega
 have hcd:=w3h (s.take (s.length - 1))
 have last:(s.length=8∨s.length=13)→(s.all wbi=((cdF (s.take (s.length - 1))).2 && wbi (s.getD (s.length - 1) 0))):=by
  intro hl
  have h2:(cdF (s.take (s.length - 1))).2=(s.take (s.length - 1)).all wbi:=by
   have hd:wbn (s.take (s.length - 1)) 7 12=(s.take (s.length - 1)).all wbi:=by
    unfold wbn
    have:(s.take (s.length - 1)).length=s.length - 1:=by simp
    rcases hl with h | h<;>simp [h]
   unfold cdF
   rw [hd]
   cases (s.take (s.length - 1)).all wbi<;>rfl
  have hs:s=s.take (s.length - 1)++[s.getD (s.length - 1) 0]:=by
   have hlt:s.length - 1<s.length:=by omega
   have:=(List.take_append_drop (s.length - 1) s).symm
   rw [List.drop_eq_getElem_cons hlt] at this
   have e:s.getD (s.length - 1) 0=s[s.length - 1]:=by simp [List.getD,hlt]
   rw [e]
   have hd:List.drop (s.length - 1+1) s=[]:=List.drop_eq_nil_of_le (by omega)
   rw [hd] at this
   exact this
  rw [h2]
  conv=>lhs;rw [hs]
  simp
 have hv:(s.length=8∨s.length=13)→wa9 s=((cdF (s.take (s.length - 1))).2 && decide ((s.getD (s.length - 1) 0).toNat=48+(cdF (s.take (s.length - 1))).1)):=by
  intro hl
  have hd:wbn s 8 13=s.all wbi:=by
   unfold wbn
   rcases hl with h | h<;>simp [h]
  unfold wa9
  rw [hd,last hl]
  cases hc:(cdF (s.take (s.length - 1))).2 with
  |false=>rfl
  |true=>
   simp only [Bool.true_and]
   cases hi:wbi (s.getD (s.length - 1) 0) with
   |true=>
    refine decide_eq_decide.2 ?_
    omega
   |false=>
    refine (decide_eq_false fun he=>?_).symm
    simp only [wbi,Bool.and_eq_false_imp,decide_eq_true_eq,decide_eq_false_iff_not] at hi
    omega
 have main:(s.length=8∨s.length=13)→wab (cdF (s.take (s.length - 1))).2 (inR .i64 (↑s.length - 1)∧(0≤(↑s.length - 1:Int)∧(↑s.length - 1:Int)<↑s.length)∧inR .i64 (48+(cdF (s.take (s.length - 1))).1)∧inR .u8 (48+(cdF (s.take (s.length - 1))).1)∧
   AV.bool (decide ((↑(s.getD (s.length - 1) 0).toNat:Int)=48+(cdF (s.take (s.length - 1))).1))= .bool (wa9 s)∧([]:List (Nat×AObj))=[]) (AV.bool false= .bool (wa9 s)∧([]:List (Nat×AObj))=[]):=by
  intro hl
  rw [hv hl]
  refine waw (fun hc=>?_) (fun hc=>?_)
  ·simp only [inR,hc,Bool.true_and]
   exact ⟨by omega,by omega,by omega,by omega,by simp⟩
  ·simp [hc]
 refine wb3 (fun h1=>wb3 (fun h2=>⟨?_,rfl⟩) (fun h2=>?_)) (fun h1=>?_)
 ·have hd:wbn s 8 13=false:=by unfold wbn;rw [decide_eq_false h1,decide_eq_false h2];rfl
  simp [wa9,hd]
 ·have hl:s.length=8∨s.length=13:=by omega
  rw [e1 hl]
  exact ⟨by simp only [inR];omega,by omega,trivial,main hl⟩
 ·have hl:s.length=8∨s.length=13:=by omega
  rw [e1 hl]
  exact ⟨by simp only [inR];omega,by omega,trivial,main hl⟩
end Go.Eng
namespace Go.Eng
open Go.Proofs Go.RowKit
variable {C:Ctx} [C.Loose]
set_option maxRecDepth 20000
theorem nf_fold (n k:Int) (R:AV→List (Nat×AObj)→Prop):wpFn te [] [] 0 Tryz.f35 [.int .i64 n,.int .i64 k] [] R=(letI z0:=(Int.tmod (IntKind.wrap IntKind.u64 n) (IntKind.wrap IntKind.u64 (max k (1:Int))));True∧True∧IntKind.wrap IntKind.u64 (max k (1:Int))≠(0:Int)∧inR .i64 z0∧R (.int .i64 z0) []):=by kernel_rfl
theorem nf_next (n:Nat) (v:Nat→Int) (a k:Int) (R:AV→List (Nat×AObj)→Prop):wpFn te [] [] 0 Tryz.f42 [.ptr 0 0,.int .i64 k] [.cells [.view 1 n (waa v),.int .i64 a] 27] R=(letI z1:=([(0,.cells [.view 1 n (waa v),.int .i64 (a+(1:Int))] 27)]:List (Nat×AObj));letI z0:=(IntKind.wrap IntKind.u64 (max k (1:Int)));letI z3:=Int.tmod (IntKind.wrap IntKind.u64 0) z0;letI z2:=Int.tmod (IntKind.wrap IntKind.u64 (v (Int.toNat a))) z0;wab (decide (a<(↑n:Int))) (((0:Int)≤a∧a<(↑n:Int)∧1=1)∧inR .i64 (a+(1:Int))∧True∧True∧IntKind.wrap IntKind.u64 (max k (1:Int))≠(0:Int)∧inR .i64 z2∧R (.int .i64 z2) z1) (inR .i64 (a+(1:Int))∧True∧True∧IntKind.wrap IntKind.u64 (max k (1:Int))≠(0:Int)∧inR .i64 z3∧R (.int .i64 z3) z1)):=by kernel_rfl
theorem wrm (n:Int):IntKind.wrap .u64 n=n % 18446744073709551616:=by
 show n % (2:Int) ^ 64=_
 rfl
theorem wpp {k:Int} (h:1≤k∧k≤1000000) (x:Int):IntKind.wrap .u64 (max k 1)≠0∧Int.tmod (IntKind.wrap .u64 x) (IntKind.wrap .u64 (max k 1))=wd1 x k:=by
 have e:IntKind.wrap .u64 (max k 1)=k:=by
  rw [wrm,Int.max_eq_left h.1]
  omega
 rw [e,wrm]
 have hx:0≤x % 18446744073709551616:=by omega
 rw [Int.tmod_eq_emod_of_nonneg hx]
 exact ⟨by omega,rfl⟩
theorem fold_ok (hP:C.P=Tryz.prog):wag C 35 wmw:=by
 have _:C.Loose:=inferInstance
 rintro args objs U Os vc h hvc
 unfold wmw at h
 split at h<;>simp only [Option.some.injEq,Prod.mk.injEq,reduceCtorEq] at h
 rename_i n k
 obtain ⟨rfl,rfl,rfl⟩:=h
 refine wag.wp0 (prg hP) [] 0 .nil (hP ▸ Tryz.func35) rfl rfl rfl ?_
 rw [nf_fold]
 obtain ⟨h1,h2⟩:=wpp hvc n
 have h3:=wip hvc.1 n
 rw [h2]
 exact ⟨trivial,trivial,h1,by simp only [inR];omega,rfl,rfl⟩
theorem wco (hP:C.P=Tryz.prog):wag C 42 wbh:=by
 have _:C.Loose:=inferInstance
 rintro args objs U Os vc h hvc
 unfold wbh at h
 split at h<;>simp only [Option.some.injEq,Prod.mk.injEq,reduceCtorEq] at h
 rename_i k sz n f a t
 obtain ⟨rfl,rfl,rfl⟩:=h
 obtain ⟨rfl,rfl,hf,hk,ha⟩:=hvc
 rw [hf]
 have hv:vInt (waa (vInt f))=vInt f:=rfl
 rw [hv]
 generalize vInt f=v at *
 refine wag.wp0 (prg hP) [] 0 .nil (hP ▸ Tryz.func42) rfl rfl rfl ?_
 rw [nf_next]
 unfold wac
 refine waj (fun h=>?_) (fun h=>?_)
 ·obtain ⟨h1,h2⟩:=wpp hk (v a.toNat)
  have h3:=wip hk.1 (v a.toNat)
  rw [h2,decide_eq_true h]
  exact ⟨⟨by omega,by omega,rfl⟩,by simp only [inR];omega,trivial,trivial,h1,by simp only [inR];omega,rfl,rfl⟩
 ·obtain ⟨h1,h2⟩:=wpp hk 0
  have h3:=wip hk.1 0
  rw [h2,decide_eq_false h]
  exact ⟨by simp only [inR];omega,trivial,trivial,h1,by simp only [inR];omega,rfl,rfl⟩
theorem wz9 (V j:Nat) (P:Nat→Prop) (R:Exit→St→Prop):wa3 ⟨te,[],[],0,39,0⟩ (wa4 Tryz.f43 4) [3,4,5] [4] [] (wmt V) P R (wmt V j)=(letI z0:=(Int.tdiv (↑(pw V j):Int) (10:Int));wab (decide ((0:Int)≤(6:Int) - (↑j:Int))) ((10:Int)≠(0:Int)∧inR .i64 ((48:Int)+Int.tmod (↑(pw V j):Int) (10:Int))∧inR .u8 ((48:Int)+Int.tmod (↑(pw V j):Int) (10:Int))∧((0:Int)≤(6:Int) - (↑j:Int)∧(6:Int) - (↑j:Int)<(↑7:Int))∧(List.length [AV.int .u8 ((48:Int)+Int.tmod (↑(pw V j):Int) (10:Int))]=1∧Int.toNat ((6:Int) - (↑j:Int))<7∧1=1)∧((10:Int)≠(0:Int)∧inR .i64 z0)∧inR .i64 ((6:Int) - (↑j:Int) - (1:Int))∧∃ (i':Nat),(TEq [(3,.int .i64 z0),(4,.own 0 7),(5,.int .i64 ((6:Int) - (↑j:Int) - (1:Int)))] [(3,.int .i64 (↑(pw V i'):Int)),(4,.own 0 7),(5,.int .i64 ((6:Int) - (↑i':Int)))]∧waf [(0,.row 5 1 7 (fun (k:Nat)=>if k=Int.toNat ((6:Int) - (↑j:Int)) then [.int .u8 ((48:Int)+Int.tmod (↑(pw V j):Int) (10:Int))] else [.int .u8 (bif decide (7≤k+j) then dgI V k else (0:Int))]) false)] [(0,.row 5 1 7 (fun (k:Nat)=>[.int .u8 (bif decide (7≤k+i') then dgI V k else (0:Int))]) false)])∧P i') ((∀ (i:Nat),i<7→true=true)∧∃ (O':List (Nat×AObj)),waf [(0,.row 5 1 7 (fun (k:Nat)=>[.int .u8 (bif decide (7≤k+j) then dgI V k else (0:Int))]) false)] O'∧R (.exit 0) (St.mk [(4,.own 0 7)] O' 1 []))):=by kernel_rfl
theorem nf_id (n:Int) (V:Nat) (R:AV→List (Nat×AObj)→Prop):wpFn te [(35,.det wmw),(98,.det weg)] [(4,L_id V)] 2 Tryz.f43 [.int .i64 n] [] R=(letI z4:=(List.flatten (List.replicate (nat_lit 0) [.int .u8 0]):List AV);letI z3:=cdF (wan 7 (wba V));letI z2:=((7≤7∧1=1)∧∀ (i:Nat),i<7→isU8 (wba V i)=true:Prop);letI z1:=TI.mk (TypeDesc.int IntKind.u8) 1 1 (Value.int IntKind.u8 0) false;letI z0:=(way (TI.sz z1) (.int .u8 ((48:Int)+Prod.fst z3)::List.append [] z4));((1:Int)≤(1000000:Int)∧(1000000:Int)≤(1000000:Int))∧inR .i64 ((1000000:Int)+wd1 n (1000000:Int))∧((0:Int)≤(7:Int)∧(7:Int)≤(7:Int)∧(↑(TI.bytes z1):Int) * (7:Int)≤(281474976710656:Int)∧(7:Int)≤(9223372036854775807:Int))∧(TEq [(3,.int .i64 ((1000000:Int)+wd1 n (1000000:Int))),(4,.own 0 7),(5,.int .i64 6)] [(3,.int .i64 (↑(pw V 0):Int)),(4,.own 0 7),(5,.int .i64 ((6:Int) - (↑0:Int)))]∧waf [(0,.row 5 1 7 (fun (_x:Nat)=>[.int .u8 0]) false)] [(0,.row 5 1 7 (fun (k:Nat)=>[.int .u8 (bif decide (7≤k+0) then dgI V k else (0:Int))]) false)])∧V<2000000∧z2∧True∧z2∧inR .i64 ((48:Int)+Prod.fst z3)∧inR .u8 ((48:Int)+Prod.fst z3)∧(1≤16777216∧1=1∧1≤9223372036854775807)∧((1≤1∧1=1)∧∀ (i:Nat),i<1→isU8 (way (TI.sz z1) (.int .u8 ((48:Int)+Prod.fst z3)::List.append [] z4) i)=true)∧List.length (wan 7 (wba V))+List.length (wan 1 z0)≤9223372036854775807∧R (.str (wan 7 (wba V)++wan 1 z0)) []):=by kernel_rfl
theorem pw_step (V j:Nat):Int.tdiv (pw V j:Nat) 10=(pw V (j+1):Nat):=by
 rw [Int.tdiv_eq_ediv_of_nonneg (Int.natCast_nonneg _)]
 unfold pw
 rw [Nat.pow_succ, ← Nat.div_div_eq_div_mul]
 rfl
theorem pw_le (V j:Nat):pw V j≤V:=Nat.div_le_self _ _
theorem id_loop (hP:C.P=Tryz.prog) (V:Nat):wak C 0 39 (wam Tryz.f43 4) (L_id V):=by
 have _:C.Loose:=inferInstance
 rintro st Q ⟨h0,hv,hQ⟩
 refine wak.mk (prg hP) [] 0 .nil [3,4,5] [4] [] (wmt V) (fun j=>j≤7) (fun j=>7 - j) 0 (by omega) h0 (fun j hj=>?_) (fun i=>⟨fun _ _=>rfl,trivial⟩)
 rw [wz9]
 have hle:=pw_le V j
 have ht:Int.tmod (pw V j:Nat) 10=((pw V j % 10:Nat):Int):=by
  rw [Int.tmod_eq_emod_of_nonneg (Int.natCast_nonneg _)];rfl
 rw [ht,pw_step]
 have hle':=pw_le V (j+1)
 have hm:=Nat.mod_lt (pw V j) (show 0<10 by omega)
 refine waj (fun h=>?_) (fun h=>⟨fun _ _=>rfl,_,?_,hQ⟩)
 ·refine ⟨by omega,by simp only [inR];omega,by simp only [inR];omega,⟨h,by omega⟩,⟨rfl,by omega,rfl⟩,⟨by omega,by simp only [inR];omega⟩,by simp only [inR];omega,j+1,⟨?_,⟨rfl,rfl,rfl,rfl,rfl,fun k hk=>?_⟩,trivial⟩,by omega,by omega⟩
  ·rw [show (6:Int) - (j:Int) - 1=6 - ((j+1:Nat):Int) by omega]
   rfl
  ·dsimp only
   split
   ·rename_i e
    have e':6 - k=j:=by omega
    rw [decide_eq_true (show 7≤k+(j+1) by omega)]
    unfold dgI
    rw [e'];rfl
   ·rename_i e
    by_cases h7:7≤k+j
    ·rw [decide_eq_true h7,decide_eq_true (show 7≤k+(j+1) by omega)]
    ·rw [decide_eq_false h7,decide_eq_false (show ¬ 7≤k+(j+1) by omega)]
 ·have:j=7:=by omega
  subst this
  refine ⟨⟨rfl,rfl,rfl,rfl,rfl,fun k hk=>?_⟩,trivial⟩
  dsimp only
  rw [decide_eq_true (show 7≤k+7 by omega)]
  rfl
theorem wkj (hP:C.P=Tryz.prog):wag C 43 S_id:=by
 rintro args objs U Os vc h hvc
 unfold S_id at h
 split at h<;>simp only [Option.some.injEq,Prod.mk.injEq,reduceCtorEq] at h
 rename_i n
 obtain ⟨rfl,rfl,rfl⟩:=h
 refine wag.wpL (prg hP) [(35,.det wmw),(98,.det weg)] [(4,L_id (idV n))] 2 (.cons (fold_ok hP) (.cons (cdR_ok hP) .nil)) (hP ▸ Tryz.func43) rfl rfl rfl [(wam Tryz.f43 4,L_id (idV n))] (by kernel_rfl) ⟨id_loop hP _,trivial⟩ ?_
 rw [nf_id]
 have hf:=wip (show (1:Int)≤1000000 by omega) n
 have hV:((idV n:Nat):Int)=1000000+wd1 n 1000000:=by unfold idV;omega
 have hl:=wii n
 have hc:=wvs (id7 n)
 refine ⟨⟨by omega,by omega⟩,by simp only [inR];omega,⟨by omega,by omega,by decide,by omega⟩,⟨?_,⟨rfl,rfl,rfl,rfl,rfl,fun k hk=>?_⟩,trivial⟩,by omega,⟨⟨by omega,rfl⟩,fun _ _=>rfl⟩,trivial,⟨⟨by omega,rfl⟩,fun _ _=>rfl⟩,?_,?_,⟨by omega,rfl,by omega⟩,⟨⟨by omega,rfl⟩,fun i hi=>?_⟩,?_,rfl,rfl⟩
 ·rw [← hV]
  show TEq [(3,.int .i64 ((idV n:Nat):Int)),(4,.own 0 7),(5,.int .i64 6)] [(3,.int .i64 ((idV n / 1:Nat):Int)),(4,.own 0 7),(5,.int .i64 6)]
  rw [Nat.div_one];rfl
 ·dsimp only
  rw [decide_eq_false (show ¬ 7≤k+0 by omega)];rfl
 ·show inR .i64 (48+(cdF (id7 n)).1)
  simp only [inR];omega
 ·show inR .u8 (48+(cdF (id7 n)).1)
  simp only [inR];omega
 ·obtain rfl:i=0:=by omega
  rfl
 ·show (id7 n).length+_≤_
  rw [hl];simp [wan]
theorem wy1 (s:List UInt8) (R:AV→List (Nat×AObj)→Prop):wpFn te [(72,.det wde)] [] 0 Tryz.f178 [.str s] [] R=((List.length s<4294967281∧0<4294967281∧0<4294967281∧0<4294967281)∧R (.bool !decide (msgF (MG.mk s (0:Int) (0:Int) (VT.mk [] [] (0:Int) (0:Int) (0:Int) (0:Int) []) (DT.mk [] [] (0:Int) [] (0:Int)))=(110:Int))) []):=by kernel_rfl
theorem wyn (o p:List UInt8) (per u tv:Int) (R:AV→List (Nat×AObj)→Prop):wpFn te [(178,.det wlt),(160,.det wcl)] [] 0 Tryz.f145 [.agg [.str o,.str p,.int .i64 per,.int .i64 u,.int .i64 tv]] [] R=(letI z0:=R (.bool false) [];List.length o<4294967281∧wab (wa0 o) (True∧wab (wa9 p) (wab (decide ((0:Int)≤per)) (wab (decide (per≤(5999:Int))) (wab (decide ((1:Int)≤min u tv)) (R (.bool (decide (max u tv≤(1099511627776:Int)))) []) z0) z0) z0) z0) z0):=by kernel_rfl
theorem nf_sv (g:Nat→RW) (n:Nat) (R:AV→List (Nat×AObj)→Prop):wpFn te [(145,.det wd9)] [(4,L_sv g n)] 0 Tryz.f105 [.view 5 n (wai g)] [] R=(wab (decide ((24000:Int)<(↑n:Int))) (R (.int .i64 130) []) (some (St.mk [(8,.view 5 n (wai g)),(9,.int .i64 (↑n:Int)),(10,.int .i64 0)] [] 0 [])=some (St.mk [(8,.view 5 n (wai g)),(9,.int .i64 (↑n:Int)),(10,.int .i64 (↑0:Int))] [] 0 [])∧n≤24000∧(∀ (i:Nat),i<n→List.length (RW.o (g i))<4294967281)∧wab (wdd g n) (R (.int .i64 0) []) (R (.int .i64 131) []))):=by kernel_rfl
theorem wyz (g:Nat→RW) (n k:Nat) (P:Nat→Prop) (R:Exit→St→Prop):wa3 ⟨te,[(145,.det wd9)],[],0,18,0⟩ (wa4 Tryz.f105 4) [8,9,10] [] [2] (S_sv g n) P R (S_sv g n k)=(letI z0:=(g (Int.toNat (↑k:Int)));wab (decide ((↑k:Int)<(↑n:Int))) (((0:Int)≤(↑k:Int)∧(↑k:Int)<(↑n:Int)∧5=5)∧List.length (RW.o z0)<4294967281∧wab (!rowF (RW.mk (RW.o z0) (RW.p z0) (RW.per z0) (RW.u z0) (RW.tv z0))) (R .ret (St.mk [(2,.int .i64 131)] [] 0 [])) (inR .i64 ((↑k:Int)+(1:Int))∧∃ (i':Nat),some (St.mk [(8,.view 5 n (wai g)),(9,.int .i64 (↑n:Int)),(10,.int .i64 ((↑k:Int)+(1:Int)))] [] 0 [])=some (St.mk [(8,.view 5 n (wai g)),(9,.int .i64 (↑n:Int)),(10,.int .i64 (↑i':Int))] [] 0 [])∧P i')) (R (.exit 0) (St.mk [] [] 0 []))):=by kernel_rfl
theorem wzm (n:Nat) (v:Nat→Int) (a:Int) (R:AV→List (Nat×AObj)→Prop):wpFn te [(42,.det wbh)] [] 0 Tryz.f80 [.ptr 0 0] [.cells [.view 1 n (waa v),.int .i64 a] 27] R=((3≤16777216∧1=1∧3≤9223372036854775807)∧(27=27∧1=1∧waa v=waa (vInt (waa v))∧((1:Int)≤(3:Int)∧(3:Int)≤(1000000:Int))∧(0:Int)≤a∧a≤(4611686018427387904:Int))∧((0:Int)≤wac n (vInt (waa v)) a (3:Int)∧wac n (vInt (waa v)) a (3:Int)<(↑3:Int))∧(Int.toNat (wac n (vInt (waa v)) a (3:Int))<3∧1=1)∧R (.str (List.getD [[(111:UInt8),49],[(111:UInt8),50],[(112:UInt8)]] (Int.toNat (wac n (vInt (waa v)) a (3:Int))) [])) [(0,.cells [.view 1 n (waa v),.int .i64 (a+(1:Int))] 27)]):=by kernel_rfl
theorem wyx (n:Nat) (v:Nat→Int) (a:Int) (R:AV→List (Nat×AObj)→Prop):wpFn te [(42,.det wbh),(43,.det S_id)] [] 0 Tryz.f81 [.ptr 0 0] [.cells [.view 1 n (waa v),.int .i64 a] 27] R=((27=27∧1=1∧waa v=waa (vInt (waa v))∧((1:Int)≤(4:Int)∧(4:Int)≤(1000000:Int))∧(0:Int)≤a∧a≤(4611686018427387904:Int))∧True∧R (.str (idF (wac n (vInt (waa v)) a (4:Int)))) [(0,.cells [.view 1 n (waa v),.int .i64 (a+(1:Int))] 27)]):=by kernel_rfl
theorem nf_trow (n:Nat) (v:Nat→Int) (a:Int) (R:AV→List (Nat×AObj)→Prop):wpFn te [(42,.det wbh),(80,.det wc2),(81,.det wc1)] [] 0 Tryz.f37 [.ptr 0 0] [.cells [.view 1 n (waa v),.int .i64 a] 27] R=(letI z2:=(a+(1:Int)+(1:Int)+(1:Int)+(1:Int)+(1:Int));letI z1:=(4611686018427387904:Int);letI z0:=(a+(1:Int)+(1:Int)+(1:Int)+(1:Int));(27=27∧1=1∧waa v=waa (vInt (waa v))∧((1:Int)≤(20:Int)∧(20:Int)≤(1000000:Int))∧(0:Int)≤a∧a≤z1)∧inR .i64 ((1:Int)+wac n (vInt (waa v)) a (20:Int))∧(27=27∧1=1∧waa v=waa (vInt (waa v))∧(0:Int)≤a+(1:Int)∧a+(1:Int)≤(4611686018427387000:Int))∧(27=27∧1=1∧waa v=waa (vInt (waa v))∧(0:Int)≤a+(1:Int)+(1:Int)∧a+(1:Int)+(1:Int)≤(4611686018427387000:Int))∧(27=27∧1=1∧waa v=waa (vInt (waa v))∧((1:Int)≤(4:Int)∧(4:Int)≤(1000000:Int))∧(0:Int)≤a+(1:Int)+(1:Int)+(1:Int)∧a+(1:Int)+(1:Int)+(1:Int)≤z1)∧inR .i64 ((1440:Int)+wac n (vInt (waa v)) (a+(1:Int)+(1:Int)+(1:Int)) (4:Int))∧(27=27∧1=1∧waa v=waa (vInt (waa v))∧((1:Int)≤(30:Int)∧(30:Int)≤(1000000:Int))∧(0:Int)≤a+(1:Int)+(1:Int)+(1:Int)+(1:Int)∧a+(1:Int)+(1:Int)+(1:Int)+(1:Int)≤z1)∧inR .i64 ((90:Int)+wac n (vInt (waa v)) z0 (30:Int))∧inR .i64 (((1:Int)+wac n (vInt (waa v)) a (20:Int)) * ((90:Int)+wac n (vInt (waa v)) z0 (30:Int)))∧(27=27∧1=1∧waa v=waa (vInt (waa v))∧((1:Int)≤(3:Int)∧(3:Int)≤(1000000:Int))∧(0:Int)≤a+(1:Int)+(1:Int)+(1:Int)+(1:Int)+(1:Int)∧a+(1:Int)+(1:Int)+(1:Int)+(1:Int)+(1:Int)≤z1)∧inR .i64 (((1:Int)+wac n (vInt (waa v)) a (20:Int)) * ((90:Int)+wac n (vInt (waa v)) z0 (30:Int))+wac n (vInt (waa v)) z2 (3:Int))∧(True∧True)∧R (.agg [.str (outF (wac n (vInt (waa v)) (a+(1:Int)) (3:Int))),.str (idF (wac n (vInt (waa v)) (a+(1:Int)+(1:Int)) (4:Int))),.int .i64 ((1440:Int)+wac n (vInt (waa v)) (a+(1:Int)+(1:Int)+(1:Int)) (4:Int)),.int .i64 ((1:Int)+wac n (vInt (waa v)) a (20:Int)),.int .i64 (((1:Int)+wac n (vInt (waa v)) a (20:Int)) * ((90:Int)+wac n (vInt (waa v)) z0 (30:Int))+wac n (vInt (waa v)) z2 (3:Int))]) [(0,.cells [.view 1 n (waa v),.int .i64 (a+(1:Int)+(1:Int)+(1:Int)+(1:Int)+(1:Int)+(1:Int))] 27)]):=by kernel_rfl
theorem wxd (hP:C.P=Tryz.prog) (hL:∀ w,C.laid w→LaidW w):wag C 178 wlt:=by
 rintro args objs U Os vc h hvc
 unfold wlt at h
 split at h<;>simp only [Option.some.injEq,Prod.mk.injEq,reduceCtorEq] at h
 rename_i s
 obtain ⟨rfl,rfl,rfl⟩:=h
 refine wag.wp0 (prg hP) [(72,.det wde)] 0 (.cons (wps hP hL) .nil) (hP ▸ Tryz.func178) rfl rfl rfl ?_
 rw [wy1]
 refine ⟨⟨hvc,by omega,by omega,by omega⟩,?_,rfl⟩
 unfold msgF
 cases wa0 s<;>rfl
theorem wrx (hP:C.P=Tryz.prog) (hL:∀ w,C.laid w→LaidW w):wag C 145 wd9:=by
 rintro args objs U Os vc h hvc
 unfold wd9 at h
 split at h<;>simp only [Option.some.injEq,Prod.mk.injEq,reduceCtorEq] at h
 rename_i o p per u tv
 obtain ⟨rfl,rfl,rfl⟩:=h
 refine wag.wp0 (prg hP) [(178,.det wlt),(160,.det wcl)] 0 (.cons (wxd hP hL) (.cons (wjd hP (whu hP)) .nil)) (hP ▸ Tryz.func145) rfl rfl rfl ?_
 rw [wyn]
 unfold rowF wbg
 dsimp only
 generalize wa0 o=b1,wa9 p=b2,decide (0≤per)=b3,decide (per≤5999)=b4,decide (1≤min u tv)=b5,decide (max u tv≤1099511627776)=b6
 refine ⟨hvc,?_⟩
 cases b1
 ·exact ⟨rfl,rfl⟩
 refine ⟨trivial,?_⟩
 cases b2
 ·exact ⟨rfl,rfl⟩
 cases b3
 ·exact ⟨rfl,rfl⟩
 cases b4
 ·exact ⟨rfl,rfl⟩
 cases b5<;>exact ⟨rfl,rfl⟩
theorem wv6 {g:Nat→RW} {k:Nat} (h:rowF (g k)=false):∀ n,k<n→wdd g n=false
 |0,hn=>by omega
 |n+1,hn=>by
  rw [wdd]
  by_cases e:k=n
  ·subst e;rw [h,Bool.and_false]
  ·rw [wv6 h n (by omega),Bool.false_and]
theorem sv_loop (hP:C.P=Tryz.prog) (hL:∀ w,C.laid w→LaidW w) (g:Nat→RW) (n:Nat):wak C 0 18 (wam Tryz.f105 4) (L_sv g n):=by
 rintro st Q ⟨h0,hn,hs,hQ⟩
 have hR:=wbx hQ
 refine wak.mk (prg hP) [(145,.det wd9)] 0 (.cons (wrx hP hL) .nil) [8,9,10] [] [2] (S_sv g n) (fun k=>k≤n∧wdd g k=true) (fun k=>n - k) 0 ⟨Nat.zero_le _,rfl⟩ h0 (fun k hk=>?_)
 obtain ⟨hkn,hok⟩:=hk
 rw [wyz,Int.toNat_natCast]
 refine waj (fun h1=>?_) (fun h1=>?_)
 ·refine ⟨⟨by omega,by omega,rfl⟩,hs k (by omega),wcd (fun h2=>hR.2 (wv6 h2 n (by omega))) (fun h2=>⟨by simp only [inR];omega,k+1,rfl,⟨by omega,?_⟩,by omega⟩)⟩
  rw [wdd,hok];exact h2
 ·have:k=n:=by omega
  subst this
  exact hR.1 hok
theorem wr8 (hP:C.P=Tryz.prog) (hL:∀ w,C.laid w→LaidW w):wag C 105 wlp:=by
 rintro args objs U Os vc h hvc
 unfold wlp at h
 split at h<;>simp only [Option.some.injEq,Prod.mk.injEq,reduceCtorEq] at h
 rename_i n f
 obtain ⟨rfl,rfl,rfl⟩:=h
 obtain ⟨hn,hf,hs⟩:=hvc
 generalize rwOf f=g at *
 subst hf
 unfold svF
 refine wag.wpL (prg hP) [(145,.det wd9)] [(4,L_sv g n)] 0 (.cons (wrx hP hL) .nil) (hP ▸ Tryz.func105) rfl rfl rfl [(wam Tryz.f105 4,L_sv g n)] (by kernel_rfl) ⟨sv_loop hP hL g n,trivial⟩ ?_
 rw [nf_sv]
 refine waj (fun h1=>?_) (fun h1=>⟨rfl,by omega,hs,waw (fun h2=>?_) (fun h2=>?_)⟩)
 ·rw [decide_eq_true (show 24000<n by omega)];exact ⟨rfl,rfl⟩
 ·rw [decide_eq_false (show ¬ 24000<n by omega),h2];exact ⟨rfl,rfl⟩
 ·rw [decide_eq_false (show ¬ 24000<n by omega),h2];exact ⟨rfl,rfl⟩
theorem wgt (hP:C.P=Tryz.prog):wag C 80 wc2:=by
 rintro args objs U Os vc h hvc
 unfold wc2 at h
 split at h<;>simp only [Option.some.injEq,Prod.mk.injEq,reduceCtorEq] at h
 rename_i sz n f a t
 obtain ⟨rfl,rfl,rfl⟩:=h
 obtain ⟨rfl,rfl,hf,h1,h2⟩:=hvc
 rw [hf]
 generalize vInt f=v
 have hw:vInt (waa v)=v:=rfl
 refine wag.wp0 (prg hP) [(42,.det wbh)] 0 (.cons (wco hP) .nil) (hP ▸ Tryz.func80) rfl rfl rfl ?_
 rw [wzm]
 have r:=wax (show (1:Int)≤3 by omega) n v a
 exact ⟨⟨by omega,rfl,by omega⟩,⟨rfl,rfl,rfl,⟨by omega,by omega⟩,by omega,by omega⟩,⟨r.1,r.2⟩,⟨by rw [hw];omega,rfl⟩,rfl,rfl⟩
theorem wgl (hP:C.P=Tryz.prog):wag C 81 wc1:=by
 rintro args objs U Os vc h hvc
 unfold wc1 at h
 split at h<;>simp only [Option.some.injEq,Prod.mk.injEq,reduceCtorEq] at h
 rename_i sz n f a t
 obtain ⟨rfl,rfl,rfl⟩:=h
 obtain ⟨rfl,rfl,hf,h1,h2⟩:=hvc
 rw [hf]
 generalize vInt f=v
 have hw:vInt (waa v)=v:=rfl
 refine wag.wp0 (prg hP) [(42,.det wbh),(43,.det S_id)] 0 (.cons (wco hP) (.cons (wkj hP) .nil)) (hP ▸ Tryz.func81) rfl rfl rfl ?_
 rw [wyx]
 exact ⟨⟨rfl,rfl,rfl,⟨by omega,by omega⟩,by omega,by omega⟩,trivial,rfl,rfl⟩
theorem wsy (n:Nat) (v:Nat→Int) (a:Int):1≤(rowV n v a).u∧(rowV n v a).u≤20∧90≤(rowV n v a).tv∧(rowV n v a).tv≤2382:=by
 have r1:=wax (show (1:Int)≤20 by omega) n v a
 have r2:=wax (show (1:Int)≤30 by omega) n v (a+1+1+1+1)
 have r3:=wax (show (1:Int)≤3 by omega) n v (a+1+1+1+1+1)
 have b1:(1+wac n v a 20) * (90+wac n v (a+1+1+1+1) 30)≤20 * 119:=Int.mul_le_mul (by omega) (by omega) (by omega) (by omega)
 have b2:1 * 90≤(1+wac n v a 20) * (90+wac n v (a+1+1+1+1) 30):=Int.mul_le_mul (by omega) (by omega) (by omega) (by omega)
 unfold rowV
 dsimp only
 refine ⟨by omega,by omega,?_,?_⟩<;>omega
theorem wh5:∀ i,i<3→wa0 (List.getD [[111,49],[111,50],[112]] i [])=true∧(List.getD [[111,49],[111,50],[112]] i ([]:List UInt8)).length≤2:=by decide+kernel
theorem wpf (n:Nat) (v:Nat→Int) (a:Int):rowF (rowV n v a)=true∧(rowV n v a).o.length≤2:=by
 obtain ⟨b1,b2,b3,b4⟩:=wsy n v a
 have r1:=wax (show (1:Int)≤3 by omega) n v (a+1)
 have r2:=wax (show (1:Int)≤4 by omega) n v (a+1+1+1)
 have ho:=wh5 (wac n v (a+1) 3).toNat (by omega)
 refine ⟨?_,ho.2⟩
 unfold rowF wbg
 rw [show wa0 (rowV n v a).o=true from ho.1,show wa9 (rowV n v a).p=true from wdz _,decide_eq_true (show 0≤(rowV n v a).per by show 0≤1440+wac n v (a+1+1+1) 4;omega),decide_eq_true (show (rowV n v a).per≤5999 by show 1440+wac n v (a+1+1+1) 4≤5999;omega),
  decide_eq_true (show 1≤min (rowV n v a).u (rowV n v a).tv by omega),decide_eq_true (show max (rowV n v a).u (rowV n v a).tv≤1099511627776 by omega)]
 rfl
theorem wo0 (hP:C.P=Tryz.prog):wag C 37 wfn:=by
 rintro args objs U Os vc h hvc
 unfold wfn at h
 split at h<;>simp only [Option.some.injEq,Prod.mk.injEq,reduceCtorEq] at h
 rename_i sz n f a t
 obtain ⟨rfl,rfl,rfl⟩:=h
 obtain ⟨rfl,rfl,hf,h1,h2⟩:=hvc
 rw [hf]
 generalize vInt f=v
 have hw:vInt (waa v)=v:=rfl
 refine wag.wp0 (prg hP) [(42,.det wbh),(80,.det wc2),(81,.det wc1)] 0 (.cons (wco hP) (.cons (wgt hP) (.cons (wgl hP) .nil))) (hP ▸ Tryz.func37) rfl rfl rfl ?_
 rw [nf_trow,hw]
 have r1:=wax (show (1:Int)≤20 by omega) n v a
 have r2:=wax (show (1:Int)≤30 by omega) n v (a+1+1+1+1)
 have r3:=wax (show (1:Int)≤3 by omega) n v (a+1+1+1+1+1)
 have r4:=wax (show (1:Int)≤4 by omega) n v (a+1+1+1)
 have b1:(1+wac n v a 20) * (90+wac n v (a+1+1+1+1) 30)≤20 * 119:=Int.mul_le_mul (by omega) (by omega) (by omega) (by omega)
 have b2:1 * 90≤(1+wac n v a 20) * (90+wac n v (a+1+1+1+1) 30):=Int.mul_le_mul (by omega) (by omega) (by omega) (by omega)
 exact ⟨⟨rfl,rfl,rfl,⟨by omega,by omega⟩,by omega,by omega⟩,by simp only [inR];omega,⟨rfl,rfl,rfl,by omega,by omega⟩,⟨rfl,rfl,rfl,by omega,by omega⟩,⟨rfl,rfl,rfl,⟨by omega,by omega⟩,by omega,by omega⟩,by simp only [inR];omega,⟨rfl,rfl,rfl,⟨by omega,by omega⟩,by omega,by omega⟩,by simp only [inR];omega,by simp only [inR];omega,⟨rfl,rfl,rfl,⟨by omega,by omega⟩,by omega,by omega⟩,by simp only [inR];omega,⟨trivial,trivial⟩,rfl,rfl⟩
theorem nf_rws (n:Nat) (v:Nat→Int) (a most:Int) (R:AV→List (Nat×AObj)→Prop):wpFn te [(37,.det wfn),(42,.det wbh)] [(3,wnv n v (a+1) (wac n v a (most+1)))] 0 Tryz.f79 [.ptr 0 0,.int .i64 most] [.cells [.view 1 n (waa v),.int .i64 a] 27] R=(letI z1:=(most+(1:Int));letI z0:=(RwS.mk 0 (fun (_x:Nat)=>default) (a+(1:Int)));inR .i64 z1∧(27=27∧1=1∧waa v=waa (vInt (waa v))∧((1:Int)≤most+(1:Int)∧most+(1:Int)≤(1000000:Int))∧(0:Int)≤a∧a≤(4611686018427387904:Int))∧(TEq [(0,.ptr 0 0),(5,.own 1 0),(9,.int .i64 (wac n (vInt (waa v)) a z1)),(10,.int .i64 0)] [(0,.ptr 0 0),(5,.own 1 0),(9,.int .i64 (wac n v a z1)),(10,.int .i64 (↑(RwS.c z0):Int))]∧waf [(0,.cells [.view 1 n (waa v),.int .i64 (a+(1:Int))] 27),(1,.row 61 5 0 (fun (_x:Nat)=>[]) false)] [(0,.cells [.view 1 n (waa v),.int .i64 (RwS.a z0)] 27),(1,.row 61 5 0 (wai (RwS.g z0)) false)])∧((0:Int)≤wac n v a z1∧wac n v a z1≤(100:Int))∧((0:Int)≤a+(1:Int)∧a+(1:Int)≤(4611686018427375000:Int))∧∀ (i:RwS),RwS.c i=Int.toNat (wac n v a z1)→RwS.a i=a+(1:Int)+(6:Int) * (↑(RwS.c i):Int)→(∀ (j:Nat),j<RwS.c i→RW.Made (RwS.g i j))→(∀ (i_1:Nat),i_1<RwS.c i→true=true)∧∃ (O':List (Nat×AObj)),waf [(0,.cells [.view 1 n (waa v),.int .i64 (RwS.a i)] 27),(1,.row 61 5 (RwS.c i) (wai (RwS.g i)) false)] O'∧R (.own 1 (RwS.c i)) O'):=by kernel_rfl
theorem wy7 (n:Nat) (v:Nat→Int) (N:Int) (i:RwS) (P:RwS→Prop) (R:Exit→St→Prop):wa3 ⟨te,[(37,.det wfn)],[],1,19,0⟩ (wa4 Tryz.f79 3) [0,5,9,10] [5] [] (wlv n v N) P R (wlv n v N i)=(letI z0:=rowV n (vInt (waa v)) (RwS.a i);wab (decide ((↑(RwS.c i):Int)<N)) ((27=27∧1=1∧waa v=waa (vInt (waa v))∧(0:Int)≤RwS.a i∧RwS.a i≤(4611686018427380000:Int))∧(5≤16777216∧5=5∧1≤9223372036854775807)∧((1≤1∧5=5)∧RwS.c i≤RwS.c i∧5=5∧61=61∧5=5∧RwS.c i+1≤9223372036854775807∧(RwS.c i+1) * TI.bytes wcw≤140737488355328)∧inR .i64 ((↑(RwS.c i):Int)+(1:Int))∧∃ (i':RwS),(TEq [(0,.ptr 0 0),(5,.own 1 (RwS.c i+1)),(9,.int .i64 N),(10,.int .i64 ((↑(RwS.c i):Int)+(1:Int)))] [(0,.ptr 0 0),(5,.own 1 (RwS.c i')),(9,.int .i64 N),(10,.int .i64 (↑(RwS.c i'):Int))]∧waf [(0,.cells [.view 1 n (waa v),.int .i64 (RwS.a i+(1:Int)+(1:Int)+(1:Int)+(1:Int)+(1:Int)+(1:Int))] 27),(1,.row 61 5 (RwS.c i+1) (apF (RwS.c i) (wai (RwS.g i)) (way (TI.sz wcw) (.str (RW.o z0):: .str (RW.p z0):: .int .i64 (RW.per z0):: .int .i64 (RW.u z0):: .int .i64 (RW.tv z0)::List.append [] we6))) false)] [(0,.cells [.view 1 n (waa v),.int .i64 (RwS.a i')] 27),(1,.row 61 5 (RwS.c i') (wai (RwS.g i')) false)])∧P i') ((∀ (i_1:Nat),i_1<RwS.c i→true=true)∧∃ (O':List (Nat×AObj)),waf [(0,.cells [.view 1 n (waa v),.int .i64 (RwS.a i)] 27),(1,.row 61 5 (RwS.c i) (wai (RwS.g i)) false)] O'∧R (.exit 0) (St.mk [(5,.own 1 (RwS.c i))] O' 2 []))):=by kernel_rfl
theorem put_ap (g:Nat→RW) (k:Nat) (r:RW) (ch:Nat→List AV) (hch:ch 0=[.str r.o,.str r.p,.int .i64 r.per,.int .i64 r.u,.int .i64 r.tv]) (j:Nat) (hj:j<k+1):apF k (wai g) ch j=wai (RW.put g k r) j:=by
 unfold apF wai RW.put
 by_cases h:j<k
 ·rw [if_pos h,if_pos h]
 ·have:j=k:=by omega
  rw [if_neg h,if_neg h,this,Nat.sub_self,hch]
theorem w1b (n:Nat) (v:Nat→Int) (a:Int):(rowV n v a).Made:=by
 obtain ⟨b1,b2,b3,b4⟩:=wsy n v a
 obtain ⟨c1,c2⟩:=wpf n v a
 exact ⟨c1,c2,⟨b1,b2⟩,by omega,by omega⟩
theorem wxj (hP:C.P=Tryz.prog) (n:Nat) (v:Nat→Int) (a N:Int):wak C 1 19 (wam Tryz.f79 3) (wnv n v a N):=by
 rintro st Q ⟨h0,hN,ha,hQ⟩
 refine AWP.ownNil 5 61 5 ?_
 refine wak.mk (prg hP) [(37,.det wfn)] 0 (.cons (wo0 hP) .nil) [0,5,9,10] [5] [] (wlv n v N) (fun i=>(i.c:Int)≤N∧i.a=a+6 * i.c∧∀ j,j<i.c→(i.g j).Made) (fun i=>N.toNat - i.c) ⟨0,fun _=>default,a⟩
  ⟨hN.1,by show a=a+6 * ((0:Nat):Int);omega,fun j hj=>absurd hj (Nat.not_lt_zero j)⟩ h0 (fun i hi=>?_) (fun i=>⟨fun _ _=>rfl,trivial⟩)
 obtain ⟨h1,h2,h3⟩:=hi
 have hw:vInt (waa v)=v:=rfl
 rw [wy7,hw]
 refine waj (fun q=>?_) (fun q=>⟨fun _ _=>rfl,_,wap _,hQ i (by omega) h2 h3⟩)
 refine ⟨⟨rfl,rfl,rfl,by omega,by omega⟩,⟨by omega,rfl,by omega⟩,⟨⟨Nat.le_refl _,rfl⟩,Nat.le_refl _,rfl,rfl,rfl,by omega,?_⟩,by simp only [inR];omega,⟨i.c+1,RW.put i.g i.c (rowV n v i.a),i.a+1+1+1+1+1+1⟩,⟨rfl,rfl,⟨rfl,rfl,rfl,rfl,rfl,fun j hj=>?_⟩,trivial⟩,⟨?_,?_,fun j hj=>?_⟩,?_⟩
 ·show (i.c+1) * 56≤_
  omega
 ·exact put_ap i.g i.c _ _ rfl j hj
 ·show ((i.c+1:Nat):Int)≤N
  omega
 ·show i.a+1+1+1+1+1+1=a+6 * ((i.c+1:Nat):Int)
  omega
 ·show (RW.put i.g i.c (rowV n v i.a) j).Made
  unfold RW.put
  by_cases h:j<i.c
  ·rw [if_pos h];exact h3 j h
  ·rw [if_neg h];exact w1b n v i.a
 ·show N.toNat - (i.c+1)<N.toNat - i.c
  omega
theorem rows_ok (hP:C.P=Tryz.prog):wbd C 79 wni:=by
 rintro args objs R h
 unfold wni at h
 split at h
 ·rename_i most sz n f a t
  obtain ⟨rfl,rfl,hf,ha,hm,hR⟩:=h
  rw [hf] at hR ⊢
  generalize vInt f=v at *
  have hw:vInt (waa v)=v:=rfl
  refine wbd.wpL (prg hP) [(37,.det wfn),(42,.det wbh)] [(3,wnv n v (a+1) (wac n v a (most+1)))] 0 (.cons (wo0 hP) (.cons (wco hP) .nil)) (hP ▸ Tryz.func79) rfl rfl rfl [(wam Tryz.f79 3,wnv n v (a+1) (wac n v a (most+1)))] (by kernel_rfl) ⟨wxj hP _ _ _ _,trivial⟩ ?_
  rw [nf_rws,hw]
  have r:=wax (show (1:Int)≤most+1 by omega) n v a
  exact ⟨by simp only [inR];omega,⟨rfl,rfl,rfl,⟨by omega,by omega⟩,by omega,by omega⟩,⟨rfl,rfl,⟨rfl,rfl,rfl,rfl,rfl,fun i hi=>absurd hi (Nat.not_lt_zero i)⟩,trivial⟩,⟨by omega,by omega⟩,⟨by omega,by omega⟩,fun i h1 h2 h3=>⟨fun _ _=>rfl,_,wap _,hR i.c i.g i.a (by omega) ⟨by omega,by omega⟩ h3⟩⟩
 ·exact h.elim
end Go.Eng
