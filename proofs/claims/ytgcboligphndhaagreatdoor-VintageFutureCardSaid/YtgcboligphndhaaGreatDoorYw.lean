/- IndexFunc and DeleteFunc at messages, of the marks that stand more than once. -/
import Derived.Test.YtgcboligphndhaaGreatDoorYm
import Derived.Test.YtgcboligphndhaaGreatDoorYs
import Derived.Test.YtgcboligphndhaaGreatDoorYt
import Derived.Test.YtgcboligphndhaaGreatDoorYr
import Derived.Test.YtgcboligphndhaaGreatDoorYu
namespace Go.Eng
open Go.Proofs Go.RowKit
set_option maxRecDepth 20000
theorem nf_cdR (s:List UInt8) (R:AV→List (Nat×AObj)→Prop):wpFn te [] [(5,wol s)] 0 Tryz.f98 [.str s] [] R=(letI z2:=R (.tuple [.int .i64 0,.bool false]) [];letI z1:=(↑(List.length s):Int);letI z0:=(some (St.mk [(0,.str s),(4,.int .i64 0),(16,.int .i64 z1),(17,.int .i64 0)] [] 0 [])=some (St.mk [(0,.str s),(4,.int .i64 (wbb s 0)),(16,.int .i64 z1),(17,.int .i64 (↑0:Int))] [] 0 [])∧List.length s≤12∧wad (List.all s wb1) ((10:Int)≠(0:Int)∧inR .i64 ((10:Int) - Int.tmod (wbb s (List.length s)) (10:Int))∧(10:Int)≠(0:Int)∧R (.tuple [.int .i64 (Int.tmod ((10:Int) - Int.tmod (wbb s (List.length s)) (10:Int)) (10:Int)),.bool true]) []) z2);wad (!decide (z1=(7:Int))) (wad (!decide (z1=(12:Int))) z2 z0) z0):=by kernel_rfl
theorem w0f (s:List UInt8) (k:Nat) (P:Nat→Prop) (R:Exit→St→Prop):wa2 ⟨te,[],[],0,50,0⟩ (wa3 Tryz.f98 5) [0,4,16,17] [4] [2,3] (wm7 s) P R (wm7 s k)=(letI z3:=R .ret (St.mk [(2,.int .i64 0),(3,.bool false)] [] 0 []);letI z1:=(↑(List.length s):Int);letI z2:=((0:Int)≤(↑k:Int)∧(↑k:Int)<z1:Prop);letI z0:=(↑(UInt8.toNat (List.getD s (Int.toNat (↑k:Int)) (0:UInt8))):Int);letI z5:=(wbb s k+(1:Int) * ((z0 - (48:Int)) % (256:Int)));letI z4:=(wbb s k+(3:Int) * ((z0 - (48:Int)) % (256:Int)));wad (decide ((↑k:Int)<z1)) (z2∧wad (decide (z0<(48:Int))) z3 (z2∧wad (decide ((57:Int)<z0)) z3 (inR .i64 (z1 - (↑k:Int))∧(2:Int)≠(0:Int)∧wad (decide (Int.tmod (z1 - (↑k:Int)) (2:Int)=(1:Int))) (z2∧inR .i64 ((z0 - (48:Int)) % (256:Int))∧inR .i64 ((3:Int) * ((z0 - (48:Int)) % (256:Int)))∧inR .i64 z4∧inR .i64 ((↑k:Int)+(1:Int))∧∃ (i':Nat),some (St.mk [(0,.str s),(4,.int .i64 z4),(16,.int .i64 z1),(17,.int .i64 ((↑k:Int)+(1:Int)))] [] 0 [])=some (St.mk [(0,.str s),(4,.int .i64 (wbb s i')),(16,.int .i64 z1),(17,.int .i64 (↑i':Int))] [] 0 [])∧P i') (z2∧inR .i64 ((z0 - (48:Int)) % (256:Int))∧inR .i64 ((1:Int) * ((z0 - (48:Int)) % (256:Int)))∧inR .i64 z5∧inR .i64 ((↑k:Int)+(1:Int))∧∃ (i':Nat),some (St.mk [(0,.str s),(4,.int .i64 z5),(16,.int .i64 z1),(17,.int .i64 ((↑k:Int)+(1:Int)))] [] 0 [])=some (St.mk [(0,.str s),(4,.int .i64 (wbb s i')),(16,.int .i64 z1),(17,.int .i64 (↑i':Int))] [] 0 [])∧P i')))) (R (.exit 0) (St.mk [(4,.int .i64 (wbb s k))] [] 0 []))):=by kernel_rfl
variable {C:Ctx} [C.Loose]
theorem w28 (hP:C.P=Tryz.prog) (s:List UInt8):waj C 0 50 (wam Tryz.f98 5) (wol s):=by
 have _:C.Loose:=inferInstance
 rintro st Q ⟨h0,hlen,hQ⟩
 have hQ:=wcb hQ
 refine waj.mk (prg hP) [] 0 .nil [0,4,16,17] [4] [2,3] (wm7 s) (fun k=>k≤s.length∧∀ j,j<k→48≤(s.getD j 0).toNat∧(s.getD j 0).toNat≤57) (fun k=>s.length - k) 0 ⟨Nat.zero_le _,fun j h=>by omega⟩ h0 fun k ⟨hk,hall⟩=>?_
 rw [w0f]
 have hb:=wvu k hk hall
 refine wak (fun h=>?_) (fun h=>?_)
 ·have hlt:k<s.length:=by omega
  have hret:¬ (48≤(s.getD k 0).toNat∧(s.getD k 0).toNat≤57)→Q .ret ⟨[(2,.int .i64 0),(3,.bool false)],[],0,[]⟩:=fun hno=>hQ.2 (by
   cases ha:s.all wb1 with
   |false=>rfl
   |true=>exact absurd (wkd ha k hlt) hno)
  have e:Int.tmod (↑s.length - ↑k) 2=(↑s.length - ↑k) % 2:=Int.tmod_eq_emod_of_nonneg (by omega)
  have hs:wbb s (k+1)=wbb s k+(1+2 * ((↑s.length - ↑k) % 2)) * (↑(s.getD k 0).toNat - 48):=rfl
  have hgo:(48≤(s.getD k 0).toNat∧(s.getD k 0).toNat≤57)→(k+1≤s.length∧∀ j,j<k+1→48≤(s.getD j 0).toNat∧(s.getD j 0).toNat≤57)∧s.length - (k+1)<s.length - k:=fun hok=>
   ⟨⟨by omega,fun j hj=>by
    rcases Nat.lt_succ_iff_lt_or_eq.1 hj with hj | rfl
    ·exact hall j hj
    ·exact hok⟩,by omega⟩
  simp only [Int.toNat_natCast,inR,e]
  refine ⟨by omega,wak (fun h1=>hret (by omega)) (fun h1=>⟨by omega,wak (fun h2=>hret (by omega)) (fun h2=>⟨by omega,by omega,?_⟩)⟩)⟩
  have hgo:=hgo (by omega)
  have e3:((s.getD k 0).toNat - 48:Int) % 256=(s.getD k 0).toNat - 48:=by omega
  rw [e3]
  refine wak (fun h3=>?_) (fun h3=>?_)
  ·rw [h3] at hs
   exact ⟨by omega,by omega,by omega,by omega,by omega,k+1,by rw [hs];rfl,hgo⟩
  ·have h3:(↑s.length - ↑k:Int) % 2=0:=by omega
   rw [h3] at hs
   exact ⟨by omega,by omega,by omega,by omega,by omega,k+1,by rw [hs];rfl,hgo⟩
 ·have hks:k=s.length:=by omega
  rw [hks]
  exact hQ.1 (w3w fun j hj=>hall j (by omega))
theorem cdR_ok (hP:C.P=Tryz.prog):waf C 98 wfi:=by
 rintro args objs U Os vc h hvc
 unfold wfi at h
 split at h<;>simp only [Option.some.injEq,Prod.mk.injEq,reduceCtorEq] at h
 rename_i s
 obtain ⟨rfl,rfl,rfl⟩:=h
 refine waf.wpL (prg hP) [] [(5,wol s)] 0 .nil (hP ▸ Tryz.func98) rfl rfl rfl [(wam Tryz.f98 5,wol s)] (by kernel_rfl) ⟨w28 hP s,trivial⟩ ?_
 rw [nf_cdR]
 have main:(s.length=7∨s.length=12)→wad (s.all wb1) ((10:Int)≠0∧inR .i64 (10 - Int.tmod (wbb s s.length) 10)∧(10:Int)≠0∧AV.tuple [.int .i64 (Int.tmod (10 - Int.tmod (wbb s s.length) 10) 10),.bool true]= .tuple [.int .i64 (cdF s).1,.bool (cdF s).2]∧([]:List (Nat×AObj))=[])
   (AV.tuple [.int .i64 0,.bool false]= .tuple [.int .i64 (cdF s).1,.bool (cdF s).2]∧([]:List (Nat×AObj))=[]):=by
  intro hl
  have hd:wb4 s 7 12=s.all wb1:=by
   unfold wb4
   rcases hl with h | h<;>simp [h]
  refine waz (fun ha=>?_) (fun ha=>?_)
  ·have hb:=wk2 ha s.length (Nat.le_refl _)
   have e:Int.tmod (wbb s s.length) 10=wbb s s.length % 10:=Int.tmod_eq_emod_of_nonneg (by omega)
   rw [e,Int.tmod_eq_emod_of_nonneg (by omega)]
   refine ⟨by omega,by simp only [inR];omega,by omega,?_,rfl⟩
   simp [cdF,hd,ha]
  ·refine ⟨?_,rfl⟩
   simp [cdF,hd,ha]
 refine wca (fun h1=>wca (fun h2=>⟨?_,rfl⟩) (fun h2=>⟨rfl,by omega,main (by omega)⟩)) (fun h1=>⟨rfl,by omega,main (by omega)⟩)
 have hd:wb4 s 7 12=false:=by unfold wb4;rw [decide_eq_false h1,decide_eq_false h2];rfl
 simp [cdF,hd]
end Go.Eng
namespace Go.Eng
open Go.Proofs Go.RowKit
variable {C:Ctx} [C.Loose]
set_option maxRecDepth 20000
theorem nf_fold (n k:Int) (R:AV→List (Nat×AObj)→Prop):wpFn te [] [] 0 Tryz.f35 [.int .i64 n,.int .i64 k] [] R=(letI z0:=(Int.tmod (IntKind.wrap IntKind.u64 n) (IntKind.wrap IntKind.u64 (max k (1:Int))));True∧True∧IntKind.wrap IntKind.u64 (max k (1:Int))≠(0:Int)∧inR .i64 z0∧R (.int .i64 z0) []):=by kernel_rfl
theorem nf_next (n:Nat) (v:Nat→Int) (a k:Int) (R:AV→List (Nat×AObj)→Prop):wpFn te [] [] 0 Tryz.f42 [.ptr 0 0,.int .i64 k] [.cells [.view 1 n (waa v),.int .i64 a] 27] R=(letI z1:=([(0,.cells [.view 1 n (waa v),.int .i64 (a+(1:Int))] 27)]:List (Nat×AObj));letI z0:=(IntKind.wrap IntKind.u64 (max k (1:Int)));letI z3:=Int.tmod (IntKind.wrap IntKind.u64 0) z0;letI z2:=Int.tmod (IntKind.wrap IntKind.u64 (v (Int.toNat a))) z0;wad (decide (a<(↑n:Int))) (((0:Int)≤a∧a<(↑n:Int)∧1=1)∧inR .i64 (a+(1:Int))∧True∧True∧IntKind.wrap IntKind.u64 (max k (1:Int))≠(0:Int)∧inR .i64 z2∧R (.int .i64 z2) z1) (inR .i64 (a+(1:Int))∧True∧True∧IntKind.wrap IntKind.u64 (max k (1:Int))≠(0:Int)∧inR .i64 z3∧R (.int .i64 z3) z1)):=by kernel_rfl
theorem wre (n:Int):IntKind.wrap .u64 n=n % 18446744073709551616:=by
 show n % (2:Int) ^ 64=_
 rfl
theorem wpj {k:Int} (h:1≤k∧k≤1000000) (x:Int):IntKind.wrap .u64 (max k 1)≠0∧Int.tmod (IntKind.wrap .u64 x) (IntKind.wrap .u64 (max k 1))=wd3 x k:=by
 have e:IntKind.wrap .u64 (max k 1)=k:=by
  rw [wre,Int.max_eq_left h.1]
  omega
 rw [e,wre]
 have hx:0≤x % 18446744073709551616:=by omega
 rw [Int.tmod_eq_emod_of_nonneg hx]
 exact ⟨by omega,rfl⟩
theorem fold_ok (hP:C.P=Tryz.prog):waf C 35 wmv:=by
 have _:C.Loose:=inferInstance
 rintro args objs U Os vc h hvc
 unfold wmv at h
 split at h<;>simp only [Option.some.injEq,Prod.mk.injEq,reduceCtorEq] at h
 rename_i n k
 obtain ⟨rfl,rfl,rfl⟩:=h
 refine waf.wp0 (prg hP) [] 0 .nil (hP ▸ Tryz.func35) rfl rfl rfl ?_
 rw [nf_fold]
 obtain ⟨h1,h2⟩:=wpj hvc n
 have h3:=wio hvc.1 n
 rw [h2]
 exact ⟨trivial,trivial,h1,by simp only [inR];omega,rfl,rfl⟩
theorem wb7 (hP:C.P=Tryz.prog):waf C 42 wba:=by
 have _:C.Loose:=inferInstance
 rintro args objs U Os vc h hvc
 unfold wba at h
 split at h<;>simp only [Option.some.injEq,Prod.mk.injEq,reduceCtorEq] at h
 rename_i k sz n f a t
 obtain ⟨rfl,rfl,rfl⟩:=h
 obtain ⟨rfl,rfl,hf,hk,ha⟩:=hvc
 rw [hf]
 have hv:vInt (waa (vInt f))=vInt f:=rfl
 rw [hv]
 generalize vInt f=v at *
 refine waf.wp0 (prg hP) [] 0 .nil (hP ▸ Tryz.func42) rfl rfl rfl ?_
 rw [nf_next]
 unfold wab
 refine wak (fun h=>?_) (fun h=>?_)
 ·obtain ⟨h1,h2⟩:=wpj hk (v a.toNat)
  have h3:=wio hk.1 (v a.toNat)
  rw [h2,decide_eq_true h]
  exact ⟨⟨by omega,by omega,rfl⟩,by simp only [inR];omega,trivial,trivial,h1,by simp only [inR];omega,rfl,rfl⟩
 ·obtain ⟨h1,h2⟩:=wpj hk 0
  have h3:=wio hk.1 0
  rw [h2,decide_eq_false h]
  exact ⟨by simp only [inR];omega,trivial,trivial,h1,by simp only [inR];omega,rfl,rfl⟩
theorem wzu (V j:Nat) (P:Nat→Prop) (R:Exit→St→Prop):wa2 ⟨te,[],[],0,39,0⟩ (wa3 Tryz.f43 4) [3,4,5] [4] [] (wmq V) P R (wmq V j)=(letI z0:=(Int.tdiv (↑(pw V j):Int) (10:Int));wad (decide ((0:Int)≤(6:Int) - (↑j:Int))) ((10:Int)≠(0:Int)∧inR .i64 ((48:Int)+Int.tmod (↑(pw V j):Int) (10:Int))∧inR .u8 ((48:Int)+Int.tmod (↑(pw V j):Int) (10:Int))∧((0:Int)≤(6:Int) - (↑j:Int)∧(6:Int) - (↑j:Int)<(↑7:Int))∧(List.length [AV.int .u8 ((48:Int)+Int.tmod (↑(pw V j):Int) (10:Int))]=1∧Int.toNat ((6:Int) - (↑j:Int))<7∧1=1)∧((10:Int)≠(0:Int)∧inR .i64 z0)∧inR .i64 ((6:Int) - (↑j:Int) - (1:Int))∧∃ (i':Nat),(TEq [(3,.int .i64 z0),(4,.own 0 7),(5,.int .i64 ((6:Int) - (↑j:Int) - (1:Int)))] [(3,.int .i64 (↑(pw V i'):Int)),(4,.own 0 7),(5,.int .i64 ((6:Int) - (↑i':Int)))]∧wae [(0,.row 5 1 7 (fun (k:Nat)=>if k=Int.toNat ((6:Int) - (↑j:Int)) then [.int .u8 ((48:Int)+Int.tmod (↑(pw V j):Int) (10:Int))] else [.int .u8 (bif decide (7≤k+j) then dgI V k else (0:Int))]) false)] [(0,.row 5 1 7 (fun (k:Nat)=>[.int .u8 (bif decide (7≤k+i') then dgI V k else (0:Int))]) false)])∧P i') ((∀ (i:Nat),i<7→true=true)∧∃ (O':List (Nat×AObj)),wae [(0,.row 5 1 7 (fun (k:Nat)=>[.int .u8 (bif decide (7≤k+j) then dgI V k else (0:Int))]) false)] O'∧R (.exit 0) (St.mk [(4,.own 0 7)] O' 1 []))):=by kernel_rfl
theorem nf_id (n:Int) (V:Nat) (R:AV→List (Nat×AObj)→Prop):wpFn te [(35,.det wmv),(98,.det wfi)] [(4,L_id V)] 2 Tryz.f43 [.int .i64 n] [] R=(letI z4:=(List.flatten (List.replicate (nat_lit 0) [.int .u8 0]):List AV);letI z3:=cdF (wao 7 (wa9 V));letI z2:=((7≤7∧1=1)∧∀ (i:Nat),i<7→isU8 (wa9 V i)=true:Prop);letI z1:=TI.mk (TypeDesc.int IntKind.u8) 1 1 (Value.int IntKind.u8 0) false;letI z0:=(waq (TI.sz z1) (.int .u8 ((48:Int)+Prod.fst z3)::List.append [] z4));((1:Int)≤(1000000:Int)∧(1000000:Int)≤(1000000:Int))∧inR .i64 ((1000000:Int)+wd3 n (1000000:Int))∧((0:Int)≤(7:Int)∧(7:Int)≤(7:Int)∧(↑(TI.bytes z1):Int) * (7:Int)≤(281474976710656:Int)∧(7:Int)≤(9223372036854775807:Int))∧(TEq [(3,.int .i64 ((1000000:Int)+wd3 n (1000000:Int))),(4,.own 0 7),(5,.int .i64 6)] [(3,.int .i64 (↑(pw V 0):Int)),(4,.own 0 7),(5,.int .i64 ((6:Int) - (↑0:Int)))]∧wae [(0,.row 5 1 7 (fun (_x:Nat)=>[.int .u8 0]) false)] [(0,.row 5 1 7 (fun (k:Nat)=>[.int .u8 (bif decide (7≤k+0) then dgI V k else (0:Int))]) false)])∧V<2000000∧z2∧True∧z2∧inR .i64 ((48:Int)+Prod.fst z3)∧inR .u8 ((48:Int)+Prod.fst z3)∧(1≤16777216∧1=1∧1≤9223372036854775807)∧((1≤1∧1=1)∧∀ (i:Nat),i<1→isU8 (waq (TI.sz z1) (.int .u8 ((48:Int)+Prod.fst z3)::List.append [] z4) i)=true)∧List.length (wao 7 (wa9 V))+List.length (wao 1 z0)≤9223372036854775807∧R (.str (wao 7 (wa9 V)++wao 1 z0)) []):=by kernel_rfl
theorem pw_step (V j:Nat):Int.tdiv (pw V j:Nat) 10=(pw V (j+1):Nat):=by
 rw [Int.tdiv_eq_ediv_of_nonneg (Int.natCast_nonneg _)]
 unfold pw
 rw [Nat.pow_succ, ← Nat.div_div_eq_div_mul]
 rfl
theorem pw_le (V j:Nat):pw V j≤V:=Nat.div_le_self _ _
theorem id_loop (hP:C.P=Tryz.prog) (V:Nat):waj C 0 39 (wam Tryz.f43 4) (L_id V):=by
 have _:C.Loose:=inferInstance
 rintro st Q ⟨h0,hv,hQ⟩
 refine waj.mk (prg hP) [] 0 .nil [3,4,5] [4] [] (wmq V) (fun j=>j≤7) (fun j=>7 - j) 0 (by omega) h0 (fun j hj=>?_) (fun i=>⟨fun _ _=>rfl,trivial⟩)
 rw [wzu]
 have hle:=pw_le V j
 have ht:Int.tmod (pw V j:Nat) 10=((pw V j % 10:Nat):Int):=by
  rw [Int.tmod_eq_emod_of_nonneg (Int.natCast_nonneg _)];rfl
 rw [ht,pw_step]
 have hle':=pw_le V (j+1)
 have hm:=Nat.mod_lt (pw V j) (show 0<10 by omega)
 refine wak (fun h=>?_) (fun h=>⟨fun _ _=>rfl,_,?_,hQ⟩)
 ·refine ⟨by omega,by simp only [inR];omega,by simp only [inR];omega,⟨h,by omega⟩,⟨rfl,by omega,rfl⟩,⟨by omega,by simp only [inR];omega⟩,by simp only [inR];omega,j+1,⟨?_,⟨rfl,rfl,rfl,rfl,rfl,fun k hk=>?_⟩,trivial⟩,by omega,by omega⟩
  ·rw [show (6:Int) - (j:Int) - 1=6 - ((j+1:Nat):Int) by omega]
   rfl
  ·dsimp only
   split
   ·rename_i e
    have e':6 - k=j:=by omega
    rw [decide_eq_true (show 7≤k+(j+1) by omega)]
    unfold dgI
    rw [e'];rfl
   ·rename_i e
    by_cases h7:7≤k+j
    ·rw [decide_eq_true h7,decide_eq_true (show 7≤k+(j+1) by omega)]
    ·rw [decide_eq_false h7,decide_eq_false (show ¬ 7≤k+(j+1) by omega)]
 ·have:j=7:=by omega
  subst this
  refine ⟨⟨rfl,rfl,rfl,rfl,rfl,fun k hk=>?_⟩,trivial⟩
  dsimp only
  rw [decide_eq_true (show 7≤k+7 by omega)]
  rfl
theorem wke (hP:C.P=Tryz.prog):waf C 43 S_id:=by
 rintro args objs U Os vc h hvc
 unfold S_id at h
 split at h<;>simp only [Option.some.injEq,Prod.mk.injEq,reduceCtorEq] at h
 rename_i n
 obtain ⟨rfl,rfl,rfl⟩:=h
 refine waf.wpL (prg hP) [(35,.det wmv),(98,.det wfi)] [(4,L_id (idV n))] 2 (.cons (fold_ok hP) (.cons (cdR_ok hP) .nil)) (hP ▸ Tryz.func43) rfl rfl rfl [(wam Tryz.f43 4,L_id (idV n))] (by kernel_rfl) ⟨id_loop hP _,trivial⟩ ?_
 rw [nf_id]
 have hf:=wio (show (1:Int)≤1000000 by omega) n
 have hV:((idV n:Nat):Int)=1000000+wd3 n 1000000:=by unfold idV;omega
 have hl:=wih n
 have hc:=wvv (id7 n)
 refine ⟨⟨by omega,by omega⟩,by simp only [inR];omega,⟨by omega,by omega,by decide,by omega⟩,⟨?_,⟨rfl,rfl,rfl,rfl,rfl,fun k hk=>?_⟩,trivial⟩,by omega,⟨⟨by omega,rfl⟩,fun _ _=>rfl⟩,trivial,⟨⟨by omega,rfl⟩,fun _ _=>rfl⟩,?_,?_,⟨by omega,rfl,by omega⟩,⟨⟨by omega,rfl⟩,fun i hi=>?_⟩,?_,rfl,rfl⟩
 ·rw [← hV]
  show TEq [(3,.int .i64 ((idV n:Nat):Int)),(4,.own 0 7),(5,.int .i64 6)] [(3,.int .i64 ((idV n / 1:Nat):Int)),(4,.own 0 7),(5,.int .i64 6)]
  rw [Nat.div_one];rfl
 ·dsimp only
  rw [decide_eq_false (show ¬ 7≤k+0 by omega)];rfl
 ·show inR .i64 (48+(cdF (id7 n)).1)
  simp only [inR];omega
 ·show inR .u8 (48+(cdF (id7 n)).1)
  simp only [inR];omega
 ·obtain rfl:i=0:=by omega
  rfl
 ·show (id7 n).length+_≤_
  rw [hl];simp [wao]
theorem wyp (s:List UInt8) (R:AV→List (Nat×AObj)→Prop):wpFn te [(72,.det wff)] [] 0 Tryz.f178 [.str s] [] R=((List.length s<4294967281∧0<4294967281∧0<4294967281∧0<4294967281)∧R (.bool !decide (msgF (MG.mk s (0:Int) (0:Int) (VT.mk [] [] (0:Int) (0:Int) (0:Int) (0:Int) []) (DT.mk [] [] (0:Int) [] (0:Int)))=(110:Int))) []):=by kernel_rfl
theorem wyb (o p:List UInt8) (per u tv:Int) (R:AV→List (Nat×AObj)→Prop):wpFn te [(178,.det wlt),(160,.det wea)] [] 0 Tryz.f145 [.agg [.str o,.str p,.int .i64 per,.int .i64 u,.int .i64 tv]] [] R=(letI z0:=R (.bool false) [];List.length o<4294967281∧wad (wa8 o) (True∧wad (wbg p) (wad (decide ((0:Int)≤per)) (wad (decide (per≤(5999:Int))) (wad (decide ((1:Int)≤min u tv)) (R (.bool (decide (max u tv≤(1099511627776:Int)))) []) z0) z0) z0) z0) z0):=by kernel_rfl
theorem nf_sv (g:Nat→RW) (n:Nat) (R:AV→List (Nat×AObj)→Prop):wpFn te [(145,.det wg7)] [(4,L_sv g n)] 0 Tryz.f105 [.view 5 n (wai g)] [] R=(wad (decide ((24000:Int)<(↑n:Int))) (R (.int .i64 130) []) (some (St.mk [(8,.view 5 n (wai g)),(9,.int .i64 (↑n:Int)),(10,.int .i64 0)] [] 0 [])=some (St.mk [(8,.view 5 n (wai g)),(9,.int .i64 (↑n:Int)),(10,.int .i64 (↑0:Int))] [] 0 [])∧n≤24000∧(∀ (i:Nat),i<n→List.length (RW.o (g i))<4294967281)∧wad (wdd g n) (R (.int .i64 0) []) (R (.int .i64 131) []))):=by kernel_rfl
theorem wyn (g:Nat→RW) (n k:Nat) (P:Nat→Prop) (R:Exit→St→Prop):wa2 ⟨te,[(145,.det wg7)],[],0,18,0⟩ (wa3 Tryz.f105 4) [8,9,10] [] [2] (S_sv g n) P R (S_sv g n k)=(letI z0:=(g (Int.toNat (↑k:Int)));wad (decide ((↑k:Int)<(↑n:Int))) (((0:Int)≤(↑k:Int)∧(↑k:Int)<(↑n:Int)∧5=5)∧List.length (RW.o z0)<4294967281∧wad (!rowF (RW.mk (RW.o z0) (RW.p z0) (RW.per z0) (RW.u z0) (RW.tv z0))) (R .ret (St.mk [(2,.int .i64 131)] [] 0 [])) (inR .i64 ((↑k:Int)+(1:Int))∧∃ (i':Nat),some (St.mk [(8,.view 5 n (wai g)),(9,.int .i64 (↑n:Int)),(10,.int .i64 ((↑k:Int)+(1:Int)))] [] 0 [])=some (St.mk [(8,.view 5 n (wai g)),(9,.int .i64 (↑n:Int)),(10,.int .i64 (↑i':Int))] [] 0 [])∧P i')) (R (.exit 0) (St.mk [] [] 0 []))):=by kernel_rfl
theorem wy7 (n:Nat) (v:Nat→Int) (a:Int) (R:AV→List (Nat×AObj)→Prop):wpFn te [(42,.det wba)] [] 0 Tryz.f80 [.ptr 0 0] [.cells [.view 1 n (waa v),.int .i64 a] 27] R=((3≤16777216∧1=1∧3≤9223372036854775807)∧(27=27∧1=1∧waa v=waa (vInt (waa v))∧((1:Int)≤(3:Int)∧(3:Int)≤(1000000:Int))∧(0:Int)≤a∧a≤(4611686018427387904:Int))∧((0:Int)≤wab n (vInt (waa v)) a (3:Int)∧wab n (vInt (waa v)) a (3:Int)<(↑3:Int))∧(Int.toNat (wab n (vInt (waa v)) a (3:Int))<3∧1=1)∧R (.str (List.getD [[(111:UInt8),49],[(111:UInt8),50],[(112:UInt8)]] (Int.toNat (wab n (vInt (waa v)) a (3:Int))) [])) [(0,.cells [.view 1 n (waa v),.int .i64 (a+(1:Int))] 27)]):=by kernel_rfl
theorem wyl (n:Nat) (v:Nat→Int) (a:Int) (R:AV→List (Nat×AObj)→Prop):wpFn te [(42,.det wba),(43,.det S_id)] [] 0 Tryz.f81 [.ptr 0 0] [.cells [.view 1 n (waa v),.int .i64 a] 27] R=((27=27∧1=1∧waa v=waa (vInt (waa v))∧((1:Int)≤(4:Int)∧(4:Int)≤(1000000:Int))∧(0:Int)≤a∧a≤(4611686018427387904:Int))∧True∧R (.str (idF (wab n (vInt (waa v)) a (4:Int)))) [(0,.cells [.view 1 n (waa v),.int .i64 (a+(1:Int))] 27)]):=by kernel_rfl
theorem nf_trow (n:Nat) (v:Nat→Int) (a:Int) (R:AV→List (Nat×AObj)→Prop):wpFn te [(42,.det wba),(80,.det wc3),(81,.det wc2)] [] 0 Tryz.f37 [.ptr 0 0] [.cells [.view 1 n (waa v),.int .i64 a] 27] R=(letI z2:=(a+(1:Int)+(1:Int)+(1:Int)+(1:Int)+(1:Int));letI z1:=(4611686018427387904:Int);letI z0:=(a+(1:Int)+(1:Int)+(1:Int)+(1:Int));(27=27∧1=1∧waa v=waa (vInt (waa v))∧((1:Int)≤(20:Int)∧(20:Int)≤(1000000:Int))∧(0:Int)≤a∧a≤z1)∧inR .i64 ((1:Int)+wab n (vInt (waa v)) a (20:Int))∧(27=27∧1=1∧waa v=waa (vInt (waa v))∧(0:Int)≤a+(1:Int)∧a+(1:Int)≤(4611686018427387000:Int))∧(27=27∧1=1∧waa v=waa (vInt (waa v))∧(0:Int)≤a+(1:Int)+(1:Int)∧a+(1:Int)+(1:Int)≤(4611686018427387000:Int))∧(27=27∧1=1∧waa v=waa (vInt (waa v))∧((1:Int)≤(4:Int)∧(4:Int)≤(1000000:Int))∧(0:Int)≤a+(1:Int)+(1:Int)+(1:Int)∧a+(1:Int)+(1:Int)+(1:Int)≤z1)∧inR .i64 ((1440:Int)+wab n (vInt (waa v)) (a+(1:Int)+(1:Int)+(1:Int)) (4:Int))∧(27=27∧1=1∧waa v=waa (vInt (waa v))∧((1:Int)≤(30:Int)∧(30:Int)≤(1000000:Int))∧(0:Int)≤a+(1:Int)+(1:Int)+(1:Int)+(1:Int)∧a+(1:Int)+(1:Int)+(1:Int)+(1:Int)≤z1)∧inR .i64 ((90:Int)+wab n (vInt (waa v)) z0 (30:Int))∧inR .i64 (((1:Int)+wab n (vInt (waa v)) a (20:Int)) * ((90:Int)+wab n (vInt (waa v)) z0 (30:Int)))∧(27=27∧1=1∧waa v=waa (vInt (waa v))∧((1:Int)≤(3:Int)∧(3:Int)≤(1000000:Int))∧(0:Int)≤a+(1:Int)+(1:Int)+(1:Int)+(1:Int)+(1:Int)∧a+(1:Int)+(1:Int)+(1:Int)+(1:Int)+(1:Int)≤z1)∧inR .i64 (((1:Int)+wab n (vInt (waa v)) a (20:Int)) * ((90:Int)+wab n (vInt (waa v)) z0 (30:Int))+wab n (vInt (waa v)) z2 (3:Int))∧(True∧True)∧R (.agg [.str (outF (wab n (vInt (waa v)) (a+(1:Int)) (3:Int))),.str (idF (wab n (vInt (waa v)) (a+(1:Int)+(1:Int)) (4:Int))),.int .i64 ((1440:Int)+wab n (vInt (waa v)) (a+(1:Int)+(1:Int)+(1:Int)) (4:Int)),.int .i64 ((1:Int)+wab n (vInt (waa v)) a (20:Int)),.int .i64 (((1:Int)+wab n (vInt (waa v)) a (20:Int)) * ((90:Int)+wab n (vInt (waa v)) z0 (30:Int))+wab n (vInt (waa v)) z2 (3:Int))]) [(0,.cells [.view 1 n (waa v),.int .i64 (a+(1:Int)+(1:Int)+(1:Int)+(1:Int)+(1:Int)+(1:Int))] 27)]):=by kernel_rfl
theorem wxc (hP:C.P=Tryz.prog) (hL:∀ w,C.laid w→LaidW w):waf C 178 wlt:=by
 rintro args objs U Os vc h hvc
 unfold wlt at h
 split at h<;>simp only [Option.some.injEq,Prod.mk.injEq,reduceCtorEq] at h
 rename_i s
 obtain ⟨rfl,rfl,rfl⟩:=h
 refine waf.wp0 (prg hP) [(72,.det wff)] 0 (.cons (wpm hP hL) .nil) (hP ▸ Tryz.func178) rfl rfl rfl ?_
 rw [wyp]
 refine ⟨⟨hvc,by omega,by omega,by omega⟩,?_,rfl⟩
 unfold msgF
 cases wa8 s<;>rfl
theorem wrq (hP:C.P=Tryz.prog) (hL:∀ w,C.laid w→LaidW w):waf C 145 wg7:=by
 rintro args objs U Os vc h hvc
 unfold wg7 at h
 split at h<;>simp only [Option.some.injEq,Prod.mk.injEq,reduceCtorEq] at h
 rename_i o p per u tv
 obtain ⟨rfl,rfl,rfl⟩:=h
 refine waf.wp0 (prg hP) [(178,.det wlt),(160,.det wea)] 0 (.cons (wxc hP hL) (.cons (wja hP (whr hP)) .nil)) (hP ▸ Tryz.func145) rfl rfl rfl ?_
 rw [wyb]
 unfold rowF wbz
 dsimp only
 generalize wa8 o=b1,wbg p=b2,decide (0≤per)=b3,decide (per≤5999)=b4,decide (1≤min u tv)=b5,decide (max u tv≤1099511627776)=b6
 refine ⟨hvc,?_⟩
 cases b1
 ·exact ⟨rfl,rfl⟩
 refine ⟨trivial,?_⟩
 cases b2
 ·exact ⟨rfl,rfl⟩
 cases b3
 ·exact ⟨rfl,rfl⟩
 cases b4
 ·exact ⟨rfl,rfl⟩
 cases b5<;>exact ⟨rfl,rfl⟩
theorem wwb {g:Nat→RW} {k:Nat} (h:rowF (g k)=false):∀ n,k<n→wdd g n=false
 |0,hn=>by omega
 |n+1,hn=>by
  rw [wdd]
  by_cases e:k=n
  ·subst e;rw [h,Bool.and_false]
  ·rw [wwb h n (by omega),Bool.false_and]
theorem sv_loop (hP:C.P=Tryz.prog) (hL:∀ w,C.laid w→LaidW w) (g:Nat→RW) (n:Nat):waj C 0 18 (wam Tryz.f105 4) (L_sv g n):=by
 rintro st Q ⟨h0,hn,hs,hQ⟩
 have hR:=wcb hQ
 refine waj.mk (prg hP) [(145,.det wg7)] 0 (.cons (wrq hP hL) .nil) [8,9,10] [] [2] (S_sv g n) (fun k=>k≤n∧wdd g k=true) (fun k=>n - k) 0 ⟨Nat.zero_le _,rfl⟩ h0 (fun k hk=>?_)
 obtain ⟨hkn,hok⟩:=hk
 rw [wyn,Int.toNat_natCast]
 refine wak (fun h1=>?_) (fun h1=>?_)
 ·refine ⟨⟨by omega,by omega,rfl⟩,hs k (by omega),wc1 (fun h2=>hR.2 (wwb h2 n (by omega))) (fun h2=>⟨by simp only [inR];omega,k+1,rfl,⟨by omega,?_⟩,by omega⟩)⟩
  rw [wdd,hok];exact h2
 ·have:k=n:=by omega
  subst this
  exact hR.1 hok
theorem wr0 (hP:C.P=Tryz.prog) (hL:∀ w,C.laid w→LaidW w):waf C 105 wlq:=by
 rintro args objs U Os vc h hvc
 unfold wlq at h
 split at h<;>simp only [Option.some.injEq,Prod.mk.injEq,reduceCtorEq] at h
 rename_i n f
 obtain ⟨rfl,rfl,rfl⟩:=h
 obtain ⟨hn,hf,hs⟩:=hvc
 generalize rwOf f=g at *
 subst hf
 unfold svF
 refine waf.wpL (prg hP) [(145,.det wg7)] [(4,L_sv g n)] 0 (.cons (wrq hP hL) .nil) (hP ▸ Tryz.func105) rfl rfl rfl [(wam Tryz.f105 4,L_sv g n)] (by kernel_rfl) ⟨sv_loop hP hL g n,trivial⟩ ?_
 rw [nf_sv]
 refine wak (fun h1=>?_) (fun h1=>⟨rfl,by omega,hs,waz (fun h2=>?_) (fun h2=>?_)⟩)
 ·rw [decide_eq_true (show 24000<n by omega)];exact ⟨rfl,rfl⟩
 ·rw [decide_eq_false (show ¬ 24000<n by omega),h2];exact ⟨rfl,rfl⟩
 ·rw [decide_eq_false (show ¬ 24000<n by omega),h2];exact ⟨rfl,rfl⟩
theorem wgl (hP:C.P=Tryz.prog):waf C 80 wc3:=by
 rintro args objs U Os vc h hvc
 unfold wc3 at h
 split at h<;>simp only [Option.some.injEq,Prod.mk.injEq,reduceCtorEq] at h
 rename_i sz n f a t
 obtain ⟨rfl,rfl,rfl⟩:=h
 obtain ⟨rfl,rfl,hf,h1,h2⟩:=hvc
 rw [hf]
 generalize vInt f=v
 have hw:vInt (waa v)=v:=rfl
 refine waf.wp0 (prg hP) [(42,.det wba)] 0 (.cons (wb7 hP) .nil) (hP ▸ Tryz.func80) rfl rfl rfl ?_
 rw [wy7]
 have r:=wav (show (1:Int)≤3 by omega) n v a
 exact ⟨⟨by omega,rfl,by omega⟩,⟨rfl,rfl,rfl,⟨by omega,by omega⟩,by omega,by omega⟩,⟨r.1,r.2⟩,⟨by rw [hw];omega,rfl⟩,rfl,rfl⟩
theorem wgc (hP:C.P=Tryz.prog):waf C 81 wc2:=by
 rintro args objs U Os vc h hvc
 unfold wc2 at h
 split at h<;>simp only [Option.some.injEq,Prod.mk.injEq,reduceCtorEq] at h
 rename_i sz n f a t
 obtain ⟨rfl,rfl,rfl⟩:=h
 obtain ⟨rfl,rfl,hf,h1,h2⟩:=hvc
 rw [hf]
 generalize vInt f=v
 have hw:vInt (waa v)=v:=rfl
 refine waf.wp0 (prg hP) [(42,.det wba),(43,.det S_id)] 0 (.cons (wb7 hP) (.cons (wke hP) .nil)) (hP ▸ Tryz.func81) rfl rfl rfl ?_
 rw [wyl]
 exact ⟨⟨rfl,rfl,rfl,⟨by omega,by omega⟩,by omega,by omega⟩,trivial,rfl,rfl⟩
theorem wsq (n:Nat) (v:Nat→Int) (a:Int):1≤(rowV n v a).u∧(rowV n v a).u≤20∧90≤(rowV n v a).tv∧(rowV n v a).tv≤2382:=by
 have r1:=wav (show (1:Int)≤20 by omega) n v a
 have r2:=wav (show (1:Int)≤30 by omega) n v (a+1+1+1+1)
 have r3:=wav (show (1:Int)≤3 by omega) n v (a+1+1+1+1+1)
 have b1:(1+wab n v a 20) * (90+wab n v (a+1+1+1+1) 30)≤20 * 119:=Int.mul_le_mul (by omega) (by omega) (by omega) (by omega)
 have b2:1 * 90≤(1+wab n v a 20) * (90+wab n v (a+1+1+1+1) 30):=Int.mul_le_mul (by omega) (by omega) (by omega) (by omega)
 unfold rowV
 dsimp only
 refine ⟨by omega,by omega,?_,?_⟩<;>omega
theorem wh4:∀ i,i<3→wa8 (List.getD [[111,49],[111,50],[112]] i [])=true∧(List.getD [[111,49],[111,50],[112]] i ([]:List UInt8)).length≤2:=by decide+kernel
theorem wpb (n:Nat) (v:Nat→Int) (a:Int):rowF (rowV n v a)=true∧(rowV n v a).o.length≤2:=by
 obtain ⟨b1,b2,b3,b4⟩:=wsq n v a
 have r1:=wav (show (1:Int)≤3 by omega) n v (a+1)
 have r2:=wav (show (1:Int)≤4 by omega) n v (a+1+1+1)
 have ho:=wh4 (wab n v (a+1) 3).toNat (by omega)
 refine ⟨?_,ho.2⟩
 unfold rowF wbz
 rw [show wa8 (rowV n v a).o=true from ho.1,show wbg (rowV n v a).p=true from wd1 _,decide_eq_true (show 0≤(rowV n v a).per by show 0≤1440+wab n v (a+1+1+1) 4;omega),decide_eq_true (show (rowV n v a).per≤5999 by show 1440+wab n v (a+1+1+1) 4≤5999;omega),
  decide_eq_true (show 1≤min (rowV n v a).u (rowV n v a).tv by omega),decide_eq_true (show max (rowV n v a).u (rowV n v a).tv≤1099511627776 by omega)]
 rfl
theorem wox (hP:C.P=Tryz.prog):waf C 37 wfe:=by
 rintro args objs U Os vc h hvc
 unfold wfe at h
 split at h<;>simp only [Option.some.injEq,Prod.mk.injEq,reduceCtorEq] at h
 rename_i sz n f a t
 obtain ⟨rfl,rfl,rfl⟩:=h
 obtain ⟨rfl,rfl,hf,h1,h2⟩:=hvc
 rw [hf]
 generalize vInt f=v
 have hw:vInt (waa v)=v:=rfl
 refine waf.wp0 (prg hP) [(42,.det wba),(80,.det wc3),(81,.det wc2)] 0 (.cons (wb7 hP) (.cons (wgl hP) (.cons (wgc hP) .nil))) (hP ▸ Tryz.func37) rfl rfl rfl ?_
 rw [nf_trow,hw]
 have r1:=wav (show (1:Int)≤20 by omega) n v a
 have r2:=wav (show (1:Int)≤30 by omega) n v (a+1+1+1+1)
 have r3:=wav (show (1:Int)≤3 by omega) n v (a+1+1+1+1+1)
 have r4:=wav (show (1:Int)≤4 by omega) n v (a+1+1+1)
 have b1:(1+wab n v a 20) * (90+wab n v (a+1+1+1+1) 30)≤20 * 119:=Int.mul_le_mul (by omega) (by omega) (by omega) (by omega)
 have b2:1 * 90≤(1+wab n v a 20) * (90+wab n v (a+1+1+1+1) 30):=Int.mul_le_mul (by omega) (by omega) (by omega) (by omega)
 exact ⟨⟨rfl,rfl,rfl,⟨by omega,by omega⟩,by omega,by omega⟩,by simp only [inR];omega,⟨rfl,rfl,rfl,by omega,by omega⟩,⟨rfl,rfl,rfl,by omega,by omega⟩,⟨rfl,rfl,rfl,⟨by omega,by omega⟩,by omega,by omega⟩,by simp only [inR];omega,⟨rfl,rfl,rfl,⟨by omega,by omega⟩,by omega,by omega⟩,by simp only [inR];omega,by simp only [inR];omega,⟨rfl,rfl,rfl,⟨by omega,by omega⟩,by omega,by omega⟩,by simp only [inR];omega,⟨trivial,trivial⟩,rfl,rfl⟩
theorem wh6 {α:Type} (g:Nat→α) (n:Nat):lst g (n+1)=lst g n++[g n]:=by simp [lst,List.range_succ]
theorem lst_at {α:Type} {g:Nat→α} {L:List α} {n:Nat} (h:lst g n=L) (d:α):n=L.length∧∀ i,i<n→g i=L.getD i d:=by
 subst h
 refine ⟨by simp [lst],fun i hi=>?_⟩
 simp [lst,hi]
theorem wy0 (x:Int) (R:AV→List (Nat×AObj)→Prop):wpFn te [] [] 0 Tryz.f180 [.int .i64 x] [] R=(wad (decide ((0:Int)≤x)) (R (.bool (decide (x≤(1099511627776:Int)))) []) (R (.bool false) [])):=by kernel_rfl
theorem nf_tarV (st:Int) (bs:List BK) (R:AV→List (Nat×AObj)→Prop):wpFn te [(180,.det wg9)] [(7,L_tv st bs)] 0 Tryz.f151 [.agg [.int .i64 st,.view 2 bs.length (wa0 (atB bs))]] [] R=(letI z2:=R (.int .i64 141) [];letI z1:=([(0,.cells [.int .i64 st,.view 2 (List.length bs) (wa0 (atB bs))] 95)]:List (Nat×AObj));letI z0:=(↑(List.length bs):Int);True∧wad (!(decide ((0:Int)≤st) && decide (st≤(1099511627776:Int)))) (R (.int .i64 140) []) (wad (decide (z0<(1:Int))) z2 (wad (decide ((8:Int)<z0)) z2 (some (St.mk [(1,.ptr 0 0),(3,.int .i64 0),(22,.view 2 (List.length bs) (wa0 (atB bs))),(23,.int .i64 z0),(24,.int .i64 0)] z1 1 [])=some (St.mk [(1,.ptr 0 0),(3,.int .i64 (lowB bs 0)),(22,.view 2 (List.length bs) (wa0 (atB bs))),(23,.int .i64 z0),(24,.int .i64 (↑0:Int))] z1 1 [])∧List.length bs≤8∧wad (bksB bs (List.length bs)) (R (.int .i64 0) []) z2)))):=by kernel_rfl
theorem wyd (st:Int) (bs:List BK) (k:Nat) (P:Nat→Prop) (R:Exit→St→Prop):wa2 ⟨te,[(180,.det wg9)],[],0,65,0⟩ (wa3 Tryz.f151 7) [1,3,22,23,24] [] [2] (S_tv st bs) P R (S_tv st bs k)=(letI z5:=([(0,.cells [.int .i64 st,.view 2 (List.length bs) (wa0 (atB bs))] 95)]:List (Nat×AObj));letI z4:=R .ret (St.mk [(2,.int .i64 141)] [] 0 []);letI z3:=(↑(List.length bs):Int);letI z2:=(atB bs (Int.toNat (↑k:Int)));letI z0:=(inR .i64 ((↑k:Int)+(1:Int))∧∃ (i':Nat),some (St.mk [(1,.ptr 0 0),(3,.int .i64 (BK.up z2)),(22,.view 2 (List.length bs) (wa0 (atB bs))),(23,.int .i64 z3),(24,.int .i64 ((↑k:Int)+(1:Int)))] z5 1 [])=some (St.mk [(1,.ptr 0 0),(3,.int .i64 (lowB bs i')),(22,.view 2 (List.length bs) (wa0 (atB bs))),(23,.int .i64 z3),(24,.int .i64 (↑i':Int))] z5 1 [])∧P i');letI z1:=(wad (!decide ((↑k:Int)=z3 - (1:Int))) (wad (decide (BK.up z2≤lowB bs k)) z4 (wad (decide ((1099511627776:Int)<BK.up z2)) z4 z0)) z0);wad (decide ((↑k:Int)<z3)) (((0:Int)≤(↑k:Int)∧(↑k:Int)<z3∧2=2)∧inR .i64 (z3 - (1:Int))∧True∧wad (!(decide ((0:Int)≤BK.pr z2) && decide (BK.pr z2≤(1099511627776:Int)))) z4 (wad (decide ((↑k:Int)=z3 - (1:Int))) (wad (!decide (BK.up z2=(0:Int))) z4 z1) z1)) (R (.exit 0) (St.mk [] [] 0 []))):=by kernel_rfl
theorem wyq (o p:List UInt8) (per:Int) (R:AV→List (Nat×AObj)→Prop):wpFn te [(105,.det wlp)] [] 0 Tryz.f150 [.str o,.str p,.int .i64 per] [] R=(letI z0:=waq (TI.sz wdi) (.str o:: .str p:: .int .i64 per:: .int .i64 1:: .int .i64 1::List.append [] wfr);(5≤16777216∧5=5∧1≤9223372036854775807)∧(∀ (i:Nat),i<1→nrefL (waq (TI.sz wdi) (.str o:: .str p:: .int .i64 per:: .int .i64 1:: .int .i64 1::List.append [] wfr) i)=true)∧(1=1∧1≤1000000∧(∀ (i:Nat),i<1→waq (TI.sz wdi) (.str o:: .str p:: .int .i64 per:: .int .i64 1:: .int .i64 1::List.append [] wfr) i=[.str (RW.o (rwOf z0 i)),.str (RW.p (rwOf z0 i)),.int .i64 (RW.per (rwOf z0 i)),.int .i64 (RW.u (rwOf z0 i)),.int .i64 (RW.tv (rwOf z0 i))])∧∀ (i:Nat),i<1→List.length (RW.o (rwOf z0 i))<4294967281)∧R (.bool (decide (svF (rwOf z0) 1=(0:Int)))) []):=by kernel_rfl
theorem wyv (t:RT) (R:AV→List (Nat×AObj)→Prop):wpFn te [(150,.det wec),(151,.det wlo)] [] 0 Tryz.f108 [.agg [.str t.o,.str t.p,.int .i64 t.per,.int .i64 t.st,.view 2 t.bs.length (wa0 (atB t.bs))]] [] R=(letI z0:=lst (bkOf (wa0 (atB (RT.bs t)))) (List.length (RT.bs t));List.length (RT.o t)<4294967281∧wad (wbz (RT.o t) (RT.p t) (RT.per t)) (wa0 (atB (RT.bs t))=wa0 (atB z0)∧R (.bool (decide (tfF (RT.st t) z0=(0:Int)))) []) (R (.bool false) [])):=by kernel_rfl
theorem wg1 {bs:List BK} {i:Nat}:bkOK bs i=true↔0≤(atB bs i).pr∧(atB bs i).pr≤1099511627776∧(i+1=bs.length→(atB bs i).up=0)∧(¬ i+1=bs.length→lowB bs i<(atB bs i).up∧(atB bs i).up≤1099511627776):=by
 unfold bkOK
 by_cases h:i+1=bs.length
 ·rw [decide_eq_true h];simp [h]
 ·rw [decide_eq_false h];simp [h]
theorem wvx {bs:List BK} {k:Nat} (e:bksB bs (k+1)=false):∀ n,k<n→bksB bs n=false
 |0,hn=>by omega
 |n+1,hn=>by
  by_cases q:k=n
  ·subst q;exact e
  ·rw [bksB,wvx e n (by omega),Bool.false_and]
theorem wsz (hP:C.P=Tryz.prog):waf C 180 wg9:=by
 have _:C.Loose:=inferInstance
 rintro args objs U Os vc h hvc
 unfold wg9 at h
 split at h<;>simp only [Option.some.injEq,Prod.mk.injEq,reduceCtorEq] at h
 rename_i n
 obtain ⟨rfl,rfl,rfl⟩:=h
 refine waf.wp0 (prg hP) [] 0 .nil (hP ▸ Tryz.func180) rfl rfl rfl ?_
 rw [wy0]
 exact wak (fun h=>by rw [decide_eq_true h];exact ⟨rfl,rfl⟩) (fun h=>by rw [decide_eq_false h];exact ⟨rfl,rfl⟩)
theorem tv_loop (hP:C.P=Tryz.prog) (st:Int) (bs:List BK):waj C 0 65 (wam Tryz.f151 7) (L_tv st bs):=by
 rintro s Q ⟨h0,hn,hQ⟩
 have hR:=wcb hQ
 refine waj.mk (prg hP) [(180,.det wg9)] 0 (.cons (wsz hP) .nil) [1,3,22,23,24] [] [2] (S_tv st bs) (fun k=>k≤bs.length∧bksB bs k=true) (fun k=>bs.length - k) 0 ⟨Nat.zero_le _,rfl⟩ h0 (fun k hk=>?_)
 obtain ⟨hkn,hok⟩:=hk
 rw [wyd,Int.toNat_natCast]
 refine wak (fun h1=>?_) (fun h1=>?_)
 ·have hlt:k<bs.length:=by omega
  have bad:bkOK bs k=false→Q .ret ⟨[(2,.int .i64 141)],[],0,[]⟩:=fun h=>hR.2 (wvx (k:=k) (by rw [bksB,h,Bool.and_false]) _ hlt)
  have bad':¬ bkOK bs k=true→Q .ret ⟨[(2,.int .i64 141)],[],0,[]⟩:=fun h=>bad (by cases q:bkOK bs k with
   |true=>exact absurd q h
   |false=>rfl)
  have next:bkOK bs k=true→inR .i64 ((k:Int)+1)∧∃ i':Nat,some (St.mk [(1,.ptr 0 0),(3,.int .i64 (atB bs k).up),(22,.view 2 bs.length (wa0 (atB bs))),(23,.int .i64 (bs.length:Int)),(24,.int .i64 ((k:Int)+1))] [(0,.cells [.int .i64 st,.view 2 bs.length (wa0 (atB bs))] 95)] 1 [])=
    some (St.mk [(1,.ptr 0 0),(3,.int .i64 (lowB bs i')),(22,.view 2 bs.length (wa0 (atB bs))),(23,.int .i64 (bs.length:Int)),(24,.int .i64 (i':Int))] [(0,.cells [.int .i64 st,.view 2 bs.length (wa0 (atB bs))] 95)] 1 [])∧(i'≤bs.length∧bksB bs i'=true)∧bs.length - i'<bs.length - k:=
   fun h=>⟨by simp only [inR];omega,k+1,rfl,⟨by omega,by rw [bksB,hok,h];rfl⟩,by omega⟩
  refine ⟨⟨by omega,by omega,rfl⟩,by simp only [inR];omega,trivial,wc1 (fun h2=>bad' (fun h=>?_)) (fun h2=>?_)⟩
  ·rw [Bool.and_eq_false_iff,decide_eq_false_iff_not,decide_eq_false_iff_not] at h2
   have:=wg1.1 h
   omega
  ·rw [Bool.and_eq_true,decide_eq_true_eq,decide_eq_true_eq] at h2
   refine wak (fun h3=>wca (fun h4=>bad' (fun h=>h4 ((wg1.1 h).2.2.1 (by omega)))) (fun h4=>wca (fun h5=>absurd h3 h5) (fun _=>next (wg1.2 ⟨h2.1,h2.2,fun _=>h4,fun h=>absurd (by omega) h⟩))))
    (fun h3=>wca (fun _=>wak (fun h4=>bad' (fun h=>by have:=(wg1.1 h).2.2.2 (by omega);omega)) (fun h4=>wak (fun h5=>bad' (fun h=>by have:=(wg1.1 h).2.2.2 (by omega);omega)) (fun h5=>next (wg1.2 ⟨h2.1,h2.2,fun h=>absurd h (by omega),fun _=>⟨by omega,by omega⟩⟩)))) (fun h5=>absurd h5 h3))
 ·have:k=bs.length:=by omega
  subst this
  exact hR.1 hok
theorem tarV_ok (hP:C.P=Tryz.prog):waf C 151 wlo:=by
 rintro args objs U Os vc h hvc
 unfold wlo at h
 split at h<;>simp only [Option.some.injEq,Prod.mk.injEq,reduceCtorEq] at h
 rename_i st n f
 obtain ⟨rfl,rfl,rfl⟩:=h
 have hl:(lst (bkOf f) n).length=n:=by simp [lst]
 generalize lst (bkOf f) n=bs at *
 subst hl
 subst hvc
 refine waf.wpL (prg hP) [(180,.det wg9)] [(7,L_tv st bs)] 0 (.cons (wsz hP) .nil) (hP ▸ Tryz.func151) rfl rfl rfl [(wam Tryz.f151 7,L_tv st bs)] (by kernel_rfl) ⟨tv_loop hP st bs,trivial⟩ ?_
 rw [nf_tarV]
 unfold tfF
 refine ⟨trivial,wc1 (fun h=>by rw [h];exact ⟨rfl,rfl⟩) (fun h=>?_)⟩
 rw [h]
 refine wak (fun h1=>?_) (fun h1=>wak (fun h2=>?_) (fun h2=>⟨rfl,by omega,?_⟩))
 ·rw [decide_eq_true (show bs.length<1 by omega)];exact ⟨rfl,rfl⟩
 ·rw [decide_eq_true (show 8<bs.length by omega),Bool.or_true];exact ⟨rfl,rfl⟩
 ·rw [decide_eq_false (show ¬ bs.length<1 by omega),decide_eq_false (show ¬ 8<bs.length by omega)]
  exact waz (fun q=>by rw [q];exact ⟨rfl,rfl⟩) (fun q=>by rw [q];exact ⟨rfl,rfl⟩)
theorem ww5 (hP:C.P=Tryz.prog) (hL:∀ w,C.laid w→LaidW w):waf C 105 wlp:=by
 rintro args objs U Os vc h hvc
 unfold wlp at h
 split at h<;>simp only [Option.some.injEq,Prod.mk.injEq,reduceCtorEq] at h
 rename_i n t m f fr
 obtain ⟨rfl,rfl,rfl⟩:=h
 obtain ⟨rfl,hn,hf,hs⟩:=hvc
 refine wal.rowEq 0 (f':=wai (rwOf f)) rfl (fun i hi=>(hf i hi).symm) ?_
 have hb:Nat.ble n n=true:=Nat.ble_eq_true_of_le (Nat.le_refl _)
 exact ADet.give (wr0 hP hL [.view 5 n (wai (rwOf f))] [] _ _ _ rfl ⟨hn,rfl,hs⟩) (by simp [frzC,frzA,frz,hb]) rfl rfl (fun _ _=>rfl)
theorem svF_one (o p:List UInt8) (per:Int) (g:Nat→RW) (h:g 0=⟨o,p,per,1,1⟩):decide (svF g 1=0)=wbz o p per:=by
 unfold svF
 rw [decide_eq_false (show ¬ 24000<1 by omega)]
 simp only [cond_false,wdd,Bool.true_and,h,rowF]
 cases wbz o p per<;>rfl
theorem wxd (hP:C.P=Tryz.prog) (hL:∀ w,C.laid w→LaidW w):waf C 150 wec:=by
 rintro args objs U Os vc h hvc
 unfold wec at h
 split at h<;>simp only [Option.some.injEq,Prod.mk.injEq,reduceCtorEq] at h
 rename_i o p per
 obtain ⟨rfl,rfl,rfl⟩:=h
 refine waf.wp0 (prg hP) [(105,.det wlp)] 0 (.cons (ww5 hP hL) .nil) (hP ▸ Tryz.func150) rfl rfl rfl ?_
 rw [wyq]
 have one:∀ {p:Nat→Prop},p 0→∀ i,i<1→p i:=fun h0 i hi=>by
  match i,hi with
  |0,_=>exact h0
 refine ⟨⟨by omega,rfl,by omega⟩,one rfl,⟨rfl,by omega,one rfl,one hvc⟩,?_⟩
 rw [svF_one o p per _ rfl]
 exact ⟨rfl,rfl⟩
theorem wxp (hP:C.P=Tryz.prog) (hL:∀ w,C.laid w→LaidW w):waf C 108 wlx:=by
 rintro args objs U Os vc h hvc
 unfold wlx at h
 split at h<;>simp only [Option.some.injEq,Prod.mk.injEq,reduceCtorEq] at h
 rename_i o p per st n f
 obtain ⟨rfl,rfl,rfl⟩:=h
 obtain ⟨ho,hf⟩:=hvc
 have hl:(lst (bkOf f) n).length=n:=by simp [lst]
 generalize hb:lst (bkOf f) n=bs at *
 subst hl
 subst hf
 have hn:=wyv ⟨o,p,per,st,bs⟩
 dsimp only at hn
 refine waf.wp0 (prg hP) [(150,.det wec),(151,.det wlo)] 0 (.cons (wxd hP hL) (.cons (tarV_ok hP) .nil)) (hP ▸ Tryz.func108) rfl rfl rfl ?_
 rw [hn,wk6]
 unfold rtOK
 exact ⟨ho,waz (fun q=>⟨rfl,by rw [q];exact ⟨rfl,rfl⟩⟩) (fun q=>by rw [q];exact ⟨rfl,rfl⟩)⟩
def keyK (p:List UInt8×Int):AV:=.agg [.str p.1,.int .i64 p.2]
theorem wf0 (a b:List UInt8×Int):keq (keyK a) (keyK b)=(decide (a.1=b.1) && decide (a.2=b.2)):=by simp [keyK,keq,keqL,keq0]
theorem wsg (p:List UInt8×Int):(decide (p.1=p.1) && decide (p.2=p.2))=true:=by simp
theorem wf4 (σ:Nat→Option Nat) (L:List ((List UInt8×Int)×Int)):(entM L).map (fun p=>(AV.rn σ p.1,AV.rn σ p.2))=entM L:=by
 unfold entM
 rw [List.map_map]
 rfl
theorem w2h {L:List ((List UInt8×Int)×Int)} (h:(L.map Prod.fst).Nodup):wcw te 83 (entM L):=by
 refine ⟨List.all_eq_true.2 fun p hp=>?_,?_⟩
 ·obtain ⟨r,_,rfl⟩:=List.mem_map.1 hp
  have:∀ (a:List UInt8) (b:Int),keyA te 83 (.agg [.str a,.int .i64 b])=true:=fun a b=>by kernel_rfl
  exact this _ _
 ·have:(entM L).map Prod.fst=(L.map Prod.fst).map keyK:=by simp [entM,keyK]
  rw [this]
  refine List.pairwise_map.2 (h.imp fun {a b} hab he=>hab ?_)
  have q:=wf0 a b
  rw [he,wf0,wsg] at q
  exact wgg.1 q.symm
theorem wpr (p:List UInt8×Int):∀ L:List ((List UInt8×Int)×Int),Option.getD (mget (entM L) (keyK p)) (.int .i64 0)= .int .i64 (getC L p)
 |[]=>rfl
 |x::l=>by
  rw [getC]
  show Option.getD (match keq (keyK x.1) (keyK p) with | true=>some (.int .i64 x.2) | false=>mget (entM l) (keyK p)) _=_
  rw [wf0]
  cases decide (x.1.1=p.1) && decide (x.1.2=p.2) with
  |true=>rfl
  |false=>exact wpr p l
theorem ment_K (p:List UInt8×Int):∀ L:List ((List UInt8×Int)×Int),
  Option.getD (mget (ment (.int .i64 0) (entM L) (keyK p)) (keyK p)) (.int .i64 0)= .int .i64 (getC L p)∧midx (entM L) (keyK p)<(ment (.int .i64 0) (entM L) (keyK p)).length∧
  (ment (.int .i64 0) (entM L) (keyK p)).set (midx (entM L) (keyK p)) (((ment (.int .i64 0) (entM L) (keyK p)).getD (midx (entM L) (keyK p)) (.any,.any)).1,.int .i64 (getC L p+1))=entM (addC L p)
 |[]=>by
  refine ⟨?_,Nat.zero_lt_one,rfl⟩
  show Option.getD (match keq (keyK p) (keyK p) with | true=>some (AV.int .i64 0) | false=>none) _=_
  rw [wf0,wsg];rfl
 |x::l=>by
  obtain ⟨i1,i2,i3⟩:=ment_K p l
  have e1:ment (.int .i64 0) (entM (x::l)) (keyK p)=match keq (keyK x.1) (keyK p) with | true=>(keyK x.1,AV.int .i64 x.2)::entM l | false=>(keyK x.1,AV.int .i64 x.2)::ment (.int .i64 0) (entM l) (keyK p):=rfl
  have e2:midx (entM (x::l)) (keyK p)=match keq (keyK x.1) (keyK p) with | true=>0 | false=>midx (entM l) (keyK p)+1:=rfl
  rw [e1,e2,getC,addC,wf0]
  cases h:decide (x.1.1=p.1) && decide (x.1.2=p.2) with
  |true=>
   have e:=wgg.1 h
   refine ⟨?_,Nat.succ_pos _,?_⟩
   ·show Option.getD (match keq (keyK x.1) (keyK p) with | true=>some (AV.int .i64 x.2) | false=>mget (entM l) (keyK p)) _=_
    rw [wf0,h];rfl
   ·show (keyK x.1,AV.int .i64 (x.2+1))::entM l=(keyK p,AV.int .i64 (x.2+1))::entM l
    rw [e]
  |false=>
   refine ⟨?_,Nat.succ_lt_succ i2,?_⟩
   ·show Option.getD (match keq (keyK x.1) (keyK p) with | true=>some (AV.int .i64 x.2) | false=>mget (ment (.int .i64 0) (entM l) (keyK p)) (keyK p)) _=_
    rw [wf0,h];exact i1
   ·show (keyK x.1,AV.int .i64 x.2)::(ment (.int .i64 0) (entM l) (keyK p)).set (midx (entM l) (keyK p)) (((ment (.int .i64 0) (entM l) (keyK p)).getD (midx (entM l) (keyK p)) (.any,.any)).1,.int .i64 (getC l p+1))=(keyK x.1,AV.int .i64 x.2)::entM (addC l p)
    rw [i3]
end Go.Eng
