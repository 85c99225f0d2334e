/- Normalize. -/
import Derived.Test.YtgcboligphndhaaGreatDoorQza
import Derived.Test.YtgcboligphndhaaGreatDoorQl
import Derived.WalkKit
import Derived.Lib.SliceRun
import Derived.Below
import Derived.Test.YtgcboligphndhaaGreatDoorQs
import Derived.Test.YtgcboligphndhaaGreatDoorQt
import Derived.Test.YtgcboligphndhaaGreatDoorQx
import Derived.Test.YtgcboligphndhaaGreatDoorQu
import Derived.Test.YtgcboligphndhaaGreatDoorQz
namespace Go.Eng
open Go.Proofs Go.RowKit
variable {C:Ctx}
set_option maxRecDepth 20000
theorem nf_ncmp (x y:List UInt8) (n:Nat) (f:Nat→List AV) (R:AV→List (Nat×AObj)→Prop):wpFn te [(94,.det wla),(95,.det wl5),(93,.det S_or)] [] 0 Tryz.f92 [.str x,.str y,.vptr [.vmap n f]] [] R=(letI z4:=TI.desc (TI.mk TypeDesc.string 1 16 (Value.string (ByteArray.mk #[])) false);letI z0:=zvA (.agg [.str ([]),.int .i64 0,.int .i64 0,.int .i64 0,.nil,.nil,.nil]);letI z2:=Option.getD (mget (wdh n f) (.str y)) z0;letI z14:=was (waw z2 (0+1));letI z12:=waw z2 (0+1+1+1+1);letI z10:=was (waw z2 (0+1+1));letI z8:=waw z2 (0+1+1+1+1+1);letI z6:=waw z2 (0+1+1+1+1+1+1);letI z1:=Option.getD (mget (wdh n f) (.str x)) z0;letI z13:=was (waw z1 (0+1));letI z11:=waw z1 (0+1+1+1+1);letI z9:=was (waw z1 (0+1+1));letI z7:=waw z1 (0+1+1+1+1+1);letI z5:=waw z1 (0+1+1+1+1+1+1);letI z3:=waz (TI.sz (TI.mk (TypeDesc.int IntKind.i64) 1 8 (Value.int IntKind.i64 0) false)) (.int .i64 (cmpS (wbx (waw z1 0)) (wbx (waw z2 0))):: .int .i64 (cmpI z13 z14):: .int .i64 (cmpI z9 z10):: .int .i64 (cmpS x y)::List.append [] wc4);(wbr z4 (wdh n f)∧.agg [.str (wbx (waw z1 0)),.int .i64 z13,.int .i64 z9,.int .i64 (was (waw z1 (0+1+1+1))),.view (vwS z11) (vwN z11) (vwF z11),.view (vwS z7) (vwN z7) (vwF z7),.view (vwS z5) (vwN z5) (vwF z5)]=Option.getD (mget (wdh n f) (.str x)) z0)∧(wbr z4 (wdh n f)∧.agg [.str (wbx (waw z2 0)),.int .i64 z14,.int .i64 z10,.int .i64 (was (waw z2 (0+1+1+1))),.view (vwS z12) (vwN z12) (vwF z12),.view (vwS z8) (vwN z8) (vwF z8),.view (vwS z6) (vwN z6) (vwF z6)]=Option.getD (mget (wdh n f) (.str y)) z0)∧True∧True∧True∧True∧(4≤16777216∧1=1∧4≤9223372036854775807)∧(∀ (i:Nat),i<4→true=true)∧(3=3∧false=false∧4=4∧4≤100∧∀ (i:Nat),i<4→[AV.int .i64 (List.getD [cmpS (wbx (waw z1 0)) (wbx (waw z2 0)),cmpI z13 z14,cmpI z9 z10,cmpS x y] i (0:Int))]=[.int .i64 (vInt z3 i)])∧(∀ (i:Nat),i<4→true=true)∧R (.int .i64 (orN (vInt z3) 4)) []):=by kernel_rfl
theorem ncmp_ok (hP:C.P=Tryz.prog) (es:List (AV×AV)) (hk:wbr .string es) (hs:∀ x,wcg wit (gotN es x)=gotN es x) (x y:List UInt8):
  ADet C 92 [.str x,.str y,.vptr [.vmap es.length (entF es)]] [] (.int .i64 (cmpN es x y)) []:=by
 refine wbc.wpL (prg hP) [(94,.det wla),(95,.det wl5),(93,.det S_or)] [] 0 (.cons (scmp_ok hP) (.cons (icmp_ok hP) (.cons (or_ok hP) .nil))) (hP ▸ Tryz.func92) rfl rfl rfl [] (by kernel_rfl) trivial ?_
 rw [nf_ncmp,entsV_F,orN_eq]
 have four:∀ {p:Nat→Prop},p 0→p 1→p 2→p 3→∀ i,i<4→p i:=fun h0 h1 h2 h3 i hi=>by
  match i,hi with
  |0,_=>exact h0
  |1,_=>exact h1
  |2,_=>exact h2
  |3,_=>exact h3
 exact ⟨⟨hk,hs x⟩,⟨hk,hs y⟩,trivial,trivial,trivial,trivial,⟨by omega,rfl,by omega⟩,four rfl rfl rfl rfl,⟨rfl,rfl,rfl,by omega,four rfl rfl rfl rfl⟩,four rfl rfl rfl rfl,rfl,rfl⟩
end Go.Eng
namespace Go.Proofs
open Go.RowKit
theorem Tryz.slSBlk:Tryz.prog.underlying 93=some (.slice 115):=by kernel_rfl
set_option maxHeartbeats 1000000 in
set_option maxRecDepth 100000 in
theorem Tryz.clone_nilBlk (n c:Nat) (w:World):Calls Tryz.prog 109 #[.slice none n c] w fun e w'=>e= .returned (.slice none 0 0)∧w'=w:=by
 have q:∀ (w:World) (a:Option Addr) (n c n' c':Nat),(binOp .eql 93 (.slice a n c) (.slice none n' c')).run Tryz.prog w= .ok (.bool a.isNone) w:=fun w a n c n' c'=>Lib.run_eql_slice_nil w _ _ a n c n' c' Tryz.slSBlk
 go_enter Tryz.func109,Tryz.ntmps109
 go_wp2
 go_ret
 exact ⟨rfl,rfl⟩
set_option maxHeartbeats 1000000 in
set_option maxRecDepth 100000 in
theorem Tryz.clone_noneBlk (a:Addr) (c:Nat) (w:World):Calls Tryz.prog 109 #[.slice (some a) 0 c] w fun e w'=>e= .returned (.slice (some ⟨w.heap.size,0,none⟩) 0 0)∧w'=w.alloc (.cells #[] 115):=by
 have q:∀ (w:World) (a:Option Addr) (n c n' c':Nat),(binOp .eql 93 (.slice a n c) (.slice none n' c')).run Tryz.prog w= .ok (.bool a.isNone) w:=fun w a n c n' c'=>Lib.run_eql_slice_nil w _ _ a n c n' c' Tryz.slSBlk
 go_enter Tryz.func109,Tryz.ntmps109
 go_wp2
 go_ret
 exact ⟨rfl,rfl⟩
theorem Tryz.slSMsg:Tryz.prog.underlying 22=some (.slice 40):=by kernel_rfl
set_option maxHeartbeats 1000000 in
set_option maxRecDepth 100000 in
theorem Tryz.clone_nilMsg (n c:Nat) (w:World):Calls Tryz.prog 140 #[.slice none n c] w fun e w'=>e= .returned (.slice none 0 0)∧w'=w:=by
 have q:∀ (w:World) (a:Option Addr) (n c n' c':Nat),(binOp .eql 22 (.slice a n c) (.slice none n' c')).run Tryz.prog w= .ok (.bool a.isNone) w:=fun w a n c n' c'=>Lib.run_eql_slice_nil w _ _ a n c n' c' Tryz.slSMsg
 go_enter Tryz.func140,Tryz.ntmps140
 go_wp2
 go_ret
 exact ⟨rfl,rfl⟩
set_option maxHeartbeats 1000000 in
set_option maxRecDepth 100000 in
theorem Tryz.clone_noneMsg (a:Addr) (c:Nat) (w:World):Calls Tryz.prog 140 #[.slice (some a) 0 c] w fun e w'=>e= .returned (.slice (some ⟨w.heap.size,0,none⟩) 0 0)∧w'=w.alloc (.cells #[] 40):=by
 have q:∀ (w:World) (a:Option Addr) (n c n' c':Nat),(binOp .eql 22 (.slice a n c) (.slice none n' c')).run Tryz.prog w= .ok (.bool a.isNone) w:=fun w a n c n' c'=>Lib.run_eql_slice_nil w _ _ a n c n' c' Tryz.slSMsg
 go_enter Tryz.func140,Tryz.ntmps140
 go_wp2
 go_ret
 exact ⟨rfl,rfl⟩
theorem Tryz.slSRow:Tryz.prog.underlying 46=some (.slice 61):=by kernel_rfl
set_option maxHeartbeats 1000000 in
set_option maxRecDepth 100000 in
theorem Tryz.clone_nilRow (n c:Nat) (w:World):Calls Tryz.prog 141 #[.slice none n c] w fun e w'=>e= .returned (.slice none 0 0)∧w'=w:=by
 have q:∀ (w:World) (a:Option Addr) (n c n' c':Nat),(binOp .eql 46 (.slice a n c) (.slice none n' c')).run Tryz.prog w= .ok (.bool a.isNone) w:=fun w a n c n' c'=>Lib.run_eql_slice_nil w _ _ a n c n' c' Tryz.slSRow
 go_enter Tryz.func141,Tryz.ntmps141
 go_wp2
 go_ret
 exact ⟨rfl,rfl⟩
set_option maxHeartbeats 1000000 in
set_option maxRecDepth 100000 in
theorem Tryz.clone_noneRow (a:Addr) (c:Nat) (w:World):Calls Tryz.prog 141 #[.slice (some a) 0 c] w fun e w'=>e= .returned (.slice (some ⟨w.heap.size,0,none⟩) 0 0)∧w'=w.alloc (.cells #[] 61):=by
 have q:∀ (w:World) (a:Option Addr) (n c n' c':Nat),(binOp .eql 46 (.slice a n c) (.slice none n' c')).run Tryz.prog w= .ok (.bool a.isNone) w:=fun w a n c n' c'=>Lib.run_eql_slice_nil w _ _ a n c n' c' Tryz.slSRow
 go_enter Tryz.func141,Tryz.ntmps141
 go_wp2
 go_ret
 exact ⟨rfl,rfl⟩
theorem Tryz.slSRat:Tryz.prog.underlying 47=some (.slice 97):=by kernel_rfl
set_option maxHeartbeats 1000000 in
set_option maxRecDepth 100000 in
theorem Tryz.clone_nilRat (n c:Nat) (w:World):Calls Tryz.prog 142 #[.slice none n c] w fun e w'=>e= .returned (.slice none 0 0)∧w'=w:=by
 have q:∀ (w:World) (a:Option Addr) (n c n' c':Nat),(binOp .eql 47 (.slice a n c) (.slice none n' c')).run Tryz.prog w= .ok (.bool a.isNone) w:=fun w a n c n' c'=>Lib.run_eql_slice_nil w _ _ a n c n' c' Tryz.slSRat
 go_enter Tryz.func142,Tryz.ntmps142
 go_wp2
 go_ret
 exact ⟨rfl,rfl⟩
set_option maxHeartbeats 1000000 in
set_option maxRecDepth 100000 in
theorem Tryz.clone_noneRat (a:Addr) (c:Nat) (w:World):Calls Tryz.prog 142 #[.slice (some a) 0 c] w fun e w'=>e= .returned (.slice (some ⟨w.heap.size,0,none⟩) 0 0)∧w'=w.alloc (.cells #[] 97):=by
 have q:∀ (w:World) (a:Option Addr) (n c n' c':Nat),(binOp .eql 47 (.slice a n c) (.slice none n' c')).run Tryz.prog w= .ok (.bool a.isNone) w:=fun w a n c n' c'=>Lib.run_eql_slice_nil w _ _ a n c n' c' Tryz.slSRat
 go_enter Tryz.func142,Tryz.ntmps142
 go_wp2
 go_ret
 exact ⟨rfl,rfl⟩
end Go.Proofs
namespace Go.Eng
open Go.Proofs Go.RowKit
variable {C:Ctx} [C.Loose]
set_option maxRecDepth 20000
theorem wyw (n:Nat) (f:Nat→List AV) (R:AV→List (Nat×AObj)→Prop):wpFn te [] [] 0 Tryz.f109 [.view 2 (n+1) f] [] R=(letI z0:=waz (TI.sz wf6) (List.flatten (List.replicate 0 [.int .i64 0,.int .i64 0]));(0≤16777216∧2=2∧0≤9223372036854775807)∧(2=2∧0≤0∧2=2∧115=115∧2=2∧0+(n+1)≤9223372036854775807∧(0+(n+1)) * TI.bytes wf6≤140737488355328)∧(∀ (i:Nat),i<0+(n+1)→nrefL (apF 0 z0 f i)=true)∧∃ (O':List (Nat×AObj)),wag [(0,.row 115 2 (0+(n+1)) (apF 0 z0 f) false)] O'∧R (.own 0 (0+(n+1))) O'):=by kernel_rfl
theorem wyv (n:Nat) (f:Nat→List AV) (R:AV→List (Nat×AObj)→Prop):wpFn te [] [] 0 Tryz.f140 [.view 15 (n+1) f] [] R=(letI z0:=waz (TI.sz wep) (List.flatten (List.replicate 0 [.str ([]),.int .i64 0,.int .i64 0,.str ([]),.str ([]),.int .i64 0,.int .i64 0,.int .i64 0,.int .i64 0,.str ([]),.str ([]),.str ([]),.int .i64 0,.str ([]),.int .i64 0]));(0≤16777216∧15=15∧0≤9223372036854775807)∧(15=15∧0≤0∧15=15∧40=40∧15=15∧0+(n+1)≤9223372036854775807∧(0+(n+1)) * TI.bytes wep≤140737488355328)∧(∀ (i:Nat),i<0+(n+1)→nrefL (apF 0 z0 f i)=true)∧∃ (O':List (Nat×AObj)),wag [(0,.row 40 15 (0+(n+1)) (apF 0 z0 f) false)] O'∧R (.own 0 (0+(n+1))) O'):=by kernel_rfl
theorem wyt (n:Nat) (f:Nat→List AV) (R:AV→List (Nat×AObj)→Prop):wpFn te [] [] 0 Tryz.f141 [.view 5 (n+1) f] [] R=(letI z0:=waz (TI.sz wc3) (List.flatten (List.replicate 0 [.str ([]),.str ([]),.int .i64 0,.int .i64 0,.int .i64 0]));(0≤16777216∧5=5∧0≤9223372036854775807)∧(5=5∧0≤0∧5=5∧61=61∧5=5∧0+(n+1)≤9223372036854775807∧(0+(n+1)) * TI.bytes wc3≤140737488355328)∧(∀ (i:Nat),i<0+(n+1)→nrefL (apF 0 z0 f i)=true)∧∃ (O':List (Nat×AObj)),wag [(0,.row 61 5 (0+(n+1)) (apF 0 z0 f) false)] O'∧R (.own 0 (0+(n+1))) O'):=by kernel_rfl
theorem wyu (n:Nat) (f:Nat→List AV) (R:AV→List (Nat×AObj)→Prop):wpFn te [] [] 0 Tryz.f142 [.view 5 (n+1) f] [] R=(letI z0:=waz (TI.sz wi2) (List.flatten (List.replicate 0 [.str ([]),.str ([]),.int .i64 0,.int .i64 0,.nil]));(0≤16777216∧5=5∧0≤9223372036854775807)∧(5=5∧0≤0∧5=5∧97=97∧5=5∧0+(n+1)≤9223372036854775807∧(0+(n+1)) * TI.bytes wi2≤140737488355328)∧(∀ (i:Nat),i<0+(n+1)→nrefL (apF 0 z0 f i)=true)∧∃ (O':List (Nat×AObj)),wag [(0,.row 97 5 (0+(n+1)) (apF 0 z0 f) false)] O'∧R (.own 0 (0+(n+1))) O'):=by kernel_rfl
theorem wkq (w:World) (o:Obj):Below w.heap.size w (w.alloc o):=(Below.refl _ w).alloc (Nat.le_refl _) _
theorem we5 {w:World} {M:Nat→Prop} {bs:Nat→Option Hd} {A:Option Addr} {sz:Nat} {f:Nat→List AV}:V w M bs (.slice A 0 0) (.view sz 0 f):=
 .view ⟨0,0,none⟩ (fun _ _=>default) (Nat.le_refl _) (Nat.zero_le _) (fun h=>absurd h (Nat.lt_irrefl 0)) (fun i h=>absurd h (Nat.not_lt_zero i)) (fun i h=>absurd h (Nat.not_lt_zero i)) (fun i h=>absurd h (Nat.not_lt_zero i)) (fun i h=>absurd h (Nat.not_lt_zero i))
theorem clBlk0 (hP:C.P=Tryz.prog) (f:Nat→List AV):wak C 109 [.view 2 0 f] [] fun u' O=>u'= .view 2 0 f∧O=[]:=by
 refine wak.below ⟨_,hP ▸ Tryz.func109,rfl,by decide⟩ fun w M cargs hlaid _ hM hl hv=>?_
 obtain ⟨a,rfl⟩:=mem1 hl
 have V0:=hv 0 _ _ rfl rfl
 cases V0 with | @view _ A _ c _ _ ad cv hn hcm hA hl hc h1 hv'=>
 rw [hP]
 cases A with
 |none=>
  refine (Tryz.clone_nilBlk 0 c w).mono ?_
  rintro e w' ⟨rfl,rfl⟩
  exact ⟨_,rfl,Below.refl _ _,we5⟩
 |some a=>
  refine (Tryz.clone_noneBlk a c w).mono ?_
  rintro e w' ⟨rfl,rfl⟩
  exact ⟨_,rfl,wkq _ _,we5⟩
theorem clMsg0 (hP:C.P=Tryz.prog) (f:Nat→List AV):wak C 140 [.view 15 0 f] [] fun u' O=>u'= .view 15 0 f∧O=[]:=by
 refine wak.below ⟨_,hP ▸ Tryz.func140,rfl,by decide⟩ fun w M cargs hlaid _ hM hl hv=>?_
 obtain ⟨a,rfl⟩:=mem1 hl
 have V0:=hv 0 _ _ rfl rfl
 cases V0 with | @view _ A _ c _ _ ad cv hn hcm hA hl hc h1 hv'=>
 rw [hP]
 cases A with
 |none=>
  refine (Tryz.clone_nilMsg 0 c w).mono ?_
  rintro e w' ⟨rfl,rfl⟩
  exact ⟨_,rfl,Below.refl _ _,we5⟩
 |some a=>
  refine (Tryz.clone_noneMsg a c w).mono ?_
  rintro e w' ⟨rfl,rfl⟩
  exact ⟨_,rfl,wkq _ _,we5⟩
theorem clRow0 (hP:C.P=Tryz.prog) (f:Nat→List AV):wak C 141 [.view 5 0 f] [] fun u' O=>u'= .view 5 0 f∧O=[]:=by
 refine wak.below ⟨_,hP ▸ Tryz.func141,rfl,by decide⟩ fun w M cargs hlaid _ hM hl hv=>?_
 obtain ⟨a,rfl⟩:=mem1 hl
 have V0:=hv 0 _ _ rfl rfl
 cases V0 with | @view _ A _ c _ _ ad cv hn hcm hA hl hc h1 hv'=>
 rw [hP]
 cases A with
 |none=>
  refine (Tryz.clone_nilRow 0 c w).mono ?_
  rintro e w' ⟨rfl,rfl⟩
  exact ⟨_,rfl,Below.refl _ _,we5⟩
 |some a=>
  refine (Tryz.clone_noneRow a c w).mono ?_
  rintro e w' ⟨rfl,rfl⟩
  exact ⟨_,rfl,wkq _ _,we5⟩
theorem clRat0 (hP:C.P=Tryz.prog) (f:Nat→List AV):wak C 142 [.view 5 0 f] [] fun u' O=>u'= .view 5 0 f∧O=[]:=by
 refine wak.below ⟨_,hP ▸ Tryz.func142,rfl,by decide⟩ fun w M cargs hlaid _ hM hl hv=>?_
 obtain ⟨a,rfl⟩:=mem1 hl
 have V0:=hv 0 _ _ rfl rfl
 cases V0 with | @view _ A _ c _ _ ad cv hn hcm hA hl hc h1 hv'=>
 rw [hP]
 cases A with
 |none=>
  refine (Tryz.clone_nilRat 0 c w).mono ?_
  rintro e w' ⟨rfl,rfl⟩
  exact ⟨_,rfl,Below.refl _ _,we5⟩
 |some a=>
  refine (Tryz.clone_noneRat a c w).mono ?_
  rintro e w' ⟨rfl,rfl⟩
  exact ⟨_,rfl,wkq _ _,we5⟩
theorem wks (g f:Nat→List AV):apF 0 g f=f:=by
 funext i
 simp [apF]
theorem wja {t:TypeId} {k n:Nat} {f:Nat→List AV} {R:AV→List (Nat×AObj)→Prop} (h:R (.own 0 n) [(0,.row t k n f false)]):∃ (O':List (Nat×AObj)),wag [(0,.row t k n f false)] O'∧R (.own 0 n) O':=⟨_,wan _,h⟩
theorem clBlk1 (hP:C.P=Tryz.prog) (n:Nat) (f:Nat→List AV) (hn:n+1≤100000) (hf:∀ i,i<n+1→nrefL (f i)=true) {R:AV→List (Nat×AObj)→Prop} (h:R (.own 0 (n+1)) [(0,.row 115 2 (n+1) f false)]):wak C 109 [.view 2 (n+1) f] [] R:=by
 have _:C.Loose:=inferInstance
 refine wbc.wpL (prg hP) [] [] 0 .nil (hP ▸ Tryz.func109) rfl rfl rfl [] (by kernel_rfl) trivial ?_
 rw [wyw,wks,Nat.zero_add]
 refine ⟨⟨by omega,rfl,by omega⟩,⟨rfl,by omega,rfl,rfl,rfl,by omega,?_⟩,hf,wja h⟩
 show (n+1) * _≤_
 refine Nat.le_trans (Nat.mul_le_mul_right _ hn) (by decide)
theorem w1h (hP:C.P=Tryz.prog):wae C 109 wme:=by
 rintro args objs U Os vc h hvc
 unfold wme at h
 split at h<;>simp only [Option.some.injEq,Prod.mk.injEq,reduceCtorEq] at h
 rename_i n f
 obtain ⟨rfl,rfl,rfl⟩:=h
 obtain ⟨hn,hf⟩:=hvc
 cases n with
 |zero=>exact clBlk0 hP f
 |succ n=>
  refine wak.frzO 0 (clBlk1 hP n f hn hf ⟨hf,?_⟩)
  have hb:Nat.ble (n+1) (n+1)=true:=Nat.ble_eq_true_of_le (Nat.le_refl _)
  constructor
  ·simp [frzC,frzA,frz,hb]
  ·rfl
theorem clMsg1 (hP:C.P=Tryz.prog) (n:Nat) (f:Nat→List AV) (hn:n+1≤100000) (hf:∀ i,i<n+1→nrefL (f i)=true) {R:AV→List (Nat×AObj)→Prop} (h:R (.own 0 (n+1)) [(0,.row 40 15 (n+1) f false)]):wak C 140 [.view 15 (n+1) f] [] R:=by
 have _:C.Loose:=inferInstance
 refine wbc.wpL (prg hP) [] [] 0 .nil (hP ▸ Tryz.func140) rfl rfl rfl [] (by kernel_rfl) trivial ?_
 rw [wyv,wks,Nat.zero_add]
 refine ⟨⟨by omega,rfl,by omega⟩,⟨rfl,by omega,rfl,rfl,rfl,by omega,?_⟩,hf,wja h⟩
 show (n+1) * _≤_
 refine Nat.le_trans (Nat.mul_le_mul_right _ hn) (by decide)
theorem wut (hP:C.P=Tryz.prog):wae C 140 wg6:=by
 rintro args objs U Os vc h hvc
 unfold wg6 at h
 split at h<;>simp only [Option.some.injEq,Prod.mk.injEq,reduceCtorEq] at h
 rename_i n f
 obtain ⟨rfl,rfl,rfl⟩:=h
 obtain ⟨hn,hf⟩:=hvc
 cases n with
 |zero=>exact clMsg0 hP f
 |succ n=>
  refine wak.frzO 0 (clMsg1 hP n f hn hf ⟨hf,?_⟩)
  have hb:Nat.ble (n+1) (n+1)=true:=Nat.ble_eq_true_of_le (Nat.le_refl _)
  constructor
  ·simp [frzC,frzA,frz,hb]
  ·rfl
theorem clRow1 (hP:C.P=Tryz.prog) (n:Nat) (f:Nat→List AV) (hn:n+1≤100000) (hf:∀ i,i<n+1→nrefL (f i)=true) {R:AV→List (Nat×AObj)→Prop} (h:R (.own 0 (n+1)) [(0,.row 61 5 (n+1) f false)]):wak C 141 [.view 5 (n+1) f] [] R:=by
 have _:C.Loose:=inferInstance
 refine wbc.wpL (prg hP) [] [] 0 .nil (hP ▸ Tryz.func141) rfl rfl rfl [] (by kernel_rfl) trivial ?_
 rw [wyt,wks,Nat.zero_add]
 refine ⟨⟨by omega,rfl,by omega⟩,⟨rfl,by omega,rfl,rfl,rfl,by omega,?_⟩,hf,wja h⟩
 show (n+1) * _≤_
 refine Nat.le_trans (Nat.mul_le_mul_right _ hn) (by decide)
theorem wur (hP:C.P=Tryz.prog):wae C 141 wg4:=by
 rintro args objs U Os vc h hvc
 unfold wg4 at h
 split at h<;>simp only [Option.some.injEq,Prod.mk.injEq,reduceCtorEq] at h
 rename_i n f
 obtain ⟨rfl,rfl,rfl⟩:=h
 obtain ⟨hn,hf⟩:=hvc
 cases n with
 |zero=>exact clRow0 hP f
 |succ n=>
  refine wak.frzO 0 (clRow1 hP n f hn hf ⟨hf,?_⟩)
  have hb:Nat.ble (n+1) (n+1)=true:=Nat.ble_eq_true_of_le (Nat.le_refl _)
  constructor
  ·simp [frzC,frzA,frz,hb]
  ·rfl
theorem clRat1 (hP:C.P=Tryz.prog) (n:Nat) (f:Nat→List AV) (hn:n+1≤100000) (hf:∀ i,i<n+1→nrefL (f i)=true) {R:AV→List (Nat×AObj)→Prop} (h:R (.own 0 (n+1)) [(0,.row 97 5 (n+1) f false)]):wak C 142 [.view 5 (n+1) f] [] R:=by
 have _:C.Loose:=inferInstance
 refine wbc.wpL (prg hP) [] [] 0 .nil (hP ▸ Tryz.func142) rfl rfl rfl [] (by kernel_rfl) trivial ?_
 rw [wyu,wks,Nat.zero_add]
 refine ⟨⟨by omega,rfl,by omega⟩,⟨rfl,by omega,rfl,rfl,rfl,by omega,?_⟩,hf,wja h⟩
 show (n+1) * _≤_
 refine Nat.le_trans (Nat.mul_le_mul_right _ hn) (by decide)
theorem wus (hP:C.P=Tryz.prog):wae C 142 wg5:=by
 rintro args objs U Os vc h hvc
 unfold wg5 at h
 split at h<;>simp only [Option.some.injEq,Prod.mk.injEq,reduceCtorEq] at h
 ·obtain ⟨rfl,rfl,rfl⟩:=h
  exact clRat0 hP _
 ·obtain ⟨rfl,rfl,rfl⟩:=h
  exact clRat1 hP _ _ hvc.1 hvc.2 ⟨rfl,rfl⟩
theorem nf_cpd0 (F:FL) (R:AV→List (Nat×AObj)→Prop):wpFn te [(140,.det wg6),(141,.det wg4),(142,.det wg5)] [] 1 Tryz.f96 [.agg [.str F.id,.int .i64 F.ver,.int .i64 F.day,.int .i64 F.kind,.view 15 F.ms.length (waf (atM F.ms)),.view 5 F.rs.length (wah (atR F.rs)),.view 5 0 (wai (atT []))]] [] R=((List.length (FL.ms F)≤100000∧∀ (i:Nat),i<List.length (FL.ms F)→true=true)∧(List.length (FL.rs F)≤100000∧∀ (i:Nat),i<List.length (FL.rs F)→true=true)∧True∧(True∧True)∧R (.agg [.str (FL.id F),.int .i64 (FL.ver F),.int .i64 (FL.day F),.int .i64 (FL.kind F),.view 15 (List.length (FL.ms F)) (waf (atM (FL.ms F))),.view 5 (List.length (FL.rs F)) (wah (atR (FL.rs F))),.view 5 0 (wai (atT []))]) []):=by kernel_rfl
theorem nf_cpd (F:FL) (t:RT) (l:List RT) (R:AV→List (Nat×AObj)→Prop):wpFn te [(140,.det wg6),(141,.det wg4),(142,.det wg5)] [(3,L_kc F)] 0 Tryz.f96 [.agg [.str F.id,.int .i64 F.ver,.int .i64 F.day,.int .i64 F.kind,.view 15 F.ms.length (waf (atM F.ms)),.view 5 F.rs.length (wah (atR F.rs)),.view 5 (l.length+1) (wai (atT (t::l)))]] [] R=(letI z6:=wah (atR (FL.rs F));letI z5:=List.length (FL.rs F);letI z4:=waf (atM (FL.ms F));letI z3:=List.length (FL.ms F);letI z2:=List.length l+1;letI z1:=([.str [],.int .i64 0,.int .i64 0,.int .i64 0,.nil,.nil,.nil]:List AV);letI z0:=List.length (FL.ts F);(List.length (FL.ms F)≤100000∧∀ (i:Nat),i<List.length (FL.ms F)→true=true)∧(List.length (FL.rs F)≤100000∧∀ (i:Nat),i<List.length (FL.rs F)→true=true)∧(List.length l+1≤100000∧∀ (i:Nat),i<List.length l+1→true=true)∧(∀ (i:Nat),i<List.length l+1→true=true)∧(TEq [(1,.ptr 0 0),(2,.ptr 1 0),(17,.own 2 z2),(18,.int .i64 (↑z2:Int)),(19,.int .i64 0)] [(1,.ptr 0 0),(2,.ptr 1 0),(17,.own 2 z0),(18,.int .i64 (↑z0:Int)),(19,.int .i64 (↑0:Int))]∧wag [(0,.cells [.str (FL.id F),.int .i64 (FL.ver F),.int .i64 (FL.day F),.int .i64 (FL.kind F),.view 15 z3 z4,.view 5 z5 z6,.own 2 z2] 49),(1,.cells z1 49),(2,.row 97 5 z2 (wai (atT (t::l))) false)] [(0,.cells [.str (FL.id F),.int .i64 (FL.ver F),.int .i64 (FL.day F),.int .i64 (FL.kind F),.view 15 z3 z4,.view 5 z5 z6,.own 2 z0] 49),(1,.cells z1 49),(2,.row 97 5 z0 (wai (atT (FL.ts F))) false)])∧List.length (FL.ts F)≤1000∧(∀ (t:RT),t∈FL.ts F→List.length (RT.bs t)≤1000)∧(True∧True)∧(∀ (i:Nat),i<List.length (FL.ts F)→true=true)∧∃ (O':List (Nat×AObj)),wag [(0,.row 97 5 z0 (wai (atT (FL.ts F))) false)] O'∧R (.agg [.str (FL.id F),.int .i64 (FL.ver F),.int .i64 (FL.day F),.int .i64 (FL.kind F),.view 15 z3 z4,.view 5 z5 z6,.own 0 z0]) O'):=by kernel_rfl
theorem wx8 (F:FL) (k:Nat) (P:Nat→Prop) (R:Exit→St→Prop):wa6 ⟨te,[(109,.det wme)],[],0,38,0⟩ (wa8 Tryz.f96 3) [1,2,17,18,19] [1,2] [] (S_kc F) P R (S_kc F k)=(letI z4:=([.str [],.int .i64 0,.int .i64 0,.int .i64 0,.nil,.nil,.nil]:List AV);letI z2:=List.length (FL.ts F);letI z5:=((0:Int)≤(↑k:Int)∧(↑k:Int)<(↑z2:Int):Prop);letI z1:=(atT (FL.ts F) (Int.toNat (↑k:Int)));letI z0:=([.str (FL.id F),.int .i64 (FL.ver F),.int .i64 (FL.day F),.int .i64 (FL.kind F),.view 15 (List.length (FL.ms F)) (waf (atM (FL.ms F))),.view 5 (List.length (FL.rs F)) (wah (atR (FL.rs F))),.own 2 z2]:List AV);letI z3:=([(0,.cells z0 49),(1,.cells z4 49),(2,.row 97 5 z2 (wai (atT (FL.ts F))) false)]:List (Nat×AObj));wac (decide ((↑k:Int)<(↑z2:Int))) (z5∧(Int.toNat (↑k:Int)<List.length (FL.ts F)∧5=5)∧(List.length (RT.bs z1)≤100000∧∀ (i:Nat),i<List.length (RT.bs z1)→true=true)∧z5∧(List.length [AV.view 2 (List.length (RT.bs z1)) (wa1 (atB (RT.bs z1)))]=1∧Int.toNat (↑k:Int)<List.length (FL.ts F)∧5=5)∧inR .i64 ((↑k:Int)+(1:Int))∧∃ (i':Nat),(TEq [(1,.ptr 0 0),(2,.ptr 1 0),(17,.own 2 z2),(18,.int .i64 (↑z2:Int)),(19,.int .i64 ((↑k:Int)+(1:Int)))] [(1,.ptr 0 0),(2,.ptr 1 0),(17,.own 2 z2),(18,.int .i64 (↑z2:Int)),(19,.int .i64 (↑i':Int))]∧wag [(0,.cells z0 49),(1,.cells z4 49),(2,.row 97 5 z2 (fun (k_1:Nat)=>if k_1=Int.toNat (↑k:Int) then [.str (RT.o z1),.str (RT.p z1),.int .i64 (RT.per z1),.int .i64 (RT.st z1),.view 2 (List.length (RT.bs z1)) (wa1 (atB (RT.bs z1)))] else wai (atT (FL.ts F)) k_1) false)] z3)∧P i') ((∀ (i:Nat),i<List.length (FL.ts F)→true=true)∧∃ (O':List (Nat×AObj)),wag z3 O'∧R (.exit 0) (St.mk [(1,.ptr 0 0),(2,.ptr 1 0)] O' 3 []))):=by kernel_rfl
theorem kc_loop (hP:C.P=Tryz.prog) (F:FL):waj C 0 38 (wao Tryz.f96 3) (L_kc F):=by
 rintro s Q ⟨h0,hn,hb,hQ⟩
 refine waj.mk (prg hP) [(109,.det wme)] 0 (.cons (w1h hP) .nil) [1,2,17,18,19] [1,2] [] (S_kc F) (fun k=>k≤F.ts.length) (fun k=>F.ts.length - k) 0 (Nat.zero_le _) h0 (fun k hk=>?_) (fun _=>⟨fun _ _=>rfl,trivial⟩)
 rw [wx8,Int.toNat_natCast]
 refine wal (fun h1=>?_) (fun h1=>?_)
 ·have hlt:k<F.ts.length:=by omega
  have hbk:(atT F.ts k).bs.length≤1000:=hb _ (by
   unfold atT
   simp [List.getD,List.getElem?_eq_getElem hlt])
  refine ⟨⟨by omega,by omega⟩,⟨hlt,rfl⟩,⟨by omega,fun _ _=>rfl⟩,⟨by omega,by omega⟩,⟨rfl,hlt,rfl⟩,by simp only [inR];omega,k+1,⟨rfl,?_⟩,by omega,by omega⟩
  refine ⟨rfl,rfl,⟨rfl,rfl,rfl,rfl,rfl,fun i hi=>?_⟩,trivial⟩
  by_cases e:i=k
  ·subst e;exact if_pos rfl
  ·exact if_neg e
 ·exact ⟨fun _ _=>rfl,_,wan _,hQ⟩
theorem cpd_at (hP:C.P=Tryz.prog) (F:FL) (hm:F.ms.length≤1000) (hr:F.rs.length≤1000) (ht:F.ts.length≤1000) (hb:∀ t∈F.ts,t.bs.length≤1000):
  ADet C 96 [.agg [.str F.id,.int .i64 F.ver,.int .i64 F.day,.int .i64 F.kind,.view 15 F.ms.length (waf (atM F.ms)),.view 5 F.rs.length (wah (atR F.rs)),.view 5 F.ts.length (wai (atT F.ts))]] []
   (.agg [.str F.id,.int .i64 F.ver,.int .i64 F.day,.int .i64 F.kind,.view 15 F.ms.length (waf (atM F.ms)),.view 5 F.rs.length (wah (atR F.rs)),.view 5 F.ts.length (wai (atT F.ts))]) []:=by
 obtain ⟨id,ver,day,kind,ms,rs,ts⟩:=F
 cases ts with
 |nil=>
  refine wbc.wpL (prg hP) [(140,.det wg6),(141,.det wg4),(142,.det wg5)] [] 1 (.cons (wut hP) (.cons (wur hP) (.cons (wus hP) .nil))) (hP ▸ Tryz.func96) rfl rfl rfl [] (by kernel_rfl) trivial ?_
  refine (nf_cpd0 ⟨id,ver,day,kind,ms,rs,[]⟩ _).mpr ?_
  exact ⟨⟨by omega,fun _ _=>rfl⟩,⟨by omega,fun _ _=>rfl⟩,trivial,⟨trivial,trivial⟩,rfl,rfl⟩
 |cons t l=>
  refine wak.frzO 0 ?_
  refine wbc.wpL (prg hP) [(140,.det wg6),(141,.det wg4),(142,.det wg5)] [(3,L_kc ⟨id,ver,day,kind,ms,rs,t::l⟩)] 0 (.cons (wut hP) (.cons (wur hP) (.cons (wus hP) .nil))) (hP ▸ Tryz.func96) rfl rfl rfl
   [(wao Tryz.f96 3,L_kc ⟨id,ver,day,kind,ms,rs,t::l⟩)] (by kernel_rfl) ⟨kc_loop hP _,trivial⟩ ?_
  refine (nf_cpd ⟨id,ver,day,kind,ms,rs,t::l⟩ t l _).mpr ?_
  have h3:l.length+1≤1000:=ht
  refine ⟨⟨by omega,fun _ _=>rfl⟩,⟨by omega,fun _ _=>rfl⟩,⟨by omega,fun _ _=>rfl⟩,fun _ _=>rfl,⟨rfl,wan _⟩,ht,hb,⟨trivial,trivial⟩,fun _ _=>rfl,_,wan _,fun _ _=>rfl,?_⟩
  have hq:Nat.ble (l.length+1) (l.length+1)=true:=Nat.ble_eq_true_of_le (Nat.le_refl _)
  constructor
  ·simp [frzC,frzA,frz,hq]
  ·rfl
theorem vname (id:List UInt8):decide (msgF ⟨id,0,0,⟨[],[],0,0,0,0,[]⟩,⟨[],[],0,[],0⟩⟩=110)= !wa5 id:=by
 unfold msgF
 cases h:wa5 id with
 |true=>
  simp only [Bool.not_true,cond_false]
  rfl
 |false=>simp only [Bool.not_false,cond_true];rfl
theorem vday (d:Int):decide ((bif decide (0≤d) && decide (d≤182620) then d % 7 else -1)<0)=(decide (d<0) || decide (182620<d)):=by
 by_cases h1:d<0
 ·rw [decide_eq_false (show ¬ 0≤d by omega),decide_eq_true h1];rfl
 ·by_cases h2:182620<d
  ·rw [decide_eq_false (show ¬ d≤182620 by omega),Bool.and_false,decide_eq_true h2,Bool.or_true];rfl
  ·rw [decide_eq_true (show 0≤d by omega),decide_eq_true (show d≤182620 by omega),decide_eq_false h1,decide_eq_false h2]
   exact decide_eq_false (by show ¬ d % 7<0;omega)
theorem vin_ok (hP:C.P=Tryz.prog) (hL:∀ w,C.laid w→LaidW w):wae C 29 wkx:=by
 rintro args objs U Os vc h hvc
 unfold wkx at h
 split at h<;>simp only [Option.some.injEq,Prod.mk.injEq,reduceCtorEq] at h
 rename_i id ver day kind nm fm nr fr nt ft
 obtain ⟨rfl,rfl,rfl⟩:=h
 obtain ⟨hc,hs⟩:=hvc
 have l1:(lst (mgOf fm) nm).length=nm:=by simp [lst]
 have l2:(lst (rwOf fr) nr).length=nr:=by simp [lst]
 have l3:(lst (rtOf ft) nt).length=nt:=by simp [lst]
 obtain ⟨c1,c2,c3⟩:=hc
 unfold flV at hs ⊢
 generalize lst (mgOf fm) nm=ms at *
 generalize lst (rwOf fr) nr=rs at *
 generalize lst (rtOf ft) nt=ts at *
 subst l1;subst l2;subst l3;subst c1;subst c2;subst c3
 have hn:=nf_vin ⟨id,ver,day,kind,ms,rs,ts⟩
 dsimp only at hn
 refine wae.wp0 (prg hP) [(72,.det we7),(73,.det wgu),(74,.det wmc)] 0 (.cons (wot hP hL) (.cons (wqq hP) (.cons (w08 hP hL) .nil))) (hP ▸ Tryz.func29) rfl rfl rfl ?_
 rw [hn]
 have hid:=hs.id
 dsimp only at hid
 have fl:=wdg ⟨id,ver,day,kind,ms,rs,ts⟩
 have fc:=weh ⟨id,ver,day,kind,ms,rs,ts⟩
 dsimp only at fl fc
 rw [fl,vname,vday]
 unfold vinF
 dsimp only
 refine ⟨⟨hid,by decide,by decide,by decide⟩,wax (fun k1=>by rw [k1];exact ⟨rfl,rfl⟩) (fun k1=>?_)⟩
 rw [k1]
 have tail:(decide (ver<1) || decide (1000<ver) || (decide (kind=1) && !decide (ver=1)))=false→True∧wac (decide (day<0) || decide (182620<day)) ((AV.int .i64 152=AV.int .i64 (bif false then 150 else bif decide (ver<1) || decide (1000<ver) || (decide (kind=1) && !decide (ver=1)) then 151 else bif decide (day<0) || decide (182620<day) then 152 else bif decide (kind<1) || decide (3<kind) then 153 else bif !ctF ⟨id,ver,day,kind,ms,rs,ts⟩ then 154 else 0))∧([]:List (Nat×AObj))=[])
   (wac (decide (kind<1)) ((AV.int .i64 153=AV.int .i64 (bif false then 150 else bif decide (ver<1) || decide (1000<ver) || (decide (kind=1) && !decide (ver=1)) then 151 else bif decide (day<0) || decide (182620<day) then 152 else bif decide (kind<1) || decide (3<kind) then 153 else bif !ctF ⟨id,ver,day,kind,ms,rs,ts⟩ then 154 else 0))∧([]:List (Nat×AObj))=[])
   (wac (decide (3<kind)) ((AV.int .i64 153=AV.int .i64 (bif false then 150 else bif decide (ver<1) || decide (1000<ver) || (decide (kind=1) && !decide (ver=1)) then 151 else bif decide (day<0) || decide (182620<day) then 152 else bif decide (kind<1) || decide (3<kind) then 153 else bif !ctF ⟨id,ver,day,kind,ms,rs,ts⟩ then 154 else 0))∧([]:List (Nat×AObj))=[])
   ((FlC ms.length (waf (atM ms)) rs.length (wah (atR rs)) ts.length (wai (atT ts))∧FL.Sm ⟨id,ver,day,kind,ms,rs,ts⟩)∧wac (!ctF ⟨id,ver,day,kind,ms,rs,ts⟩) ((AV.int .i64 154=AV.int .i64 (bif false then 150 else bif decide (ver<1) || decide (1000<ver) || (decide (kind=1) && !decide (ver=1)) then 151 else bif decide (day<0) || decide (182620<day) then 152 else bif decide (kind<1) || decide (3<kind) then 153 else bif !ctF ⟨id,ver,day,kind,ms,rs,ts⟩ then 154 else 0))∧([]:List (Nat×AObj))=[])
    ((AV.int .i64 0=AV.int .i64 (bif false then 150 else bif decide (ver<1) || decide (1000<ver) || (decide (kind=1) && !decide (ver=1)) then 151 else bif decide (day<0) || decide (182620<day) then 152 else bif decide (kind<1) || decide (3<kind) then 153 else bif !ctF ⟨id,ver,day,kind,ms,rs,ts⟩ then 154 else 0))∧([]:List (Nat×AObj))=[])))):=fun e=>by
  rw [e]
  refine ⟨trivial,wax (fun d=>by rw [d];exact ⟨rfl,rfl⟩) (fun d=>?_)⟩
  rw [d]
  refine wax (fun k=>by rw [k];exact ⟨rfl,rfl⟩) (fun k=>wax (fun j=>by rw [k,j];exact ⟨rfl,rfl⟩) (fun j=>⟨⟨fc,hs⟩,?_⟩))
  rw [k,j]
  exact wax (fun c=>by rw [c];exact ⟨rfl,rfl⟩) (fun c=>by rw [c];exact ⟨rfl,rfl⟩)
 refine wax (fun a=>by rw [a];exact ⟨rfl,rfl⟩) (fun a=>wax (fun b=>by rw [a,b];exact ⟨rfl,rfl⟩) (fun b=>wax (fun c=>wax (fun d=>by rw [a,b,c,d];exact ⟨rfl,rfl⟩) (fun d=>tail (by rw [a,b,c,d];rfl))) (fun c=>tail (by rw [a,b,c];rfl))))
end Go.Eng
namespace Go.Eng
open Go.Proofs Go.RowKit Go.Sort
variable {C:Ctx} [C.Loose]
set_option maxRecDepth 20000
theorem nf_nrm (g:Nat→FL) (n:Nat) (R:AV→List (Nat×AObj)→Prop):wpFn te [(91,.rel wmp)] [(3,L_n3 g n),(13,wm5 g n),(19,wm4 g n)] 0 Tryz.f39 [.view 7 n (wad g)] [] R=(letI z9:=ren 0 [(0,0),(19,1),(1,2),(2,3)];letI z8:=([(3,.ptr 0 0),(9,.own 1 0),(46,.ptr 2 0)]:List (Nat×AV));letI z5:=List.length (entN g n);letI z3:=(∀ (i:Nat),i<List.length (wat okV g n)→true=true:Prop);letI z2:=(IN.mk 0 (fun (_x:Nat)=>[]) z5 (List.range z5));letI z1:=List.length (wat okV g n);letI z0:=(List.map (fun (p:AV×AV)=>(AV.rn (idxN [1,0,2]) (Prod.fst p),AV.rn (idxN [1,0,2]) (Prod.snd p))) (entN g n));some (St.mk [(3,.ptr 0 0),(15,.view 7 n (wad g)),(16,.int .i64 (↑n:Int)),(17,.int .i64 0)] [(0,.cells [.map 1] 121),(1,.amap (List.map (fun (p:AV×AV)=>(AV.rn (ren 0 [(1,0),(0,1)]) (Prod.fst p),AV.rn (ren 0 [(1,0),(0,1)]) (Prod.snd p))) []))] 2 [])=some (St.mk [(3,.ptr 0 0),(15,.view 7 n (wad g)),(16,.int .i64 (↑n:Int)),(17,.int .i64 (↑0:Int))] [(0,.cells [.map 1] 121),(1,.amap (entN g 0))] 2 [])∧n≤1000∧(∀ (i:Nat),i<n→FL.Gd (g i))∧(TEq z8 z8∧wag [(0,.cells [.map 3] 121),(1,.row 9 1 0 (fun (_x:Nat)=>[]) false),(2,.miter 3 z5 (121::List.length (entN g n)::List.range z5)),(3,.amap (List.map (fun (p:AV×AV)=>(AV.rn (ren 0 [(0,0),(3,1),(2,2),(1,3)]) (Prod.fst p),AV.rn (ren 0 [(0,0),(3,1),(2,2),(1,3)]) (Prod.snd p))) (entN g n)))] [(0,.cells [.map 3] 121),(1,.row 9 1 0 (wa0 (IN.h z2)) false),(2,.miter 3 z5 (121::IN.c0 z2::IN.left z2)),(3,.amap (entN g n))])∧n≤1000∧∀ (h:Nat→List UInt8),List.Perm (lst h z1) (wat okV g n)→z3∧9=9∧false=false∧List.length (wat okV g n)=List.length (wat okV g n)∧List.length (wat okV g n)≤1000000∧wa0 h=wa0 (stOf (wa0 h))∧wbr TypeDesc.string z0∧(∀ (x:List UInt8),letI z7:=waw (gotN z0 x) (0+1+1+1+1);letI z6:=waw (gotN z0 x) (0+1+1+1+1+1);letI z4:=waw (gotN z0 x) (0+1+1+1+1+1+1); .agg [.str (wbx (waw (gotN z0 x) 0)),.int .i64 (was (waw (gotN z0 x) (0+1))),.int .i64 (was (waw (gotN z0 x) (0+1+1))),.int .i64 (was (waw (gotN z0 x) (0+1+1+1))),.view (vwS z7) (vwN z7) (vwF z7),.view (vwS z6) (vwN z6) (vwF z6),.view (vwS z4) (vwN z4) (vwF z4)]=gotN z0 x)∧(∀ (p:AV×AV),p∈List.map (fun (p:AV×AV)=>(AV.rn (idxN [1,0,2]) (Prod.fst p),AV.rn (idxN [1,0,2]) (Prod.snd p))) (entN g n)→nref (Prod.fst p)=true∧nref (Prod.snd p)=true)∧∀ (h_1:Nat→List UInt8),List.Perm (lst h_1 z1) (lst (stOf (wa0 h)) z1)→(∀ (i j:Nat),i<j→j<List.length (wat okV g n)→¬cmpN z0 (h_1 j) (h_1 i)<(0:Int))→z3∧∃ (h:Nat→List UInt8),∃ (o:Nat→FL),(TEq [(3,.ptr 0 0),(11,.own 1 0),(58,.own 2 z1),(59,.int .i64 (↑z1:Int)),(60,.int .i64 0)] [(3,.ptr 0 0),(11,.own 1 0),(58,.own 2 z1),(59,.int .i64 (↑z1:Int)),(60,.int .i64 (↑0:Int))]∧wag [(0,.cells [.map 3] 121),(1,.row 49 7 0 (fun (_x:Nat)=>[]) false),(2,.row 9 1 z1 (wa0 h_1) false),(3,.amap (List.map (fun (p:AV×AV)=>(AV.rn z9 (Prod.fst p),AV.rn z9 (Prod.snd p))) (List.map (fun (p:AV×AV)=>(AV.rn (sig [1,0,2] 3) (Prod.fst p),AV.rn (sig [1,0,2] 3) (Prod.snd p))) z0)))] [(0,.cells [.map 3] 121),(1,.row 49 7 0 (wad o) false),(2,.row 9 1 z1 (wa0 h) false),(3,.amap (entN g n))])∧n≤1000∧(∀ (i:Nat),i<List.length (wat okV g n)→isFl (gotN (entN g n) (h i)) (o i)∧FL.Gd (o i))∧z3∧∃ (O':List (Nat×AObj)),wag [(0,.row 49 7 z1 (wad o) false)] O'∧R (.own 0 z1) O'):=by kernel_rfl
theorem wx0 (g:Nat→FL) (n k:Nat) (P:Nat→Prop) (R:Exit→St→Prop):wa6 ⟨te,[(29,.det wkx),(33,.det we8)],[],0,73,0⟩ (wa8 Tryz.f39 3) [3,15,16,17] [3] [] (S_n3 g n) P R (S_n3 g n k)=(letI z10:=ren 0 [(0,0),(1,1)];letI z8:=TI.desc (TI.mk TypeDesc.string 1 16 (Value.string (ByteArray.mk #[])) false);letI z7:=zvA (.agg [.str ([]),.int .i64 0,.int .i64 0,.int .i64 0,.nil,.nil,.nil]);letI z6:=([(3,.ptr 0 0),(15,.view 7 n (wad g)),(16,.int .i64 (↑n:Int)),(17,.int .i64 ((↑k:Int)+(1:Int)))]:List (Nat×AV));letI z5:=([(0,.cells [.map 1] 121),(1,.amap (List.map (fun (p:AV×AV)=>(AV.rn z10 (Prod.fst p),AV.rn z10 (Prod.snd p))) (entN g k)))]:List (Nat×AObj));letI z4:=(inR .i64 ((↑k:Int)+(1:Int))∧∃ (i':Nat),some (St.mk z6 z5 2 [])=some (St.mk [(3,.ptr 0 0),(15,.view 7 n (wad g)),(16,.int .i64 (↑n:Int)),(17,.int .i64 (↑i':Int))] [(0,.cells [.map 1] 121),(1,.amap (entN g i'))] 2 [])∧P i');letI z3:=(g (Int.toNat (↑k:Int)));letI z16:=wai (atT (FL.ts z3));letI z15:=List.length (FL.ts z3);letI z14:=wah (atR (FL.rs z3));letI z13:=List.length (FL.rs z3);letI z12:=waf (atM (FL.ms z3));letI z11:=List.length (FL.ms z3);letI z0:=(flV (FL.id z3) (FL.ver z3) (FL.day z3) (FL.kind z3) z11 z12 z13 z14 z15 z16);letI z17:=mget (entN g k) (.str (encF z0));letI z2:=(wbr z8 (entN g k)∧inR .i64 ((↑k:Int)+(1:Int))∧∃ (i':Nat),some (St.mk z6 [(0,.cells [.map 1] 121),(1,.amap (List.map (fun (p:AV×AV)=>(AV.rn z10 (Prod.fst p),AV.rn z10 (Prod.snd p))) (mset (entN g k) (.str (encF z0)) (.agg [.str (FL.id z3),.int .i64 (FL.ver z3),.int .i64 (FL.day z3),.int .i64 (FL.kind z3),.view 15 z11 z12,.view 5 z13 z14,.view 5 z15 z16]))))] 2 [])=some (St.mk [(3,.ptr 0 0),(15,.view 7 n (wad g)),(16,.int .i64 (↑n:Int)),(17,.int .i64 (↑i':Int))] [(0,.cells [.map 1] 121),(1,.amap (entN g i'))] 2 [])∧P i');letI z1:=Option.getD z17 z7;letI z19:=waw z1 (0+1+1+1+1);letI z18:=waw z1 (0+1+1+1+1+1);letI z9:=waw z1 (0+1+1+1+1+1+1);wac (decide ((↑k:Int)<(↑n:Int))) (((0:Int)≤(↑k:Int)∧(↑k:Int)<(↑n:Int)∧7=7)∧(FlC z11 z12 z13 z14 z15 z16∧FL.Sm z0)∧wac (!decide (vinF z0=(0:Int))) z4 ((FlC z11 z12 z13 z14 z15 z16∧FL.Rg z0)∧(wbr z8 (entN g k)∧.agg [.str (wbx (waw z1 0)),.int .i64 (was (waw z1 (0+1))),.int .i64 (was (waw z1 (0+1+1))),.int .i64 (was (waw z1 (0+1+1+1))),.view (vwS z19) (vwN z19) (vwF z19),.view (vwS z18) (vwN z18) (vwF z18),.view (vwS z9) (vwN z9) (vwF z9)]=Option.getD z17 z7)∧wac (!Option.isSome z17) z2 (wac (decide (FL.day z3<was (waw z1 (0+1+1)))) z2 z4))) (R (.exit 0) (St.mk [(3,.ptr 0 0)] z5 2 []))):=by kernel_rfl
theorem wx2 (es:List (AV×AV)) (i:IN) (P:IN→Prop) (R:Exit→St→Prop):wa6 ⟨te,[],[],0,73,0⟩ (wa8 Tryz.f39 13) [3,9,46] [3,9] [] (wll es) P R (wll es i)=(letI z6:=ren 0 [(0,0),(21,1),(2,2),(3,3)];letI z3:=TI.mk TypeDesc.string 1 16 (Value.string (ByteArray.mk #[])) false;List.length es=List.length es∧(IN.left i=[]→(∀ (i_1:Nat),i_1<IN.c i→true=true)∧∃ (O':List (Nat×AObj)),wag [(0,.cells [.map 2] 121),(1,.row 9 1 (IN.c i) (wa0 (IN.h i)) false),(2,.amap (List.map (fun (p:AV×AV)=>(AV.rn (ren 0 [(0,0),(1,1),(3,2)]) (Prod.fst p),AV.rn (ren 0 [(0,0),(1,1),(3,2)]) (Prod.snd p))) es))] O'∧R (.exit 2) (St.mk [(3,.ptr 0 0),(9,.own 1 (IN.c i))] O' 3 []))∧∀ (i_1:Nat),letI z1:=List.getD es i_1 (.any,.any);letI z0:=Prod.snd z1;letI z5:=waw z0 (0+1+1+1+1);letI z4:=waw z0 (0+1+1+1+1+1);letI z2:=waw z0 (0+1+1+1+1+1+1);i_1∈IN.left i→(List.length es=List.length es∧i_1<List.length es∧.str (wbx (Prod.fst z1))=Prod.fst z1∧.agg [.str (wbx (waw z0 0)),.int .i64 (was (waw z0 (0+1))),.int .i64 (was (waw z0 (0+1+1))),.int .i64 (was (waw z0 (0+1+1+1))),.view (vwS z5) (vwN z5) (vwF z5),.view (vwS z4) (vwN z4) (vwF z4),.view (vwS z2) (vwN z2) (vwF z2)]=Prod.snd z1)∧(1≤16777216∧1=1∧1≤9223372036854775807)∧((1≤1∧1=1)∧IN.c i≤IN.c i∧1=1∧9=9∧1=1∧IN.c i+1≤9223372036854775807∧(IN.c i+1) * TI.bytes z3≤140737488355328)∧∃ (i':IN),(TEq [(3,.ptr 0 0),(9,.own 1 (IN.c i+1)),(46,.ptr 2 0)] [(3,.ptr 0 0),(9,.own 1 (IN.c i')),(46,.ptr 2 0)]∧wag [(0,.cells [.map 3] 121),(1,.row 9 1 (IN.c i+1) (apF (IN.c i) (wa0 (IN.h i)) (waz (TI.sz z3) (.str (wbx (Prod.fst z1))::List.append [] (List.flatten (List.replicate (nat_lit 0) [.str ([])]))))) false),(2,.miter 3 (List.length es) (121::i_1::List.erase (IN.left i) i_1)),(3,.amap (List.map (fun (p:AV×AV)=>(AV.rn z6 (Prod.fst p),AV.rn z6 (Prod.snd p))) es))] [(0,.cells [.map 3] 121),(1,.row 9 1 (IN.c i') (wa0 (IN.h i')) false),(2,.miter 3 (List.length es) (121::IN.c0 i'::IN.left i')),(3,.amap es)])∧P i'):=by kernel_rfl
theorem wx1 (es:List (AV×AV)) (m:Nat) (h:Nat→List UInt8) (o:Nat→FL) (k:Nat) (P:Nat→Prop) (R:Exit→St→Prop):wa6 ⟨te,[(96,.det wmb)],[],0,73,0⟩ (wa8 Tryz.f39 19) [3,11,58,59,60] [11] [] (wlk es m h o) P R (wlk es m h o k)=(letI z7:=ren 0 [(0,0),(37,1),(2,2),(3,3)];letI z6:=(mget es (.str (h (Int.toNat (↑k:Int)))));letI z5:=([.str ([]),.int .i64 0,.int .i64 0,.int .i64 0,.nil,.nil,.nil]:List AV);letI z0:=(Option.getD z6 (zvA (.agg z5)));letI z4:=waw z0 (0+1+1+1+1);letI z3:=waw z0 (0+1+1+1+1+1);letI z2:=waw z0 (0+1+1+1+1+1+1);letI z1:=([.str (wbx (waw z0 0)),.int .i64 (was (waw z0 (0+1))),.int .i64 (was (waw z0 (0+1+1))),.int .i64 (was (waw z0 (0+1+1+1))),.view (vwS z4) (vwN z4) (vwF z4),.view (vwS z3) (vwN z3) (vwF z3),.view (vwS z2) (vwN z2) (vwF z2)]:List AV);wac (decide ((↑k:Int)<(↑m:Int))) (((0:Int)≤(↑k:Int)∧(↑k:Int)<(↑m:Int))∧(Int.toNat (↑k:Int)<m∧1=1)∧(wbr (TI.desc (TI.mk TypeDesc.string 1 16 (Value.string (ByteArray.mk #[])) false)) es∧.agg z1=Option.getD z6 (zvA (.agg z5)))∧(∃ (F:FL),isFl (.agg z1) F∧List.length (FL.ms F)≤1000∧List.length (FL.rs F)≤1000∧List.length (FL.ts F)≤1000∧∀ (t:RT),t∈FL.ts F→List.length (RT.bs t)≤1000)∧(7≤16777216∧7=7∧1≤9223372036854775807)∧((1≤1∧7=7)∧k≤k∧7=7∧49=49∧7=7∧k+1≤9223372036854775807∧(k+1) * TI.bytes wfi≤140737488355328)∧inR .i64 ((↑k:Int)+(1:Int))∧∃ (i':Nat),(TEq [(3,.ptr 0 0),(11,.own 1 (k+1)),(58,.own 2 m),(59,.int .i64 (↑m:Int)),(60,.int .i64 ((↑k:Int)+(1:Int)))] [(3,.ptr 0 0),(11,.own 1 i'),(58,.own 2 m),(59,.int .i64 (↑m:Int)),(60,.int .i64 (↑i':Int))]∧wag [(0,.cells [.map 3] 121),(1,.row 49 7 (k+1) (apF k (wad o) (waz (TI.sz wfi) (.str (wbx (waw z0 0)):: .int .i64 (was (waw z0 (0+1))):: .int .i64 (was (waw z0 (0+1+1))):: .int .i64 (was (waw z0 (0+1+1+1))):: .view (vwS z4) (vwN z4) (vwF z4):: .view (vwS z3) (vwN z3) (vwF z3):: .view (vwS z2) (vwN z2) (vwF z2)::List.append [] (List.flatten (List.replicate (nat_lit 0) z5))))) false),(2,.row 9 1 m (wa0 h) false),(3,.amap (List.map (fun (p:AV×AV)=>(AV.rn z7 (Prod.fst p),AV.rn z7 (Prod.snd p))) es))] [(0,.cells [.map 3] 121),(1,.row 49 7 i' (wad o) false),(2,.row 9 1 m (wa0 h) false),(3,.amap es)])∧P i') ((∀ (i:Nat),i<k→true=true)∧∃ (O':List (Nat×AObj)),wag [(0,.row 49 7 k (wad o) false)] O'∧R (.exit 4) (St.mk [(11,.own 0 k)] O' 1 []))):=by kernel_rfl
theorem cpdO_ok (hP:C.P=Tryz.prog):wae C 96 wmb:=by
 rintro args objs U Os vc h hvc
 unfold wmb at h
 split at h<;>simp only [Option.some.injEq,Prod.mk.injEq,reduceCtorEq] at h
 obtain ⟨rfl,rfl,rfl⟩:=h
 obtain ⟨F,rfl,hm,hr,ht,hb⟩:=hvc
 exact cpd_at hP F hm hr ht hb
theorem n3_loop (hP:C.P=Tryz.prog) (hL:∀ w,C.laid w→LaidW w) (g:Nat→FL) (n:Nat):waj C 0 73 (wao Tryz.f39 3) (L_n3 g n):=by
 rintro st Q ⟨h0,hn,hg,hQ⟩
 refine waj.mk (prg hP) [(29,.det wkx),(33,.det we8)] 0 (.cons (vin_ok hP hL) (.cons (wpu hP hL) .nil)) [3,15,16,17] [3] [] (S_n3 g n) (fun k=>k≤n) (fun k=>n - k) 0 (Nat.zero_le _) h0 (fun k hk=>?_)
 have er:∀ (σ:Nat→Option Nat) (k:Nat),(entN g k).map (fun p=>(AV.rn σ p.1,AV.rn σ p.2))=entN g k:=fun σ k=>wie σ _ _
 rw [wx0,Int.toNat_natCast,er,wdg (g k)]
 have hkeys:wbr .string (entN g k):=wps (wfq k)
 have hgot:=gotT (wbb okV g k) (wat okV g k) (encF (g k))
 have hshape:=wtj (wbb okV g k) (wat okV g k) (encF (g k))
 have hmg:=wox (wbb okV g k) (encF (g k)) (wat okV g k)
 rw [← wcv] at hgot hshape hmg
 refine wal (fun h1=>?_) (fun h1=>?_)
 ·have hk':k<n:=by omega
  have hG:=hg k hk'
  have same:∀ {σ:Nat→Option Nat},entN g (k+1)=entN g k→inR .i64 ((k:Int)+1)∧∃ (i':Nat),some (St.mk [(3,.ptr 0 0),(15,.view 7 n (wad g)),(16,.int .i64 (n:Int)),(17,.int .i64 ((k:Int)+1))] [(0,.cells [.map 1] 121),(1,.amap (entN g k))] 2 [])=
    some (St.mk [(3,.ptr 0 0),(15,.view 7 n (wad g)),(16,.int .i64 (n:Int)),(17,.int .i64 (i':Int))] [(0,.cells [.map 1] 121),(1,.amap (entN g i'))] 2 [])∧i'≤n∧n - i'<n - k:=fun {_} e=>
   ⟨by simp only [inR];omega,k+1,by rw [e];rfl,by omega,by omega⟩
  have upd:∀ (M:List (AV×AV)),mset (entN g k) (.str (encF (g k))) (.agg (wbd (g k)))=M→M=entN g (k+1)→wbr .string (entN g k)∧inR .i64 ((k:Int)+1)∧∃ (i':Nat),some (St.mk [(3,.ptr 0 0),(15,.view 7 n (wad g)),(16,.int .i64 (n:Int)),(17,.int .i64 ((k:Int)+1))] [(0,.cells [.map 1] 121),(1,.amap (M.map fun p=>(AV.rn (ren 0 [(0,0),(1,1)]) p.1,AV.rn (ren 0 [(0,0),(1,1)]) p.2)))] 2 [])=
    some (St.mk [(3,.ptr 0 0),(15,.view 7 n (wad g)),(16,.int .i64 (n:Int)),(17,.int .i64 (i':Int))] [(0,.cells [.map 1] 121),(1,.amap (entN g i'))] 2 [])∧i'≤n∧n - i'<n - k:=fun M hM e=>
   ⟨hkeys,by simp only [inR];omega,k+1,by rw [e,er];rfl,by omega,by omega⟩
  refine ⟨⟨by omega,by omega,rfl⟩,⟨weh _,hG.sm⟩,wcc (fun hv=>same (σ:=fun _=>none) (w0w (decide_eq_false hv))) (fun hv=>?_)⟩
  have hok:okV (g k)=true:=decide_eq_true hv
  refine ⟨⟨weh _,hG.rg⟩,⟨hkeys,hshape⟩,?_⟩
  by_cases hx:encF (g k)∈wat okV g k
  ·rw [if_pos hx] at hmg
   rw [hmg]
   refine wal (fun hd=>upd _ rfl (w0t hok hx hd)) (fun hd=>same (σ:=fun _=>none) (w0v hok hx hd))
  ·rw [if_neg hx] at hmg
   rw [hmg]
   exact upd _ rfl (w0u hok hx)
 ·have:k=n:=by omega
  subst this
  exact hQ
theorem Tryz.sortStr:SlLaysF.n6 Tryz.prog Tryz.sort91_ren:={ Tryz.sort91 with a24:=Tryz.isAgg9,z24:=Tryz.sizeOf9 }
theorem wv9 (hP:C.P=Tryz.prog):wbc C 91 wmp:=by
 have _:C.Loose:=inferInstance
 rintro args objs R h
 unfold wmp at h
 split at h
 ·rename_i n t m f fr ct es
  obtain ⟨rfl,rfl,rfl,hn,hf,hk,hs,hr,hR⟩:=h
  generalize stOf f=h0 at *
  subst hf
  have hS:=wak.sortM (C:=C) (cmpN es) (t:=9) (ct:=ct) (fS:=91) (g:=92)
   ⟨_,hP ▸ Tryz.func91,rfl,by decide⟩
   (fun cb blk cap d w h1 h2 h3 h4=>by
    rw [hP] at h1 ⊢
    exact Any.slices_SortFunc Tryz.sortStr strV (fun _=>rfl) (cmpN es) (swo_of (w1d es)) 92 cb blk 0 cap d w (enters_of Tryz.func92 (by kernel_rfl) rfl) h1 h2 h3 h4)
   (fun p cap fv w=>by
    rw [hP]
    exact AnyF.slices_SortFunc_none Tryz.sort91 p cap fv w)
   es hr (fun x y=>ncmp_ok (C:=Ctx.bare C.P C.mixed) hP es hk hs x y) (n:=n) h0 (by omega)
  refine hS.mono ?_
  rintro u O ⟨rfl,f',hp,hs,rfl⟩
  exact hR f' hp hs
 ·exact h.elim
theorem wzk {α:Type} (L:List α) (d:α):(List.range L.length).map (fun i=>L.getD i d)=L:=wec L d
theorem wy9 (hP:C.P=Tryz.prog) (g:Nat→FL) (n:Nat):waj C 0 73 (wao Tryz.f39 13) (wm5 g n):=by
 have _:C.Loose:=inferInstance
 rintro st Q ⟨h0,hn,hQ⟩
 have hlen:=wjs g n
 have hE:=wcv g n
 generalize hK:wat okV g n=K at *
 generalize wbb okV g n=F at *
 rw [hE] at h0 hQ
 refine AWP.ownNil 9 9 1 ?_
 refine waj.mk (prg hP) [] 0 .nil [3,9,46] [3,9] [] (wll (entT K F)) (fun i=>(lst i.h i.c++i.left.map (fun j=>K.getD j [])).Perm K∧∀ x∈i.left,x<K.length) (fun i=>i.left.length) ⟨0,fun _=>[],(entT K F).length,List.range (entT K F).length⟩ ⟨?_,?_⟩ h0 (fun i hi=>?_) (fun i=>⟨fun _ _=>rfl,trivial⟩)
 ·rw [wpr]
  show ((List.range K.length).map fun j=>K.getD j []).Perm K
  rw [wzk]
 ·intro x hx
  have hx:x∈List.range (entT K F).length:=hx
  rw [wpr] at hx
  exact List.mem_range.1 hx
 obtain ⟨hp,hlt⟩:=hi
 have hl:i.c+i.left.length=K.length:=by
  have:=hp.length_eq
  simpa [lst] using this
 rw [wx2,wie,wie]
 refine ⟨rfl,fun hnil=>⟨fun _ _=>rfl,_,wan _,?_⟩,fun j hj=>?_⟩
 ·rw [hnil] at hp hl
  have hc:i.c=K.length:=by simpa using hl
  rw [hc] at hp ⊢
  exact hQ i.h (by simpa using hp)
 ·have hjl:=hlt j hj
  rw [entT_at hjl,wpr]
  have herase:(i.left.erase j).length+1=i.left.length:=by
   rw [List.length_erase_of_mem hj]
   have:=List.length_pos_of_mem hj
   omega
  refine ⟨⟨rfl,hjl,rfl,rfl⟩,⟨by omega,rfl,by omega⟩,⟨⟨Nat.le_refl _,rfl⟩,Nat.le_refl _,rfl,rfl,rfl,by omega,?_⟩,⟨i.c+1,fun k=>if k<i.c then i.h k else K.getD j [],j,i.left.erase j⟩,⟨rfl,rfl,⟨rfl,rfl,rfl,rfl,rfl,fun k hk=>?_⟩,rfl,rfl,trivial⟩,⟨?_,fun x hx=>hlt x (List.mem_of_mem_erase hx)⟩,?_⟩
  ·show (i.c+1) * 16≤_
   omega
  ·have hk:k<i.c+1:=hk
   unfold apF wa0
   by_cases h:k<i.c
   ·simp only [h,if_true]
   ·have:k=i.c:=by omega
    subst this
    simp only [Nat.lt_irrefl,if_false,Nat.sub_self]
    rfl
  ·show (lst (fun k=>if k<i.c then i.h k else K.getD j []) (i.c+1)++(i.left.erase j).map (fun j=>K.getD j [])).Perm K
   rw [whr]
   have e1:lst (fun k=>if k<i.c then i.h k else K.getD j []) i.c=lst i.h i.c:=List.map_congr_left fun k hk=>by
    rw [if_pos (List.mem_range.1 hk)]
   rw [e1,if_neg (Nat.lt_irrefl _),List.append_assoc,List.singleton_append, ← List.map_cons (f:=fun j=>K.getD j [])]
   exact ((List.perm_cons_erase hj).map (fun j=>K.getD j [])).symm.append_left _ |>.trans hp
  ·show (i.left.erase j).length<i.left.length
   omega
theorem wy8 (hP:C.P=Tryz.prog) (g:Nat→FL) (n:Nat):waj C 0 73 (wao Tryz.f39 19) (wm4 g n):=by
 rintro st Q ⟨h,o,h0,hn,hg,hQ⟩
 have hlen:=wjs g n
 have hE:=wcv g n
 have hkeys:wbr .string (entN g n):=wps (wfq n)
 have er:∀ (σ:Nat→Option Nat),(entN g n).map (fun p=>(AV.rn σ p.1,AV.rn σ p.2))=entN g n:=fun σ=>wie σ _ _
 generalize wat okV g n=K at *
 generalize entN g n=es at *
 refine AWP.ownNil 11 49 7 ?_
 refine waj.mk (prg hP) [(96,.det wmb)] 0 (.cons (cpdO_ok hP) .nil) [3,11,58,59,60] [11] [] (wlk es K.length h o) (fun k=>k≤K.length) (fun k=>K.length - k) 0 (Nat.zero_le _) h0 (fun k hk=>?_) (fun _=>⟨fun _ _=>rfl,fun _ _=>rfl,trivial⟩)
 rw [wx1,Int.toNat_natCast,er]
 refine wal (fun h1=>?_) (fun h1=>?_)
 ·have hk':k<K.length:=by omega
  obtain ⟨hm,hG⟩:=hg k hk'
  have hm:(mget es (.str (h k))).getD (zvA (.agg [.str [],.int .i64 0,.int .i64 0,.int .i64 0,.nil,.nil,.nil]))= .agg (wbd (o k)):=hm
  rw [hm]
  refine ⟨⟨by omega,by omega⟩,⟨hk',rfl⟩,⟨hkeys,rfl⟩,⟨o k,rfl,hG.rg.nm,hG.rg.nr,hG.rg.nt,fun t ht=>(hG.rg.t t ht).n⟩,⟨by omega,rfl,by omega⟩,⟨⟨Nat.le_refl _,rfl⟩,Nat.le_refl _,rfl,rfl,rfl,by omega,?_⟩,by simp only [inR];omega,k+1,⟨rfl,rfl,⟨rfl,rfl,rfl,rfl,rfl,fun i hi=>?_⟩,⟨rfl,rfl,rfl,rfl,rfl,fun _ _=>rfl⟩,rfl,trivial⟩,by omega,by omega⟩
  ·show (k+1) * 112≤_
   omega
  ·unfold apF
   by_cases hi':i<k
   ·rw [if_pos hi']
   ·have:i=k:=by omega
    subst this
    rw [if_neg hi',Nat.sub_self];rfl
 ·have:k=K.length:=by omega
  subst this
  exact ⟨fun _ _=>rfl,_,wan _,hQ⟩
theorem w10 {g:Nat→FL} {n:Nat} {t:List UInt8} (hg:∀ i,i<n→(g i).Gd) (h:t∈wat okV g n):(wbb okV g n t).Gd:=by
 obtain ⟨j,b,e⟩:=win h
 rw [e];exact hg j b.lt
theorem nrm_at (hP:C.P=Tryz.prog) (hL:∀ w,C.laid w→LaidW w) (g:Nat→FL) (n:Nat) (hn:n≤1000) (hg:∀ i,i<n→(g i).Gd):ADet C 39 [.view 7 n (wad g)] [] (.own 0 (nrmL okV g n).length) [(0,.row 49 7 (nrmL okV g n).length (wad (atF (nrmL okV g n))) false)]:=by
 refine wbc.wpL (prg hP) [(91,.rel wmp)] [(3,L_n3 g n),(13,wm5 g n),(19,wm4 g n)] 0 (.cons (wv9 hP) .nil) (hP ▸ Tryz.func39) rfl rfl rfl
  [(wao Tryz.f39 3,L_n3 g n),(wao Tryz.f39 13,wm5 g n),(wao Tryz.f39 19,wm4 g n)] (by kernel_rfl) ⟨n3_loop hP hL g n,wy9 hP g n,wy8 hP g n,trivial⟩ ?_
 have er:∀ (σ:Nat→Option Nat),(entN g n).map (fun p=>(AV.rn σ p.1,AV.rn σ p.2))=entN g n:=fun σ=>wie σ _ _
 rw [nf_nrm]
 simp only [er]
 have hkeys:wbr .string (entN g n):=wps (wfq n)
 have hlen:=wjs g n
 have hshape:∀ x,wcg wit (gotN (entN g n) x)=gotN (entN g n) x:=fun x=>wtj _ _ x
 have hnref:∀ p∈entN g n,nref p.1=true∧nref p.2=true:=fun p hp=>by
  obtain ⟨t,_,rfl⟩:=List.mem_map.1 hp
  exact ⟨rfl,rfl⟩
 have hgot:∀ t,t∈wat okV g n→gotN (entN g n) t= .agg (wbd (wbb okV g n t)):=fun t ht=>by
  rw [wcv,gotT,if_pos ht]
 refine ⟨rfl,hn,hg,⟨rfl,rfl,⟨rfl,rfl,rfl,rfl,rfl,fun i hi=>absurd hi (Nat.not_lt_zero i)⟩,rfl,rfl,trivial⟩,hn,fun h hp=>⟨fun _ _=>trivial,trivial,trivial,trivial,by omega,rfl,hkeys,hshape,hnref,fun h1 hp1 hs1=>?_⟩⟩
 have hpK:(lst h1 (wat okV g n).length).Perm (wat okV g n):=hp1.trans hp
 have mem:∀ i,i<(wat okV g n).length→h1 i∈wat okV g n:=fun i hi=>hpK.mem_iff.1 (List.mem_map.2 ⟨i,List.mem_range.2 hi,rfl⟩)
 refine ⟨fun _ _=>trivial,h1,fun i=>wbb okV g n (h1 i),⟨rfl,rfl,⟨rfl,rfl,rfl,rfl,rfl,fun i hi=>absurd hi (Nat.not_lt_zero i)⟩,⟨rfl,rfl,rfl,rfl,rfl,fun _ _=>rfl⟩,rfl,trivial⟩,hn,fun i hi=>⟨hgot _ (mem i hi),w10 hg (mem i hi)⟩,?_⟩
 have hs:(lst h1 (wat okV g n).length).map (wbb okV g n)=nrmL okV g n:=by
  refine ww3 hpK ?_
  refine www fun i j hij hj=>?_
  rw [← w1e (mem j hj) (mem i (by omega))]
  exact hs1 i j hij hj
 have hl:(nrmL okV g n).length=(wat okV g n).length:=by
  rw [← hs,List.length_map];simp [lst]
 have at_:∀ i,i<(wat okV g n).length→wad (fun i=>wbb okV g n (h1 i)) i=wad (atF (nrmL okV g n)) i:=fun i hi=>by
  have:wbb okV g n (h1 i)=atF (nrmL okV g n) i:=by
   rw [← hs]
   simp [atF,lst,hi]
  show wad (fun _=>wbb okV g n (h1 i)) 0=wad (fun _=>atF (nrmL okV g n) i) 0
  rw [this]
 exact ⟨fun _ _=>trivial,[(0,.row 49 7 (wat okV g n).length (wad (atF (nrmL okV g n))) false)],⟨⟨rfl,rfl,rfl,rfl,rfl,at_⟩,trivial⟩,by rw [hl],by rw [hl]⟩
theorem nrmz_ok (hP:C.P=Tryz.prog) (hL:∀ w,C.laid w→LaidW w):wae C 39 wlh:=by
 rintro args objs U Os vc h hvc
 unfold wlh at h
 split at h<;>simp only [Option.some.injEq,Prod.mk.injEq,reduceCtorEq] at h
 rename_i n f
 obtain ⟨rfl,rfl,rfl⟩:=h
 obtain ⟨hn,hf,hg⟩:=hvc
 generalize flOf f=g at *
 subst hf
 exact nrm_at hP hL g n hn hg
end Go.Eng
