/- Validate of a file. -/
import Derived.Test.YtgcboligphndhaaGreatDoorJze
import Derived.Test.YtgcboligphndhaaGreatDoorJl
import Derived.WalkKit
import Derived.Lib.SliceRun
import Derived.Below
import Derived.Test.YtgcboligphndhaaGreatDoorJt
import Derived.Test.YtgcboligphndhaaGreatDoorJzb
import Derived.Test.YtgcboligphndhaaGreatDoorJw
namespace Go.Eng
open Go.Proofs Go.RowKit
variable {C:Ctx}
set_option maxRecDepth 20000
theorem nf_ncmp (x y:List UInt8) (n:Nat) (f:Nat→List AV) (R:AV→List (Nat×AObj)→Prop):wpFn te [(94,.det wlu),(95,.det wmu),(93,.det S_or)] [] 0 Tryz.f92 [.str x,.str y,.vptr [.vmap n f]] [] R=(letI z4:=TI.desc (TI.mk TypeDesc.string 1 16 (Value.string (ByteArray.mk #[])) false);letI z0:=zvA (.agg [.str ([]),.int .i64 0,.int .i64 0,.int .i64 0,.nil,.nil,.nil]);letI z2:=Option.getD (mget (wdm n f) (.str y)) z0;letI z14:=wao (waz z2 (0+1));letI z12:=waz z2 (0+1+1+1+1);letI z10:=wao (waz z2 (0+1+1));letI z8:=waz z2 (0+1+1+1+1+1);letI z6:=waz z2 (0+1+1+1+1+1+1);letI z1:=Option.getD (mget (wdm n f) (.str x)) z0;letI z13:=wao (waz z1 (0+1));letI z11:=waz z1 (0+1+1+1+1);letI z9:=wao (waz z1 (0+1+1));letI z7:=waz z1 (0+1+1+1+1+1);letI z5:=waz z1 (0+1+1+1+1+1+1);letI z3:=way (TI.sz (TI.mk (TypeDesc.int IntKind.i64) 1 8 (Value.int IntKind.i64 0) false)) (.int .i64 (cmpS (wb0 (waz z1 0)) (wb0 (waz z2 0))):: .int .i64 (cmpI z13 z14):: .int .i64 (cmpI z9 z10):: .int .i64 (cmpS x y)::List.append [] wc7);(wbt z4 (wdm n f)∧.agg [.str (wb0 (waz z1 0)),.int .i64 z13,.int .i64 z9,.int .i64 (wao (waz z1 (0+1+1+1))),.view (vwS z11) (vwN z11) (vwF z11),.view (vwS z7) (vwN z7) (vwF z7),.view (vwS z5) (vwN z5) (vwF z5)]=Option.getD (mget (wdm n f) (.str x)) z0)∧(wbt z4 (wdm n f)∧.agg [.str (wb0 (waz z2 0)),.int .i64 z14,.int .i64 z10,.int .i64 (wao (waz z2 (0+1+1+1))),.view (vwS z12) (vwN z12) (vwF z12),.view (vwS z8) (vwN z8) (vwF z8),.view (vwS z6) (vwN z6) (vwF z6)]=Option.getD (mget (wdm n f) (.str y)) z0)∧True∧True∧True∧True∧(4≤16777216∧1=1∧4≤9223372036854775807)∧(∀ (i:Nat),i<4→true=true)∧(3=3∧false=false∧4=4∧4≤100∧∀ (i:Nat),i<4→[AV.int .i64 (List.getD [cmpS (wb0 (waz z1 0)) (wb0 (waz z2 0)),cmpI z13 z14,cmpI z9 z10,cmpS x y] i (0:Int))]=[.int .i64 (vInt z3 i)])∧(∀ (i:Nat),i<4→true=true)∧R (.int .i64 (orN (vInt z3) 4)) []):=by kernel_rfl
theorem ncmp_ok (hP:C.P=Tryz.prog) (es:List (AV×AV)) (hk:wbt .string es) (hs:∀ x,wci wi8 (gotN es x)=gotN es x) (x y:List UInt8):
  ADet C 92 [.str x,.str y,.vptr [.vmap es.length (entF es)]] [] (.int .i64 (cmpN es x y)) []:=by
 refine wbd.wpL (prg hP) [(94,.det wlu),(95,.det wmu),(93,.det S_or)] [] 0 (.cons (scmp_ok hP) (.cons (icmp_ok hP) (.cons (or_ok hP) .nil))) (hP ▸ Tryz.func92) rfl rfl rfl [] (by kernel_rfl) trivial ?_
 rw [nf_ncmp,entsV_F,orN_eq]
 have four:∀ {p:Nat→Prop},p 0→p 1→p 2→p 3→∀ i,i<4→p i:=fun h0 h1 h2 h3 i hi=>by
  match i,hi with
  |0,_=>exact h0
  |1,_=>exact h1
  |2,_=>exact h2
  |3,_=>exact h3
 exact ⟨⟨hk,hs x⟩,⟨hk,hs y⟩,trivial,trivial,trivial,trivial,⟨by omega,rfl,by omega⟩,four rfl rfl rfl rfl,⟨rfl,rfl,rfl,by omega,four rfl rfl rfl rfl⟩,four rfl rfl rfl rfl,rfl,rfl⟩
end Go.Eng
namespace Go.Proofs
open Go.RowKit
theorem Tryz.slSBlk:Tryz.prog.underlying 93=some (.slice 115):=by kernel_rfl
set_option maxHeartbeats 1000000 in
set_option maxRecDepth 100000 in
theorem Tryz.clone_nilBlk (n c:Nat) (w:World):Calls Tryz.prog 109 #[.slice none n c] w fun e w'=>e= .returned (.slice none 0 0)∧w'=w:=by
 have q:∀ (w:World) (a:Option Addr) (n c n' c':Nat),(binOp .eql 93 (.slice a n c) (.slice none n' c')).run Tryz.prog w= .ok (.bool a.isNone) w:=fun w a n c n' c'=>Lib.run_eql_slice_nil w _ _ a n c n' c' Tryz.slSBlk
 go_enter Tryz.func109,Tryz.ntmps109
 go_wp2
 go_ret
 exact ⟨rfl,rfl⟩
set_option maxHeartbeats 1000000 in
set_option maxRecDepth 100000 in
theorem Tryz.clone_noneBlk (a:Addr) (c:Nat) (w:World):Calls Tryz.prog 109 #[.slice (some a) 0 c] w fun e w'=>e= .returned (.slice (some ⟨w.heap.size,0,none⟩) 0 0)∧w'=w.alloc (.cells #[] 115):=by
 have q:∀ (w:World) (a:Option Addr) (n c n' c':Nat),(binOp .eql 93 (.slice a n c) (.slice none n' c')).run Tryz.prog w= .ok (.bool a.isNone) w:=fun w a n c n' c'=>Lib.run_eql_slice_nil w _ _ a n c n' c' Tryz.slSBlk
 go_enter Tryz.func109,Tryz.ntmps109
 go_wp2
 go_ret
 exact ⟨rfl,rfl⟩
theorem Tryz.slSMsg:Tryz.prog.underlying 22=some (.slice 40):=by kernel_rfl
set_option maxHeartbeats 1000000 in
set_option maxRecDepth 100000 in
theorem Tryz.clone_nilMsg (n c:Nat) (w:World):Calls Tryz.prog 140 #[.slice none n c] w fun e w'=>e= .returned (.slice none 0 0)∧w'=w:=by
 have q:∀ (w:World) (a:Option Addr) (n c n' c':Nat),(binOp .eql 22 (.slice a n c) (.slice none n' c')).run Tryz.prog w= .ok (.bool a.isNone) w:=fun w a n c n' c'=>Lib.run_eql_slice_nil w _ _ a n c n' c' Tryz.slSMsg
 go_enter Tryz.func140,Tryz.ntmps140
 go_wp2
 go_ret
 exact ⟨rfl,rfl⟩
set_option maxHeartbeats 1000000 in
set_option maxRecDepth 100000 in
theorem Tryz.clone_noneMsg (a:Addr) (c:Nat) (w:World):Calls Tryz.prog 140 #[.slice (some a) 0 c] w fun e w'=>e= .returned (.slice (some ⟨w.heap.size,0,none⟩) 0 0)∧w'=w.alloc (.cells #[] 40):=by
 have q:∀ (w:World) (a:Option Addr) (n c n' c':Nat),(binOp .eql 22 (.slice a n c) (.slice none n' c')).run Tryz.prog w= .ok (.bool a.isNone) w:=fun w a n c n' c'=>Lib.run_eql_slice_nil w _ _ a n c n' c' Tryz.slSMsg
 go_enter Tryz.func140,Tryz.ntmps140
 go_wp2
 go_ret
 exact ⟨rfl,rfl⟩
theorem Tryz.slSRow:Tryz.prog.underlying 46=some (.slice 61):=by kernel_rfl
set_option maxHeartbeats 1000000 in
set_option maxRecDepth 100000 in
theorem Tryz.clone_nilRow (n c:Nat) (w:World):Calls Tryz.prog 141 #[.slice none n c] w fun e w'=>e= .returned (.slice none 0 0)∧w'=w:=by
 have q:∀ (w:World) (a:Option Addr) (n c n' c':Nat),(binOp .eql 46 (.slice a n c) (.slice none n' c')).run Tryz.prog w= .ok (.bool a.isNone) w:=fun w a n c n' c'=>Lib.run_eql_slice_nil w _ _ a n c n' c' Tryz.slSRow
 go_enter Tryz.func141,Tryz.ntmps141
 go_wp2
 go_ret
 exact ⟨rfl,rfl⟩
set_option maxHeartbeats 1000000 in
set_option maxRecDepth 100000 in
theorem Tryz.clone_noneRow (a:Addr) (c:Nat) (w:World):Calls Tryz.prog 141 #[.slice (some a) 0 c] w fun e w'=>e= .returned (.slice (some ⟨w.heap.size,0,none⟩) 0 0)∧w'=w.alloc (.cells #[] 61):=by
 have q:∀ (w:World) (a:Option Addr) (n c n' c':Nat),(binOp .eql 46 (.slice a n c) (.slice none n' c')).run Tryz.prog w= .ok (.bool a.isNone) w:=fun w a n c n' c'=>Lib.run_eql_slice_nil w _ _ a n c n' c' Tryz.slSRow
 go_enter Tryz.func141,Tryz.ntmps141
 go_wp2
 go_ret
 exact ⟨rfl,rfl⟩
theorem Tryz.slSRat:Tryz.prog.underlying 47=some (.slice 97):=by kernel_rfl
set_option maxHeartbeats 1000000 in
set_option maxRecDepth 100000 in
theorem Tryz.clone_nilRat (n c:Nat) (w:World):Calls Tryz.prog 142 #[.slice none n c] w fun e w'=>e= .returned (.slice none 0 0)∧w'=w:=by
 have q:∀ (w:World) (a:Option Addr) (n c n' c':Nat),(binOp .eql 47 (.slice a n c) (.slice none n' c')).run Tryz.prog w= .ok (.bool a.isNone) w:=fun w a n c n' c'=>Lib.run_eql_slice_nil w _ _ a n c n' c' Tryz.slSRat
 go_enter Tryz.func142,Tryz.ntmps142
 go_wp2
 go_ret
 exact ⟨rfl,rfl⟩
set_option maxHeartbeats 1000000 in
set_option maxRecDepth 100000 in
theorem Tryz.clone_noneRat (a:Addr) (c:Nat) (w:World):Calls Tryz.prog 142 #[.slice (some a) 0 c] w fun e w'=>e= .returned (.slice (some ⟨w.heap.size,0,none⟩) 0 0)∧w'=w.alloc (.cells #[] 97):=by
 have q:∀ (w:World) (a:Option Addr) (n c n' c':Nat),(binOp .eql 47 (.slice a n c) (.slice none n' c')).run Tryz.prog w= .ok (.bool a.isNone) w:=fun w a n c n' c'=>Lib.run_eql_slice_nil w _ _ a n c n' c' Tryz.slSRat
 go_enter Tryz.func142,Tryz.ntmps142
 go_wp2
 go_ret
 exact ⟨rfl,rfl⟩
end Go.Proofs
namespace Go.Eng
open Go.Proofs Go.RowKit
variable {C:Ctx} [C.Loose]
set_option maxRecDepth 20000
theorem w0n (n:Nat) (f:Nat→List AV) (R:AV→List (Nat×AObj)→Prop):wpFn te [] [] 0 Tryz.f109 [.view 2 (n+1) f] [] R=(letI z0:=way (TI.sz wfz) (List.flatten (List.replicate 0 [.int .i64 0,.int .i64 0]));(0≤16777216∧2=2∧0≤9223372036854775807)∧(2=2∧0≤0∧2=2∧115=115∧2=2∧0+(n+1)≤9223372036854775807∧(0+(n+1)) * TI.bytes wfz≤140737488355328)∧(∀ (i:Nat),i<0+(n+1)→nrefL (apF 0 z0 f i)=true)∧∃ (O':List (Nat×AObj)),waf [(0,.row 115 2 (0+(n+1)) (apF 0 z0 f) false)] O'∧R (.own 0 (0+(n+1))) O'):=by kernel_rfl
theorem w0m (n:Nat) (f:Nat→List AV) (R:AV→List (Nat×AObj)→Prop):wpFn te [] [] 0 Tryz.f140 [.view 15 (n+1) f] [] R=(letI z0:=way (TI.sz wep) (List.flatten (List.replicate 0 [.str ([]),.int .i64 0,.int .i64 0,.str ([]),.str ([]),.int .i64 0,.int .i64 0,.int .i64 0,.int .i64 0,.str ([]),.str ([]),.str ([]),.int .i64 0,.str ([]),.int .i64 0]));(0≤16777216∧15=15∧0≤9223372036854775807)∧(15=15∧0≤0∧15=15∧40=40∧15=15∧0+(n+1)≤9223372036854775807∧(0+(n+1)) * TI.bytes wep≤140737488355328)∧(∀ (i:Nat),i<0+(n+1)→nrefL (apF 0 z0 f i)=true)∧∃ (O':List (Nat×AObj)),waf [(0,.row 40 15 (0+(n+1)) (apF 0 z0 f) false)] O'∧R (.own 0 (0+(n+1))) O'):=by kernel_rfl
theorem w0k (n:Nat) (f:Nat→List AV) (R:AV→List (Nat×AObj)→Prop):wpFn te [] [] 0 Tryz.f141 [.view 5 (n+1) f] [] R=(letI z0:=way (TI.sz wcw) (List.flatten (List.replicate 0 [.str ([]),.str ([]),.int .i64 0,.int .i64 0,.int .i64 0]));(0≤16777216∧5=5∧0≤9223372036854775807)∧(5=5∧0≤0∧5=5∧61=61∧5=5∧0+(n+1)≤9223372036854775807∧(0+(n+1)) * TI.bytes wcw≤140737488355328)∧(∀ (i:Nat),i<0+(n+1)→nrefL (apF 0 z0 f i)=true)∧∃ (O':List (Nat×AObj)),waf [(0,.row 61 5 (0+(n+1)) (apF 0 z0 f) false)] O'∧R (.own 0 (0+(n+1))) O'):=by kernel_rfl
theorem w0l (n:Nat) (f:Nat→List AV) (R:AV→List (Nat×AObj)→Prop):wpFn te [] [] 0 Tryz.f142 [.view 5 (n+1) f] [] R=(letI z0:=way (TI.sz weo) (List.flatten (List.replicate 0 [.str ([]),.str ([]),.int .i64 0,.int .i64 0,.nil]));(0≤16777216∧5=5∧0≤9223372036854775807)∧(5=5∧0≤0∧5=5∧97=97∧5=5∧0+(n+1)≤9223372036854775807∧(0+(n+1)) * TI.bytes weo≤140737488355328)∧(∀ (i:Nat),i<0+(n+1)→nrefL (apF 0 z0 f i)=true)∧∃ (O':List (Nat×AObj)),waf [(0,.row 97 5 (0+(n+1)) (apF 0 z0 f) false)] O'∧R (.own 0 (0+(n+1))) O'):=by kernel_rfl
theorem wla (w:World) (o:Obj):Below w.heap.size w (w.alloc o):=(Below.refl _ w).alloc (Nat.le_refl _) _
theorem wfl {w:World} {M:Nat→Prop} {bs:Nat→Option Hd} {A:Option Addr} {sz:Nat} {f:Nat→List AV}:V w M bs (.slice A 0 0) (.view sz 0 f):=
 .view ⟨0,0,none⟩ (fun _ _=>default) (Nat.le_refl _) (Nat.zero_le _) (fun h=>absurd h (Nat.lt_irrefl 0)) (fun i h=>absurd h (Nat.not_lt_zero i)) (fun i h=>absurd h (Nat.not_lt_zero i)) (fun i h=>absurd h (Nat.not_lt_zero i)) (fun i h=>absurd h (Nat.not_lt_zero i))
theorem clBlk0 (hP:C.P=Tryz.prog) (f:Nat→List AV):wal C 109 [.view 2 0 f] [] fun u' O=>u'= .view 2 0 f∧O=[]:=by
 refine wal.below ⟨_,hP ▸ Tryz.func109,rfl,by decide⟩ fun w M cargs hlaid _ hM hl hv=>?_
 obtain ⟨a,rfl⟩:=mem1 hl
 have V0:=hv 0 _ _ rfl rfl
 cases V0 with | @view _ A _ c _ _ ad cv hn hcm hA hl hc h1 hv'=>
 rw [hP]
 cases A with
 |none=>
  refine (Tryz.clone_nilBlk 0 c w).mono ?_
  rintro e w' ⟨rfl,rfl⟩
  exact ⟨_,rfl,Below.refl _ _,wfl⟩
 |some a=>
  refine (Tryz.clone_noneBlk a c w).mono ?_
  rintro e w' ⟨rfl,rfl⟩
  exact ⟨_,rfl,wla _ _,wfl⟩
theorem clMsg0 (hP:C.P=Tryz.prog) (f:Nat→List AV):wal C 140 [.view 15 0 f] [] fun u' O=>u'= .view 15 0 f∧O=[]:=by
 refine wal.below ⟨_,hP ▸ Tryz.func140,rfl,by decide⟩ fun w M cargs hlaid _ hM hl hv=>?_
 obtain ⟨a,rfl⟩:=mem1 hl
 have V0:=hv 0 _ _ rfl rfl
 cases V0 with | @view _ A _ c _ _ ad cv hn hcm hA hl hc h1 hv'=>
 rw [hP]
 cases A with
 |none=>
  refine (Tryz.clone_nilMsg 0 c w).mono ?_
  rintro e w' ⟨rfl,rfl⟩
  exact ⟨_,rfl,Below.refl _ _,wfl⟩
 |some a=>
  refine (Tryz.clone_noneMsg a c w).mono ?_
  rintro e w' ⟨rfl,rfl⟩
  exact ⟨_,rfl,wla _ _,wfl⟩
theorem clRow0 (hP:C.P=Tryz.prog) (f:Nat→List AV):wal C 141 [.view 5 0 f] [] fun u' O=>u'= .view 5 0 f∧O=[]:=by
 refine wal.below ⟨_,hP ▸ Tryz.func141,rfl,by decide⟩ fun w M cargs hlaid _ hM hl hv=>?_
 obtain ⟨a,rfl⟩:=mem1 hl
 have V0:=hv 0 _ _ rfl rfl
 cases V0 with | @view _ A _ c _ _ ad cv hn hcm hA hl hc h1 hv'=>
 rw [hP]
 cases A with
 |none=>
  refine (Tryz.clone_nilRow 0 c w).mono ?_
  rintro e w' ⟨rfl,rfl⟩
  exact ⟨_,rfl,Below.refl _ _,wfl⟩
 |some a=>
  refine (Tryz.clone_noneRow a c w).mono ?_
  rintro e w' ⟨rfl,rfl⟩
  exact ⟨_,rfl,wla _ _,wfl⟩
theorem clRat0 (hP:C.P=Tryz.prog) (f:Nat→List AV):wal C 142 [.view 5 0 f] [] fun u' O=>u'= .view 5 0 f∧O=[]:=by
 refine wal.below ⟨_,hP ▸ Tryz.func142,rfl,by decide⟩ fun w M cargs hlaid _ hM hl hv=>?_
 obtain ⟨a,rfl⟩:=mem1 hl
 have V0:=hv 0 _ _ rfl rfl
 cases V0 with | @view _ A _ c _ _ ad cv hn hcm hA hl hc h1 hv'=>
 rw [hP]
 cases A with
 |none=>
  refine (Tryz.clone_nilRat 0 c w).mono ?_
  rintro e w' ⟨rfl,rfl⟩
  exact ⟨_,rfl,Below.refl _ _,wfl⟩
 |some a=>
  refine (Tryz.clone_noneRat a c w).mono ?_
  rintro e w' ⟨rfl,rfl⟩
  exact ⟨_,rfl,wla _ _,wfl⟩
theorem wlc (g f:Nat→List AV):apF 0 g f=f:=by
 funext i
 simp [apF]
theorem wjs {t:TypeId} {k n:Nat} {f:Nat→List AV} {R:AV→List (Nat×AObj)→Prop} (h:R (.own 0 n) [(0,.row t k n f false)]):∃ (O':List (Nat×AObj)),waf [(0,.row t k n f false)] O'∧R (.own 0 n) O':=⟨_,wap _,h⟩
theorem clBlk1 (hP:C.P=Tryz.prog) (n:Nat) (f:Nat→List AV) (hn:n+1≤100000) (hf:∀ i,i<n+1→nrefL (f i)=true) {R:AV→List (Nat×AObj)→Prop} (h:R (.own 0 (n+1)) [(0,.row 115 2 (n+1) f false)]):wal C 109 [.view 2 (n+1) f] [] R:=by
 have _:C.Loose:=inferInstance
 refine wbd.wpL (prg hP) [] [] 0 .nil (hP ▸ Tryz.func109) rfl rfl rfl [] (by kernel_rfl) trivial ?_
 rw [w0n,wlc,Nat.zero_add]
 refine ⟨⟨by omega,rfl,by omega⟩,⟨rfl,by omega,rfl,rfl,rfl,by omega,?_⟩,hf,wjs h⟩
 show (n+1) * _≤_
 refine Nat.le_trans (Nat.mul_le_mul_right _ hn) (by decide)
theorem w3c (hP:C.P=Tryz.prog):wag C 109 wm5:=by
 rintro args objs U Os vc h hvc
 unfold wm5 at h
 split at h<;>simp only [Option.some.injEq,Prod.mk.injEq,reduceCtorEq] at h
 rename_i n f
 obtain ⟨rfl,rfl,rfl⟩:=h
 obtain ⟨hn,hf⟩:=hvc
 cases n with
 |zero=>exact clBlk0 hP f
 |succ n=>
  refine wal.frzO 0 (clBlk1 hP n f hn hf ⟨hf,?_⟩)
  have hb:Nat.ble (n+1) (n+1)=true:=Nat.ble_eq_true_of_le (Nat.le_refl _)
  constructor
  ·simp [frzC,frzA,frz,hb]
  ·rfl
theorem clMsg1 (hP:C.P=Tryz.prog) (n:Nat) (f:Nat→List AV) (hn:n+1≤100000) (hf:∀ i,i<n+1→nrefL (f i)=true) {R:AV→List (Nat×AObj)→Prop} (h:R (.own 0 (n+1)) [(0,.row 40 15 (n+1) f false)]):wal C 140 [.view 15 (n+1) f] [] R:=by
 have _:C.Loose:=inferInstance
 refine wbd.wpL (prg hP) [] [] 0 .nil (hP ▸ Tryz.func140) rfl rfl rfl [] (by kernel_rfl) trivial ?_
 rw [w0m,wlc,Nat.zero_add]
 refine ⟨⟨by omega,rfl,by omega⟩,⟨rfl,by omega,rfl,rfl,rfl,by omega,?_⟩,hf,wjs h⟩
 show (n+1) * _≤_
 refine Nat.le_trans (Nat.mul_le_mul_right _ hn) (by decide)
theorem wvq (hP:C.P=Tryz.prog):wag C 140 whn:=by
 rintro args objs U Os vc h hvc
 unfold whn at h
 split at h<;>simp only [Option.some.injEq,Prod.mk.injEq,reduceCtorEq] at h
 rename_i n f
 obtain ⟨rfl,rfl,rfl⟩:=h
 obtain ⟨hn,hf⟩:=hvc
 cases n with
 |zero=>exact clMsg0 hP f
 |succ n=>
  refine wal.frzO 0 (clMsg1 hP n f hn hf ⟨hf,?_⟩)
  have hb:Nat.ble (n+1) (n+1)=true:=Nat.ble_eq_true_of_le (Nat.le_refl _)
  constructor
  ·simp [frzC,frzA,frz,hb]
  ·rfl
theorem clRow1 (hP:C.P=Tryz.prog) (n:Nat) (f:Nat→List AV) (hn:n+1≤100000) (hf:∀ i,i<n+1→nrefL (f i)=true) {R:AV→List (Nat×AObj)→Prop} (h:R (.own 0 (n+1)) [(0,.row 61 5 (n+1) f false)]):wal C 141 [.view 5 (n+1) f] [] R:=by
 have _:C.Loose:=inferInstance
 refine wbd.wpL (prg hP) [] [] 0 .nil (hP ▸ Tryz.func141) rfl rfl rfl [] (by kernel_rfl) trivial ?_
 rw [w0k,wlc,Nat.zero_add]
 refine ⟨⟨by omega,rfl,by omega⟩,⟨rfl,by omega,rfl,rfl,rfl,by omega,?_⟩,hf,wjs h⟩
 show (n+1) * _≤_
 refine Nat.le_trans (Nat.mul_le_mul_right _ hn) (by decide)
theorem wvo (hP:C.P=Tryz.prog):wag C 141 whl:=by
 rintro args objs U Os vc h hvc
 unfold whl at h
 split at h<;>simp only [Option.some.injEq,Prod.mk.injEq,reduceCtorEq] at h
 rename_i n f
 obtain ⟨rfl,rfl,rfl⟩:=h
 obtain ⟨hn,hf⟩:=hvc
 cases n with
 |zero=>exact clRow0 hP f
 |succ n=>
  refine wal.frzO 0 (clRow1 hP n f hn hf ⟨hf,?_⟩)
  have hb:Nat.ble (n+1) (n+1)=true:=Nat.ble_eq_true_of_le (Nat.le_refl _)
  constructor
  ·simp [frzC,frzA,frz,hb]
  ·rfl
theorem clRat1 (hP:C.P=Tryz.prog) (n:Nat) (f:Nat→List AV) (hn:n+1≤100000) (hf:∀ i,i<n+1→nrefL (f i)=true) {R:AV→List (Nat×AObj)→Prop} (h:R (.own 0 (n+1)) [(0,.row 97 5 (n+1) f false)]):wal C 142 [.view 5 (n+1) f] [] R:=by
 have _:C.Loose:=inferInstance
 refine wbd.wpL (prg hP) [] [] 0 .nil (hP ▸ Tryz.func142) rfl rfl rfl [] (by kernel_rfl) trivial ?_
 rw [w0l,wlc,Nat.zero_add]
 refine ⟨⟨by omega,rfl,by omega⟩,⟨rfl,by omega,rfl,rfl,rfl,by omega,?_⟩,hf,wjs h⟩
 show (n+1) * _≤_
 refine Nat.le_trans (Nat.mul_le_mul_right _ hn) (by decide)
theorem wvp (hP:C.P=Tryz.prog):wag C 142 whm:=by
 rintro args objs U Os vc h hvc
 unfold whm at h
 split at h<;>simp only [Option.some.injEq,Prod.mk.injEq,reduceCtorEq] at h
 ·obtain ⟨rfl,rfl,rfl⟩:=h
  exact clRat0 hP _
 ·obtain ⟨rfl,rfl,rfl⟩:=h
  exact clRat1 hP _ _ hvc.1 hvc.2 ⟨rfl,rfl⟩
theorem nf_cpd0 (F:FL) (R:AV→List (Nat×AObj)→Prop):wpFn te [(140,.det whn),(141,.det whl),(142,.det whm)] [] 1 Tryz.f96 [.agg [.str F.id,.int .i64 F.ver,.int .i64 F.day,.int .i64 F.kind,.view 15 F.ms.length (wae (atM F.ms)),.view 5 F.rs.length (wai (atR F.rs)),.view 5 0 (wah (atT []))]] [] R=((List.length (FL.ms F)≤100000∧∀ (i:Nat),i<List.length (FL.ms F)→true=true)∧(List.length (FL.rs F)≤100000∧∀ (i:Nat),i<List.length (FL.rs F)→true=true)∧True∧(True∧True)∧R (.agg [.str (FL.id F),.int .i64 (FL.ver F),.int .i64 (FL.day F),.int .i64 (FL.kind F),.view 15 (List.length (FL.ms F)) (wae (atM (FL.ms F))),.view 5 (List.length (FL.rs F)) (wai (atR (FL.rs F))),.view 5 0 (wah (atT []))]) []):=by kernel_rfl
theorem nf_cpd (F:FL) (t:RT) (l:List RT) (R:AV→List (Nat×AObj)→Prop):wpFn te [(140,.det whn),(141,.det whl),(142,.det whm)] [(3,L_kc F)] 0 Tryz.f96 [.agg [.str F.id,.int .i64 F.ver,.int .i64 F.day,.int .i64 F.kind,.view 15 F.ms.length (wae (atM F.ms)),.view 5 F.rs.length (wai (atR F.rs)),.view 5 (l.length+1) (wah (atT (t::l)))]] [] R=(letI z6:=wai (atR (FL.rs F));letI z5:=List.length (FL.rs F);letI z4:=wae (atM (FL.ms F));letI z3:=List.length (FL.ms F);letI z2:=List.length l+1;letI z1:=([.str [],.int .i64 0,.int .i64 0,.int .i64 0,.nil,.nil,.nil]:List AV);letI z0:=List.length (FL.ts F);(List.length (FL.ms F)≤100000∧∀ (i:Nat),i<List.length (FL.ms F)→true=true)∧(List.length (FL.rs F)≤100000∧∀ (i:Nat),i<List.length (FL.rs F)→true=true)∧(List.length l+1≤100000∧∀ (i:Nat),i<List.length l+1→true=true)∧(∀ (i:Nat),i<List.length l+1→true=true)∧(TEq [(1,.ptr 0 0),(2,.ptr 1 0),(17,.own 2 z2),(18,.int .i64 (↑z2:Int)),(19,.int .i64 0)] [(1,.ptr 0 0),(2,.ptr 1 0),(17,.own 2 z0),(18,.int .i64 (↑z0:Int)),(19,.int .i64 (↑0:Int))]∧waf [(0,.cells [.str (FL.id F),.int .i64 (FL.ver F),.int .i64 (FL.day F),.int .i64 (FL.kind F),.view 15 z3 z4,.view 5 z5 z6,.own 2 z2] 49),(1,.cells z1 49),(2,.row 97 5 z2 (wah (atT (t::l))) false)] [(0,.cells [.str (FL.id F),.int .i64 (FL.ver F),.int .i64 (FL.day F),.int .i64 (FL.kind F),.view 15 z3 z4,.view 5 z5 z6,.own 2 z0] 49),(1,.cells z1 49),(2,.row 97 5 z0 (wah (atT (FL.ts F))) false)])∧List.length (FL.ts F)≤1000∧(∀ (t:RT),t∈FL.ts F→List.length (RT.bs t)≤1000)∧(True∧True)∧(∀ (i:Nat),i<List.length (FL.ts F)→true=true)∧∃ (O':List (Nat×AObj)),waf [(0,.row 97 5 z0 (wah (atT (FL.ts F))) false)] O'∧R (.agg [.str (FL.id F),.int .i64 (FL.ver F),.int .i64 (FL.day F),.int .i64 (FL.kind F),.view 15 z3 z4,.view 5 z5 z6,.own 0 z0]) O'):=by kernel_rfl
theorem wzz (F:FL) (k:Nat) (P:Nat→Prop) (R:Exit→St→Prop):wa3 ⟨te,[(109,.det wm5)],[],0,38,0⟩ (wa4 Tryz.f96 3) [1,2,17,18,19] [1,2] [] (S_kc F) P R (S_kc F k)=(letI z4:=([.str [],.int .i64 0,.int .i64 0,.int .i64 0,.nil,.nil,.nil]:List AV);letI z2:=List.length (FL.ts F);letI z5:=((0:Int)≤(↑k:Int)∧(↑k:Int)<(↑z2:Int):Prop);letI z1:=(atT (FL.ts F) (Int.toNat (↑k:Int)));letI z0:=([.str (FL.id F),.int .i64 (FL.ver F),.int .i64 (FL.day F),.int .i64 (FL.kind F),.view 15 (List.length (FL.ms F)) (wae (atM (FL.ms F))),.view 5 (List.length (FL.rs F)) (wai (atR (FL.rs F))),.own 2 z2]:List AV);letI z3:=([(0,.cells z0 49),(1,.cells z4 49),(2,.row 97 5 z2 (wah (atT (FL.ts F))) false)]:List (Nat×AObj));wab (decide ((↑k:Int)<(↑z2:Int))) (z5∧(Int.toNat (↑k:Int)<List.length (FL.ts F)∧5=5)∧(List.length (RT.bs z1)≤100000∧∀ (i:Nat),i<List.length (RT.bs z1)→true=true)∧z5∧(List.length [AV.view 2 (List.length (RT.bs z1)) (waq (atB (RT.bs z1)))]=1∧Int.toNat (↑k:Int)<List.length (FL.ts F)∧5=5)∧inR .i64 ((↑k:Int)+(1:Int))∧∃ (i':Nat),(TEq [(1,.ptr 0 0),(2,.ptr 1 0),(17,.own 2 z2),(18,.int .i64 (↑z2:Int)),(19,.int .i64 ((↑k:Int)+(1:Int)))] [(1,.ptr 0 0),(2,.ptr 1 0),(17,.own 2 z2),(18,.int .i64 (↑z2:Int)),(19,.int .i64 (↑i':Int))]∧waf [(0,.cells z0 49),(1,.cells z4 49),(2,.row 97 5 z2 (fun (k_1:Nat)=>if k_1=Int.toNat (↑k:Int) then [.str (RT.o z1),.str (RT.p z1),.int .i64 (RT.per z1),.int .i64 (RT.st z1),.view 2 (List.length (RT.bs z1)) (waq (atB (RT.bs z1)))] else wah (atT (FL.ts F)) k_1) false)] z3)∧P i') ((∀ (i:Nat),i<List.length (FL.ts F)→true=true)∧∃ (O':List (Nat×AObj)),waf z3 O'∧R (.exit 0) (St.mk [(1,.ptr 0 0),(2,.ptr 1 0)] O' 3 []))):=by kernel_rfl
theorem kc_loop (hP:C.P=Tryz.prog) (F:FL):wak C 0 38 (wam Tryz.f96 3) (L_kc F):=by
 rintro s Q ⟨h0,hn,hb,hQ⟩
 refine wak.mk (prg hP) [(109,.det wm5)] 0 (.cons (w3c hP) .nil) [1,2,17,18,19] [1,2] [] (S_kc F) (fun k=>k≤F.ts.length) (fun k=>F.ts.length - k) 0 (Nat.zero_le _) h0 (fun k hk=>?_) (fun _=>⟨fun _ _=>rfl,trivial⟩)
 rw [wzz,Int.toNat_natCast]
 refine waj (fun h1=>?_) (fun h1=>?_)
 ·have hlt:k<F.ts.length:=by omega
  have hbk:(atT F.ts k).bs.length≤1000:=hb _ (by
   unfold atT
   simp [List.getD,List.getElem?_eq_getElem hlt])
  refine ⟨⟨by omega,by omega⟩,⟨hlt,rfl⟩,⟨by omega,fun _ _=>rfl⟩,⟨by omega,by omega⟩,⟨rfl,hlt,rfl⟩,by simp only [inR];omega,k+1,⟨rfl,?_⟩,by omega,by omega⟩
  refine ⟨rfl,rfl,⟨rfl,rfl,rfl,rfl,rfl,fun i hi=>?_⟩,trivial⟩
  by_cases e:i=k
  ·subst e;exact if_pos rfl
  ·exact if_neg e
 ·exact ⟨fun _ _=>rfl,_,wap _,hQ⟩
theorem cpd_at (hP:C.P=Tryz.prog) (F:FL) (hm:F.ms.length≤1000) (hr:F.rs.length≤1000) (ht:F.ts.length≤1000) (hb:∀ t∈F.ts,t.bs.length≤1000):
  ADet C 96 [.agg [.str F.id,.int .i64 F.ver,.int .i64 F.day,.int .i64 F.kind,.view 15 F.ms.length (wae (atM F.ms)),.view 5 F.rs.length (wai (atR F.rs)),.view 5 F.ts.length (wah (atT F.ts))]] []
   (.agg [.str F.id,.int .i64 F.ver,.int .i64 F.day,.int .i64 F.kind,.view 15 F.ms.length (wae (atM F.ms)),.view 5 F.rs.length (wai (atR F.rs)),.view 5 F.ts.length (wah (atT F.ts))]) []:=by
 obtain ⟨id,ver,day,kind,ms,rs,ts⟩:=F
 cases ts with
 |nil=>
  refine wbd.wpL (prg hP) [(140,.det whn),(141,.det whl),(142,.det whm)] [] 1 (.cons (wvq hP) (.cons (wvo hP) (.cons (wvp hP) .nil))) (hP ▸ Tryz.func96) rfl rfl rfl [] (by kernel_rfl) trivial ?_
  refine (nf_cpd0 ⟨id,ver,day,kind,ms,rs,[]⟩ _).mpr ?_
  exact ⟨⟨by omega,fun _ _=>rfl⟩,⟨by omega,fun _ _=>rfl⟩,trivial,⟨trivial,trivial⟩,rfl,rfl⟩
 |cons t l=>
  refine wal.frzO 0 ?_
  refine wbd.wpL (prg hP) [(140,.det whn),(141,.det whl),(142,.det whm)] [(3,L_kc ⟨id,ver,day,kind,ms,rs,t::l⟩)] 0 (.cons (wvq hP) (.cons (wvo hP) (.cons (wvp hP) .nil))) (hP ▸ Tryz.func96) rfl rfl rfl
   [(wam Tryz.f96 3,L_kc ⟨id,ver,day,kind,ms,rs,t::l⟩)] (by kernel_rfl) ⟨kc_loop hP _,trivial⟩ ?_
  refine (nf_cpd ⟨id,ver,day,kind,ms,rs,t::l⟩ t l _).mpr ?_
  have h3:l.length+1≤1000:=ht
  refine ⟨⟨by omega,fun _ _=>rfl⟩,⟨by omega,fun _ _=>rfl⟩,⟨by omega,fun _ _=>rfl⟩,fun _ _=>rfl,⟨rfl,wap _⟩,ht,hb,⟨trivial,trivial⟩,fun _ _=>rfl,_,wap _,fun _ _=>rfl,?_⟩
  have hq:Nat.ble (l.length+1) (l.length+1)=true:=Nat.ble_eq_true_of_le (Nat.le_refl _)
  constructor
  ·simp [frzC,frzA,frz,hq]
  ·rfl
def allN {α:Type} (q:α→Bool) (g:Nat→α):Nat→Bool
 |0=>true
 |k+1=>allN q g k && q (g k)
theorem wld {α:Type} {q:α→Bool} {g:Nat→α} {k:Nat} (e:q (g k)=false):∀ n,k<n→allN q g n=false
 |0,hn=>by omega
 |n+1,hn=>by
  by_cases z:k=n
  ·subst z;rw [allN,e,Bool.and_false]
  ·rw [allN,wld e n (by omega),Bool.false_and]
theorem wrg {α:Type} (q:α→Bool) (L:List α) (d:α):allN q (fun i=>L.getD i d) L.length=L.all q:=by
 have go:∀ (g:Nat→α) n,allN q g n=((List.range n).map g).all q:=by
  intro g n
  induction n with
  |zero=>rfl
  |succ n ih=>rw [allN,ih,List.range_succ,List.map_append,List.all_append];simp
 rw [go]
 exact congrArg (fun l=>l.all q) (wdu L d)
theorem w1_loop (hP:C.P=Tryz.prog) (F:FL):wak C 0 127 (wam Tryz.f30 14) (L_w1 F):=by
 rintro st Q ⟨h0,hs,hQ⟩
 rw [show (F.ms.all fun m=>decide (msgF m=0))=allN (fun m=>decide (msgF m=0)) (atM F.ms) F.ms.length from (wrg _ F.ms default).symm] at hQ
 have hR:=wbx hQ
 have m1:=hs.m.1
 have r1:=hs.r.1
 have t1:=hs.t.1
 refine wak.mk (prg hP) [(76,.det wde)] 0 (.cons (msgR_ok hP) .nil) [1,95,96,97] [1] [2] (S_w1 F) (fun k=>k≤F.ms.length∧allN (fun m=>decide (msgF m=0)) (atM F.ms) k=true) (fun k=>F.ms.length - k) 0 ⟨Nat.zero_le _,rfl⟩ h0 (fun k hk=>?_)
 obtain ⟨hkn,hok⟩:=hk
 rw [wyh,Int.toNat_natCast]
 refine waj (fun h1=>?_) (fun h1=>?_)
 ·have hlt:k<F.ms.length:=by omega
  have sm:=atM_sm hs hlt
  refine ⟨⟨by omega,by omega,rfl⟩,⟨sm.1,sm.2,sm.3,sm.4⟩,wcd (fun h2=>hR.2 (wld (k:=k) h2 _ hlt)) (fun h2=>⟨by simp only [inR];omega,k+1,rfl,⟨by omega,by rw [allN,hok];exact h2⟩,by omega⟩)⟩
 ·have:k=F.ms.length:=by omega
  exact hR.1 (by rw [← this];exact hok)
theorem w2_loop (hP:C.P=Tryz.prog) (F:FL):wak C 0 127 (wam Tryz.f30 20) (L_w2 F):=by
 rintro st Q ⟨h0,hs,hQ⟩
 rw [show (F.rs.all rowF)=allN rowF (atR F.rs) F.rs.length from (wrg _ F.rs default).symm] at hQ
 have hR:=wbx hQ
 have m1:=hs.m.1
 have r1:=hs.r.1
 have t1:=hs.t.1
 refine wak.mk (prg hP) [(77,.det wd9)] 0 (.cons (rowR_ok hP) .nil) [1,106,107,108] [1] [2] (S_w2 F) (fun k=>k≤F.rs.length∧allN rowF (atR F.rs) k=true) (fun k=>F.rs.length - k) 0 ⟨Nat.zero_le _,rfl⟩ h0 (fun k hk=>?_)
 obtain ⟨hkn,hok⟩:=hk
 rw [wyg,Int.toNat_natCast]
 refine waj (fun h1=>?_) (fun h1=>?_)
 ·have hlt:k<F.rs.length:=by omega
  have sm:=atR_sm hs hlt
  refine ⟨⟨by omega,by omega,rfl⟩,sm,wcd (fun h2=>hR.2 (wld (k:=k) h2 _ hlt)) (fun h2=>⟨by simp only [inR];omega,k+1,rfl,⟨by omega,by rw [allN,hok];exact h2⟩,by omega⟩)⟩
 ·have:k=F.rs.length:=by omega
  exact hR.1 (by rw [← this];exact hok)
theorem w3_loop (hP:C.P=Tryz.prog) (F:FL):wak C 0 127 (wam Tryz.f30 26) (L_w3 F):=by
 rintro st Q ⟨h0,hs,hQ⟩
 rw [show (F.ts.all rtOK)=allN rtOK (atT F.ts) F.ts.length from (wrg _ F.ts we0).symm] at hQ
 have hR:=wbx hQ
 have m1:=hs.m.1
 have r1:=hs.r.1
 have t1:=hs.t.1
 refine wak.mk (prg hP) [(78,.det wfq)] 0 (.cons (wxv hP) .nil) [117,118,119] [] [2] (S_w3 F) (fun k=>k≤F.ts.length∧allN rtOK (atT F.ts) k=true) (fun k=>F.ts.length - k) 0 ⟨Nat.zero_le _,rfl⟩ h0 (fun k hk=>?_)
 obtain ⟨hkn,hok⟩:=hk
 rw [wyf,Int.toNat_natCast]
 refine waj (fun h1=>?_) (fun h1=>?_)
 ·have hlt:k<F.ts.length:=by omega
  have sm:=atT_sm hs hlt
  rw [wg8]
  refine ⟨⟨by omega,by omega,rfl⟩,⟨sm.o,rfl⟩,wcd (fun h2=>hR.2 (wld (k:=k) h2 _ hlt)) (fun h2=>⟨by simp only [inR];omega,k+1,rfl,⟨by omega,by rw [allN,hok];exact h2⟩,by omega⟩)⟩
 ·have:k=F.ts.length:=by omega
  exact hR.1 (by rw [← this];exact hok)
theorem vname (id:List UInt8):decide (msgF ⟨id,0,0,⟨[],[],0,0,0,0,[]⟩,⟨[],[],0,[],0⟩⟩=110)= !wa0 id:=by
 unfold msgF
 cases h:wa0 id with
 |true=>
  simp only [Bool.not_true,cond_false]
  rfl
 |false=>simp only [Bool.not_false,cond_true];rfl
theorem vday (d:Int):decide ((bif decide (0≤d) && decide (d≤182620) then d % 7 else -1)<0)=(decide (d<0) || decide (182620<d)):=by
 by_cases h1:d<0
 ·rw [decide_eq_false (show ¬ 0≤d by omega),decide_eq_true h1];rfl
 ·by_cases h2:182620<d
  ·rw [decide_eq_false (show ¬ d≤182620 by omega),Bool.and_false,decide_eq_true h2,Bool.or_true];rfl
  ·rw [decide_eq_true (show 0≤d by omega),decide_eq_true (show d≤182620 by omega),decide_eq_false h1,decide_eq_false h2]
   exact decide_eq_false (by show ¬ d % 7<0;omega)
theorem vin_ok (hP:C.P=Tryz.prog) (hL:∀ w,C.laid w→LaidW w):wag C 29 wd8:=by
 rintro args objs U Os vc h hvc
 unfold wd8 at h
 split at h<;>simp only [Option.some.injEq,Prod.mk.injEq,reduceCtorEq] at h
 rename_i id ver day kind nm fm nr fr nt ft
 obtain ⟨rfl,rfl,rfl⟩:=h
 obtain ⟨hc,hs⟩:=hvc
 have l1:(lst (mgOf fm) nm).length=nm:=by simp [lst]
 have l2:(lst (rwOf fr) nr).length=nr:=by simp [lst]
 have l3:(lst (rtOf ft) nt).length=nt:=by simp [lst]
 obtain ⟨c1,c2,c3⟩:=hc
 unfold flV at hs ⊢
 generalize lst (mgOf fm) nm=ms at *
 generalize lst (rwOf fr) nr=rs at *
 generalize lst (rtOf ft) nt=ts at *
 subst l1;subst l2;subst l3;subst c1;subst c2;subst c3
 have hn:=nf_vin ⟨id,ver,day,kind,ms,rs,ts⟩
 dsimp only at hn
 refine wag.wp0 (prg hP) [(72,.det wde),(73,.det whb),(74,.det wm3)] 0 (.cons (wps hP hL) (.cons (wrt hP) (.cons (w23 hP hL) .nil))) (hP ▸ Tryz.func29) rfl rfl rfl ?_
 rw [hn]
 have hid:=hs.id
 dsimp only at hid
 have fl:=wd2 ⟨id,ver,day,kind,ms,rs,ts⟩
 have fc:=wew ⟨id,ver,day,kind,ms,rs,ts⟩
 dsimp only at fl fc
 rw [fl,vname,vday]
 unfold vinF
 dsimp only
 refine ⟨⟨hid,by decide,by decide,by decide⟩,waw (fun k1=>by rw [k1];exact ⟨rfl,rfl⟩) (fun k1=>?_)⟩
 rw [k1]
 have tail:(decide (ver<1) || decide (1000<ver) || (decide (kind=1) && !decide (ver=1)))=false→True∧wab (decide (day<0) || decide (182620<day)) ((AV.int .i64 152=AV.int .i64 (bif false then 150 else bif decide (ver<1) || decide (1000<ver) || (decide (kind=1) && !decide (ver=1)) then 151 else bif decide (day<0) || decide (182620<day) then 152 else bif decide (kind<1) || decide (3<kind) then 153 else bif !ctF ⟨id,ver,day,kind,ms,rs,ts⟩ then 154 else 0))∧([]:List (Nat×AObj))=[])
   (wab (decide (kind<1)) ((AV.int .i64 153=AV.int .i64 (bif false then 150 else bif decide (ver<1) || decide (1000<ver) || (decide (kind=1) && !decide (ver=1)) then 151 else bif decide (day<0) || decide (182620<day) then 152 else bif decide (kind<1) || decide (3<kind) then 153 else bif !ctF ⟨id,ver,day,kind,ms,rs,ts⟩ then 154 else 0))∧([]:List (Nat×AObj))=[])
   (wab (decide (3<kind)) ((AV.int .i64 153=AV.int .i64 (bif false then 150 else bif decide (ver<1) || decide (1000<ver) || (decide (kind=1) && !decide (ver=1)) then 151 else bif decide (day<0) || decide (182620<day) then 152 else bif decide (kind<1) || decide (3<kind) then 153 else bif !ctF ⟨id,ver,day,kind,ms,rs,ts⟩ then 154 else 0))∧([]:List (Nat×AObj))=[])
   ((FlC ms.length (wae (atM ms)) rs.length (wai (atR rs)) ts.length (wah (atT ts))∧FL.Sm ⟨id,ver,day,kind,ms,rs,ts⟩)∧wab (!ctF ⟨id,ver,day,kind,ms,rs,ts⟩) ((AV.int .i64 154=AV.int .i64 (bif false then 150 else bif decide (ver<1) || decide (1000<ver) || (decide (kind=1) && !decide (ver=1)) then 151 else bif decide (day<0) || decide (182620<day) then 152 else bif decide (kind<1) || decide (3<kind) then 153 else bif !ctF ⟨id,ver,day,kind,ms,rs,ts⟩ then 154 else 0))∧([]:List (Nat×AObj))=[])
    ((AV.int .i64 0=AV.int .i64 (bif false then 150 else bif decide (ver<1) || decide (1000<ver) || (decide (kind=1) && !decide (ver=1)) then 151 else bif decide (day<0) || decide (182620<day) then 152 else bif decide (kind<1) || decide (3<kind) then 153 else bif !ctF ⟨id,ver,day,kind,ms,rs,ts⟩ then 154 else 0))∧([]:List (Nat×AObj))=[])))):=fun e=>by
  rw [e]
  refine ⟨trivial,waw (fun d=>by rw [d];exact ⟨rfl,rfl⟩) (fun d=>?_)⟩
  rw [d]
  refine waw (fun k=>by rw [k];exact ⟨rfl,rfl⟩) (fun k=>waw (fun j=>by rw [k,j];exact ⟨rfl,rfl⟩) (fun j=>⟨⟨fc,hs⟩,?_⟩))
  rw [k,j]
  exact waw (fun c=>by rw [c];exact ⟨rfl,rfl⟩) (fun c=>by rw [c];exact ⟨rfl,rfl⟩)
 refine waw (fun a=>by rw [a];exact ⟨rfl,rfl⟩) (fun a=>waw (fun b=>by rw [a,b];exact ⟨rfl,rfl⟩) (fun b=>waw (fun c=>waw (fun d=>by rw [a,b,c,d];exact ⟨rfl,rfl⟩) (fun d=>tail (by rw [a,b,c,d];rfl))) (fun c=>tail (by rw [a,b,c];rfl))))
def cok (F:FL):Bool:=decide (F.ms.length≤400) && (decide (F.rs.length≤400) && (decide (F.ts.length≤400) && ((F.ms.all fun m=>decide (msgF m=0)) && (F.rs.all rowF && F.ts.all rtOK))))
theorem cok_iff {F:FL} (hk:1≤F.kind∧F.kind≤3):ctF F=(!(!decide (F.kind=1) && decide (0<F.ms.length)) && (!(!decide (F.kind=2) && decide (0<F.rs.length)) && (!(!decide (F.kind=3) && decide (0<F.ts.length)) && cok F))):=by
 obtain ⟨id,ver,day,kind,ms,rs,ts⟩:=F
 dsimp only at hk
 unfold ctF cok
 dsimp only
 have nil:∀ {α:Type} {l:List α} (q:α→Bool),l.length=0→l.all q=true:=fun q h=>by rw [List.eq_nil_of_length_eq_zero h];rfl
 have h3:kind=1∨kind=2∨kind=3:=by omega
 rcases h3 with rfl | rfl | rfl
 ·by_cases a:rs.length=0
  ·by_cases b:ts.length=0
   ·rw [nil rowF a,nil rtOK b,a,b];simp
   ·simp only [decide_eq_false (show ¬ rs.length+ts.length=0 by omega),decide_eq_true (show 0<ts.length by omega)]
    simp
  ·simp only [decide_eq_false (show ¬ rs.length+ts.length=0 by omega),decide_eq_true (show 0<rs.length by omega)]
   simp
 ·by_cases a:ms.length=0
  ·by_cases b:ts.length=0
   ·rw [nil (fun m=>decide (msgF m=0)) a,nil rtOK b,a,b];simp
   ·simp only [decide_eq_false (show ¬ ms.length+ts.length=0 by omega),decide_eq_true (show 0<ts.length by omega)]
    simp
  ·simp only [decide_eq_false (show ¬ ms.length+ts.length=0 by omega),decide_eq_true (show 0<ms.length by omega)]
   simp
 ·by_cases a:ms.length=0
  ·by_cases b:rs.length=0
   ·rw [nil (fun m=>decide (msgF m=0)) a,nil rowF b,a,b];simp
   ·simp only [decide_eq_false (show ¬ ms.length+rs.length=0 by omega),decide_eq_true (show 0<rs.length by omega)]
    simp
  ·simp only [decide_eq_false (show ¬ ms.length+rs.length=0 by omega),decide_eq_true (show 0<ms.length by omega)]
   simp
theorem cok_end (F:FL) (p1 p2 p3 A B:Prop) (h1:p1) (h2:p2) (h3:p3) (hs:F.Sm) (hA:cok F=true→A) (hB:cok F=false→B):
  wab (decide ((400:Int)<(F.ms.length:Int))) B (wab (decide ((400:Int)<(F.rs.length:Int))) B (wab (decide ((400:Int)<(F.ts.length:Int))) B
   (p1∧F.Sm∧wab (F.ms.all fun m=>decide (msgF m=0)) (p2∧F.Sm∧wab (F.rs.all rowF) (p3∧F.Sm∧wab (F.ts.all rtOK) A B) B) B))):=by
 unfold cok at hA hB
 refine waj (fun a=>hB (by rw [decide_eq_false (show ¬ F.ms.length≤400 by omega)];rfl)) (fun a=>?_)
 rw [decide_eq_true (show F.ms.length≤400 by omega)] at hA hB
 refine waj (fun b=>hB (by rw [decide_eq_false (show ¬ F.rs.length≤400 by omega)];rfl)) (fun b=>?_)
 rw [decide_eq_true (show F.rs.length≤400 by omega)] at hA hB
 refine waj (fun c=>hB (by rw [decide_eq_false (show ¬ F.ts.length≤400 by omega)];rfl)) (fun c=>?_)
 rw [decide_eq_true (show F.ts.length≤400 by omega)] at hA hB
 exact ⟨h1,hs,waw (fun x=>⟨h2,hs,waw (fun y=>⟨h3,hs,waw (fun z=>hA (by rw [x,y,z];rfl)) (fun z=>hB (by rw [x,y,z];rfl))⟩) (fun y=>hB (by rw [x,y];rfl))⟩) (fun x=>hB (by rw [x];rfl))⟩
theorem wwp {F:FL} (n:wa0 F.id=true) (v:(decide (F.ver<1) || decide (1000<F.ver) || (decide (F.kind=1) && !decide (F.ver=1)))=false) (d:(decide (F.day<0) || decide (182620<F.day))=false) (k:(decide (F.kind<1) || decide (3<F.kind))=false):vinF F=bif !ctF F then 154 else 0:=by
 unfold vinF
 rw [n,v,d,k];rfl
theorem wq2 {a:Bool} {n:Nat} {B X:Prop} (h1:(!a && decide (0<n))=true→B) (h2:(!a && decide (0<n))=false→X):wab (!a) (wab (decide ((0:Int)<(n:Int))) B X) X:=by
 cases a with
 |true=>exact h2 rfl
 |false=>
  refine waj (fun q=>h1 ?_) (fun q=>h2 ?_)
  ·rw [decide_eq_true (show 0<n by omega)];rfl
  ·rw [decide_eq_false (show ¬ 0<n by omega)];rfl
theorem vinR_at (hP:C.P=Tryz.prog) (F:FL) (hs:F.Sm):ADet C 30 [.agg [.str F.id,.int .i64 F.ver,.int .i64 F.day,.int .i64 F.kind,.view 15 F.ms.length (wae (atM F.ms)),.view 5 F.rs.length (wai (atR F.rs)),.view 5 F.ts.length (wah (atT F.ts))]] [] (.int .i64 (vinF F)) []:=by
 refine wag.wpL (prg hP) [(75,.det wed)] [(14,L_w1 F),(20,L_w2 F),(26,L_w3 F)] 0 (.cons (wj5 hP) .nil) (hP ▸ Tryz.func30) rfl rfl rfl
  [(wam Tryz.f30 14,L_w1 F),(wam Tryz.f30 20,L_w2 F),(wam Tryz.f30 26,L_w3 F)] (by kernel_rfl) ⟨w1_loop hP _,w2_loop hP _,w3_loop hP _,trivial⟩ ?_
 rw [nf_vinR]
 have hid:=hs.id
 have out:∀ x:Int,vinF F=x→(AV.int .i64 x=AV.int .i64 (vinF F)∧([]:List (Nat×AObj))=[]):=fun x h=>by rw [h];exact ⟨rfl,rfl⟩
 have v1:∀ {b:Bool},wa0 F.id=true→(decide (F.ver<1) || decide (1000<F.ver) || (decide (F.kind=1) && !decide (F.ver=1)))=true→vinF F=151:=fun n h=>by unfold vinF;rw [n,h];rfl
 refine ⟨by omega,wcd (fun k1=>out _ (by unfold vinF;rw [k1];rfl)) (fun k1=>waj (fun a=>out _ (v1 (b:=true) k1 (by rw [decide_eq_true a];rfl))) (fun a=>waj (fun b=>out _ (v1 (b:=true) k1 (by rw [decide_eq_true b];simp))) (fun b=>?_)))⟩
 have fin:(decide (F.ver<1) || decide (1000<F.ver) || (decide (F.kind=1) && !decide (F.ver=1)))=false→∀ (d1:¬ F.day<0) (d2:¬ (182621:Int)≤F.day) (k2:¬ F.kind<1) (k3:¬ 3<F.kind),vinF F=bif !ctF F then 154 else 0:=fun v d1 d2 k2 k3=>
  wwp k1 v (by rw [decide_eq_false d1,decide_eq_false (show ¬ 182620<F.day by omega)];rfl) (by rw [decide_eq_false k2,decide_eq_false k3];rfl)
 have v2:(decide (F.ver<1) || decide (1000<F.ver) || (decide (F.kind=1) && !decide (F.ver=1)))=false→(decide (F.day<0) || decide (182620<F.day))=true→vinF F=152:=fun v d=>by unfold vinF;rw [k1,v,d];rfl
 have v3:(decide (F.ver<1) || decide (1000<F.ver) || (decide (F.kind=1) && !decide (F.ver=1)))=false→¬ F.day<0→¬ (182621:Int)≤F.day→(decide (F.kind<1) || decide (3<F.kind))=true→vinF F=153:=fun v d1 d2 k=>by
  unfold vinF;rw [k1,v,decide_eq_false d1,decide_eq_false (show ¬ 182620<F.day by omega),k];rfl
 refine waj (fun k=>wb3 (fun c=>out _ (v1 (b:=true) k1 (by rw [decide_eq_true k,decide_eq_false c];simp))) (fun c=>?_)) (fun k=>?_)
 all_goals
  have v:(decide (F.ver<1) || decide (1000<F.ver) || (decide (F.kind=1) && !decide (F.ver=1)))=false:=by
   rw [decide_eq_false a,decide_eq_false b]
   first
    |(rw [decide_eq_true c];simp;done)
    |(rw [decide_eq_false k];rfl)
  refine waj (fun d1=>out _ (v2 v (by rw [decide_eq_true d1];rfl))) (fun d1=>waj (fun d2=>out _ (v2 v (by rw [decide_eq_true (show 182620<F.day by omega)];simp))) (fun d2=>waj (fun k2=>out _ (v3 v d1 d2 (by rw [decide_eq_true k2];rfl))) (fun k2=>waj (fun k3=>out _ (v3 v d1 d2 (by rw [decide_eq_true k3];simp))) (fun k3=>?_))))
  have fv:=fin v d1 d2 k2 k3
  rw [cok_iff ⟨by omega,by omega⟩] at fv
  exact wq2 (fun x=>out _ (by rw [fv,x];rfl)) (fun x=>wq2 (fun y=>out _ (by rw [fv,x,y];rfl)) (fun y=>wq2 (fun z=>out _ (by rw [fv,x,y,z];rfl)) (fun z=>cok_end F _ _ _ _ _ rfl rfl rfl hs (fun w=>out _ (by rw [fv,x,y,z,w];rfl)) (fun w=>out _ (by rw [fv,x,y,z,w];rfl)))))
theorem vinR_ok (hP:C.P=Tryz.prog):wag C 30 wd8:=by
 rintro args objs U Os vc h hvc
 unfold wd8 at h
 split at h<;>simp only [Option.some.injEq,Prod.mk.injEq,reduceCtorEq] at h
 rename_i id ver day kind nm fm nr fr nt ft
 obtain ⟨rfl,rfl,rfl⟩:=h
 obtain ⟨hc,hs⟩:=hvc
 have l1:(lst (mgOf fm) nm).length=nm:=by simp [lst]
 have l2:(lst (rwOf fr) nr).length=nr:=by simp [lst]
 have l3:(lst (rtOf ft) nt).length=nt:=by simp [lst]
 obtain ⟨c1,c2,c3⟩:=hc
 unfold flV at hs ⊢
 generalize lst (mgOf fm) nm=ms at *
 generalize lst (rwOf fr) nr=rs at *
 generalize lst (rtOf ft) nt=ts at *
 subst l1;subst l2;subst l3;subst c1;subst c2;subst c3
 exact vinR_at hP ⟨id,ver,day,kind,ms,rs,ts⟩ hs
end Go.Eng
