/- Texts and numbers, as Encode writes them. -/
import Derived.Test.YtgcboligphndhaaGreatDoorBt
import Derived.Test.YtgcboligphndhaaGreatDoorBu
import Derived.Test.YtgcboligphndhaaGreatDoorBv
namespace Go.Eng
open Go.Proofs Go.RowKit
variable {C:Ctx} [C.Loose]
set_option maxRecDepth 20000
theorem nf_ws0 (s:List UInt8) (R:AV→List (Nat×AObj)→Prop):wpFn te [(164,.det S_cc)] [] 0 Tryz.f132 [.ptr 0 0,.str s] [.cells [.nilptr,.nil] 111] R=(111=111∧(True∧1=1∧List.length s≤9223372036854775807∧List.length s * TI.bytes (TI.mk (TypeDesc.int IntKind.u8) 1 1 (Value.int IntKind.u8 0) false)≤140737488355328)∧(∀ (i:Nat),i<List.length s→true=true)∧∃ (O':List (Nat×AObj)),wac [(0,.cells [.ptr 0 0,.own 1 (List.length s)] 111),(1,.row 5 1 (List.length s) (strG s) false)] O'∧R (.tuple [.int .i64 (↑(List.length s):Int),.nilIface]) O'):=by kernel_rfl
theorem nf_ws (L s:List UInt8) (R:AV→List (Nat×AObj)→Prop):wpFn te [(164,.det S_cc)] [] 0 Tryz.f132 [.ptr 0 0,.str s] [.cells [.ptr 0 0,.own 1 L.length] 111,.row 5 1 L.length (strG L) false] R=(letI z1:=(∀ (i:Nat),i<List.length L→true=true:Prop);letI z0:=List.length L+List.length s;z1∧111=111∧z1∧(True∧List.length L≤List.length L∧1=1∧5=5∧1=1∧List.length L+List.length s≤9223372036854775807∧z0 * TI.bytes (TI.mk (TypeDesc.int IntKind.u8) 1 1 (Value.int IntKind.u8 0) false)≤140737488355328)∧(∀ (i:Nat),i<List.length L+List.length s→nrefL (apF (List.length L) (strG L) (strG s) i)=true)∧∃ (O':List (Nat×AObj)),wac [(0,.cells [.ptr 0 0,.own (List.length [AObj.cells [.ptr 0 0,.own 1 (List.length L)] (111:TypeId),.row (5:TypeId) 1 (List.length L) (strG L) false]) z0] 111),(List.length [AObj.cells [.ptr 0 0,.own 1 (List.length L)] (111:TypeId),.row (5:TypeId) 1 (List.length L) (strG L) false],.row 5 1 z0 (apF (List.length L) (strG L) (strG s)) false)] O'∧R (.tuple [.int .i64 (↑(List.length s):Int),.nilIface]) O'):=by kernel_rfl
theorem nf_tx1 (h:Nat→List UInt8) (R:AV→List (Nat×AObj)→Prop):wpFn te [(133,.det wdr),(132,.det S_ws)] [] 2 Tryz.f83 [.ptr 0 0,.own 1 1] [.cells [.nilptr,.nil] 111,.row 9 1 1 (wax h) false] R=(letI z1:=(↑(List.length (h 0)):Int);letI z0:=(Lib.itoa z1++[(58:UInt8)]++h 0++[(44:UInt8)]);letI z2:=(∀ (i:Nat),i<List.length z0→true=true:Prop);((0:Int)≤(0:Int)∧(0:Int)<(↑1:Int))∧(0<1∧1=1)∧inR .i64 z1∧List.length (Lib.itoa z1)+List.length ([(58:UInt8)])≤9223372036854775807∧List.length (Lib.itoa z1++[(58:UInt8)])+List.length (h 0)≤9223372036854775807∧List.length (Lib.itoa z1++[(58:UInt8)]++h 0)+List.length ([(44:UInt8)])≤9223372036854775807∧(111=111∧List.length z0≤1099511627776)∧z2∧inR .i64 ((0:Int)+(1:Int))∧(∀ (i:Nat),i<1→true=true)∧z2∧∃ (O':List (Nat×AObj)),wac [(0,.cells [.ptr 0 0,.own (List.length [AObj.cells [.nilptr,.nil] (111:TypeId),.row (9:TypeId) 1 1 (wax h) false]) (List.length z0)] 111),(1,.row 9 1 1 (wax h) false),(List.length [AObj.cells [.nilptr,.nil] (111:TypeId),.row (9:TypeId) 1 1 (wax h) false],.row 5 1 (List.length z0) (strG z0) false)] O'∧R (.tuple []) O'):=by kernel_rfl
theorem nf_txu1 (L:List UInt8) (g:Nat→List UInt8) (R:AV→List (Nat×AObj)→Prop):wpFn te [(133,.det wdr),(132,.det S_ws)] [] 2 Tryz.f83 [.ptr 0 0,.own 1 1] [.cells [.ptr 0 0,.own 2 L.length] 111,.row 9 1 1 (wax g) false,.row 5 1 L.length (strG L) false] R=(letI z1:=(↑(List.length (g 0)):Int);letI z0:=(waj (List.length L) (strG L)++(Lib.itoa z1++[(58:UInt8)]++g 0++[(44:UInt8)]));letI z2:=(∀ (i:Nat),i<List.length z0→true=true:Prop);((0:Int)≤(0:Int)∧(0:Int)<(↑1:Int))∧(0<1∧1=1)∧inR .i64 z1∧List.length (Lib.itoa z1)+List.length ([(58:UInt8)])≤9223372036854775807∧List.length (Lib.itoa z1++[(58:UInt8)])+List.length (g 0)≤9223372036854775807∧List.length (Lib.itoa z1++[(58:UInt8)]++g 0)+List.length ([(44:UInt8)])≤9223372036854775807∧(∀ (i:Nat),i<List.length L→true=true)∧(111=111∧5=5∧List.length L=List.length L∧strG L=strG (waj (List.length L) (strG L))∧List.length z0≤1099511627776)∧z2∧inR .i64 ((0:Int)+(1:Int))∧(∀ (i:Nat),i<1→true=true)∧z2∧∃ (O':List (Nat×AObj)),wac [(0,.cells [.ptr 0 0,.own (List.length [AObj.cells [.ptr 0 0,.own 2 (List.length L)] (111:TypeId),.row (9:TypeId) 1 1 (wax g) false,.row (5:TypeId) 1 (List.length L) (strG L) false]) (List.length z0)] 111),(1,.row 9 1 1 (wax g) false),(List.length [AObj.cells [.ptr 0 0,.own 2 (List.length L)] (111:TypeId),.row (9:TypeId) 1 1 (wax g) false,.row (5:TypeId) 1 (List.length L) (strG L) false],.row 5 1 (List.length z0) (strG z0) false)] O'∧R (.tuple []) O'):=by kernel_rfl
theorem nf_txu2 (L:List UInt8) (g:Nat→List UInt8) (R:AV→List (Nat×AObj)→Prop):wpFn te [(133,.det wdr),(132,.det S_ws)] [] 3 Tryz.f83 [.ptr 0 0,.own 1 2] [.cells [.ptr 0 0,.own 2 L.length] 111,.row 9 1 2 (wax g) false,.row 5 1 L.length (strG L) false] R=(letI z3:=(↑(List.length (g 1)):Int);letI z2:=(↑(List.length (g 0)):Int);letI z0:=(waj (List.length L) (strG L)++(Lib.itoa z2++[(58:UInt8)]++g 0++[(44:UInt8)]));letI z4:=(∀ (i:Nat),i<List.length z0→true=true:Prop);letI z1:=(waj (List.length z0) (strG z0)++(Lib.itoa z3++[(58:UInt8)]++g 1++[(44:UInt8)]));letI z5:=(∀ (i:Nat),i<List.length z1→true=true:Prop);((0:Int)≤(0:Int)∧(0:Int)<(↑2:Int))∧(0<2∧1=1)∧inR .i64 z2∧List.length (Lib.itoa z2)+List.length ([(58:UInt8)])≤9223372036854775807∧List.length (Lib.itoa z2++[(58:UInt8)])+List.length (g 0)≤9223372036854775807∧List.length (Lib.itoa z2++[(58:UInt8)]++g 0)+List.length ([(44:UInt8)])≤9223372036854775807∧(∀ (i:Nat),i<List.length L→true=true)∧(111=111∧5=5∧List.length L=List.length L∧strG L=strG (waj (List.length L) (strG L))∧List.length z0≤1099511627776)∧z4∧inR .i64 ((0:Int)+(1:Int))∧((0:Int)≤(0:Int)+(1:Int)∧(0:Int)+(1:Int)<(↑2:Int))∧(1<2∧1=1)∧inR .i64 z3∧List.length (Lib.itoa z3)+List.length ([(58:UInt8)])≤9223372036854775807∧List.length (Lib.itoa z3++[(58:UInt8)])+List.length (g 1)≤9223372036854775807∧List.length (Lib.itoa z3++[(58:UInt8)]++g 1)+List.length ([(44:UInt8)])≤9223372036854775807∧z4∧(111=111∧5=5∧List.length z0=List.length z0∧strG z0=strG (waj (List.length z0) (strG z0))∧List.length z1≤1099511627776)∧z5∧inR .i64 ((0:Int)+(1:Int)+(1:Int))∧(∀ (i:Nat),i<2→true=true)∧z5∧∃ (O':List (Nat×AObj)),wac [(0,.cells [.ptr 0 0,.own (List.length [AObj.cells [.ptr 0 0,.own 2 (List.length L)] (111:TypeId),.row (9:TypeId) 1 2 (wax g) false,.row (5:TypeId) 1 (List.length L) (strG L) false]) (List.length z1)] 111),(1,.row 9 1 2 (wax g) false),(List.length [AObj.cells [.ptr 0 0,.own 2 (List.length L)] (111:TypeId),.row (9:TypeId) 1 2 (wax g) false,.row (5:TypeId) 1 (List.length L) (strG L) false],.row 5 1 (List.length z1) (strG z1) false)] O'∧R (.tuple []) O'):=by kernel_rfl
theorem nf_txu3 (L:List UInt8) (g:Nat→List UInt8) (R:AV→List (Nat×AObj)→Prop):wpFn te [(133,.det wdr),(132,.det S_ws)] [] 4 Tryz.f83 [.ptr 0 0,.own 1 3] [.cells [.ptr 0 0,.own 2 L.length] 111,.row 9 1 3 (wax g) false,.row 5 1 L.length (strG L) false] R=(letI z5:=(↑(List.length (g 2)):Int);letI z4:=(↑(List.length (g 1)):Int);letI z3:=(↑(List.length (g 0)):Int);letI z1:=(waj (List.length L) (strG L)++(Lib.itoa z3++[(58:UInt8)]++g 0++[(44:UInt8)]));letI z6:=(∀ (i:Nat),i<List.length z1→true=true:Prop);letI z0:=(waj (List.length z1) (strG z1)++(Lib.itoa z4++[(58:UInt8)]++g 1++[(44:UInt8)]));letI z7:=(∀ (i:Nat),i<List.length z0→true=true:Prop);letI z2:=(waj (List.length z0) (strG z0)++(Lib.itoa z5++[(58:UInt8)]++g 2++[(44:UInt8)]));letI z8:=(∀ (i:Nat),i<List.length z2→true=true:Prop);((0:Int)≤(0:Int)∧(0:Int)<(↑3:Int))∧(0<3∧1=1)∧inR .i64 z3∧List.length (Lib.itoa z3)+List.length ([(58:UInt8)])≤9223372036854775807∧List.length (Lib.itoa z3++[(58:UInt8)])+List.length (g 0)≤9223372036854775807∧List.length (Lib.itoa z3++[(58:UInt8)]++g 0)+List.length ([(44:UInt8)])≤9223372036854775807∧(∀ (i:Nat),i<List.length L→true=true)∧(111=111∧5=5∧List.length L=List.length L∧strG L=strG (waj (List.length L) (strG L))∧List.length z1≤1099511627776)∧z6∧inR .i64 ((0:Int)+(1:Int))∧((0:Int)≤(0:Int)+(1:Int)∧(0:Int)+(1:Int)<(↑3:Int))∧(1<3∧1=1)∧inR .i64 z4∧List.length (Lib.itoa z4)+List.length ([(58:UInt8)])≤9223372036854775807∧List.length (Lib.itoa z4++[(58:UInt8)])+List.length (g 1)≤9223372036854775807∧List.length (Lib.itoa z4++[(58:UInt8)]++g 1)+List.length ([(44:UInt8)])≤9223372036854775807∧z6∧(111=111∧5=5∧List.length z1=List.length z1∧strG z1=strG (waj (List.length z1) (strG z1))∧List.length z0≤1099511627776)∧z7∧inR .i64 ((0:Int)+(1:Int)+(1:Int))∧((0:Int)≤(0:Int)+(1:Int)+(1:Int)∧(0:Int)+(1:Int)+(1:Int)<(↑3:Int))∧(2<3∧1=1)∧inR .i64 z5∧List.length (Lib.itoa z5)+List.length ([(58:UInt8)])≤9223372036854775807∧List.length (Lib.itoa z5++[(58:UInt8)])+List.length (g 2)≤9223372036854775807∧List.length (Lib.itoa z5++[(58:UInt8)]++g 2)+List.length ([(44:UInt8)])≤9223372036854775807∧z7∧(111=111∧5=5∧List.length z0=List.length z0∧strG z0=strG (waj (List.length z0) (strG z0))∧List.length z2≤1099511627776)∧z8∧inR .i64 ((0:Int)+(1:Int)+(1:Int)+(1:Int))∧(∀ (i:Nat),i<3→true=true)∧z8∧∃ (O':List (Nat×AObj)),wac [(0,.cells [.ptr 0 0,.own (List.length [AObj.cells [.ptr 0 0,.own 2 (List.length L)] (111:TypeId),.row (9:TypeId) 1 3 (wax g) false,.row (5:TypeId) 1 (List.length L) (strG L) false]) (List.length z2)] 111),(1,.row 9 1 3 (wax g) false),(List.length [AObj.cells [.ptr 0 0,.own 2 (List.length L)] (111:TypeId),.row (9:TypeId) 1 3 (wax g) false,.row (5:TypeId) 1 (List.length L) (strG L) false],.row 5 1 (List.length z2) (strG z2) false)] O'∧R (.tuple []) O'):=by kernel_rfl
theorem nf_nuu1 (L:List UInt8) (g:Nat→Int) (R:AV→List (Nat×AObj)→Prop):wpFn te [(134,.det wds),(132,.det S_ws)] [] 2 Tryz.f84 [.ptr 0 0,.own 1 1] [.cells [.ptr 0 0,.own 2 L.length] 111,.row 2 1 1 (waf g) false,.row 5 1 L.length (strG L) false] R=(letI z0:=(waj (List.length L) (strG L)++(Lib.itoa (g 0)++[(44:UInt8)]));letI z1:=(∀ (i:Nat),i<List.length z0→true=true:Prop);((0:Int)≤(0:Int)∧(0:Int)<(↑1:Int))∧(0<1∧1=1)∧inR .i64 (g 0)∧List.length (Lib.itoa (g 0))+List.length ([(44:UInt8)])≤9223372036854775807∧(∀ (i:Nat),i<List.length L→true=true)∧(111=111∧5=5∧List.length L=List.length L∧strG L=strG (waj (List.length L) (strG L))∧List.length z0≤1099511627776)∧z1∧inR .i64 ((0:Int)+(1:Int))∧(∀ (i:Nat),i<1→true=true)∧z1∧∃ (O':List (Nat×AObj)),wac [(0,.cells [.ptr 0 0,.own (List.length [AObj.cells [.ptr 0 0,.own 2 (List.length L)] (111:TypeId),.row (2:TypeId) 1 1 (waf g) false,.row (5:TypeId) 1 (List.length L) (strG L) false]) (List.length z0)] 111),(1,.row 2 1 1 (waf g) false),(List.length [AObj.cells [.ptr 0 0,.own 2 (List.length L)] (111:TypeId),.row (2:TypeId) 1 1 (waf g) false,.row (5:TypeId) 1 (List.length L) (strG L) false],.row 5 1 (List.length z0) (strG z0) false)] O'∧R (.tuple []) O'):=by kernel_rfl
theorem nf_nuu2 (L:List UInt8) (g:Nat→Int) (R:AV→List (Nat×AObj)→Prop):wpFn te [(134,.det wds),(132,.det S_ws)] [] 3 Tryz.f84 [.ptr 0 0,.own 1 2] [.cells [.ptr 0 0,.own 2 L.length] 111,.row 2 1 2 (waf g) false,.row 5 1 L.length (strG L) false] R=(letI z0:=(waj (List.length L) (strG L)++(Lib.itoa (g 0)++[(44:UInt8)]));letI z2:=(∀ (i:Nat),i<List.length z0→true=true:Prop);letI z1:=(waj (List.length z0) (strG z0)++(Lib.itoa (g 1)++[(44:UInt8)]));letI z3:=(∀ (i:Nat),i<List.length z1→true=true:Prop);((0:Int)≤(0:Int)∧(0:Int)<(↑2:Int))∧(0<2∧1=1)∧inR .i64 (g 0)∧List.length (Lib.itoa (g 0))+List.length ([(44:UInt8)])≤9223372036854775807∧(∀ (i:Nat),i<List.length L→true=true)∧(111=111∧5=5∧List.length L=List.length L∧strG L=strG (waj (List.length L) (strG L))∧List.length z0≤1099511627776)∧z2∧inR .i64 ((0:Int)+(1:Int))∧((0:Int)≤(0:Int)+(1:Int)∧(0:Int)+(1:Int)<(↑2:Int))∧(1<2∧1=1)∧inR .i64 (g 1)∧List.length (Lib.itoa (g 1))+List.length ([(44:UInt8)])≤9223372036854775807∧z2∧(111=111∧5=5∧List.length z0=List.length z0∧strG z0=strG (waj (List.length z0) (strG z0))∧List.length z1≤1099511627776)∧z3∧inR .i64 ((0:Int)+(1:Int)+(1:Int))∧(∀ (i:Nat),i<2→true=true)∧z3∧∃ (O':List (Nat×AObj)),wac [(0,.cells [.ptr 0 0,.own (List.length [AObj.cells [.ptr 0 0,.own 2 (List.length L)] (111:TypeId),.row (2:TypeId) 1 2 (waf g) false,.row (5:TypeId) 1 (List.length L) (strG L) false]) (List.length z1)] 111),(1,.row 2 1 2 (waf g) false),(List.length [AObj.cells [.ptr 0 0,.own 2 (List.length L)] (111:TypeId),.row (2:TypeId) 1 2 (waf g) false,.row (5:TypeId) 1 (List.length L) (strG L) false],.row 5 1 (List.length z1) (strG z1) false)] O'∧R (.tuple []) O'):=by kernel_rfl
theorem nf_nuu3 (L:List UInt8) (g:Nat→Int) (R:AV→List (Nat×AObj)→Prop):wpFn te [(134,.det wds),(132,.det S_ws)] [] 4 Tryz.f84 [.ptr 0 0,.own 1 3] [.cells [.ptr 0 0,.own 2 L.length] 111,.row 2 1 3 (waf g) false,.row 5 1 L.length (strG L) false] R=(letI z1:=(waj (List.length L) (strG L)++(Lib.itoa (g 0)++[(44:UInt8)]));letI z3:=(∀ (i:Nat),i<List.length z1→true=true:Prop);letI z0:=(waj (List.length z1) (strG z1)++(Lib.itoa (g 1)++[(44:UInt8)]));letI z4:=(∀ (i:Nat),i<List.length z0→true=true:Prop);letI z2:=(waj (List.length z0) (strG z0)++(Lib.itoa (g 2)++[(44:UInt8)]));letI z5:=(∀ (i:Nat),i<List.length z2→true=true:Prop);((0:Int)≤(0:Int)∧(0:Int)<(↑3:Int))∧(0<3∧1=1)∧inR .i64 (g 0)∧List.length (Lib.itoa (g 0))+List.length ([(44:UInt8)])≤9223372036854775807∧(∀ (i:Nat),i<List.length L→true=true)∧(111=111∧5=5∧List.length L=List.length L∧strG L=strG (waj (List.length L) (strG L))∧List.length z1≤1099511627776)∧z3∧inR .i64 ((0:Int)+(1:Int))∧((0:Int)≤(0:Int)+(1:Int)∧(0:Int)+(1:Int)<(↑3:Int))∧(1<3∧1=1)∧inR .i64 (g 1)∧List.length (Lib.itoa (g 1))+List.length ([(44:UInt8)])≤9223372036854775807∧z3∧(111=111∧5=5∧List.length z1=List.length z1∧strG z1=strG (waj (List.length z1) (strG z1))∧List.length z0≤1099511627776)∧z4∧inR .i64 ((0:Int)+(1:Int)+(1:Int))∧((0:Int)≤(0:Int)+(1:Int)+(1:Int)∧(0:Int)+(1:Int)+(1:Int)<(↑3:Int))∧(2<3∧1=1)∧inR .i64 (g 2)∧List.length (Lib.itoa (g 2))+List.length ([(44:UInt8)])≤9223372036854775807∧z4∧(111=111∧5=5∧List.length z0=List.length z0∧strG z0=strG (waj (List.length z0) (strG z0))∧List.length z2≤1099511627776)∧z5∧inR .i64 ((0:Int)+(1:Int)+(1:Int)+(1:Int))∧(∀ (i:Nat),i<3→true=true)∧z5∧∃ (O':List (Nat×AObj)),wac [(0,.cells [.ptr 0 0,.own (List.length [AObj.cells [.ptr 0 0,.own 2 (List.length L)] (111:TypeId),.row (2:TypeId) 1 3 (waf g) false,.row (5:TypeId) 1 (List.length L) (strG L) false]) (List.length z2)] 111),(1,.row 2 1 3 (waf g) false),(List.length [AObj.cells [.ptr 0 0,.own 2 (List.length L)] (111:TypeId),.row (2:TypeId) 1 3 (waf g) false,.row (5:TypeId) 1 (List.length L) (strG L) false],.row 5 1 (List.length z2) (strG z2) false)] O'∧R (.tuple []) O'):=by kernel_rfl
theorem nf_nuu4 (L:List UInt8) (g:Nat→Int) (R:AV→List (Nat×AObj)→Prop):wpFn te [(134,.det wds),(132,.det S_ws)] [] 5 Tryz.f84 [.ptr 0 0,.own 1 4] [.cells [.ptr 0 0,.own 2 L.length] 111,.row 2 1 4 (waf g) false,.row 5 1 L.length (strG L) false] R=(letI z2:=(waj (List.length L) (strG L)++(Lib.itoa (g 0)++[(44:UInt8)]));letI z4:=(∀ (i:Nat),i<List.length z2→true=true:Prop);letI z0:=(waj (List.length z2) (strG z2)++(Lib.itoa (g 1)++[(44:UInt8)]));letI z5:=(∀ (i:Nat),i<List.length z0→true=true:Prop);letI z1:=(waj (List.length z0) (strG z0)++(Lib.itoa (g 2)++[(44:UInt8)]));letI z6:=(∀ (i:Nat),i<List.length z1→true=true:Prop);letI z3:=(waj (List.length z1) (strG z1)++(Lib.itoa (g 3)++[(44:UInt8)]));letI z7:=(∀ (i:Nat),i<List.length z3→true=true:Prop);((0:Int)≤(0:Int)∧(0:Int)<(↑4:Int))∧(0<4∧1=1)∧inR .i64 (g 0)∧List.length (Lib.itoa (g 0))+List.length ([(44:UInt8)])≤9223372036854775807∧(∀ (i:Nat),i<List.length L→true=true)∧(111=111∧5=5∧List.length L=List.length L∧strG L=strG (waj (List.length L) (strG L))∧List.length z2≤1099511627776)∧z4∧inR .i64 ((0:Int)+(1:Int))∧((0:Int)≤(0:Int)+(1:Int)∧(0:Int)+(1:Int)<(↑4:Int))∧(1<4∧1=1)∧inR .i64 (g 1)∧List.length (Lib.itoa (g 1))+List.length ([(44:UInt8)])≤9223372036854775807∧z4∧(111=111∧5=5∧List.length z2=List.length z2∧strG z2=strG (waj (List.length z2) (strG z2))∧List.length z0≤1099511627776)∧z5∧inR .i64 ((0:Int)+(1:Int)+(1:Int))∧((0:Int)≤(0:Int)+(1:Int)+(1:Int)∧(0:Int)+(1:Int)+(1:Int)<(↑4:Int))∧(2<4∧1=1)∧inR .i64 (g 2)∧List.length (Lib.itoa (g 2))+List.length ([(44:UInt8)])≤9223372036854775807∧z5∧(111=111∧5=5∧List.length z0=List.length z0∧strG z0=strG (waj (List.length z0) (strG z0))∧List.length z1≤1099511627776)∧z6∧inR .i64 ((0:Int)+(1:Int)+(1:Int)+(1:Int))∧((0:Int)≤(0:Int)+(1:Int)+(1:Int)+(1:Int)∧(0:Int)+(1:Int)+(1:Int)+(1:Int)<(↑4:Int))∧(3<4∧1=1)∧inR .i64 (g 3)∧List.length (Lib.itoa (g 3))+List.length ([(44:UInt8)])≤9223372036854775807∧z6∧(111=111∧5=5∧List.length z1=List.length z1∧strG z1=strG (waj (List.length z1) (strG z1))∧List.length z3≤1099511627776)∧z7∧inR .i64 ((0:Int)+(1:Int)+(1:Int)+(1:Int)+(1:Int))∧(∀ (i:Nat),i<4→true=true)∧z7∧∃ (O':List (Nat×AObj)),wac [(0,.cells [.ptr 0 0,.own (List.length [AObj.cells [.ptr 0 0,.own 2 (List.length L)] (111:TypeId),.row (2:TypeId) 1 4 (waf g) false,.row (5:TypeId) 1 (List.length L) (strG L) false]) (List.length z3)] 111),(1,.row 2 1 4 (waf g) false),(List.length [AObj.cells [.ptr 0 0,.own 2 (List.length L)] (111:TypeId),.row (2:TypeId) 1 4 (waf g) false,.row (5:TypeId) 1 (List.length L) (strG L) false],.row 5 1 (List.length z3) (strG z3) false)] O'∧R (.tuple []) O'):=by kernel_rfl
theorem nf_bstr (L:List UInt8) (R:AV→List (Nat×AObj)→Prop):wpFn te [] [] 0 Tryz.f85 [.ptr 0 0] [.cells [.ptr 0 0,.own 1 L.length] 111,.row 5 1 L.length (strG L) false] R=(letI z0:=(↑(List.length L):Int);0<List.length L∧((0:Int)<z0∧z0≤z0∧(∀ (i:Nat),i<Int.toNat z0→isU8 (strG L i)=true)∧∀ (i:Nat),i<Int.toNat z0→∀ (q:Int),strG L i=[.int .u8 q]→(0:Int)≤q∧q<(256:Int))∧R (.str (waj (Int.toNat z0) (strG L))) [(0,.cells [.ptr 0 0,.own 1 (List.length L)] 111)]):=by kernel_rfl
theorem wc1 (L:List UInt8):waj L.length (strG L)=L:=by
 apply List.ext_getElem?
 intro i
 unfold waj
 rw [List.getElem?_map]
 rcases Nat.lt_or_ge i L.length with h | h
 ·rw [List.getElem?_range h,Option.map_some,List.getElem?_eq_getElem h]
  simp [strG,was,h]
 ·rw [List.getElem?_eq_none (by simpa using h),List.getElem?_eq_none h];rfl
theorem wj6 (m:Nat) (f:Nat→List AV):(waj m f).length=m:=by simp [waj]
theorem wqc (L s:List UInt8) (i:Nat):apF L.length (strG L) (strG s) i=strG (L++s) i:=by
 unfold apF strG
 by_cases h:i<L.length
 ·rw [if_pos h];simp [List.getD,List.getElem?_append_left h]
 ·rw [if_neg h];simp [List.getD,List.getElem?_append_right (show L.length≤i by omega)]
theorem wil (s:List UInt8):Go.Lib.itoa (s.length:Int)++[58]++s++[44]=txtE s:=by simp [txtE]
theorem wi3 (n:Int):Go.Lib.itoa n++[44]=numE n:=rfl
theorem wdy (s:List UInt8):(txtE s).length=(Go.Lib.itoa (s.length:Int)).length+s.length+2:=by
 simp [txtE];omega
theorem wel (n:Int):(numE n).length=(Go.Lib.itoa n).length+1:=by simp [numE]
theorem wdh {n:Int} (h:inR .i64 n):(Go.Lib.itoa n).length≤20:=by
 simp only [inR] at h
 exact wyp n (by omega)
theorem web (hP:C.P=Tryz.prog):wad C 132 S_ws:=by
 rintro args objs U Os vc h hvc
 unfold S_ws at h
 split at h<;>simp only [Option.some.injEq,Prod.mk.injEq,reduceCtorEq] at h
 ·rename_i s t
  obtain ⟨rfl,rfl,rfl⟩:=h
  obtain ⟨rfl,hs⟩:=hvc
  refine wad.wp0 (prg hP) [(164,.det S_cc)] 0 (.cons (cc_ok hP) .nil) (hP ▸ Tryz.func132) rfl rfl rfl ?_
  rw [nf_ws0]
  refine ⟨rfl,⟨trivial,rfl,by omega,?_⟩,fun _ _=>rfl,_,wam _,rfl,rfl⟩
  show s.length * 1≤_
  omega
 ·rename_i s n t t8 m f
  obtain ⟨rfl,rfl,rfl⟩:=h
  obtain ⟨rfl,rfl,rfl,hf,hlen⟩:=hvc
  have hl:=wj6 n f
  generalize waj n f=L at *
  subst hf
  subst hl
  refine wad.wp0 (prg hP) [(164,.det S_cc)] 0 (.cons (cc_ok hP) .nil) (hP ▸ Tryz.func132) rfl rfl rfl ?_
  rw [nf_ws]
  have hlen:=hlen
  rw [List.length_append] at hlen
  refine ⟨fun _ _=>rfl,rfl,fun _ _=>rfl,⟨trivial,Nat.le_refl _,rfl,rfl,rfl,by omega,?_⟩,fun i _=>by rw [wqc];rfl,_,?_,rfl,rfl⟩
  ·show (L.length+s.length) * 1≤_
   omega
  ·rw [List.length_append]
   exact ⟨rfl,⟨rfl,rfl,rfl,rfl,rfl,fun i _=>wqc L s i⟩,trivial⟩
theorem tu1 (hP:C.P=Tryz.prog) (hL:∀ w,C.laid w→LaidW w) (L:List UInt8) (h:Nat→List AV) (hh:∀ i,i<1→h i=wax (stOf h) i) (hlen:(L++txF (stOf h) 1).length≤1099511627776):
  wag C 83 [.ptr 0 0,.own 1 1] [.cells [.ptr 0 0,.own 2 L.length] 111,.row 9 1 1 h false,.row 5 1 L.length (strG L) false]
   fun u O=>u= .tuple []∧O=[(0,.cells [.ptr 0 0,.own 3 (L++txF (stOf h) 1).length] 111),(1,.row 9 1 1 h false),(3,.row 5 1 (L++txF (stOf h) 1).length (strG (L++txF (stOf h) 1)) false)]:=by
 refine wag.rowEq 1 (f':=wax (stOf h)) rfl (fun i hi=>(hh i hi).symm) ?_
 refine wad.wp0 (prg hP) [(133,.det wdr),(132,.det S_ws)] 2 (.cons (wjj hP hL) (.cons (web hP) .nil)) (hP ▸ Tryz.func83) rfl rfl rfl ?_
 show wpFn _ _ _ _ _ [.ptr 0 0,.own 1 1] [.cells [.ptr 0 0,.own 2 L.length] 111,.row 9 1 1 (wax (stOf h)) false,.row 5 1 L.length (strG L) false] _
 rw [nf_txu1]
 have hh':∀ i,i<1→wax (stOf h) i=h i:=fun i hi=>(hh i hi).symm
 generalize stOf h=g at *
 have e:L++txF g 1=L++txtE (g 0):=by simp [txF]
 rw [e] at hlen ⊢
 simp only [wc1,wil]
 have hlen2:L.length+((Go.Lib.itoa ((g 0).length:Int)).length+(g 0).length+2)≤1099511627776:=by simpa only [List.length_append,wdy] using hlen
 repeat' first
  |exact trivial
  |(intro _ _;first | rfl | trivial)
  |exact rfl
  |omega
  |(simp only [inR];omega)
  |(simp only [inR,List.length_append,List.length_cons,List.length_nil,wdy];omega)
  |(refine ⟨_,?_,trivial,rfl⟩;exact ⟨rfl,⟨rfl,rfl,rfl,rfl,rfl,hh'⟩,⟨rfl,rfl,rfl,rfl,rfl,fun _ _=>rfl⟩,trivial⟩)
  |(refine And.intro ?_ ?_)
theorem tu2 (hP:C.P=Tryz.prog) (hL:∀ w,C.laid w→LaidW w) (L:List UInt8) (h:Nat→List AV) (hh:∀ i,i<2→h i=wax (stOf h) i) (hlen:(L++txF (stOf h) 2).length≤1099511627776):
  wag C 83 [.ptr 0 0,.own 1 2] [.cells [.ptr 0 0,.own 2 L.length] 111,.row 9 1 2 h false,.row 5 1 L.length (strG L) false]
   fun u O=>u= .tuple []∧O=[(0,.cells [.ptr 0 0,.own 3 (L++txF (stOf h) 2).length] 111),(1,.row 9 1 2 h false),(3,.row 5 1 (L++txF (stOf h) 2).length (strG (L++txF (stOf h) 2)) false)]:=by
 refine wag.rowEq 1 (f':=wax (stOf h)) rfl (fun i hi=>(hh i hi).symm) ?_
 refine wad.wp0 (prg hP) [(133,.det wdr),(132,.det S_ws)] 3 (.cons (wjj hP hL) (.cons (web hP) .nil)) (hP ▸ Tryz.func83) rfl rfl rfl ?_
 show wpFn _ _ _ _ _ [.ptr 0 0,.own 1 2] [.cells [.ptr 0 0,.own 2 L.length] 111,.row 9 1 2 (wax (stOf h)) false,.row 5 1 L.length (strG L) false] _
 rw [nf_txu2]
 have hh':∀ i,i<2→wax (stOf h) i=h i:=fun i hi=>(hh i hi).symm
 generalize stOf h=g at *
 have e:L++txF g 2=L++txtE (g 0)++txtE (g 1):=by simp [txF]
 rw [e] at hlen ⊢
 simp only [wc1,wil]
 have hlen2:L.length+((Go.Lib.itoa ((g 0).length:Int)).length+(g 0).length+2)+((Go.Lib.itoa ((g 1).length:Int)).length+(g 1).length+2)≤1099511627776:=by simpa only [List.length_append,wdy] using hlen
 repeat' first
  |exact trivial
  |(intro _ _;first | rfl | trivial)
  |exact rfl
  |omega
  |(simp only [inR];omega)
  |(simp only [inR,List.length_append,List.length_cons,List.length_nil,wdy];omega)
  |(refine ⟨_,?_,trivial,rfl⟩;exact ⟨rfl,⟨rfl,rfl,rfl,rfl,rfl,hh'⟩,⟨rfl,rfl,rfl,rfl,rfl,fun _ _=>rfl⟩,trivial⟩)
  |(refine And.intro ?_ ?_)
theorem tu3 (hP:C.P=Tryz.prog) (hL:∀ w,C.laid w→LaidW w) (L:List UInt8) (h:Nat→List AV) (hh:∀ i,i<3→h i=wax (stOf h) i) (hlen:(L++txF (stOf h) 3).length≤1099511627776):
  wag C 83 [.ptr 0 0,.own 1 3] [.cells [.ptr 0 0,.own 2 L.length] 111,.row 9 1 3 h false,.row 5 1 L.length (strG L) false]
   fun u O=>u= .tuple []∧O=[(0,.cells [.ptr 0 0,.own 3 (L++txF (stOf h) 3).length] 111),(1,.row 9 1 3 h false),(3,.row 5 1 (L++txF (stOf h) 3).length (strG (L++txF (stOf h) 3)) false)]:=by
 refine wag.rowEq 1 (f':=wax (stOf h)) rfl (fun i hi=>(hh i hi).symm) ?_
 refine wad.wp0 (prg hP) [(133,.det wdr),(132,.det S_ws)] 4 (.cons (wjj hP hL) (.cons (web hP) .nil)) (hP ▸ Tryz.func83) rfl rfl rfl ?_
 show wpFn _ _ _ _ _ [.ptr 0 0,.own 1 3] [.cells [.ptr 0 0,.own 2 L.length] 111,.row 9 1 3 (wax (stOf h)) false,.row 5 1 L.length (strG L) false] _
 rw [nf_txu3]
 have hh':∀ i,i<3→wax (stOf h) i=h i:=fun i hi=>(hh i hi).symm
 generalize stOf h=g at *
 have e:L++txF g 3=L++txtE (g 0)++txtE (g 1)++txtE (g 2):=by simp [txF]
 rw [e] at hlen ⊢
 simp only [wc1,wil]
 have hlen2:L.length+((Go.Lib.itoa ((g 0).length:Int)).length+(g 0).length+2)+((Go.Lib.itoa ((g 1).length:Int)).length+(g 1).length+2)+((Go.Lib.itoa ((g 2).length:Int)).length+(g 2).length+2)≤1099511627776:=by simpa only [List.length_append,wdy] using hlen
 repeat' first
  |exact trivial
  |(intro _ _;first | rfl | trivial)
  |exact rfl
  |omega
  |(simp only [inR];omega)
  |(simp only [inR,List.length_append,List.length_cons,List.length_nil,wdy];omega)
  |(refine ⟨_,?_,trivial,rfl⟩;exact ⟨rfl,⟨rfl,rfl,rfl,rfl,rfl,hh'⟩,⟨rfl,rfl,rfl,rfl,rfl,fun _ _=>rfl⟩,trivial⟩)
  |(refine And.intro ?_ ?_)
theorem nu1 (hP:C.P=Tryz.prog) (hL:∀ w,C.laid w→LaidW w) (L:List UInt8) (h:Nat→List AV) (hh:∀ i,i<1→h i=waf (vInt h) i) (hr:∀ i,i<1→inR .i64 (vInt h i)) (hlen:(L++nuF (vInt h) 1).length≤1099511627776):
  wag C 84 [.ptr 0 0,.own 1 1] [.cells [.ptr 0 0,.own 2 L.length] 111,.row 2 1 1 h false,.row 5 1 L.length (strG L) false]
   fun u O=>u= .tuple []∧O=[(0,.cells [.ptr 0 0,.own 3 (L++nuF (vInt h) 1).length] 111),(1,.row 2 1 1 h false),(3,.row 5 1 (L++nuF (vInt h) 1).length (strG (L++nuF (vInt h) 1)) false)]:=by
 refine wag.rowEq 1 (f':=waf (vInt h)) rfl (fun i hi=>(hh i hi).symm) ?_
 refine wad.wp0 (prg hP) [(134,.det wds),(132,.det S_ws)] 2 (.cons (wjp hP hL) (.cons (web hP) .nil)) (hP ▸ Tryz.func84) rfl rfl rfl ?_
 show wpFn _ _ _ _ _ [.ptr 0 0,.own 1 1] [.cells [.ptr 0 0,.own 2 L.length] 111,.row 2 1 1 (waf (vInt h)) false,.row 5 1 L.length (strG L) false] _
 rw [nf_nuu1]
 have hh':∀ i,i<1→waf (vInt h) i=h i:=fun i hi=>(hh i hi).symm
 generalize vInt h=g at *
 have r0:=hr 0 (by omega)
 have z0:=wdh r0
 have e:L++nuF g 1=L++numE (g 0):=by simp [nuF]
 rw [e] at hlen ⊢
 simp only [wc1,wi3]
 have hlen2:L.length+((Go.Lib.itoa (g 0)).length+1)≤1099511627776:=by simpa only [List.length_append,wel] using hlen
 repeat' first
  |exact trivial
  |(intro _ _;first | rfl | trivial)
  |exact rfl
  |omega
  |(simp only [inR];omega)
  |(simp only [inR,List.length_append,List.length_cons,List.length_nil,wel];omega)
  |(refine ⟨_,?_,trivial,rfl⟩;exact ⟨rfl,⟨rfl,rfl,rfl,rfl,rfl,hh'⟩,⟨rfl,rfl,rfl,rfl,rfl,fun _ _=>rfl⟩,trivial⟩)
  |(refine And.intro ?_ ?_)
theorem nu2 (hP:C.P=Tryz.prog) (hL:∀ w,C.laid w→LaidW w) (L:List UInt8) (h:Nat→List AV) (hh:∀ i,i<2→h i=waf (vInt h) i) (hr:∀ i,i<2→inR .i64 (vInt h i)) (hlen:(L++nuF (vInt h) 2).length≤1099511627776):
  wag C 84 [.ptr 0 0,.own 1 2] [.cells [.ptr 0 0,.own 2 L.length] 111,.row 2 1 2 h false,.row 5 1 L.length (strG L) false]
   fun u O=>u= .tuple []∧O=[(0,.cells [.ptr 0 0,.own 3 (L++nuF (vInt h) 2).length] 111),(1,.row 2 1 2 h false),(3,.row 5 1 (L++nuF (vInt h) 2).length (strG (L++nuF (vInt h) 2)) false)]:=by
 refine wag.rowEq 1 (f':=waf (vInt h)) rfl (fun i hi=>(hh i hi).symm) ?_
 refine wad.wp0 (prg hP) [(134,.det wds),(132,.det S_ws)] 3 (.cons (wjp hP hL) (.cons (web hP) .nil)) (hP ▸ Tryz.func84) rfl rfl rfl ?_
 show wpFn _ _ _ _ _ [.ptr 0 0,.own 1 2] [.cells [.ptr 0 0,.own 2 L.length] 111,.row 2 1 2 (waf (vInt h)) false,.row 5 1 L.length (strG L) false] _
 rw [nf_nuu2]
 have hh':∀ i,i<2→waf (vInt h) i=h i:=fun i hi=>(hh i hi).symm
 generalize vInt h=g at *
 have r0:=hr 0 (by omega)
 have z0:=wdh r0
 have r1:=hr 1 (by omega)
 have z1:=wdh r1
 have e:L++nuF g 2=L++numE (g 0)++numE (g 1):=by simp [nuF]
 rw [e] at hlen ⊢
 simp only [wc1,wi3]
 have hlen2:L.length+((Go.Lib.itoa (g 0)).length+1)+((Go.Lib.itoa (g 1)).length+1)≤1099511627776:=by simpa only [List.length_append,wel] using hlen
 repeat' first
  |exact trivial
  |(intro _ _;first | rfl | trivial)
  |exact rfl
  |omega
  |(simp only [inR];omega)
  |(simp only [inR,List.length_append,List.length_cons,List.length_nil,wel];omega)
  |(refine ⟨_,?_,trivial,rfl⟩;exact ⟨rfl,⟨rfl,rfl,rfl,rfl,rfl,hh'⟩,⟨rfl,rfl,rfl,rfl,rfl,fun _ _=>rfl⟩,trivial⟩)
  |(refine And.intro ?_ ?_)
theorem nu3 (hP:C.P=Tryz.prog) (hL:∀ w,C.laid w→LaidW w) (L:List UInt8) (h:Nat→List AV) (hh:∀ i,i<3→h i=waf (vInt h) i) (hr:∀ i,i<3→inR .i64 (vInt h i)) (hlen:(L++nuF (vInt h) 3).length≤1099511627776):
  wag C 84 [.ptr 0 0,.own 1 3] [.cells [.ptr 0 0,.own 2 L.length] 111,.row 2 1 3 h false,.row 5 1 L.length (strG L) false]
   fun u O=>u= .tuple []∧O=[(0,.cells [.ptr 0 0,.own 3 (L++nuF (vInt h) 3).length] 111),(1,.row 2 1 3 h false),(3,.row 5 1 (L++nuF (vInt h) 3).length (strG (L++nuF (vInt h) 3)) false)]:=by
 refine wag.rowEq 1 (f':=waf (vInt h)) rfl (fun i hi=>(hh i hi).symm) ?_
 refine wad.wp0 (prg hP) [(134,.det wds),(132,.det S_ws)] 4 (.cons (wjp hP hL) (.cons (web hP) .nil)) (hP ▸ Tryz.func84) rfl rfl rfl ?_
 show wpFn _ _ _ _ _ [.ptr 0 0,.own 1 3] [.cells [.ptr 0 0,.own 2 L.length] 111,.row 2 1 3 (waf (vInt h)) false,.row 5 1 L.length (strG L) false] _
 rw [nf_nuu3]
 have hh':∀ i,i<3→waf (vInt h) i=h i:=fun i hi=>(hh i hi).symm
 generalize vInt h=g at *
 have r0:=hr 0 (by omega)
 have z0:=wdh r0
 have r1:=hr 1 (by omega)
 have z1:=wdh r1
 have r2:=hr 2 (by omega)
 have z2:=wdh r2
 have e:L++nuF g 3=L++numE (g 0)++numE (g 1)++numE (g 2):=by simp [nuF]
 rw [e] at hlen ⊢
 simp only [wc1,wi3]
 have hlen2:L.length+((Go.Lib.itoa (g 0)).length+1)+((Go.Lib.itoa (g 1)).length+1)+((Go.Lib.itoa (g 2)).length+1)≤1099511627776:=by simpa only [List.length_append,wel] using hlen
 repeat' first
  |exact trivial
  |(intro _ _;first | rfl | trivial)
  |exact rfl
  |omega
  |(simp only [inR];omega)
  |(simp only [inR,List.length_append,List.length_cons,List.length_nil,wel];omega)
  |(refine ⟨_,?_,trivial,rfl⟩;exact ⟨rfl,⟨rfl,rfl,rfl,rfl,rfl,hh'⟩,⟨rfl,rfl,rfl,rfl,rfl,fun _ _=>rfl⟩,trivial⟩)
  |(refine And.intro ?_ ?_)
theorem nu4 (hP:C.P=Tryz.prog) (hL:∀ w,C.laid w→LaidW w) (L:List UInt8) (h:Nat→List AV) (hh:∀ i,i<4→h i=waf (vInt h) i) (hr:∀ i,i<4→inR .i64 (vInt h i)) (hlen:(L++nuF (vInt h) 4).length≤1099511627776):
  wag C 84 [.ptr 0 0,.own 1 4] [.cells [.ptr 0 0,.own 2 L.length] 111,.row 2 1 4 h false,.row 5 1 L.length (strG L) false]
   fun u O=>u= .tuple []∧O=[(0,.cells [.ptr 0 0,.own 3 (L++nuF (vInt h) 4).length] 111),(1,.row 2 1 4 h false),(3,.row 5 1 (L++nuF (vInt h) 4).length (strG (L++nuF (vInt h) 4)) false)]:=by
 refine wag.rowEq 1 (f':=waf (vInt h)) rfl (fun i hi=>(hh i hi).symm) ?_
 refine wad.wp0 (prg hP) [(134,.det wds),(132,.det S_ws)] 5 (.cons (wjp hP hL) (.cons (web hP) .nil)) (hP ▸ Tryz.func84) rfl rfl rfl ?_
 show wpFn _ _ _ _ _ [.ptr 0 0,.own 1 4] [.cells [.ptr 0 0,.own 2 L.length] 111,.row 2 1 4 (waf (vInt h)) false,.row 5 1 L.length (strG L) false] _
 rw [nf_nuu4]
 have hh':∀ i,i<4→waf (vInt h) i=h i:=fun i hi=>(hh i hi).symm
 generalize vInt h=g at *
 have r0:=hr 0 (by omega)
 have z0:=wdh r0
 have r1:=hr 1 (by omega)
 have z1:=wdh r1
 have r2:=hr 2 (by omega)
 have z2:=wdh r2
 have r3:=hr 3 (by omega)
 have z3:=wdh r3
 have e:L++nuF g 4=L++numE (g 0)++numE (g 1)++numE (g 2)++numE (g 3):=by simp [nuF]
 rw [e] at hlen ⊢
 simp only [wc1,wi3]
 have hlen2:L.length+((Go.Lib.itoa (g 0)).length+1)+((Go.Lib.itoa (g 1)).length+1)+((Go.Lib.itoa (g 2)).length+1)+((Go.Lib.itoa (g 3)).length+1)≤1099511627776:=by simpa only [List.length_append,wel] using hlen
 repeat' first
  |exact trivial
  |(intro _ _;first | rfl | trivial)
  |exact rfl
  |omega
  |(simp only [inR];omega)
  |(simp only [inR,List.length_append,List.length_cons,List.length_nil,wel];omega)
  |(refine ⟨_,?_,trivial,rfl⟩;exact ⟨rfl,⟨rfl,rfl,rfl,rfl,rfl,hh'⟩,⟨rfl,rfl,rfl,rfl,rfl,fun _ _=>rfl⟩,trivial⟩)
  |(refine And.intro ?_ ?_)
theorem wp7 (hP:C.P=Tryz.prog) (hL:∀ w,C.laid w→LaidW w):wad C 83 S_text:=by
 rintro args objs U Os vc h hvc
 unfold S_text at h
 split at h<;>simp only [Option.some.injEq,Prod.mk.injEq,reduceCtorEq] at h
 ·rename_i n t ts n' h'
  obtain ⟨rfl,rfl,rfl⟩:=h
  obtain ⟨rfl,rfl,rfl,rfl,hh,hlen⟩:=hvc
  have hh0:∀ i,i<1→h' i=wax (stOf h') i:=fun i hi=>by
   match i,hi with
   |0,_=>exact hh
  refine wag.rowEq 1 (f':=wax (stOf h')) rfl (fun i hi=>(hh0 i hi).symm) ?_
  refine wad.wp0 (prg hP) [(133,.det wdr),(132,.det S_ws)] 2 (.cons (wjj hP hL) (.cons (web hP) .nil)) (hP ▸ Tryz.func83) rfl rfl rfl ?_
  show wpFn _ _ _ _ _ [.ptr 0 0,.own 1 1] [.cells [.nilptr,.nil] 111,.row 9 1 1 (wax (stOf h')) false] _
  rw [nf_tx1]
  have hh':∀ i,i<1→wax (stOf h') i=h' i:=fun i hi=>(hh0 i hi).symm
  generalize stOf h'=g at *
  have e:txF g 1=txtE (g 0):=by simp [txF]
  rw [e] at hlen ⊢
  simp only [wil]
  have hlen2:=hlen
  rw [wdy] at hlen2
  repeat' first
   |exact trivial
   |(intro _ _;first | rfl | trivial)
   |exact rfl
   |omega
   |(simp only [inR];omega)
   |(simp only [inR,List.length_append,List.length_cons,List.length_nil,wdy];omega)
   |(refine ⟨_,?_,trivial,rfl⟩;exact ⟨rfl,⟨rfl,rfl,rfl,rfl,rfl,hh'⟩,⟨rfl,rfl,rfl,rfl,rfl,fun _ _=>rfl⟩,trivial⟩)
   |(refine And.intro ?_ ?_)
 ·rename_i n c t ts n' h' t8 m f
  obtain ⟨rfl,rfl,rfl⟩:=h
  obtain ⟨rfl,rfl,rfl,rfl,rfl,hn,hf,hh,hlen⟩:=hvc
  have hl:=wj6 c f
  generalize waj c f=L at *
  subst hf
  subst hl
  have h3:n=1∨n=2∨n=3:=by omega
  rcases h3 with rfl | rfl | rfl
  ·exact tu1 hP hL L h' hh hlen
  ·exact tu2 hP hL L h' hh hlen
  ·exact tu3 hP hL L h' hh hlen
theorem wvz (hP:C.P=Tryz.prog) (hL:∀ w,C.laid w→LaidW w):wad C 84 wuf:=by
 rintro args objs U Os vc h hvc
 unfold wuf at h
 split at h<;>simp only [Option.some.injEq,Prod.mk.injEq,reduceCtorEq] at h
 rename_i n c t ts n' h' t8 m f
 obtain ⟨rfl,rfl,rfl⟩:=h
 obtain ⟨rfl,rfl,rfl,rfl,rfl,hn,hf,hh,hr,hlen⟩:=hvc
 have hl:=wj6 c f
 generalize waj c f=L at *
 subst hf
 subst hl
 have h3:n=1∨n=2∨n=3∨n=4:=by omega
 rcases h3 with rfl | rfl | rfl | rfl
 ·exact nu1 hP hL L h' hh hr hlen
 ·exact nu2 hP hL L h' hh hr hlen
 ·exact nu3 hP hL L h' hh hr hlen
 ·exact nu4 hP hL L h' hh hr hlen
theorem bstr_ok (hP:C.P=Tryz.prog):wad C 85 wl2:=by
 have _:C.Loose:=inferInstance
 rintro args objs U Os vc h hvc
 unfold wl2 at h
 split at h<;>simp only [Option.some.injEq,Prod.mk.injEq,reduceCtorEq] at h
 rename_i n t t8 m f
 obtain ⟨rfl,rfl,rfl⟩:=h
 obtain ⟨rfl,rfl,rfl,hf,h0,hlen⟩:=hvc
 have hl:=wj6 n f
 generalize hL:waj n f=L at *
 subst hf
 subst hl
 refine wad.wp0 (prg hP) [] 0 .nil (hP ▸ Tryz.func85) rfl rfl rfl ?_
 rw [nf_bstr,Int.toNat_natCast,wc1]
 refine ⟨h0,⟨by omega,Int.le_refl _,fun i _=>rfl,fun i hi q hq=>?_⟩,rfl,rfl⟩
 have hq:[AV.int .u8 ((L.getD i 0).toNat:Int)]=[.int .u8 q]:=hq
 injection hq with hq
 injection hq with _ hq
 have:=(L.getD i 0).toNat_lt
 omega
theorem wcm (hP:C.P=Tryz.prog) (hL:∀ w,C.laid w→LaidW w):wbs C 83 wbd:=by
 rintro args objs R h
 unfold wbd at h
 split at h
 ·rename_i n t ts n' h'
  obtain ⟨⟨rfl,rfl,rfl,rfl⟩,hh,hlen,hR⟩:=h
  refine wag.mono (wp7 hP hL _ _ _ _ _ rfl ⟨rfl,rfl,rfl,rfl,hh,hlen⟩) ?_
  rintro u O ⟨rfl,rfl⟩
  exact hR _ rfl
 ·rename_i n c t ts n' h' t8 m f
  obtain ⟨⟨rfl,rfl,rfl,rfl,rfl,hn⟩,L,⟨hm,hf⟩,hh,hlen,hR⟩:=h
  subst hm
  subst hf
  have e:=wc1 L
  refine wag.mono (wp7 hP hL _ _ _ _ _ rfl ⟨rfl,rfl,rfl,rfl,rfl,hn,by rw [e],hh,by rw [e];exact hlen⟩) ?_
  rintro u O ⟨rfl,rfl⟩
  rw [e]
  exact hR _ rfl
 ·exact h.elim
theorem wcn (hP:C.P=Tryz.prog) (hL:∀ w,C.laid w→LaidW w):wbs C 84 wbe:=by
 rintro args objs R h
 unfold wbe at h
 split at h
 ·rename_i n c t ts n' h' t8 m f
  obtain ⟨⟨rfl,rfl,rfl,rfl,rfl,hn⟩,L,⟨hm,hf⟩,hh,hr,hlen,hR⟩:=h
  subst hm
  subst hf
  have e:=wc1 L
  refine wag.mono (wvz hP hL _ _ _ _ _ rfl ⟨rfl,rfl,rfl,rfl,rfl,hn,by rw [e],hh,hr,by rw [e];exact hlen⟩) ?_
  rintro u O ⟨rfl,rfl⟩
  rw [e]
  exact hR _ rfl
 ·exact h.elim
end Go.Eng
