/- Texts and numbers, as Encode writes them. -/
import Derived.Test.YtgcboligphndhaaGreatDoorYu
import Derived.Test.YtgcboligphndhaaGreatDoorYv
import Derived.Test.YtgcboligphndhaaGreatDoorYx
namespace Go.Eng
open Go.Proofs Go.RowKit
variable {C:Ctx} [C.Loose]
set_option maxRecDepth 20000
theorem nf_ws0 (s:List UInt8) (R:AV→List (Nat×AObj)→Prop):wpFn te [(164,.det S_cc)] [] 0 Tryz.f132 [.ptr 0 0,.str s] [.cells [.nilptr,.nil] 111] R=(111=111∧(True∧1=1∧List.length s≤9223372036854775807∧List.length s * TI.bytes (TI.mk (TypeDesc.int IntKind.u8) 1 1 (Value.int IntKind.u8 0) false)≤140737488355328)∧(∀ (i:Nat),i<List.length s→true=true)∧∃ (O':List (Nat×AObj)),wae [(0,.cells [.ptr 0 0,.own 1 (List.length s)] 111),(1,.row 5 1 (List.length s) (strG s) false)] O'∧R (.tuple [.int .i64 (↑(List.length s):Int),.nilIface]) O'):=by kernel_rfl
theorem nf_ws (L s:List UInt8) (R:AV→List (Nat×AObj)→Prop):wpFn te [(164,.det S_cc)] [] 0 Tryz.f132 [.ptr 0 0,.str s] [.cells [.ptr 0 0,.own 1 L.length] 111,.row 5 1 L.length (strG L) false] R=(letI z1:=(∀ (i:Nat),i<List.length L→true=true:Prop);letI z0:=List.length L+List.length s;z1∧111=111∧z1∧(True∧List.length L≤List.length L∧1=1∧5=5∧1=1∧List.length L+List.length s≤9223372036854775807∧z0 * TI.bytes (TI.mk (TypeDesc.int IntKind.u8) 1 1 (Value.int IntKind.u8 0) false)≤140737488355328)∧(∀ (i:Nat),i<List.length L+List.length s→nrefL (apF (List.length L) (strG L) (strG s) i)=true)∧∃ (O':List (Nat×AObj)),wae [(0,.cells [.ptr 0 0,.own (List.length [AObj.cells [.ptr 0 0,.own 1 (List.length L)] (111:TypeId),.row (5:TypeId) 1 (List.length L) (strG L) false]) z0] 111),(List.length [AObj.cells [.ptr 0 0,.own 1 (List.length L)] (111:TypeId),.row (5:TypeId) 1 (List.length L) (strG L) false],.row 5 1 z0 (apF (List.length L) (strG L) (strG s)) false)] O'∧R (.tuple [.int .i64 (↑(List.length s):Int),.nilIface]) O'):=by kernel_rfl
theorem nf_tx1 (h:Nat→List UInt8) (R:AV→List (Nat×AObj)→Prop):wpFn te [(133,.det wco),(132,.det S_ws)] [] 2 Tryz.f83 [.ptr 0 0,.own 1 1] [.cells [.nilptr,.nil] 111,.row 9 1 1 (wax h) false] R=(letI z1:=(↑(List.length (h 0)):Int);letI z0:=(Lib.itoa z1++[(58:UInt8)]++h 0++[(44:UInt8)]);letI z2:=(∀ (i:Nat),i<List.length z0→true=true:Prop);((0:Int)≤(0:Int)∧(0:Int)<(↑1:Int))∧(0<1∧1=1)∧inR .i64 z1∧List.length (Lib.itoa z1)+List.length ([(58:UInt8)])≤9223372036854775807∧List.length (Lib.itoa z1++[(58:UInt8)])+List.length (h 0)≤9223372036854775807∧List.length (Lib.itoa z1++[(58:UInt8)]++h 0)+List.length ([(44:UInt8)])≤9223372036854775807∧(111=111∧List.length z0≤1099511627776)∧z2∧inR .i64 ((0:Int)+(1:Int))∧(∀ (i:Nat),i<1→true=true)∧z2∧∃ (O':List (Nat×AObj)),wae [(0,.cells [.ptr 0 0,.own (List.length [AObj.cells [.nilptr,.nil] (111:TypeId),.row (9:TypeId) 1 1 (wax h) false]) (List.length z0)] 111),(1,.row 9 1 1 (wax h) false),(List.length [AObj.cells [.nilptr,.nil] (111:TypeId),.row (9:TypeId) 1 1 (wax h) false],.row 5 1 (List.length z0) (strG z0) false)] O'∧R (.tuple []) O'):=by kernel_rfl
theorem nf_txu1 (L:List UInt8) (g:Nat→List UInt8) (R:AV→List (Nat×AObj)→Prop):wpFn te [(133,.det wco),(132,.det S_ws)] [] 2 Tryz.f83 [.ptr 0 0,.own 1 1] [.cells [.ptr 0 0,.own 2 L.length] 111,.row 9 1 1 (wax g) false,.row 5 1 L.length (strG L) false] R=(letI z1:=(↑(List.length (g 0)):Int);letI z0:=(wao (List.length L) (strG L)++(Lib.itoa z1++[(58:UInt8)]++g 0++[(44:UInt8)]));letI z2:=(∀ (i:Nat),i<List.length z0→true=true:Prop);((0:Int)≤(0:Int)∧(0:Int)<(↑1:Int))∧(0<1∧1=1)∧inR .i64 z1∧List.length (Lib.itoa z1)+List.length ([(58:UInt8)])≤9223372036854775807∧List.length (Lib.itoa z1++[(58:UInt8)])+List.length (g 0)≤9223372036854775807∧List.length (Lib.itoa z1++[(58:UInt8)]++g 0)+List.length ([(44:UInt8)])≤9223372036854775807∧(∀ (i:Nat),i<List.length L→true=true)∧(111=111∧5=5∧List.length L=List.length L∧strG L=strG (wao (List.length L) (strG L))∧List.length z0≤1099511627776)∧z2∧inR .i64 ((0:Int)+(1:Int))∧(∀ (i:Nat),i<1→true=true)∧z2∧∃ (O':List (Nat×AObj)),wae [(0,.cells [.ptr 0 0,.own (List.length [AObj.cells [.ptr 0 0,.own 2 (List.length L)] (111:TypeId),.row (9:TypeId) 1 1 (wax g) false,.row (5:TypeId) 1 (List.length L) (strG L) false]) (List.length z0)] 111),(1,.row 9 1 1 (wax g) false),(List.length [AObj.cells [.ptr 0 0,.own 2 (List.length L)] (111:TypeId),.row (9:TypeId) 1 1 (wax g) false,.row (5:TypeId) 1 (List.length L) (strG L) false],.row 5 1 (List.length z0) (strG z0) false)] O'∧R (.tuple []) O'):=by kernel_rfl
theorem nf_txu2 (L:List UInt8) (g:Nat→List UInt8) (R:AV→List (Nat×AObj)→Prop):wpFn te [(133,.det wco),(132,.det S_ws)] [] 3 Tryz.f83 [.ptr 0 0,.own 1 2] [.cells [.ptr 0 0,.own 2 L.length] 111,.row 9 1 2 (wax g) false,.row 5 1 L.length (strG L) false] R=(letI z3:=(↑(List.length (g 1)):Int);letI z2:=(↑(List.length (g 0)):Int);letI z0:=(wao (List.length L) (strG L)++(Lib.itoa z2++[(58:UInt8)]++g 0++[(44:UInt8)]));letI z4:=(∀ (i:Nat),i<List.length z0→true=true:Prop);letI z1:=(wao (List.length z0) (strG z0)++(Lib.itoa z3++[(58:UInt8)]++g 1++[(44:UInt8)]));letI z5:=(∀ (i:Nat),i<List.length z1→true=true:Prop);((0:Int)≤(0:Int)∧(0:Int)<(↑2:Int))∧(0<2∧1=1)∧inR .i64 z2∧List.length (Lib.itoa z2)+List.length ([(58:UInt8)])≤9223372036854775807∧List.length (Lib.itoa z2++[(58:UInt8)])+List.length (g 0)≤9223372036854775807∧List.length (Lib.itoa z2++[(58:UInt8)]++g 0)+List.length ([(44:UInt8)])≤9223372036854775807∧(∀ (i:Nat),i<List.length L→true=true)∧(111=111∧5=5∧List.length L=List.length L∧strG L=strG (wao (List.length L) (strG L))∧List.length z0≤1099511627776)∧z4∧inR .i64 ((0:Int)+(1:Int))∧((0:Int)≤(0:Int)+(1:Int)∧(0:Int)+(1:Int)<(↑2:Int))∧(1<2∧1=1)∧inR .i64 z3∧List.length (Lib.itoa z3)+List.length ([(58:UInt8)])≤9223372036854775807∧List.length (Lib.itoa z3++[(58:UInt8)])+List.length (g 1)≤9223372036854775807∧List.length (Lib.itoa z3++[(58:UInt8)]++g 1)+List.length ([(44:UInt8)])≤9223372036854775807∧z4∧(111=111∧5=5∧List.length z0=List.length z0∧strG z0=strG (wao (List.length z0) (strG z0))∧List.length z1≤1099511627776)∧z5∧inR .i64 ((0:Int)+(1:Int)+(1:Int))∧(∀ (i:Nat),i<2→true=true)∧z5∧∃ (O':List (Nat×AObj)),wae [(0,.cells [.ptr 0 0,.own (List.length [AObj.cells [.ptr 0 0,.own 2 (List.length L)] (111:TypeId),.row (9:TypeId) 1 2 (wax g) false,.row (5:TypeId) 1 (List.length L) (strG L) false]) (List.length z1)] 111),(1,.row 9 1 2 (wax g) false),(List.length [AObj.cells [.ptr 0 0,.own 2 (List.length L)] (111:TypeId),.row (9:TypeId) 1 2 (wax g) false,.row (5:TypeId) 1 (List.length L) (strG L) false],.row 5 1 (List.length z1) (strG z1) false)] O'∧R (.tuple []) O'):=by kernel_rfl
theorem nf_txu3 (L:List UInt8) (g:Nat→List UInt8) (R:AV→List (Nat×AObj)→Prop):wpFn te [(133,.det wco),(132,.det S_ws)] [] 4 Tryz.f83 [.ptr 0 0,.own 1 3] [.cells [.ptr 0 0,.own 2 L.length] 111,.row 9 1 3 (wax g) false,.row 5 1 L.length (strG L) false] R=(letI z5:=(↑(List.length (g 2)):Int);letI z4:=(↑(List.length (g 1)):Int);letI z3:=(↑(List.length (g 0)):Int);letI z1:=(wao (List.length L) (strG L)++(Lib.itoa z3++[(58:UInt8)]++g 0++[(44:UInt8)]));letI z6:=(∀ (i:Nat),i<List.length z1→true=true:Prop);letI z0:=(wao (List.length z1) (strG z1)++(Lib.itoa z4++[(58:UInt8)]++g 1++[(44:UInt8)]));letI z7:=(∀ (i:Nat),i<List.length z0→true=true:Prop);letI z2:=(wao (List.length z0) (strG z0)++(Lib.itoa z5++[(58:UInt8)]++g 2++[(44:UInt8)]));letI z8:=(∀ (i:Nat),i<List.length z2→true=true:Prop);((0:Int)≤(0:Int)∧(0:Int)<(↑3:Int))∧(0<3∧1=1)∧inR .i64 z3∧List.length (Lib.itoa z3)+List.length ([(58:UInt8)])≤9223372036854775807∧List.length (Lib.itoa z3++[(58:UInt8)])+List.length (g 0)≤9223372036854775807∧List.length (Lib.itoa z3++[(58:UInt8)]++g 0)+List.length ([(44:UInt8)])≤9223372036854775807∧(∀ (i:Nat),i<List.length L→true=true)∧(111=111∧5=5∧List.length L=List.length L∧strG L=strG (wao (List.length L) (strG L))∧List.length z1≤1099511627776)∧z6∧inR .i64 ((0:Int)+(1:Int))∧((0:Int)≤(0:Int)+(1:Int)∧(0:Int)+(1:Int)<(↑3:Int))∧(1<3∧1=1)∧inR .i64 z4∧List.length (Lib.itoa z4)+List.length ([(58:UInt8)])≤9223372036854775807∧List.length (Lib.itoa z4++[(58:UInt8)])+List.length (g 1)≤9223372036854775807∧List.length (Lib.itoa z4++[(58:UInt8)]++g 1)+List.length ([(44:UInt8)])≤9223372036854775807∧z6∧(111=111∧5=5∧List.length z1=List.length z1∧strG z1=strG (wao (List.length z1) (strG z1))∧List.length z0≤1099511627776)∧z7∧inR .i64 ((0:Int)+(1:Int)+(1:Int))∧((0:Int)≤(0:Int)+(1:Int)+(1:Int)∧(0:Int)+(1:Int)+(1:Int)<(↑3:Int))∧(2<3∧1=1)∧inR .i64 z5∧List.length (Lib.itoa z5)+List.length ([(58:UInt8)])≤9223372036854775807∧List.length (Lib.itoa z5++[(58:UInt8)])+List.length (g 2)≤9223372036854775807∧List.length (Lib.itoa z5++[(58:UInt8)]++g 2)+List.length ([(44:UInt8)])≤9223372036854775807∧z7∧(111=111∧5=5∧List.length z0=List.length z0∧strG z0=strG (wao (List.length z0) (strG z0))∧List.length z2≤1099511627776)∧z8∧inR .i64 ((0:Int)+(1:Int)+(1:Int)+(1:Int))∧(∀ (i:Nat),i<3→true=true)∧z8∧∃ (O':List (Nat×AObj)),wae [(0,.cells [.ptr 0 0,.own (List.length [AObj.cells [.ptr 0 0,.own 2 (List.length L)] (111:TypeId),.row (9:TypeId) 1 3 (wax g) false,.row (5:TypeId) 1 (List.length L) (strG L) false]) (List.length z2)] 111),(1,.row 9 1 3 (wax g) false),(List.length [AObj.cells [.ptr 0 0,.own 2 (List.length L)] (111:TypeId),.row (9:TypeId) 1 3 (wax g) false,.row (5:TypeId) 1 (List.length L) (strG L) false],.row 5 1 (List.length z2) (strG z2) false)] O'∧R (.tuple []) O'):=by kernel_rfl
theorem nf_nuu1 (L:List UInt8) (g:Nat→Int) (R:AV→List (Nat×AObj)→Prop):wpFn te [(134,.det wed),(132,.det S_ws)] [] 2 Tryz.f84 [.ptr 0 0,.own 1 1] [.cells [.ptr 0 0,.own 2 L.length] 111,.row 2 1 1 (waa g) false,.row 5 1 L.length (strG L) false] R=(letI z0:=(wao (List.length L) (strG L)++(Lib.itoa (g 0)++[(44:UInt8)]));letI z1:=(∀ (i:Nat),i<List.length z0→true=true:Prop);((0:Int)≤(0:Int)∧(0:Int)<(↑1:Int))∧(0<1∧1=1)∧inR .i64 (g 0)∧List.length (Lib.itoa (g 0))+List.length ([(44:UInt8)])≤9223372036854775807∧(∀ (i:Nat),i<List.length L→true=true)∧(111=111∧5=5∧List.length L=List.length L∧strG L=strG (wao (List.length L) (strG L))∧List.length z0≤1099511627776)∧z1∧inR .i64 ((0:Int)+(1:Int))∧(∀ (i:Nat),i<1→true=true)∧z1∧∃ (O':List (Nat×AObj)),wae [(0,.cells [.ptr 0 0,.own (List.length [AObj.cells [.ptr 0 0,.own 2 (List.length L)] (111:TypeId),.row (2:TypeId) 1 1 (waa g) false,.row (5:TypeId) 1 (List.length L) (strG L) false]) (List.length z0)] 111),(1,.row 2 1 1 (waa g) false),(List.length [AObj.cells [.ptr 0 0,.own 2 (List.length L)] (111:TypeId),.row (2:TypeId) 1 1 (waa g) false,.row (5:TypeId) 1 (List.length L) (strG L) false],.row 5 1 (List.length z0) (strG z0) false)] O'∧R (.tuple []) O'):=by kernel_rfl
theorem nf_nuu2 (L:List UInt8) (g:Nat→Int) (R:AV→List (Nat×AObj)→Prop):wpFn te [(134,.det wed),(132,.det S_ws)] [] 3 Tryz.f84 [.ptr 0 0,.own 1 2] [.cells [.ptr 0 0,.own 2 L.length] 111,.row 2 1 2 (waa g) false,.row 5 1 L.length (strG L) false] R=(letI z0:=(wao (List.length L) (strG L)++(Lib.itoa (g 0)++[(44:UInt8)]));letI z2:=(∀ (i:Nat),i<List.length z0→true=true:Prop);letI z1:=(wao (List.length z0) (strG z0)++(Lib.itoa (g 1)++[(44:UInt8)]));letI z3:=(∀ (i:Nat),i<List.length z1→true=true:Prop);((0:Int)≤(0:Int)∧(0:Int)<(↑2:Int))∧(0<2∧1=1)∧inR .i64 (g 0)∧List.length (Lib.itoa (g 0))+List.length ([(44:UInt8)])≤9223372036854775807∧(∀ (i:Nat),i<List.length L→true=true)∧(111=111∧5=5∧List.length L=List.length L∧strG L=strG (wao (List.length L) (strG L))∧List.length z0≤1099511627776)∧z2∧inR .i64 ((0:Int)+(1:Int))∧((0:Int)≤(0:Int)+(1:Int)∧(0:Int)+(1:Int)<(↑2:Int))∧(1<2∧1=1)∧inR .i64 (g 1)∧List.length (Lib.itoa (g 1))+List.length ([(44:UInt8)])≤9223372036854775807∧z2∧(111=111∧5=5∧List.length z0=List.length z0∧strG z0=strG (wao (List.length z0) (strG z0))∧List.length z1≤1099511627776)∧z3∧inR .i64 ((0:Int)+(1:Int)+(1:Int))∧(∀ (i:Nat),i<2→true=true)∧z3∧∃ (O':List (Nat×AObj)),wae [(0,.cells [.ptr 0 0,.own (List.length [AObj.cells [.ptr 0 0,.own 2 (List.length L)] (111:TypeId),.row (2:TypeId) 1 2 (waa g) false,.row (5:TypeId) 1 (List.length L) (strG L) false]) (List.length z1)] 111),(1,.row 2 1 2 (waa g) false),(List.length [AObj.cells [.ptr 0 0,.own 2 (List.length L)] (111:TypeId),.row (2:TypeId) 1 2 (waa g) false,.row (5:TypeId) 1 (List.length L) (strG L) false],.row 5 1 (List.length z1) (strG z1) false)] O'∧R (.tuple []) O'):=by kernel_rfl
theorem nf_nuu3 (L:List UInt8) (g:Nat→Int) (R:AV→List (Nat×AObj)→Prop):wpFn te [(134,.det wed),(132,.det S_ws)] [] 4 Tryz.f84 [.ptr 0 0,.own 1 3] [.cells [.ptr 0 0,.own 2 L.length] 111,.row 2 1 3 (waa g) false,.row 5 1 L.length (strG L) false] R=(letI z1:=(wao (List.length L) (strG L)++(Lib.itoa (g 0)++[(44:UInt8)]));letI z3:=(∀ (i:Nat),i<List.length z1→true=true:Prop);letI z0:=(wao (List.length z1) (strG z1)++(Lib.itoa (g 1)++[(44:UInt8)]));letI z4:=(∀ (i:Nat),i<List.length z0→true=true:Prop);letI z2:=(wao (List.length z0) (strG z0)++(Lib.itoa (g 2)++[(44:UInt8)]));letI z5:=(∀ (i:Nat),i<List.length z2→true=true:Prop);((0:Int)≤(0:Int)∧(0:Int)<(↑3:Int))∧(0<3∧1=1)∧inR .i64 (g 0)∧List.length (Lib.itoa (g 0))+List.length ([(44:UInt8)])≤9223372036854775807∧(∀ (i:Nat),i<List.length L→true=true)∧(111=111∧5=5∧List.length L=List.length L∧strG L=strG (wao (List.length L) (strG L))∧List.length z1≤1099511627776)∧z3∧inR .i64 ((0:Int)+(1:Int))∧((0:Int)≤(0:Int)+(1:Int)∧(0:Int)+(1:Int)<(↑3:Int))∧(1<3∧1=1)∧inR .i64 (g 1)∧List.length (Lib.itoa (g 1))+List.length ([(44:UInt8)])≤9223372036854775807∧z3∧(111=111∧5=5∧List.length z1=List.length z1∧strG z1=strG (wao (List.length z1) (strG z1))∧List.length z0≤1099511627776)∧z4∧inR .i64 ((0:Int)+(1:Int)+(1:Int))∧((0:Int)≤(0:Int)+(1:Int)+(1:Int)∧(0:Int)+(1:Int)+(1:Int)<(↑3:Int))∧(2<3∧1=1)∧inR .i64 (g 2)∧List.length (Lib.itoa (g 2))+List.length ([(44:UInt8)])≤9223372036854775807∧z4∧(111=111∧5=5∧List.length z0=List.length z0∧strG z0=strG (wao (List.length z0) (strG z0))∧List.length z2≤1099511627776)∧z5∧inR .i64 ((0:Int)+(1:Int)+(1:Int)+(1:Int))∧(∀ (i:Nat),i<3→true=true)∧z5∧∃ (O':List (Nat×AObj)),wae [(0,.cells [.ptr 0 0,.own (List.length [AObj.cells [.ptr 0 0,.own 2 (List.length L)] (111:TypeId),.row (2:TypeId) 1 3 (waa g) false,.row (5:TypeId) 1 (List.length L) (strG L) false]) (List.length z2)] 111),(1,.row 2 1 3 (waa g) false),(List.length [AObj.cells [.ptr 0 0,.own 2 (List.length L)] (111:TypeId),.row (2:TypeId) 1 3 (waa g) false,.row (5:TypeId) 1 (List.length L) (strG L) false],.row 5 1 (List.length z2) (strG z2) false)] O'∧R (.tuple []) O'):=by kernel_rfl
theorem nf_nuu4 (L:List UInt8) (g:Nat→Int) (R:AV→List (Nat×AObj)→Prop):wpFn te [(134,.det wed),(132,.det S_ws)] [] 5 Tryz.f84 [.ptr 0 0,.own 1 4] [.cells [.ptr 0 0,.own 2 L.length] 111,.row 2 1 4 (waa g) false,.row 5 1 L.length (strG L) false] R=(letI z2:=(wao (List.length L) (strG L)++(Lib.itoa (g 0)++[(44:UInt8)]));letI z4:=(∀ (i:Nat),i<List.length z2→true=true:Prop);letI z0:=(wao (List.length z2) (strG z2)++(Lib.itoa (g 1)++[(44:UInt8)]));letI z5:=(∀ (i:Nat),i<List.length z0→true=true:Prop);letI z1:=(wao (List.length z0) (strG z0)++(Lib.itoa (g 2)++[(44:UInt8)]));letI z6:=(∀ (i:Nat),i<List.length z1→true=true:Prop);letI z3:=(wao (List.length z1) (strG z1)++(Lib.itoa (g 3)++[(44:UInt8)]));letI z7:=(∀ (i:Nat),i<List.length z3→true=true:Prop);((0:Int)≤(0:Int)∧(0:Int)<(↑4:Int))∧(0<4∧1=1)∧inR .i64 (g 0)∧List.length (Lib.itoa (g 0))+List.length ([(44:UInt8)])≤9223372036854775807∧(∀ (i:Nat),i<List.length L→true=true)∧(111=111∧5=5∧List.length L=List.length L∧strG L=strG (wao (List.length L) (strG L))∧List.length z2≤1099511627776)∧z4∧inR .i64 ((0:Int)+(1:Int))∧((0:Int)≤(0:Int)+(1:Int)∧(0:Int)+(1:Int)<(↑4:Int))∧(1<4∧1=1)∧inR .i64 (g 1)∧List.length (Lib.itoa (g 1))+List.length ([(44:UInt8)])≤9223372036854775807∧z4∧(111=111∧5=5∧List.length z2=List.length z2∧strG z2=strG (wao (List.length z2) (strG z2))∧List.length z0≤1099511627776)∧z5∧inR .i64 ((0:Int)+(1:Int)+(1:Int))∧((0:Int)≤(0:Int)+(1:Int)+(1:Int)∧(0:Int)+(1:Int)+(1:Int)<(↑4:Int))∧(2<4∧1=1)∧inR .i64 (g 2)∧List.length (Lib.itoa (g 2))+List.length ([(44:UInt8)])≤9223372036854775807∧z5∧(111=111∧5=5∧List.length z0=List.length z0∧strG z0=strG (wao (List.length z0) (strG z0))∧List.length z1≤1099511627776)∧z6∧inR .i64 ((0:Int)+(1:Int)+(1:Int)+(1:Int))∧((0:Int)≤(0:Int)+(1:Int)+(1:Int)+(1:Int)∧(0:Int)+(1:Int)+(1:Int)+(1:Int)<(↑4:Int))∧(3<4∧1=1)∧inR .i64 (g 3)∧List.length (Lib.itoa (g 3))+List.length ([(44:UInt8)])≤9223372036854775807∧z6∧(111=111∧5=5∧List.length z1=List.length z1∧strG z1=strG (wao (List.length z1) (strG z1))∧List.length z3≤1099511627776)∧z7∧inR .i64 ((0:Int)+(1:Int)+(1:Int)+(1:Int)+(1:Int))∧(∀ (i:Nat),i<4→true=true)∧z7∧∃ (O':List (Nat×AObj)),wae [(0,.cells [.ptr 0 0,.own (List.length [AObj.cells [.ptr 0 0,.own 2 (List.length L)] (111:TypeId),.row (2:TypeId) 1 4 (waa g) false,.row (5:TypeId) 1 (List.length L) (strG L) false]) (List.length z3)] 111),(1,.row 2 1 4 (waa g) false),(List.length [AObj.cells [.ptr 0 0,.own 2 (List.length L)] (111:TypeId),.row (2:TypeId) 1 4 (waa g) false,.row (5:TypeId) 1 (List.length L) (strG L) false],.row 5 1 (List.length z3) (strG z3) false)] O'∧R (.tuple []) O'):=by kernel_rfl
theorem nf_bstr (L:List UInt8) (R:AV→List (Nat×AObj)→Prop):wpFn te [] [] 0 Tryz.f85 [.ptr 0 0] [.cells [.ptr 0 0,.own 1 L.length] 111,.row 5 1 L.length (strG L) false] R=(letI z0:=(↑(List.length L):Int);0<List.length L∧((0:Int)<z0∧z0≤z0∧(∀ (i:Nat),i<Int.toNat z0→isU8 (strG L i)=true)∧∀ (i:Nat),i<Int.toNat z0→∀ (q:Int),strG L i=[.int .u8 q]→(0:Int)≤q∧q<(256:Int))∧R (.str (wao (Int.toNat z0) (strG L))) [(0,.cells [.ptr 0 0,.own 1 (List.length L)] 111)]):=by kernel_rfl
theorem nf_dec (n:Int) (R:AV→List (Nat×AObj)→Prop):wpFn te [] [(5,L_dc n)] 0 Tryz.f135 [.int .i64 n] [] R=(wad (decide (n=(0:Int))) (R (.str [(48:UInt8)]) []) (some (St.mk [(0,.int .i64 n),(3,.str []),(4,.int .i64 n)] [] 0 [])=some (St.mk [(0,.int .i64 n),(3,.str (DcS.out (DcS.mk [] n))),(4,.int .i64 (DcS.m (DcS.mk [] n)))] [] 0 [])∧inR .i64 n∧wad (decide (n<(0:Int))) (List.length ([(45:UInt8)])+List.length (digT (Int.natAbs n))≤9223372036854775807∧R (.str ([(45:UInt8)]++digT (Int.natAbs n))) []) (R (.str (digT (Int.natAbs n))) []))):=by kernel_rfl
theorem wz5 (n:Int) (i:DcS) (P:DcS→Prop) (R:Exit→St→Prop):wa2 ⟨te,[],[],0,31,0⟩ (wa3 Tryz.f135 5) [0,3,4] [0,3] [] (S_dc n) P R (S_dc n i)=(letI z5:=(1≤16777216∧1=1∧1≤9223372036854775807:Prop);letI z4:=(Int.tdiv (DcS.m i) (10:Int));letI z6:=((10:Int)≠(0:Int)∧inR .i64 z4:Prop);letI z1:=(List.flatten (List.replicate (nat_lit 0) [.int .u8 0]):List AV);letI z0:=TI.sz (TI.mk (TypeDesc.int IntKind.u8) 1 1 (Value.int IntKind.u8 0) false);letI z3:=(waq z0 (.int .u8 ((48:Int)+Int.tmod (DcS.m i) (10:Int))::List.append [] z1));letI z2:=(waq z0 (.int .u8 ((48:Int)+((0:Int) - Int.tmod (DcS.m i) (10:Int)))::List.append [] z1));wad (!decide (DcS.m i=(0:Int))) ((10:Int)≠(0:Int)∧wad (decide (Int.tmod (DcS.m i) (10:Int)<(0:Int))) (inR .i64 ((0:Int) - Int.tmod (DcS.m i) (10:Int))∧inR .i64 ((48:Int)+((0:Int) - Int.tmod (DcS.m i) (10:Int)))∧inR .u8 ((48:Int)+((0:Int) - Int.tmod (DcS.m i) (10:Int)))∧z5∧((1≤1∧1=1)∧∀ (i_1:Nat),i_1<1→isU8 (waq z0 (.int .u8 ((48:Int)+((0:Int) - Int.tmod (DcS.m i) (10:Int)))::List.append [] z1) i_1)=true)∧List.length (wao 1 z2)+List.length (DcS.out i)≤9223372036854775807∧z6∧∃ (i':DcS),some (St.mk [(0,.int .i64 n),(3,.str (wao 1 z2++DcS.out i)),(4,.int .i64 z4)] [] 0 [])=some (St.mk [(0,.int .i64 n),(3,.str (DcS.out i')),(4,.int .i64 (DcS.m i'))] [] 0 [])∧P i') (inR .i64 ((48:Int)+Int.tmod (DcS.m i) (10:Int))∧inR .u8 ((48:Int)+Int.tmod (DcS.m i) (10:Int))∧z5∧((1≤1∧1=1)∧∀ (i_1:Nat),i_1<1→isU8 (waq z0 (.int .u8 ((48:Int)+Int.tmod (DcS.m i) (10:Int))::List.append [] z1) i_1)=true)∧List.length (wao 1 z3)+List.length (DcS.out i)≤9223372036854775807∧z6∧∃ (i':DcS),some (St.mk [(0,.int .i64 n),(3,.str (wao 1 z3++DcS.out i)),(4,.int .i64 z4)] [] 0 [])=some (St.mk [(0,.int .i64 n),(3,.str (DcS.out i')),(4,.int .i64 (DcS.m i'))] [] 0 [])∧P i')) (R (.exit 0) (St.mk [(0,.int .i64 n),(3,.str (DcS.out i))] [] 0 []))):=by kernel_rfl
theorem nf_tr15 (g:Nat→List UInt8) (n:Nat) (R:AV→List (Nat×AObj)→Prop):wpFn te [] [(3,wnt g n)] 0 Tryz.f86 [.own 0 n] [.row 9 1 n (wax g) false] R=(letI z0:=([(0,.row 9 1 n (wax g) false)]:List (Nat×AObj));(TEq [(3,.str []),(6,.own 0 n),(7,.int .i64 (↑n:Int)),(8,.int .i64 0)] [(3,.str (txF g 0)),(6,.own 0 n),(7,.int .i64 (↑n:Int)),(8,.int .i64 (↑0:Int))]∧wae z0 z0)∧n≤100∧(∀ (i:Nat),i<n→List.length (g i)≤1099511627776)∧(∀ (i:Nat),i<n→true=true)∧∃ (O':List (Nat×AObj)),wae z0 O'∧R (.str (txF g n)) O'):=by kernel_rfl
theorem wyk (g:Nat→List UInt8) (n k:Nat) (P:Nat→Prop) (R:Exit→St→Prop):wa2 ⟨te,[(135,.det wco)],[],1,23,0⟩ (wa3 Tryz.f86 3) [3,6,7,8] [3] [] (wlm g n) P R (wlm g n k)=(letI z2:=([(0,.row 9 1 n (wax g) false)]:List (Nat×AObj));letI z1:=(Int.toNat (↑k:Int));letI z0:=(↑(List.length (g z1)):Int);wad (decide ((↑k:Int)<(↑n:Int))) (((0:Int)≤(↑k:Int)∧(↑k:Int)<(↑n:Int))∧(Int.toNat (↑k:Int)<n∧1=1)∧inR .i64 z0∧List.length (txF g k)+List.length (Lib.itoa z0)≤9223372036854775807∧List.length (txF g k++Lib.itoa z0)+List.length ([(58:UInt8)])≤9223372036854775807∧List.length (txF g k++Lib.itoa z0++[(58:UInt8)])+List.length (g z1)≤9223372036854775807∧List.length (txF g k++Lib.itoa z0++[(58:UInt8)]++g z1)+List.length ([(44:UInt8)])≤9223372036854775807∧inR .i64 ((↑k:Int)+(1:Int))∧∃ (i':Nat),(TEq [(3,.str (txF g k++Lib.itoa z0++[(58:UInt8)]++g z1++[(44:UInt8)])),(6,.own 0 n),(7,.int .i64 (↑n:Int)),(8,.int .i64 ((↑k:Int)+(1:Int)))] [(3,.str (txF g i')),(6,.own 0 n),(7,.int .i64 (↑n:Int)),(8,.int .i64 (↑i':Int))]∧wae z2 z2)∧P i') ((∀ (i:Nat),i<n→true=true)∧∃ (O':List (Nat×AObj)),wae z2 O'∧R (.exit 0) (St.mk [(3,.str (txF g k))] O' 1 []))):=by kernel_rfl
theorem nf_nr15 (g:Nat→Int) (n:Nat) (R:AV→List (Nat×AObj)→Prop):wpFn te [] [(3,wnx g n)] 0 Tryz.f87 [.own 0 n] [.row 2 1 n (waa g) false] R=(letI z0:=([(0,.row 2 1 n (waa g) false)]:List (Nat×AObj));(TEq [(3,.str []),(6,.own 0 n),(7,.int .i64 (↑n:Int)),(8,.int .i64 0)] [(3,.str (nuF g 0)),(6,.own 0 n),(7,.int .i64 (↑n:Int)),(8,.int .i64 (↑0:Int))]∧wae z0 z0)∧n≤100∧(∀ (i:Nat),i<n→inR .i64 (g i))∧(∀ (i:Nat),i<n→true=true)∧∃ (O':List (Nat×AObj)),wae z0 O'∧R (.str (nuF g n)) O'):=by kernel_rfl
theorem wy9 (g:Nat→Int) (n k:Nat) (P:Nat→Prop) (R:Exit→St→Prop):wa2 ⟨te,[(135,.det wco)],[],1,19,0⟩ (wa3 Tryz.f87 3) [3,6,7,8] [3] [] (wl3 g n) P R (wl3 g n k)=(letI z1:=([(0,.row 2 1 n (waa g) false)]:List (Nat×AObj));letI z0:=(g (Int.toNat (↑k:Int)));wad (decide ((↑k:Int)<(↑n:Int))) (((0:Int)≤(↑k:Int)∧(↑k:Int)<(↑n:Int))∧(Int.toNat (↑k:Int)<n∧1=1)∧inR .i64 z0∧List.length (nuF g k)+List.length (Lib.itoa z0)≤9223372036854775807∧List.length (nuF g k++Lib.itoa z0)+List.length ([(44:UInt8)])≤9223372036854775807∧inR .i64 ((↑k:Int)+(1:Int))∧∃ (i':Nat),(TEq [(3,.str (nuF g k++Lib.itoa z0++[(44:UInt8)])),(6,.own 0 n),(7,.int .i64 (↑n:Int)),(8,.int .i64 ((↑k:Int)+(1:Int)))] [(3,.str (nuF g i')),(6,.own 0 n),(7,.int .i64 (↑n:Int)),(8,.int .i64 (↑i':Int))]∧wae z1 z1)∧P i') ((∀ (i:Nat),i<n→true=true)∧∃ (O':List (Nat×AObj)),wae z1 O'∧R (.exit 0) (St.mk [(3,.str (nuF g k))] O' 1 []))):=by kernel_rfl
theorem wdb (L:List UInt8):wao L.length (strG L)=L:=by
 apply List.ext_getElem?
 intro i
 unfold wao
 rw [List.getElem?_map]
 rcases Nat.lt_or_ge i L.length with h | h
 ·rw [List.getElem?_range h,Option.map_some,List.getElem?_eq_getElem h]
  simp [strG,wap,h]
 ·rw [List.getElem?_eq_none (by simpa using h),List.getElem?_eq_none h];rfl
theorem wk4 (m:Nat) (f:Nat→List AV):(wao m f).length=m:=by simp [wao]
theorem wr4 (L s:List UInt8) (i:Nat):apF L.length (strG L) (strG s) i=strG (L++s) i:=by
 unfold apF strG
 by_cases h:i<L.length
 ·rw [if_pos h];simp [List.getD,List.getElem?_append_left h]
 ·rw [if_neg h];simp [List.getD,List.getElem?_append_right (show L.length≤i by omega)]
theorem wjb (s:List UInt8):Go.Lib.itoa (s.length:Int)++[58]++s++[44]=txtE s:=by simp [txtE]
theorem wjt (n:Int):Go.Lib.itoa n++[44]=numE n:=rfl
theorem wbv (s:List UInt8):(txtE s).length=(Go.Lib.itoa (s.length:Int)).length+s.length+2:=by
 simp [txtE];omega
theorem wen (n:Int):(numE n).length=(Go.Lib.itoa n).length+1:=by simp [numE]
theorem wcu {n:Int} (h:inR .i64 n):(Go.Lib.itoa n).length≤20:=by
 simp only [inR] at h
 exact w1k n (by omega)
theorem lenR {n:Nat} (h:n≤1099511627776):inR .i64 (n:Int):=by simp only [inR];omega
theorem wev (hP:C.P=Tryz.prog):waf C 132 S_ws:=by
 rintro args objs U Os vc h hvc
 unfold S_ws at h
 split at h<;>simp only [Option.some.injEq,Prod.mk.injEq,reduceCtorEq] at h
 ·rename_i s t
  obtain ⟨rfl,rfl,rfl⟩:=h
  obtain ⟨rfl,hs⟩:=hvc
  refine waf.wp0 (prg hP) [(164,.det S_cc)] 0 (.cons (cc_ok hP) .nil) (hP ▸ Tryz.func132) rfl rfl rfl ?_
  rw [nf_ws0]
  refine ⟨rfl,⟨trivial,rfl,by omega,?_⟩,fun _ _=>rfl,_,wan _,rfl,rfl⟩
  show s.length * 1≤_
  omega
 ·rename_i s n t t8 m f
  obtain ⟨rfl,rfl,rfl⟩:=h
  obtain ⟨rfl,rfl,rfl,hf,hlen⟩:=hvc
  have hl:=wk4 n f
  generalize wao n f=L at *
  subst hf
  subst hl
  refine waf.wp0 (prg hP) [(164,.det S_cc)] 0 (.cons (cc_ok hP) .nil) (hP ▸ Tryz.func132) rfl rfl rfl ?_
  rw [nf_ws]
  have hlen:=hlen
  rw [List.length_append] at hlen
  refine ⟨fun _ _=>rfl,rfl,fun _ _=>rfl,⟨trivial,Nat.le_refl _,rfl,rfl,rfl,by omega,?_⟩,fun i _=>by rw [wr4];rfl,_,?_,rfl,rfl⟩
  ·show (L.length+s.length) * 1≤_
   omega
  ·rw [List.length_append]
   exact ⟨rfl,⟨rfl,rfl,rfl,rfl,rfl,fun i _=>wr4 L s i⟩,trivial⟩
theorem tu1 (hP:C.P=Tryz.prog) (hL:∀ w,C.laid w→LaidW w) (L:List UInt8) (h:Nat→List AV) (hh:∀ i,i<1→h i=wax (stOf h) i) (hlen:(L++txF (stOf h) 1).length≤1099511627776):
  wal C 83 [.ptr 0 0,.own 1 1] [.cells [.ptr 0 0,.own 2 L.length] 111,.row 9 1 1 h false,.row 5 1 L.length (strG L) false]
   fun u O=>u= .tuple []∧O=[(0,.cells [.ptr 0 0,.own 3 (L++txF (stOf h) 1).length] 111),(1,.row 9 1 1 h false),(3,.row 5 1 (L++txF (stOf h) 1).length (strG (L++txF (stOf h) 1)) false)]:=by
 refine wal.rowEq 1 (f':=wax (stOf h)) rfl (fun i hi=>(hh i hi).symm) ?_
 refine waf.wp0 (prg hP) [(133,.det wco),(132,.det S_ws)] 2 (.cons (wkb hP hL) (.cons (wev hP) .nil)) (hP ▸ Tryz.func83) rfl rfl rfl ?_
 show wpFn _ _ _ _ _ [.ptr 0 0,.own 1 1] [.cells [.ptr 0 0,.own 2 L.length] 111,.row 9 1 1 (wax (stOf h)) false,.row 5 1 L.length (strG L) false] _
 rw [nf_txu1]
 have hh':∀ i,i<1→wax (stOf h) i=h i:=fun i hi=>(hh i hi).symm
 generalize stOf h=g at *
 have e:L++txF g 1=L++txtE (g 0):=by simp [txF]
 rw [e] at hlen ⊢
 simp only [wdb,wjb]
 have hlen2:L.length+((Go.Lib.itoa ((g 0).length:Int)).length+(g 0).length+2)≤1099511627776:=by simpa only [List.length_append,wbv] using hlen
 repeat' first
  |exact trivial
  |(intro _ _;first | rfl | trivial)
  |exact rfl
  |omega
  |(simp only [inR];omega)
  |(simp only [inR,List.length_append,List.length_cons,List.length_nil,wbv];omega)
  |(refine ⟨_,?_,trivial,rfl⟩;exact ⟨rfl,⟨rfl,rfl,rfl,rfl,rfl,hh'⟩,⟨rfl,rfl,rfl,rfl,rfl,fun _ _=>rfl⟩,trivial⟩)
  |(refine And.intro ?_ ?_)
theorem tu2 (hP:C.P=Tryz.prog) (hL:∀ w,C.laid w→LaidW w) (L:List UInt8) (h:Nat→List AV) (hh:∀ i,i<2→h i=wax (stOf h) i) (hlen:(L++txF (stOf h) 2).length≤1099511627776):
  wal C 83 [.ptr 0 0,.own 1 2] [.cells [.ptr 0 0,.own 2 L.length] 111,.row 9 1 2 h false,.row 5 1 L.length (strG L) false]
   fun u O=>u= .tuple []∧O=[(0,.cells [.ptr 0 0,.own 3 (L++txF (stOf h) 2).length] 111),(1,.row 9 1 2 h false),(3,.row 5 1 (L++txF (stOf h) 2).length (strG (L++txF (stOf h) 2)) false)]:=by
 refine wal.rowEq 1 (f':=wax (stOf h)) rfl (fun i hi=>(hh i hi).symm) ?_
 refine waf.wp0 (prg hP) [(133,.det wco),(132,.det S_ws)] 3 (.cons (wkb hP hL) (.cons (wev hP) .nil)) (hP ▸ Tryz.func83) rfl rfl rfl ?_
 show wpFn _ _ _ _ _ [.ptr 0 0,.own 1 2] [.cells [.ptr 0 0,.own 2 L.length] 111,.row 9 1 2 (wax (stOf h)) false,.row 5 1 L.length (strG L) false] _
 rw [nf_txu2]
 have hh':∀ i,i<2→wax (stOf h) i=h i:=fun i hi=>(hh i hi).symm
 generalize stOf h=g at *
 have e:L++txF g 2=L++txtE (g 0)++txtE (g 1):=by simp [txF]
 rw [e] at hlen ⊢
 simp only [wdb,wjb]
 have hlen2:L.length+((Go.Lib.itoa ((g 0).length:Int)).length+(g 0).length+2)+((Go.Lib.itoa ((g 1).length:Int)).length+(g 1).length+2)≤1099511627776:=by simpa only [List.length_append,wbv] using hlen
 repeat' first
  |exact trivial
  |(intro _ _;first | rfl | trivial)
  |exact rfl
  |omega
  |(simp only [inR];omega)
  |(simp only [inR,List.length_append,List.length_cons,List.length_nil,wbv];omega)
  |(refine ⟨_,?_,trivial,rfl⟩;exact ⟨rfl,⟨rfl,rfl,rfl,rfl,rfl,hh'⟩,⟨rfl,rfl,rfl,rfl,rfl,fun _ _=>rfl⟩,trivial⟩)
  |(refine And.intro ?_ ?_)
theorem tu3 (hP:C.P=Tryz.prog) (hL:∀ w,C.laid w→LaidW w) (L:List UInt8) (h:Nat→List AV) (hh:∀ i,i<3→h i=wax (stOf h) i) (hlen:(L++txF (stOf h) 3).length≤1099511627776):
  wal C 83 [.ptr 0 0,.own 1 3] [.cells [.ptr 0 0,.own 2 L.length] 111,.row 9 1 3 h false,.row 5 1 L.length (strG L) false]
   fun u O=>u= .tuple []∧O=[(0,.cells [.ptr 0 0,.own 3 (L++txF (stOf h) 3).length] 111),(1,.row 9 1 3 h false),(3,.row 5 1 (L++txF (stOf h) 3).length (strG (L++txF (stOf h) 3)) false)]:=by
 refine wal.rowEq 1 (f':=wax (stOf h)) rfl (fun i hi=>(hh i hi).symm) ?_
 refine waf.wp0 (prg hP) [(133,.det wco),(132,.det S_ws)] 4 (.cons (wkb hP hL) (.cons (wev hP) .nil)) (hP ▸ Tryz.func83) rfl rfl rfl ?_
 show wpFn _ _ _ _ _ [.ptr 0 0,.own 1 3] [.cells [.ptr 0 0,.own 2 L.length] 111,.row 9 1 3 (wax (stOf h)) false,.row 5 1 L.length (strG L) false] _
 rw [nf_txu3]
 have hh':∀ i,i<3→wax (stOf h) i=h i:=fun i hi=>(hh i hi).symm
 generalize stOf h=g at *
 have e:L++txF g 3=L++txtE (g 0)++txtE (g 1)++txtE (g 2):=by simp [txF]
 rw [e] at hlen ⊢
 simp only [wdb,wjb]
 have hlen2:L.length+((Go.Lib.itoa ((g 0).length:Int)).length+(g 0).length+2)+((Go.Lib.itoa ((g 1).length:Int)).length+(g 1).length+2)+((Go.Lib.itoa ((g 2).length:Int)).length+(g 2).length+2)≤1099511627776:=by simpa only [List.length_append,wbv] using hlen
 repeat' first
  |exact trivial
  |(intro _ _;first | rfl | trivial)
  |exact rfl
  |omega
  |(simp only [inR];omega)
  |(simp only [inR,List.length_append,List.length_cons,List.length_nil,wbv];omega)
  |(refine ⟨_,?_,trivial,rfl⟩;exact ⟨rfl,⟨rfl,rfl,rfl,rfl,rfl,hh'⟩,⟨rfl,rfl,rfl,rfl,rfl,fun _ _=>rfl⟩,trivial⟩)
  |(refine And.intro ?_ ?_)
theorem nu1 (hP:C.P=Tryz.prog) (hL:∀ w,C.laid w→LaidW w) (L:List UInt8) (h:Nat→List AV) (hh:∀ i,i<1→h i=waa (vInt h) i) (hr:∀ i,i<1→inR .i64 (vInt h i)) (hlen:(L++nuF (vInt h) 1).length≤1099511627776):
  wal C 84 [.ptr 0 0,.own 1 1] [.cells [.ptr 0 0,.own 2 L.length] 111,.row 2 1 1 h false,.row 5 1 L.length (strG L) false]
   fun u O=>u= .tuple []∧O=[(0,.cells [.ptr 0 0,.own 3 (L++nuF (vInt h) 1).length] 111),(1,.row 2 1 1 h false),(3,.row 5 1 (L++nuF (vInt h) 1).length (strG (L++nuF (vInt h) 1)) false)]:=by
 refine wal.rowEq 1 (f':=waa (vInt h)) rfl (fun i hi=>(hh i hi).symm) ?_
 refine waf.wp0 (prg hP) [(134,.det wed),(132,.det S_ws)] 2 (.cons (wkk hP hL) (.cons (wev hP) .nil)) (hP ▸ Tryz.func84) rfl rfl rfl ?_
 show wpFn _ _ _ _ _ [.ptr 0 0,.own 1 1] [.cells [.ptr 0 0,.own 2 L.length] 111,.row 2 1 1 (waa (vInt h)) false,.row 5 1 L.length (strG L) false] _
 rw [nf_nuu1]
 have hh':∀ i,i<1→waa (vInt h) i=h i:=fun i hi=>(hh i hi).symm
 generalize vInt h=g at *
 have r0:=hr 0 (by omega)
 have z0:=wcu r0
 have e:L++nuF g 1=L++numE (g 0):=by simp [nuF]
 rw [e] at hlen ⊢
 simp only [wdb,wjt]
 have hlen2:L.length+((Go.Lib.itoa (g 0)).length+1)≤1099511627776:=by simpa only [List.length_append,wen] using hlen
 repeat' first
  |exact trivial
  |(intro _ _;first | rfl | trivial)
  |exact rfl
  |omega
  |(simp only [inR];omega)
  |(simp only [inR,List.length_append,List.length_cons,List.length_nil,wen];omega)
  |(refine ⟨_,?_,trivial,rfl⟩;exact ⟨rfl,⟨rfl,rfl,rfl,rfl,rfl,hh'⟩,⟨rfl,rfl,rfl,rfl,rfl,fun _ _=>rfl⟩,trivial⟩)
  |(refine And.intro ?_ ?_)
theorem nu2 (hP:C.P=Tryz.prog) (hL:∀ w,C.laid w→LaidW w) (L:List UInt8) (h:Nat→List AV) (hh:∀ i,i<2→h i=waa (vInt h) i) (hr:∀ i,i<2→inR .i64 (vInt h i)) (hlen:(L++nuF (vInt h) 2).length≤1099511627776):
  wal C 84 [.ptr 0 0,.own 1 2] [.cells [.ptr 0 0,.own 2 L.length] 111,.row 2 1 2 h false,.row 5 1 L.length (strG L) false]
   fun u O=>u= .tuple []∧O=[(0,.cells [.ptr 0 0,.own 3 (L++nuF (vInt h) 2).length] 111),(1,.row 2 1 2 h false),(3,.row 5 1 (L++nuF (vInt h) 2).length (strG (L++nuF (vInt h) 2)) false)]:=by
 refine wal.rowEq 1 (f':=waa (vInt h)) rfl (fun i hi=>(hh i hi).symm) ?_
 refine waf.wp0 (prg hP) [(134,.det wed),(132,.det S_ws)] 3 (.cons (wkk hP hL) (.cons (wev hP) .nil)) (hP ▸ Tryz.func84) rfl rfl rfl ?_
 show wpFn _ _ _ _ _ [.ptr 0 0,.own 1 2] [.cells [.ptr 0 0,.own 2 L.length] 111,.row 2 1 2 (waa (vInt h)) false,.row 5 1 L.length (strG L) false] _
 rw [nf_nuu2]
 have hh':∀ i,i<2→waa (vInt h) i=h i:=fun i hi=>(hh i hi).symm
 generalize vInt h=g at *
 have r0:=hr 0 (by omega)
 have z0:=wcu r0
 have r1:=hr 1 (by omega)
 have z1:=wcu r1
 have e:L++nuF g 2=L++numE (g 0)++numE (g 1):=by simp [nuF]
 rw [e] at hlen ⊢
 simp only [wdb,wjt]
 have hlen2:L.length+((Go.Lib.itoa (g 0)).length+1)+((Go.Lib.itoa (g 1)).length+1)≤1099511627776:=by simpa only [List.length_append,wen] using hlen
 repeat' first
  |exact trivial
  |(intro _ _;first | rfl | trivial)
  |exact rfl
  |omega
  |(simp only [inR];omega)
  |(simp only [inR,List.length_append,List.length_cons,List.length_nil,wen];omega)
  |(refine ⟨_,?_,trivial,rfl⟩;exact ⟨rfl,⟨rfl,rfl,rfl,rfl,rfl,hh'⟩,⟨rfl,rfl,rfl,rfl,rfl,fun _ _=>rfl⟩,trivial⟩)
  |(refine And.intro ?_ ?_)
theorem nu3 (hP:C.P=Tryz.prog) (hL:∀ w,C.laid w→LaidW w) (L:List UInt8) (h:Nat→List AV) (hh:∀ i,i<3→h i=waa (vInt h) i) (hr:∀ i,i<3→inR .i64 (vInt h i)) (hlen:(L++nuF (vInt h) 3).length≤1099511627776):
  wal C 84 [.ptr 0 0,.own 1 3] [.cells [.ptr 0 0,.own 2 L.length] 111,.row 2 1 3 h false,.row 5 1 L.length (strG L) false]
   fun u O=>u= .tuple []∧O=[(0,.cells [.ptr 0 0,.own 3 (L++nuF (vInt h) 3).length] 111),(1,.row 2 1 3 h false),(3,.row 5 1 (L++nuF (vInt h) 3).length (strG (L++nuF (vInt h) 3)) false)]:=by
 refine wal.rowEq 1 (f':=waa (vInt h)) rfl (fun i hi=>(hh i hi).symm) ?_
 refine waf.wp0 (prg hP) [(134,.det wed),(132,.det S_ws)] 4 (.cons (wkk hP hL) (.cons (wev hP) .nil)) (hP ▸ Tryz.func84) rfl rfl rfl ?_
 show wpFn _ _ _ _ _ [.ptr 0 0,.own 1 3] [.cells [.ptr 0 0,.own 2 L.length] 111,.row 2 1 3 (waa (vInt h)) false,.row 5 1 L.length (strG L) false] _
 rw [nf_nuu3]
 have hh':∀ i,i<3→waa (vInt h) i=h i:=fun i hi=>(hh i hi).symm
 generalize vInt h=g at *
 have r0:=hr 0 (by omega)
 have z0:=wcu r0
 have r1:=hr 1 (by omega)
 have z1:=wcu r1
 have r2:=hr 2 (by omega)
 have z2:=wcu r2
 have e:L++nuF g 3=L++numE (g 0)++numE (g 1)++numE (g 2):=by simp [nuF]
 rw [e] at hlen ⊢
 simp only [wdb,wjt]
 have hlen2:L.length+((Go.Lib.itoa (g 0)).length+1)+((Go.Lib.itoa (g 1)).length+1)+((Go.Lib.itoa (g 2)).length+1)≤1099511627776:=by simpa only [List.length_append,wen] using hlen
 repeat' first
  |exact trivial
  |(intro _ _;first | rfl | trivial)
  |exact rfl
  |omega
  |(simp only [inR];omega)
  |(simp only [inR,List.length_append,List.length_cons,List.length_nil,wen];omega)
  |(refine ⟨_,?_,trivial,rfl⟩;exact ⟨rfl,⟨rfl,rfl,rfl,rfl,rfl,hh'⟩,⟨rfl,rfl,rfl,rfl,rfl,fun _ _=>rfl⟩,trivial⟩)
  |(refine And.intro ?_ ?_)
theorem nu4 (hP:C.P=Tryz.prog) (hL:∀ w,C.laid w→LaidW w) (L:List UInt8) (h:Nat→List AV) (hh:∀ i,i<4→h i=waa (vInt h) i) (hr:∀ i,i<4→inR .i64 (vInt h i)) (hlen:(L++nuF (vInt h) 4).length≤1099511627776):
  wal C 84 [.ptr 0 0,.own 1 4] [.cells [.ptr 0 0,.own 2 L.length] 111,.row 2 1 4 h false,.row 5 1 L.length (strG L) false]
   fun u O=>u= .tuple []∧O=[(0,.cells [.ptr 0 0,.own 3 (L++nuF (vInt h) 4).length] 111),(1,.row 2 1 4 h false),(3,.row 5 1 (L++nuF (vInt h) 4).length (strG (L++nuF (vInt h) 4)) false)]:=by
 refine wal.rowEq 1 (f':=waa (vInt h)) rfl (fun i hi=>(hh i hi).symm) ?_
 refine waf.wp0 (prg hP) [(134,.det wed),(132,.det S_ws)] 5 (.cons (wkk hP hL) (.cons (wev hP) .nil)) (hP ▸ Tryz.func84) rfl rfl rfl ?_
 show wpFn _ _ _ _ _ [.ptr 0 0,.own 1 4] [.cells [.ptr 0 0,.own 2 L.length] 111,.row 2 1 4 (waa (vInt h)) false,.row 5 1 L.length (strG L) false] _
 rw [nf_nuu4]
 have hh':∀ i,i<4→waa (vInt h) i=h i:=fun i hi=>(hh i hi).symm
 generalize vInt h=g at *
 have r0:=hr 0 (by omega)
 have z0:=wcu r0
 have r1:=hr 1 (by omega)
 have z1:=wcu r1
 have r2:=hr 2 (by omega)
 have z2:=wcu r2
 have r3:=hr 3 (by omega)
 have z3:=wcu r3
 have e:L++nuF g 4=L++numE (g 0)++numE (g 1)++numE (g 2)++numE (g 3):=by simp [nuF]
 rw [e] at hlen ⊢
 simp only [wdb,wjt]
 have hlen2:L.length+((Go.Lib.itoa (g 0)).length+1)+((Go.Lib.itoa (g 1)).length+1)+((Go.Lib.itoa (g 2)).length+1)+((Go.Lib.itoa (g 3)).length+1)≤1099511627776:=by simpa only [List.length_append,wen] using hlen
 repeat' first
  |exact trivial
  |(intro _ _;first | rfl | trivial)
  |exact rfl
  |omega
  |(simp only [inR];omega)
  |(simp only [inR,List.length_append,List.length_cons,List.length_nil,wen];omega)
  |(refine ⟨_,?_,trivial,rfl⟩;exact ⟨rfl,⟨rfl,rfl,rfl,rfl,rfl,hh'⟩,⟨rfl,rfl,rfl,rfl,rfl,fun _ _=>rfl⟩,trivial⟩)
  |(refine And.intro ?_ ?_)
theorem wrx (hP:C.P=Tryz.prog) (hL:∀ w,C.laid w→LaidW w):waf C 83 S_text:=by
 rintro args objs U Os vc h hvc
 unfold S_text at h
 split at h<;>simp only [Option.some.injEq,Prod.mk.injEq,reduceCtorEq] at h
 ·rename_i n t ts n' h'
  obtain ⟨rfl,rfl,rfl⟩:=h
  obtain ⟨rfl,rfl,rfl,rfl,hh,hlen⟩:=hvc
  have hh0:∀ i,i<1→h' i=wax (stOf h') i:=fun i hi=>by
   match i,hi with
   |0,_=>exact hh
  refine wal.rowEq 1 (f':=wax (stOf h')) rfl (fun i hi=>(hh0 i hi).symm) ?_
  refine waf.wp0 (prg hP) [(133,.det wco),(132,.det S_ws)] 2 (.cons (wkb hP hL) (.cons (wev hP) .nil)) (hP ▸ Tryz.func83) rfl rfl rfl ?_
  show wpFn _ _ _ _ _ [.ptr 0 0,.own 1 1] [.cells [.nilptr,.nil] 111,.row 9 1 1 (wax (stOf h')) false] _
  rw [nf_tx1]
  have hh':∀ i,i<1→wax (stOf h') i=h' i:=fun i hi=>(hh0 i hi).symm
  generalize stOf h'=g at *
  have e:txF g 1=txtE (g 0):=by simp [txF]
  rw [e] at hlen ⊢
  simp only [wjb]
  have hlen2:=hlen
  rw [wbv] at hlen2
  repeat' first
   |exact trivial
   |(intro _ _;first | rfl | trivial)
   |exact rfl
   |omega
   |(simp only [inR];omega)
   |(simp only [inR,List.length_append,List.length_cons,List.length_nil,wbv];omega)
   |(refine ⟨_,?_,trivial,rfl⟩;exact ⟨rfl,⟨rfl,rfl,rfl,rfl,rfl,hh'⟩,⟨rfl,rfl,rfl,rfl,rfl,fun _ _=>rfl⟩,trivial⟩)
   |(refine And.intro ?_ ?_)
 ·rename_i n c t ts n' h' t8 m f
  obtain ⟨rfl,rfl,rfl⟩:=h
  obtain ⟨rfl,rfl,rfl,rfl,rfl,hn,hf,hh,hlen⟩:=hvc
  have hl:=wk4 c f
  generalize wao c f=L at *
  subst hf
  subst hl
  have h3:n=1∨n=2∨n=3:=by omega
  rcases h3 with rfl | rfl | rfl
  ·exact tu1 hP hL L h' hh hlen
  ·exact tu2 hP hL L h' hh hlen
  ·exact tu3 hP hL L h' hh hlen
theorem wx3 (hP:C.P=Tryz.prog) (hL:∀ w,C.laid w→LaidW w):waf C 84 wwe:=by
 rintro args objs U Os vc h hvc
 unfold wwe at h
 split at h<;>simp only [Option.some.injEq,Prod.mk.injEq,reduceCtorEq] at h
 rename_i n c t ts n' h' t8 m f
 obtain ⟨rfl,rfl,rfl⟩:=h
 obtain ⟨rfl,rfl,rfl,rfl,rfl,hn,hf,hh,hr,hlen⟩:=hvc
 have hl:=wk4 c f
 generalize wao c f=L at *
 subst hf
 subst hl
 have h3:n=1∨n=2∨n=3∨n=4:=by omega
 rcases h3 with rfl | rfl | rfl | rfl
 ·exact nu1 hP hL L h' hh hr hlen
 ·exact nu2 hP hL L h' hh hr hlen
 ·exact nu3 hP hL L h' hh hr hlen
 ·exact nu4 hP hL L h' hh hr hlen
theorem bstr_ok (hP:C.P=Tryz.prog):waf C 85 wm9:=by
 have _:C.Loose:=inferInstance
 rintro args objs U Os vc h hvc
 unfold wm9 at h
 split at h<;>simp only [Option.some.injEq,Prod.mk.injEq,reduceCtorEq] at h
 rename_i n t t8 m f
 obtain ⟨rfl,rfl,rfl⟩:=h
 obtain ⟨rfl,rfl,rfl,hf,h0,hlen⟩:=hvc
 have hl:=wk4 n f
 generalize hL:wao n f=L at *
 subst hf
 subst hl
 refine waf.wp0 (prg hP) [] 0 .nil (hP ▸ Tryz.func85) rfl rfl rfl ?_
 rw [nf_bstr,Int.toNat_natCast,wdb]
 refine ⟨h0,⟨by omega,Int.le_refl _,fun i _=>rfl,fun i hi q hq=>?_⟩,rfl,rfl⟩
 have hq:[AV.int .u8 ((L.getD i 0).toNat:Int)]=[.int .u8 q]:=hq
 injection hq with hq
 injection hq with _ hq
 have:=(L.getD i 0).toNat_lt
 omega
theorem dc_loop (hP:C.P=Tryz.prog) (n:Int):waj C 0 31 (wam Tryz.f135 5) (L_dc n):=by
 have _:C.Loose:=inferInstance
 rintro st Q ⟨h0,hr,hQ⟩
 refine waj.mk (prg hP) [] 0 .nil [0,3,4] [0,3] [] (S_dc n) (fun i=>inR .i64 i.m∧digT n.natAbs=digT i.m.natAbs++i.out∧i.out.length≤100) (fun i=>i.m.natAbs) ⟨[],n⟩ ⟨hr,by simp,Nat.zero_le _⟩ h0 (fun i hi=>?_)
 obtain ⟨hm,hd,hl⟩:=hi
 rw [wz5]
 have hdl:(digT n.natAbs).length≤20:=by
  by_cases z:n=0
  ·subst z;decide
  ·have:=wcu hr
   rw [wt9 z] at this
   cases q:decide (n<0) with
   |true=>rw [q] at this;simp only [cond_true,List.length_cons] at this;omega
   |false=>rw [q] at this;exact this
 refine wca (fun h1=>?_) (fun h1=>?_)
 ·have dn:=w2o h1
  have a1:(Int.tdiv i.m 10).natAbs=i.m.natAbs / 10:=by rw [Int.natAbs_tdiv];rfl
  have a2:(Int.tmod i.m 10).natAbs=i.m.natAbs % 10:=by rw [Int.natAbs_tmod];rfl
  have hm':=hm
  simp only [inR] at hm'
  have next:∀ b:List UInt8,b=[UInt8.ofNat (48+(Int.tmod i.m 10).natAbs)]→b.length+i.out.length≤9223372036854775807∧((10:Int)≠0∧inR .i64 (Int.tdiv i.m 10))∧∃ i':DcS,some (St.mk [(0,.int .i64 n),(3,.str (b++i.out)),(4,.int .i64 (Int.tdiv i.m 10))] [] 0 [])=
    some (St.mk [(0,.int .i64 n),(3,.str i'.out),(4,.int .i64 i'.m)] [] 0 [])∧(inR .i64 i'.m∧digT n.natAbs=digT i'.m.natAbs++i'.out∧i'.out.length≤100)∧i'.m.natAbs<i.m.natAbs:=fun b hb=>by
   subst hb
   have e:digT n.natAbs=digT (Int.tdiv i.m 10).natAbs++([UInt8.ofNat (48+(Int.tmod i.m 10).natAbs)]++i.out):=by rw [hd,dn,List.append_assoc]
   have hl2:=congrArg List.length e
   rw [List.length_append] at hl2
   refine ⟨by simp;omega,⟨by decide,by simp only [inR];omega⟩,⟨[UInt8.ofNat (48+(Int.tmod i.m 10).natAbs)]++i.out,Int.tdiv i.m 10⟩,rfl,⟨by simp only [inR];omega,e,?_⟩,?_⟩
   ·show ([UInt8.ofNat (48+(Int.tmod i.m 10).natAbs)]++i.out).length≤100
    omega
   ·show (Int.tdiv i.m 10).natAbs<i.m.natAbs
    omega
  have one:∀ {p:Nat→Prop},p 0→∀ i,i<1→p i:=fun h0 i hi=>by
   match i,hi with
   |0,_=>exact h0
  refine ⟨by decide,wak (fun h2=>⟨by simp only [inR];omega,by simp only [inR];omega,by simp only [inR];omega,⟨by omega,rfl,by omega⟩,⟨⟨Nat.le_refl _,rfl⟩,one rfl⟩,next _ ?_⟩) (fun h2=>⟨by simp only [inR];omega,by simp only [inR];omega,⟨by omega,rfl,by omega⟩,⟨⟨Nat.le_refl _,rfl⟩,one rfl⟩,next _ ?_⟩)⟩
  ·show [UInt8.ofNat ((48:Int)+(0 - Int.tmod i.m 10)).toNat]=_
   rw [show ((48:Int)+(0 - Int.tmod i.m 10)).toNat=48+(Int.tmod i.m 10).natAbs by omega]
  ·show [UInt8.ofNat ((48:Int)+Int.tmod i.m 10).toNat]=_
   rw [show ((48:Int)+Int.tmod i.m 10).toNat=48+(Int.tmod i.m 10).natAbs by omega]
 ·have e:digT n.natAbs=i.out:=by rw [hd,h1];rfl
  rw [e] at hQ
  exact hQ
theorem wvn (hP:C.P=Tryz.prog):waf C 135 wco:=by
 rintro args objs U Os vc h hvc
 unfold wco at h
 split at h<;>simp only [Option.some.injEq,Prod.mk.injEq,reduceCtorEq] at h
 rename_i n
 obtain ⟨rfl,rfl,rfl⟩:=h
 have hr:inR .i64 n:=hvc
 refine waf.wpL (prg hP) [] [(5,L_dc n)] 0 .nil (hP ▸ Tryz.func135) rfl rfl rfl [(wam Tryz.f135 5,L_dc n)] (by kernel_rfl) ⟨dc_loop hP n,trivial⟩ ?_
 rw [nf_dec]
 refine wak (fun z=>?_) (fun z=>⟨rfl,hr,?_⟩)
 ·subst z
  rw [w1i];exact ⟨rfl,rfl⟩
 ·have hl:=wcu hr
  rw [wt9 z] at hl ⊢
  refine wak (fun q=>?_) (fun q=>?_)
  ·rw [decide_eq_true q] at hl ⊢
   simp only [cond_true,List.length_cons] at hl
   exact ⟨by simp;omega,rfl,rfl⟩
  ·rw [decide_eq_false q];exact ⟨rfl,rfl⟩
theorem ww1 (hP:C.P=Tryz.prog) (g:Nat→List UInt8) (n:Nat):waj C 1 23 (wam Tryz.f86 3) (wnt g n):=by
 rintro st Q ⟨h0,hn,hr,hQ⟩
 refine waj.mk (prg hP) [(135,.det wco)] 0 (.cons (wvn hP) .nil) [3,6,7,8] [3] [] (wlm g n) (fun k=>k≤n∧(txF g k).length≤k * 2199023255552) (fun k=>n - k) 0 ⟨Nat.zero_le _,Nat.zero_le _⟩ h0 (fun k hk=>?_) (fun i=>⟨fun _ _=>rfl,trivial⟩)
 obtain ⟨hkn,hl⟩:=hk
 rw [wyk,Int.toNat_natCast]
 refine wak (fun h1=>?_) (fun h1=>?_)
 ·have hlt:k<n:=by omega
  have hg:=hr k hlt
  have hi:=wcu (lenR hg)
  have e:txF g (k+1)=txF g k++txtE (g k):=rfl
  have e2:=congrArg List.length e
  rw [List.length_append,wbv] at e2
  have hk100:k * 2199023255552≤100 * 2199023255552:=Nat.mul_le_mul_right _ (by omega)
  refine ⟨⟨by omega,by omega⟩,⟨hlt,rfl⟩,lenR hg,by (try simp only [List.length_append,List.length_cons,List.length_nil]);omega,by (try simp only [List.length_append,List.length_cons,List.length_nil]);omega,by (try simp only [List.length_append,List.length_cons,List.length_nil]);omega,by (try simp only [List.length_append,List.length_cons,List.length_nil]);omega,by simp only [inR];omega,k+1,⟨?_,wan _⟩,⟨hlt,?_⟩,by omega⟩
  ·rw [e]
   have:txF g k++Go.Lib.itoa ((g k).length:Int)++[58]++g k++[44]=txF g k++txtE (g k):=by simp [txtE]
   rw [this];rfl
  ·rw [e2,Nat.add_mul];omega
 ·have:k=n:=by omega
  subst this
  exact ⟨fun _ _=>rfl,_,wan _,hQ⟩
theorem wx6 (hP:C.P=Tryz.prog) (g:Nat→Int) (n:Nat):waj C 1 19 (wam Tryz.f87 3) (wnx g n):=by
 rintro st Q ⟨h0,hn,hr,hQ⟩
 refine waj.mk (prg hP) [(135,.det wco)] 0 (.cons (wvn hP) .nil) [3,6,7,8] [3] [] (wl3 g n) (fun k=>k≤n∧(nuF g k).length≤k * 2199023255552) (fun k=>n - k) 0 ⟨Nat.zero_le _,Nat.zero_le _⟩ h0 (fun k hk=>?_) (fun i=>⟨fun _ _=>rfl,trivial⟩)
 obtain ⟨hkn,hl⟩:=hk
 rw [wy9,Int.toNat_natCast]
 refine wak (fun h1=>?_) (fun h1=>?_)
 ·have hlt:k<n:=by omega
  have hg:=hr k hlt
  have hi:=wcu hg
  have e:nuF g (k+1)=nuF g k++numE (g k):=rfl
  have e2:=congrArg List.length e
  rw [List.length_append,wen] at e2
  have hk100:k * 2199023255552≤100 * 2199023255552:=Nat.mul_le_mul_right _ (by omega)
  refine ⟨⟨by omega,by omega⟩,⟨hlt,rfl⟩,hg,by (try simp only [List.length_append,List.length_cons,List.length_nil]);omega,by (try simp only [List.length_append,List.length_cons,List.length_nil]);omega,by simp only [inR];omega,k+1,⟨?_,wan _⟩,⟨hlt,?_⟩,by omega⟩
  ·rw [e]
   have:nuF g k++Go.Lib.itoa (g k)++[44]=nuF g k++numE (g k):=by simp [numE]
   rw [this];rfl
  ·rw [e2,Nat.add_mul];omega
 ·have:k=n:=by omega
  subst this
  exact ⟨fun _ _=>rfl,_,wan _,hQ⟩
theorem whs (hP:C.P=Tryz.prog):waf C 86 wde:=by
 rintro args objs U Os vc h hvc
 unfold wde at h
 split at h<;>simp only [Option.some.injEq,Prod.mk.injEq,reduceCtorEq] at h
 rename_i n ts n' h'
 obtain ⟨rfl,rfl,rfl⟩:=h
 obtain ⟨rfl,rfl,hn,hh,hr⟩:=hvc
 refine wal.rowEq 0 (f':=wax (stOf h')) rfl (fun i hi=>(hh i hi).symm) ?_
 show wal C _ [.own 0 n] [.row 9 1 n (wax (stOf h')) false] _
 refine wa7.wpL (prg hP) [] [(3,wnt (stOf h') n)] 0 .nil (hP ▸ Tryz.func86) rfl rfl rfl [(wam Tryz.f86 3,wnt (stOf h') n)] (by kernel_rfl) ⟨ww1 hP _ n,trivial⟩ ?_
 show wpFn _ _ _ _ _ [.own 0 n] [.row 9 1 n (wax (stOf h')) false] _
 rw [nf_tr15]
 exact ⟨⟨rfl,wan _⟩,hn,hr,fun _ _=>rfl,[(0,.row 9 1 n h' false)],⟨⟨rfl,rfl,rfl,rfl,rfl,fun i hi=>(hh i hi).symm⟩,trivial⟩,rfl,rfl⟩
theorem wh5 (hP:C.P=Tryz.prog):waf C 87 wdf:=by
 rintro args objs U Os vc h hvc
 unfold wdf at h
 split at h<;>simp only [Option.some.injEq,Prod.mk.injEq,reduceCtorEq] at h
 rename_i n ts n' h'
 obtain ⟨rfl,rfl,rfl⟩:=h
 obtain ⟨rfl,rfl,hn,hh,hr⟩:=hvc
 refine wal.rowEq 0 (f':=waa (vInt h')) rfl (fun i hi=>(hh i hi).symm) ?_
 show wal C _ [.own 0 n] [.row 2 1 n (waa (vInt h')) false] _
 refine wa7.wpL (prg hP) [] [(3,wnx (vInt h') n)] 0 .nil (hP ▸ Tryz.func87) rfl rfl rfl [(wam Tryz.f87 3,wnx (vInt h') n)] (by kernel_rfl) ⟨wx6 hP _ n,trivial⟩ ?_
 show wpFn _ _ _ _ _ [.own 0 n] [.row 2 1 n (waa (vInt h')) false] _
 rw [nf_nr15]
 exact ⟨⟨rfl,wan _⟩,hn,hr,fun _ _=>rfl,[(0,.row 2 1 n h' false)],⟨⟨rfl,rfl,rfl,rfl,rfl,fun i hi=>(hh i hi).symm⟩,trivial⟩,rfl,rfl⟩
theorem wcx (hP:C.P=Tryz.prog) (hL:∀ w,C.laid w→LaidW w):wa7 C 83 wbi:=by
 rintro args objs R h
 unfold wbi at h
 split at h
 ·rename_i n t ts n' h'
  obtain ⟨⟨rfl,rfl,rfl,rfl⟩,hh,hlen,hR⟩:=h
  refine wal.mono (wrx hP hL _ _ _ _ _ rfl ⟨rfl,rfl,rfl,rfl,hh,hlen⟩) ?_
  rintro u O ⟨rfl,rfl⟩
  exact hR _ rfl
 ·rename_i n c t ts n' h' t8 m f
  obtain ⟨⟨rfl,rfl,rfl,rfl,rfl,hn⟩,L,⟨hm,hf⟩,hh,hlen,hR⟩:=h
  subst hm
  subst hf
  have e:=wdb L
  refine wal.mono (wrx hP hL _ _ _ _ _ rfl ⟨rfl,rfl,rfl,rfl,rfl,hn,by rw [e],hh,by rw [e];exact hlen⟩) ?_
  rintro u O ⟨rfl,rfl⟩
  rw [e]
  exact hR _ rfl
 ·exact h.elim
theorem wcy (hP:C.P=Tryz.prog) (hL:∀ w,C.laid w→LaidW w):wa7 C 84 wbj:=by
 rintro args objs R h
 unfold wbj at h
 split at h
 ·rename_i n c t ts n' h' t8 m f
  obtain ⟨⟨rfl,rfl,rfl,rfl,rfl,hn⟩,L,⟨hm,hf⟩,hh,hr,hlen,hR⟩:=h
  subst hm
  subst hf
  have e:=wdb L
  refine wal.mono (wx3 hP hL _ _ _ _ _ rfl ⟨rfl,rfl,rfl,rfl,rfl,hn,by rw [e],hh,hr,by rw [e];exact hlen⟩) ?_
  rintro u O ⟨rfl,rfl⟩
  rw [e]
  exact hR _ rfl
 ·exact h.elim
end Go.Eng
