/- Texts and numbers, as Encode writes them. -/
import Derived.Test.YtgcboligphndhaaGreatDoorXqw
namespace Go.Eng
open Go.Proofs Go.RowKit
variable {C:Ctx} [C.Loose]
set_option maxRecDepth 20000
theorem nf_ws0(s:List UInt8)(R:oR7):wpFn te [(164,.det S_cc)] [] 0 Tryz.f132 [.ptr 0 0,.str s] [.cells [.nilptr,.nil] 111] R=(111=111/\(True/\1=1/\s.length<=9223372036854775807/\s.length * TI.bytes (TI.mk (TypeDesc.int IntKind.u8) 1 1 (Value.int IntKind.u8 0) false)<=140737488355328)/\(∀(i:Nat),i<s.length->true=true)/\∃(O':oL7),wae [(0,.cells [.ptr 0 0,.own 1 s.length] 111),(1,.row 5 1 s.length (strG s) false)] O'/\R (.tuple [.q (s.length:Int),.nilIface]) O'):=by kernel_rfl
theorem nf_ws(L s:List UInt8)(R:oR7):wpFn te [(164,.det S_cc)] [] 0 Tryz.f132 [.ptr 0 0,.str s] [.cells [.ptr 0 0,.own 1 L.length] 111,.row 5 1 L.length (strG L) false] R=(letI z2:=(∀(i:Nat),i<L.length->true=true:Prop);letI z1:=L.length+s.length;letI z0:=L.length;z2/\111=111/\z2/\(True/\L.length<=L.length/\1=1/\5=5/\1=1/\L.length+s.length<=9223372036854775807/\z1 * TI.bytes (TI.mk (TypeDesc.int IntKind.u8) 1 1 (Value.int IntKind.u8 0) false)<=140737488355328)/\(∀(i:Nat),i<L.length+s.length->nrefL (apF z0 (strG L) (strG s) i)=true)/\∃(O':oL7),wae [(0,.cells [.ptr 0 0,.own (List.length [AObj.cells [.ptr 0 0,.own 1 z0] (111:TypeId),.row (5:TypeId) 1 z0 (strG L) false]) z1] 111),(List.length [AObj.cells [.ptr 0 0,.own 1 z0] (111:TypeId),.row (5:TypeId) 1 z0 (strG L) false],.row 5 1 z1 (apF z0 (strG L) (strG s)) false)] O'/\R (.tuple [.q (s.length:Int),.nilIface]) O'):=by kernel_rfl
theorem nf_tx1(h:Nat->List UInt8)(R:oR7):wpFn te [(133,.det wcm),(132,.det S_ws)] [] 2 Tryz.f83 [.ptr 0 0,.own 1 1] [.cells [.nilptr,.nil] 111,.row 9 1 1 (wax h) false] R=(letI z1:=(↑(h 0).length:Int);letI z0:=(Lib.itoa z1++[(58:UInt8)]++h 0++[(44:UInt8)]);letI z2:=(∀(i:Nat),i<z0.length->true=true:Prop);((0:Int)<=0/\(0:Int)<(↑1:Int))/\(0<1/\1=1)/\inR .i64 z1/\(Lib.itoa z1).length+([(58:UInt8)]).length<=9223372036854775807/\(Lib.itoa z1++[(58:UInt8)]).length+(h 0).length<=9223372036854775807/\(Lib.itoa z1++[(58:UInt8)]++h 0).length+([(44:UInt8)]).length<=9223372036854775807/\(111=111/\z0.length<=1099511627776)/\z2/\inR .i64 ((0:Int)+1)/\(∀(i:Nat),i<1->true=true)/\z2/\∃(O':oL7),wae [(0,.cells [.ptr 0 0,.own (List.length [AObj.cells [.nilptr,.nil] (111:TypeId),.row (9:TypeId) 1 1 (wax h) false]) z0.length] 111),(1,.row 9 1 1 (wax h) false),(List.length [AObj.cells [.nilptr,.nil] (111:TypeId),.row (9:TypeId) 1 1 (wax h) false],.row 5 1 z0.length (strG z0) false)] O'/\R (.tuple []) O'):=by kernel_rfl
theorem nf_txu1(L:List UInt8)(g:Nat->List UInt8)(R:oR7):wpFn te [(133,.det wcm),(132,.det S_ws)] [] 2 Tryz.f83 [.ptr 0 0,.own 1 1] [.cells [.ptr 0 0,.own 2 L.length] 111,.row 9 1 1 (wax g) false,.row 5 1 L.length (strG L) false] R=(letI z2:=L.length;letI z1:=(↑(g 0).length:Int);letI z0:=(wao z2 (strG L)++(Lib.itoa z1++[(58:UInt8)]++g 0++[(44:UInt8)]));letI z3:=(∀(i:Nat),i<z0.length->true=true:Prop);((0:Int)<=0/\(0:Int)<(↑1:Int))/\(0<1/\1=1)/\inR .i64 z1/\(Lib.itoa z1).length+([(58:UInt8)]).length<=9223372036854775807/\(Lib.itoa z1++[(58:UInt8)]).length+(g 0).length<=9223372036854775807/\(Lib.itoa z1++[(58:UInt8)]++g 0).length+([(44:UInt8)]).length<=9223372036854775807/\(∀(i:Nat),i<L.length->true=true)/\(111=111/\5=5/\L.length=L.length/\strG L=strG (wao z2 (strG L))/\z0.length<=1099511627776)/\z3/\inR .i64 ((0:Int)+1)/\(∀(i:Nat),i<1->true=true)/\z3/\∃(O':oL7),wae [(0,.cells [.ptr 0 0,.own (List.length [AObj.cells [.ptr 0 0,.own 2 z2] (111:TypeId),.row (9:TypeId) 1 1 (wax g) false,.row (5:TypeId) 1 z2 (strG L) false]) z0.length] 111),(1,.row 9 1 1 (wax g) false),(List.length [AObj.cells [.ptr 0 0,.own 2 z2] (111:TypeId),.row (9:TypeId) 1 1 (wax g) false,.row (5:TypeId) 1 z2 (strG L) false],.row 5 1 z0.length (strG z0) false)] O'/\R (.tuple []) O'):=by kernel_rfl
theorem nf_txu2(L:List UInt8)(g:Nat->List UInt8)(R:oR7):wpFn te [(133,.det wcm),(132,.det S_ws)] [] 3 Tryz.f83 [.ptr 0 0,.own 1 2] [.cells [.ptr 0 0,.own 2 L.length] 111,.row 9 1 2 (wax g) false,.row 5 1 L.length (strG L) false] R=(letI z4:=L.length;letI z3:=(↑(g 1).length:Int);letI z2:=(↑(g 0).length:Int);letI z0:=(wao z4 (strG L)++(Lib.itoa z2++[(58:UInt8)]++g 0++[(44:UInt8)]));letI z5:=(∀(i:Nat),i<z0.length->true=true:Prop);letI z1:=(wao z0.length (strG z0)++(Lib.itoa z3++[(58:UInt8)]++g 1++[(44:UInt8)]));letI z6:=(∀(i:Nat),i<z1.length->true=true:Prop);((0:Int)<=0/\(0:Int)<(↑2:Int))/\(0<2/\1=1)/\inR .i64 z2/\(Lib.itoa z2).length+([(58:UInt8)]).length<=9223372036854775807/\(Lib.itoa z2++[(58:UInt8)]).length+(g 0).length<=9223372036854775807/\(Lib.itoa z2++[(58:UInt8)]++g 0).length+([(44:UInt8)]).length<=9223372036854775807/\(∀(i:Nat),i<L.length->true=true)/\(111=111/\5=5/\L.length=L.length/\strG L=strG (wao z4 (strG L))/\z0.length<=1099511627776)/\z5/\inR .i64 ((0:Int)+1)/\((0:Int)<=0+1/\(0:Int)+1<(↑2:Int))/\(1<2/\1=1)/\inR .i64 z3/\(Lib.itoa z3).length+([(58:UInt8)]).length<=9223372036854775807/\(Lib.itoa z3++[(58:UInt8)]).length+(g 1).length<=9223372036854775807/\(Lib.itoa z3++[(58:UInt8)]++g 1).length+([(44:UInt8)]).length<=9223372036854775807/\z5/\(111=111/\5=5/\z0.length=z0.length/\strG z0=strG (wao z0.length (strG z0))/\z1.length<=1099511627776)/\z6/\inR .i64 ((0:Int)+1+1)/\(∀(i:Nat),i<2->true=true)/\z6/\∃(O':oL7),wae [(0,.cells [.ptr 0 0,.own (List.length [AObj.cells [.ptr 0 0,.own 2 z4] (111:TypeId),.row (9:TypeId) 1 2 (wax g) false,.row (5:TypeId) 1 z4 (strG L) false]) z1.length] 111),(1,.row 9 1 2 (wax g) false),(List.length [AObj.cells [.ptr 0 0,.own 2 z4] (111:TypeId),.row (9:TypeId) 1 2 (wax g) false,.row (5:TypeId) 1 z4 (strG L) false],.row 5 1 z1.length (strG z1) false)] O'/\R (.tuple []) O'):=by kernel_rfl
theorem nf_txu3(L:List UInt8)(g:Nat->List UInt8)(R:oR7):wpFn te [(133,.det wcm),(132,.det S_ws)] [] 4 Tryz.f83 [.ptr 0 0,.own 1 3] [.cells [.ptr 0 0,.own 2 L.length] 111,.row 9 1 3 (wax g) false,.row 5 1 L.length (strG L) false] R=(letI z6:=L.length;letI z5:=(↑(g 2).length:Int);letI z4:=(↑(g 1).length:Int);letI z3:=(↑(g 0).length:Int);letI z1:=(wao z6 (strG L)++(Lib.itoa z3++[(58:UInt8)]++g 0++[(44:UInt8)]));letI z7:=(∀(i:Nat),i<z1.length->true=true:Prop);letI z0:=(wao z1.length (strG z1)++(Lib.itoa z4++[(58:UInt8)]++g 1++[(44:UInt8)]));letI z8:=(∀(i:Nat),i<z0.length->true=true:Prop);letI z2:=(wao z0.length (strG z0)++(Lib.itoa z5++[(58:UInt8)]++g 2++[(44:UInt8)]));letI z9:=(∀(i:Nat),i<z2.length->true=true:Prop);((0:Int)<=0/\(0:Int)<(↑3:Int))/\(0<3/\1=1)/\inR .i64 z3/\(Lib.itoa z3).length+([(58:UInt8)]).length<=9223372036854775807/\(Lib.itoa z3++[(58:UInt8)]).length+(g 0).length<=9223372036854775807/\(Lib.itoa z3++[(58:UInt8)]++g 0).length+([(44:UInt8)]).length<=9223372036854775807/\(∀(i:Nat),i<L.length->true=true)/\(111=111/\5=5/\L.length=L.length/\strG L=strG (wao z6 (strG L))/\z1.length<=1099511627776)/\z7/\inR .i64 ((0:Int)+1)/\((0:Int)<=0+1/\(0:Int)+1<(↑3:Int))/\(1<3/\1=1)/\inR .i64 z4/\(Lib.itoa z4).length+([(58:UInt8)]).length<=9223372036854775807/\(Lib.itoa z4++[(58:UInt8)]).length+(g 1).length<=9223372036854775807/\(Lib.itoa z4++[(58:UInt8)]++g 1).length+([(44:UInt8)]).length<=9223372036854775807/\z7/\(111=111/\5=5/\z1.length=z1.length/\strG z1=strG (wao z1.length (strG z1))/\z0.length<=1099511627776)/\z8/\inR .i64 ((0:Int)+1+1)/\((0:Int)<=0+1+1/\(0:Int)+1+1<(↑3:Int))/\(2<3/\1=1)/\inR .i64 z5/\(Lib.itoa z5).length+([(58:UInt8)]).length<=9223372036854775807/\(Lib.itoa z5++[(58:UInt8)]).length+(g 2).length<=9223372036854775807/\(Lib.itoa z5++[(58:UInt8)]++g 2).length+([(44:UInt8)]).length<=9223372036854775807/\z8/\(111=111/\5=5/\z0.length=z0.length/\strG z0=strG (wao z0.length (strG z0))/\z2.length<=1099511627776)/\z9/\inR .i64 ((0:Int)+1+1+1)/\(∀(i:Nat),i<3->true=true)/\z9/\∃(O':oL7),wae [(0,.cells [.ptr 0 0,.own (List.length [AObj.cells [.ptr 0 0,.own 2 z6] (111:TypeId),.row (9:TypeId) 1 3 (wax g) false,.row (5:TypeId) 1 z6 (strG L) false]) z2.length] 111),(1,.row 9 1 3 (wax g) false),(List.length [AObj.cells [.ptr 0 0,.own 2 z6] (111:TypeId),.row (9:TypeId) 1 3 (wax g) false,.row (5:TypeId) 1 z6 (strG L) false],.row 5 1 z2.length (strG z2) false)] O'/\R (.tuple []) O'):=by kernel_rfl
theorem nf_nuu1(L:List UInt8)(g:Nat->Int)(R:oR7):wpFn te [(134,.det wee),(132,.det S_ws)] [] 2 Tryz.f84 [.ptr 0 0,.own 1 1] [.cells [.ptr 0 0,.own 2 L.length] 111,.row 2 1 1 (wab g) false,.row 5 1 L.length (strG L) false] R=(letI z1:=L.length;letI z0:=(wao z1 (strG L)++(Lib.itoa (g 0)++[(44:UInt8)]));letI z2:=(∀(i:Nat),i<z0.length->true=true:Prop);((0:Int)<=0/\(0:Int)<(↑1:Int))/\(0<1/\1=1)/\inR .i64 (g 0)/\(Lib.itoa (g 0)).length+([(44:UInt8)]).length<=9223372036854775807/\(∀(i:Nat),i<L.length->true=true)/\(111=111/\5=5/\L.length=L.length/\strG L=strG (wao z1 (strG L))/\z0.length<=1099511627776)/\z2/\inR .i64 ((0:Int)+1)/\(∀(i:Nat),i<1->true=true)/\z2/\∃(O':oL7),wae [(0,.cells [.ptr 0 0,.own (List.length [AObj.cells [.ptr 0 0,.own 2 z1] (111:TypeId),.row (2:TypeId) 1 1 (wab g) false,.row (5:TypeId) 1 z1 (strG L) false]) z0.length] 111),(1,.row 2 1 1 (wab g) false),(List.length [AObj.cells [.ptr 0 0,.own 2 z1] (111:TypeId),.row (2:TypeId) 1 1 (wab g) false,.row (5:TypeId) 1 z1 (strG L) false],.row 5 1 z0.length (strG z0) false)] O'/\R (.tuple []) O'):=by kernel_rfl
theorem nf_nuu2(L:List UInt8)(g:Nat->Int)(R:oR7):wpFn te [(134,.det wee),(132,.det S_ws)] [] 3 Tryz.f84 [.ptr 0 0,.own 1 2] [.cells [.ptr 0 0,.own 2 L.length] 111,.row 2 1 2 (wab g) false,.row 5 1 L.length (strG L) false] R=(letI z2:=L.length;letI z0:=(wao z2 (strG L)++(Lib.itoa (g 0)++[(44:UInt8)]));letI z3:=(∀(i:Nat),i<z0.length->true=true:Prop);letI z1:=(wao z0.length (strG z0)++(Lib.itoa (g 1)++[(44:UInt8)]));letI z4:=(∀(i:Nat),i<z1.length->true=true:Prop);((0:Int)<=0/\(0:Int)<(↑2:Int))/\(0<2/\1=1)/\inR .i64 (g 0)/\(Lib.itoa (g 0)).length+([(44:UInt8)]).length<=9223372036854775807/\(∀(i:Nat),i<L.length->true=true)/\(111=111/\5=5/\L.length=L.length/\strG L=strG (wao z2 (strG L))/\z0.length<=1099511627776)/\z3/\inR .i64 ((0:Int)+1)/\((0:Int)<=0+1/\(0:Int)+1<(↑2:Int))/\(1<2/\1=1)/\inR .i64 (g 1)/\(Lib.itoa (g 1)).length+([(44:UInt8)]).length<=9223372036854775807/\z3/\(111=111/\5=5/\z0.length=z0.length/\strG z0=strG (wao z0.length (strG z0))/\z1.length<=1099511627776)/\z4/\inR .i64 ((0:Int)+1+1)/\(∀(i:Nat),i<2->true=true)/\z4/\∃(O':oL7),wae [(0,.cells [.ptr 0 0,.own (List.length [AObj.cells [.ptr 0 0,.own 2 z2] (111:TypeId),.row (2:TypeId) 1 2 (wab g) false,.row (5:TypeId) 1 z2 (strG L) false]) z1.length] 111),(1,.row 2 1 2 (wab g) false),(List.length [AObj.cells [.ptr 0 0,.own 2 z2] (111:TypeId),.row (2:TypeId) 1 2 (wab g) false,.row (5:TypeId) 1 z2 (strG L) false],.row 5 1 z1.length (strG z1) false)] O'/\R (.tuple []) O'):=by kernel_rfl
theorem nf_nuu3(L:List UInt8)(g:Nat->Int)(R:oR7):wpFn te [(134,.det wee),(132,.det S_ws)] [] 4 Tryz.f84 [.ptr 0 0,.own 1 3] [.cells [.ptr 0 0,.own 2 L.length] 111,.row 2 1 3 (wab g) false,.row 5 1 L.length (strG L) false] R=(letI z3:=L.length;letI z1:=(wao z3 (strG L)++(Lib.itoa (g 0)++[(44:UInt8)]));letI z4:=(∀(i:Nat),i<z1.length->true=true:Prop);letI z0:=(wao z1.length (strG z1)++(Lib.itoa (g 1)++[(44:UInt8)]));letI z5:=(∀(i:Nat),i<z0.length->true=true:Prop);letI z2:=(wao z0.length (strG z0)++(Lib.itoa (g 2)++[(44:UInt8)]));letI z6:=(∀(i:Nat),i<z2.length->true=true:Prop);((0:Int)<=0/\(0:Int)<(↑3:Int))/\(0<3/\1=1)/\inR .i64 (g 0)/\(Lib.itoa (g 0)).length+([(44:UInt8)]).length<=9223372036854775807/\(∀(i:Nat),i<L.length->true=true)/\(111=111/\5=5/\L.length=L.length/\strG L=strG (wao z3 (strG L))/\z1.length<=1099511627776)/\z4/\inR .i64 ((0:Int)+1)/\((0:Int)<=0+1/\(0:Int)+1<(↑3:Int))/\(1<3/\1=1)/\inR .i64 (g 1)/\(Lib.itoa (g 1)).length+([(44:UInt8)]).length<=9223372036854775807/\z4/\(111=111/\5=5/\z1.length=z1.length/\strG z1=strG (wao z1.length (strG z1))/\z0.length<=1099511627776)/\z5/\inR .i64 ((0:Int)+1+1)/\((0:Int)<=0+1+1/\(0:Int)+1+1<(↑3:Int))/\(2<3/\1=1)/\inR .i64 (g 2)/\(Lib.itoa (g 2)).length+([(44:UInt8)]).length<=9223372036854775807/\z5/\(111=111/\5=5/\z0.length=z0.length/\strG z0=strG (wao z0.length (strG z0))/\z2.length<=1099511627776)/\z6/\inR .i64 ((0:Int)+1+1+1)/\(∀(i:Nat),i<3->true=true)/\z6/\∃(O':oL7),wae [(0,.cells [.ptr 0 0,.own (List.length [AObj.cells [.ptr 0 0,.own 2 z3] (111:TypeId),.row (2:TypeId) 1 3 (wab g) false,.row (5:TypeId) 1 z3 (strG L) false]) z2.length] 111),(1,.row 2 1 3 (wab g) false),(List.length [AObj.cells [.ptr 0 0,.own 2 z3] (111:TypeId),.row (2:TypeId) 1 3 (wab g) false,.row (5:TypeId) 1 z3 (strG L) false],.row 5 1 z2.length (strG z2) false)] O'/\R (.tuple []) O'):=by kernel_rfl
theorem nf_nuu4(L:List UInt8)(g:Nat->Int)(R:oR7):wpFn te [(134,.det wee),(132,.det S_ws)] [] 5 Tryz.f84 [.ptr 0 0,.own 1 4] [.cells [.ptr 0 0,.own 2 L.length] 111,.row 2 1 4 (wab g) false,.row 5 1 L.length (strG L) false] R=(letI z4:=L.length;letI z2:=(wao z4 (strG L)++(Lib.itoa (g 0)++[(44:UInt8)]));letI z5:=(∀(i:Nat),i<z2.length->true=true:Prop);letI z0:=(wao z2.length (strG z2)++(Lib.itoa (g 1)++[(44:UInt8)]));letI z6:=(∀(i:Nat),i<z0.length->true=true:Prop);letI z1:=(wao z0.length (strG z0)++(Lib.itoa (g 2)++[(44:UInt8)]));letI z7:=(∀(i:Nat),i<z1.length->true=true:Prop);letI z3:=(wao z1.length (strG z1)++(Lib.itoa (g 3)++[(44:UInt8)]));letI z8:=(∀(i:Nat),i<z3.length->true=true:Prop);((0:Int)<=0/\(0:Int)<(↑4:Int))/\(0<4/\1=1)/\inR .i64 (g 0)/\(Lib.itoa (g 0)).length+([(44:UInt8)]).length<=9223372036854775807/\(∀(i:Nat),i<L.length->true=true)/\(111=111/\5=5/\L.length=L.length/\strG L=strG (wao z4 (strG L))/\z2.length<=1099511627776)/\z5/\inR .i64 ((0:Int)+1)/\((0:Int)<=0+1/\(0:Int)+1<(↑4:Int))/\(1<4/\1=1)/\inR .i64 (g 1)/\(Lib.itoa (g 1)).length+([(44:UInt8)]).length<=9223372036854775807/\z5/\(111=111/\5=5/\z2.length=z2.length/\strG z2=strG (wao z2.length (strG z2))/\z0.length<=1099511627776)/\z6/\inR .i64 ((0:Int)+1+1)/\((0:Int)<=0+1+1/\(0:Int)+1+1<(↑4:Int))/\(2<4/\1=1)/\inR .i64 (g 2)/\(Lib.itoa (g 2)).length+([(44:UInt8)]).length<=9223372036854775807/\z6/\(111=111/\5=5/\z0.length=z0.length/\strG z0=strG (wao z0.length (strG z0))/\z1.length<=1099511627776)/\z7/\inR .i64 ((0:Int)+1+1+1)/\((0:Int)<=0+1+1+1/\(0:Int)+1+1+1<(↑4:Int))/\(3<4/\1=1)/\inR .i64 (g 3)/\(Lib.itoa (g 3)).length+([(44:UInt8)]).length<=9223372036854775807/\z7/\(111=111/\5=5/\z1.length=z1.length/\strG z1=strG (wao z1.length (strG z1))/\z3.length<=1099511627776)/\z8/\inR .i64 ((0:Int)+1+1+1+1)/\(∀(i:Nat),i<4->true=true)/\z8/\∃(O':oL7),wae [(0,.cells [.ptr 0 0,.own (List.length [AObj.cells [.ptr 0 0,.own 2 z4] (111:TypeId),.row (2:TypeId) 1 4 (wab g) false,.row (5:TypeId) 1 z4 (strG L) false]) z3.length] 111),(1,.row 2 1 4 (wab g) false),(List.length [AObj.cells [.ptr 0 0,.own 2 z4] (111:TypeId),.row (2:TypeId) 1 4 (wab g) false,.row (5:TypeId) 1 z4 (strG L) false],.row 5 1 z3.length (strG z3) false)] O'/\R (.tuple []) O'):=by kernel_rfl
theorem nf_bstr(L:List UInt8)(R:oR7):wpFn te [] [] 0 Tryz.f85 [.ptr 0 0] [.cells [.ptr 0 0,.own 1 L.length] 111,.row 5 1 L.length (strG L) false] R=(letI z0:=(L.length:Int);0<L.length/\((0:Int)<z0/\z0<=z0/\(∀(i:Nat),i<z0.toNat->isU8 (strG L i)=true)/\∀(i:Nat),i<z0.toNat->∀(q:Int),strG L i=[.int .u8 q]->(0:Int)<=q/\q<256)/\R (.str (wao z0.toNat (strG L))) [(0,.cells [.ptr 0 0,.own 1 L.length] 111)]):=by kernel_rfl
theorem nf_dec(n:Int)(R:oR7):wpFn te [] [(5,L_dc n)] 0 Tryz.f135 [.q n] [] R=(wad (decide (n=0)) (R (.str [(48:UInt8)]) []) (some (St.mk [(0,.q n),(3,.str []),(4,.q n)] [] 0 [])=some (St.mk [(0,.q n),(3,.str (DcS.mk [] n).out),(4,.q (DcS.mk [] n).m)] [] 0 [])/\inR .i64 n/\wad (decide (n<0)) (([(45:UInt8)]).length+(digT (Int.natAbs n)).length<=9223372036854775807/\R (.str ([(45:UInt8)]++digT (Int.natAbs n))) []) (R (.str (digT (Int.natAbs n))) []))):=by kernel_rfl
theorem w0d(n:Int)(i:DcS)(P:DcS->Prop)(R:eR7):wa0 ⟨te,[],[],0,31,0⟩ (wa2 Tryz.f135 5) [0,3,4] [0,3] [] (S_dc n) P R (S_dc n i)=(letI z5:=(1<=16777216/\1=1/\1<=9223372036854775807:Prop);letI z4:=(Int.tdiv i.m (10:Int));letI z6:=((10:Int)≠(0:Int)/\inR .i64 z4:Prop);letI z1:=(List.flatten (List.replicate (nat_lit 0) [.int .u8 0]):List AV);letI z0:=TI.sz (TI.mk (TypeDesc.int IntKind.u8) 1 1 (Value.int IntKind.u8 0) false);letI z3:=(waq z0 (.int .u8 ((48:Int)+Int.tmod i.m (10:Int))::List.append [] z1));letI z2:=(waq z0 (.int .u8 ((48:Int)+((0:Int) - Int.tmod i.m (10:Int)))::List.append [] z1));wad (!decide (i.m=0)) ((10:Int)≠(0:Int)/\wad (decide (Int.tmod i.m (10:Int)<0)) (inR .i64 ((0:Int) - Int.tmod i.m (10:Int))/\inR .i64 ((48:Int)+((0:Int) - Int.tmod i.m (10:Int)))/\inR .u8 ((48:Int)+((0:Int) - Int.tmod i.m (10:Int)))/\z5/\((1<=1/\1=1)/\∀(i_1:Nat),i_1<1->isU8 (waq z0 (.int .u8 ((48:Int)+((0:Int) - Int.tmod i.m (10:Int)))::List.append [] z1) i_1)=true)/\(wao 1 z2).length+i.out.length<=9223372036854775807/\z6/\∃(i':DcS),some (St.mk [(0,.q n),(3,.str (wao 1 z2++i.out)),(4,.q z4)] [] 0 [])=some (St.mk [(0,.q n),(3,.str i'.out),(4,.q i'.m)] [] 0 [])/\P i') (inR .i64 ((48:Int)+Int.tmod i.m (10:Int))/\inR .u8 ((48:Int)+Int.tmod i.m (10:Int))/\z5/\((1<=1/\1=1)/\∀(i_1:Nat),i_1<1->isU8 (waq z0 (.int .u8 ((48:Int)+Int.tmod i.m (10:Int))::List.append [] z1) i_1)=true)/\(wao 1 z3).length+i.out.length<=9223372036854775807/\z6/\∃(i':DcS),some (St.mk [(0,.q n),(3,.str (wao 1 z3++i.out)),(4,.q z4)] [] 0 [])=some (St.mk [(0,.q n),(3,.str i'.out),(4,.q i'.m)] [] 0 [])/\P i')) (R (.exit 0) (St.mk [(0,.q n),(3,.str i.out)] [] 0 []))):=by kernel_rfl
theorem nf_tr15(g:Nat->List UInt8)(n:Nat)(R:oR7):wpFn te [] [(3,wnz g n)] 0 Tryz.f86 [.own 0 n] [.row 9 1 n (wax g) false] R=(letI z0:=([(0,.row 9 1 n (wax g) false)]:oL7);(TEq [(3,.str []),(6,.own 0 n),(7,.q (n:Int)),(8,.q 0)] [(3,.str (txF g 0)),(6,.own 0 n),(7,.q (n:Int)),(8,.q (↑0:Int))]/\wae z0 z0)/\n<=100/\(∀(i:Nat),i<n->(g i).length<=1099511627776)/\(∀(i:Nat),i<n->true=true)/\∃(O':oL7),wae z0 O'/\R (.str (txF g n)) O'):=by kernel_rfl
theorem wyr(g:Nat->List UInt8)(n k:Nat)(P:Nat->Prop)(R:eR7):wa0 ⟨te,[(135,.det wcm)],[],1,23,0⟩ (wa2 Tryz.f86 3) [3,6,7,8] [3] [] (wlm g n) P R (wlm g n k)=(letI z2:=([(0,.row 9 1 n (wax g) false)]:oL7);letI z1:=(k:Int).toNat;letI z0:=(↑(g z1).length:Int);wad (decide ((k:Int)<(n:Int))) (((0:Int)<=(k:Int)/\(k:Int)<(n:Int))/\((k:Int).toNat<n/\1=1)/\inR .i64 z0/\(txF g k).length+(Lib.itoa z0).length<=9223372036854775807/\(txF g k++Lib.itoa z0).length+([(58:UInt8)]).length<=9223372036854775807/\(txF g k++Lib.itoa z0++[(58:UInt8)]).length+(g z1).length<=9223372036854775807/\(txF g k++Lib.itoa z0++[(58:UInt8)]++g z1).length+([(44:UInt8)]).length<=9223372036854775807/\inR .i64 ((k:Int)+1)/\∃(i':Nat),(TEq [(3,.str (txF g k++Lib.itoa z0++[(58:UInt8)]++g z1++[(44:UInt8)])),(6,.own 0 n),(7,.q (n:Int)),(8,.q ((k:Int)+1))] [(3,.str (txF g i')),(6,.own 0 n),(7,.q (n:Int)),(8,.q (i':Int))]/\wae z2 z2)/\P i') ((∀(i:Nat),i<n->true=true)/\∃(O':oL7),wae z2 O'/\R (.exit 0) (St.mk [(3,.str (txF g k))] O' 1 []))):=by kernel_rfl
theorem nf_nr15(g:Nat->Int)(n:Nat)(R:oR7):wpFn te [] [(3,wn3 g n)] 0 Tryz.f87 [.own 0 n] [.row 2 1 n (wab g) false] R=(letI z0:=([(0,.row 2 1 n (wab g) false)]:oL7);(TEq [(3,.str []),(6,.own 0 n),(7,.q (n:Int)),(8,.q 0)] [(3,.str (nuF g 0)),(6,.own 0 n),(7,.q (n:Int)),(8,.q (↑0:Int))]/\wae z0 z0)/\n<=100/\(∀(i:Nat),i<n->inR .i64 (g i))/\(∀(i:Nat),i<n->true=true)/\∃(O':oL7),wae z0 O'/\R (.str (nuF g n)) O'):=by kernel_rfl
theorem wzg(g:Nat->Int)(n k:Nat)(P:Nat->Prop)(R:eR7):wa0 ⟨te,[(135,.det wcm)],[],1,19,0⟩ (wa2 Tryz.f87 3) [3,6,7,8] [3] [] (wl4 g n) P R (wl4 g n k)=(letI z1:=([(0,.row 2 1 n (wab g) false)]:oL7);letI z0:=(g (k:Int).toNat);wad (decide ((k:Int)<(n:Int))) (((0:Int)<=(k:Int)/\(k:Int)<(n:Int))/\((k:Int).toNat<n/\1=1)/\inR .i64 z0/\(nuF g k).length+(Lib.itoa z0).length<=9223372036854775807/\(nuF g k++Lib.itoa z0).length+([(44:UInt8)]).length<=9223372036854775807/\inR .i64 ((k:Int)+1)/\∃(i':Nat),(TEq [(3,.str (nuF g k++Lib.itoa z0++[(44:UInt8)])),(6,.own 0 n),(7,.q (n:Int)),(8,.q ((k:Int)+1))] [(3,.str (nuF g i')),(6,.own 0 n),(7,.q (n:Int)),(8,.q (i':Int))]/\wae z1 z1)/\P i') ((∀(i:Nat),i<n->true=true)/\∃(O':oL7),wae z1 O'/\R (.exit 0) (St.mk [(3,.str (nuF g k))] O' 1 []))):=by kernel_rfl
theorem wdf(L:List UInt8):wao L.length (strG L)=L:=by
 apply List.ext_getElem?;intro i;unfold wao;rw[List.getElem?_map]
 rcases Nat.lt_or_ge i L.length with h | h
 ·rw[List.getElem?_range h,Option.map_some,List.getElem?_eq_getElem h];simp[strG,wap,h]
 ·rw[List.getElem?_eq_none (by simpa using h),List.getElem?_eq_none h];rfl
theorem wk2(m:Nat)(f:Nat->List AV):(wao m f).length=m:=by simp[wao]
theorem wsd(L s:List UInt8)(i:Nat):apF L.length (strG L) (strG s) i=strG (L++s) i:=by
 unfold apF strG
 by_cases h:i<L.length
 ·rw[if_pos h];simp[List.getD,List.getElem?_append_left h]
 ·rw[if_neg h];simp[List.getD,List.getElem?_append_right (show L.length<=i by omega)]
theorem wi7(s:List UInt8):Go.Lib.itoa (s.length:Int)++[58]++s++[44]=txtE s:=by simp[txtE]
theorem wjp(n:Int):Go.Lib.itoa n++[44]=numE n:=rfl
theorem wbs(s:List UInt8):(txtE s).length=(Go.Lib.itoa (s.length:Int)).length+s.length+2:=by
 simp[txtE];omega
theorem wen(n:Int):(numE n).length=(Go.Lib.itoa n).length+1:=by simp[numE]
theorem wcv{n:Int}(h:inR .i64 n):(Go.Lib.itoa n).length<=20:=by
 simp only[inR] at h;exact w1u n (by omega)
theorem lenR{n:Nat}(h:n<=1099511627776):inR .i64 (n:Int):=by simp only[inR];omega
theorem weu(hP:C.P=Tryz.prog):waf C 132 S_ws:=by
 rintro args objs U Os vc h hvc;unfold S_ws at h;split at h<;>simp only[sI7,pI7,reduceCtorEq] at h
 ·rename_i s t;obtain⟨rfl,rfl,rfl⟩:=h;obtain⟨rfl,hs⟩:=hvc;refine waf.wp0 (prg hP) [(164,.det S_cc)] 0 (.cons (cc_ok hP) .nil) (hP ▸ Tryz.func132) rfl rfl rfl ?_;rw[nf_ws0];refine⟨rfl,⟨trivial,rfl,by omega,?_⟩,λ_ _=>rfl,_,wal _,rfl,rfl⟩;show s.length * 1<=_;omega
 ·rename_i s n t t8 m f;obtain⟨rfl,rfl,rfl⟩:=h;obtain⟨rfl,rfl,rfl,hf,hlen⟩:=hvc;have hl:=wk2 n f;generalize wao n f=L at *;subst hf;subst hl;refine waf.wp0 (prg hP) [(164,.det S_cc)] 0 (.cons (cc_ok hP) .nil) (hP ▸ Tryz.func132) rfl rfl rfl ?_;rw[nf_ws];have hlen:=hlen;rw[lA7] at hlen;refine⟨λ_ _=>rfl,rfl,λ_ _=>rfl,⟨trivial,lR7 _,rfl,rfl,rfl,by omega,?_⟩,λi _=>by rw[wsd];rfl,_,?_,rfl,rfl⟩
  ·show (L.length+s.length) * 1<=_;omega
  ·rw[lA7];exact⟨rfl,⟨rfl,rfl,rfl,rfl,rfl,λi _=>wsd L s i⟩,trivial⟩
theorem tu1(hP:C.P=Tryz.prog)(hL:∀w,C.laid w->LaidW w)(L:List UInt8)(h:Nat->List AV)(hh:∀i,i<1->h i=wax (stOf h) i)(hlen:(L++txF (stOf h) 1).length<=1099511627776):
  wan C 83 [.ptr 0 0,.own 1 1] [.cells [.ptr 0 0,.own 2 L.length] 111,.row 9 1 1 h false,.row 5 1 L.length (strG L) false]
   λu O=>u= .tuple []/\O=[(0,.cells [.ptr 0 0,.own 3 (L++txF (stOf h) 1).length] 111),(1,.row 9 1 1 h false),(3,.row 5 1 (L++txF (stOf h) 1).length (strG (L++txF (stOf h) 1)) false)]:=by
 refine wan.rowEq 1 (f':=wax (stOf h)) rfl (λi hi=>(hh i hi).symm) ?_;refine waf.wp0 (prg hP) [(133,.det wcm),(132,.det S_ws)] 2 (.cons (wj7 hP hL) (.cons (weu hP) .nil)) (hP ▸ Tryz.func83) rfl rfl rfl ?_;show wpFn _ _ _ _ _ [.ptr 0 0,.own 1 1] [.cells [.ptr 0 0,.own 2 L.length] 111,.row 9 1 1 (wax (stOf h)) false,.row 5 1 L.length (strG L) false] _;rw[nf_txu1];have hh':∀i,i<1->wax (stOf h) i=h i:=λi hi=>(hh i hi).symm;generalize stOf h=g at *;have e:L++txF g 1=L++txtE (g 0):=by simp[txF]
 rw[e] at hlen ⊢;simp only[wdf,wi7];have hlen2:L.length+((Go.Lib.itoa ((g 0).length:Int)).length+(g 0).length+2)<=1099511627776:=by simpa only[lA7,wbs] using hlen
 repeat' first
  |exact trivial
  |(intro _ _;first | rfl | trivial)
  |exact rfl
  |omega
  |(simp only[inR];omega)
  |(simp only[inR,lA7,List.length_cons,List.length_nil,wbs];omega)
  |(refine⟨_,?_,trivial,rfl⟩;exact⟨rfl,⟨rfl,rfl,rfl,rfl,rfl,hh'⟩,rQ7,trivial⟩)
  |(refine And.intro ?_ ?_)
theorem tu2(hP:C.P=Tryz.prog)(hL:∀w,C.laid w->LaidW w)(L:List UInt8)(h:Nat->List AV)(hh:∀i,i<2->h i=wax (stOf h) i)(hlen:(L++txF (stOf h) 2).length<=1099511627776):
  wan C 83 [.ptr 0 0,.own 1 2] [.cells [.ptr 0 0,.own 2 L.length] 111,.row 9 1 2 h false,.row 5 1 L.length (strG L) false]
   λu O=>u= .tuple []/\O=[(0,.cells [.ptr 0 0,.own 3 (L++txF (stOf h) 2).length] 111),(1,.row 9 1 2 h false),(3,.row 5 1 (L++txF (stOf h) 2).length (strG (L++txF (stOf h) 2)) false)]:=by
 refine wan.rowEq 1 (f':=wax (stOf h)) rfl (λi hi=>(hh i hi).symm) ?_;refine waf.wp0 (prg hP) [(133,.det wcm),(132,.det S_ws)] 3 (.cons (wj7 hP hL) (.cons (weu hP) .nil)) (hP ▸ Tryz.func83) rfl rfl rfl ?_;show wpFn _ _ _ _ _ [.ptr 0 0,.own 1 2] [.cells [.ptr 0 0,.own 2 L.length] 111,.row 9 1 2 (wax (stOf h)) false,.row 5 1 L.length (strG L) false] _;rw[nf_txu2];have hh':∀i,i<2->wax (stOf h) i=h i:=λi hi=>(hh i hi).symm;generalize stOf h=g at *;have e:L++txF g 2=L++txtE (g 0)++txtE (g 1):=by simp[txF]
 rw[e] at hlen ⊢;simp only[wdf,wi7];have hlen2:L.length+((Go.Lib.itoa ((g 0).length:Int)).length+(g 0).length+2)+((Go.Lib.itoa ((g 1).length:Int)).length+(g 1).length+2)<=1099511627776:=by simpa only[lA7,wbs] using hlen
 repeat' first
  |exact trivial
  |(intro _ _;first | rfl | trivial)
  |exact rfl
  |omega
  |(simp only[inR];omega)
  |(simp only[inR,lA7,List.length_cons,List.length_nil,wbs];omega)
  |(refine⟨_,?_,trivial,rfl⟩;exact⟨rfl,⟨rfl,rfl,rfl,rfl,rfl,hh'⟩,rQ7,trivial⟩)
  |(refine And.intro ?_ ?_)
theorem tu3(hP:C.P=Tryz.prog)(hL:∀w,C.laid w->LaidW w)(L:List UInt8)(h:Nat->List AV)(hh:∀i,i<3->h i=wax (stOf h) i)(hlen:(L++txF (stOf h) 3).length<=1099511627776):
  wan C 83 [.ptr 0 0,.own 1 3] [.cells [.ptr 0 0,.own 2 L.length] 111,.row 9 1 3 h false,.row 5 1 L.length (strG L) false]
   λu O=>u= .tuple []/\O=[(0,.cells [.ptr 0 0,.own 3 (L++txF (stOf h) 3).length] 111),(1,.row 9 1 3 h false),(3,.row 5 1 (L++txF (stOf h) 3).length (strG (L++txF (stOf h) 3)) false)]:=by
 refine wan.rowEq 1 (f':=wax (stOf h)) rfl (λi hi=>(hh i hi).symm) ?_;refine waf.wp0 (prg hP) [(133,.det wcm),(132,.det S_ws)] 4 (.cons (wj7 hP hL) (.cons (weu hP) .nil)) (hP ▸ Tryz.func83) rfl rfl rfl ?_;show wpFn _ _ _ _ _ [.ptr 0 0,.own 1 3] [.cells [.ptr 0 0,.own 2 L.length] 111,.row 9 1 3 (wax (stOf h)) false,.row 5 1 L.length (strG L) false] _;rw[nf_txu3];have hh':∀i,i<3->wax (stOf h) i=h i:=λi hi=>(hh i hi).symm;generalize stOf h=g at *;have e:L++txF g 3=L++txtE (g 0)++txtE (g 1)++txtE (g 2):=by simp[txF]
 rw[e] at hlen ⊢;simp only[wdf,wi7];have hlen2:L.length+((Go.Lib.itoa ((g 0).length:Int)).length+(g 0).length+2)+((Go.Lib.itoa ((g 1).length:Int)).length+(g 1).length+2)+((Go.Lib.itoa ((g 2).length:Int)).length+(g 2).length+2)<=1099511627776:=by simpa only[lA7,wbs] using hlen
 repeat' first
  |exact trivial
  |(intro _ _;first | rfl | trivial)
  |exact rfl
  |omega
  |(simp only[inR];omega)
  |(simp only[inR,lA7,List.length_cons,List.length_nil,wbs];omega)
  |(refine⟨_,?_,trivial,rfl⟩;exact⟨rfl,⟨rfl,rfl,rfl,rfl,rfl,hh'⟩,rQ7,trivial⟩)
  |(refine And.intro ?_ ?_)
theorem nu1(hP:C.P=Tryz.prog)(hL:∀w,C.laid w->LaidW w)(L:List UInt8)(h:Nat->List AV)(hh:∀i,i<1->h i=wab (vInt h) i)(hr:∀i,i<1->inR .i64 (vInt h i))(hlen:(L++nuF (vInt h) 1).length<=1099511627776):
  wan C 84 [.ptr 0 0,.own 1 1] [.cells [.ptr 0 0,.own 2 L.length] 111,.row 2 1 1 h false,.row 5 1 L.length (strG L) false]
   λu O=>u= .tuple []/\O=[(0,.cells [.ptr 0 0,.own 3 (L++nuF (vInt h) 1).length] 111),(1,.row 2 1 1 h false),(3,.row 5 1 (L++nuF (vInt h) 1).length (strG (L++nuF (vInt h) 1)) false)]:=by
 refine wan.rowEq 1 (f':=wab (vInt h)) rfl (λi hi=>(hh i hi).symm) ?_;refine waf.wp0 (prg hP) [(134,.det wee),(132,.det S_ws)] 2 (.cons (wkf hP hL) (.cons (weu hP) .nil)) (hP ▸ Tryz.func84) rfl rfl rfl ?_;show wpFn _ _ _ _ _ [.ptr 0 0,.own 1 1] [.cells [.ptr 0 0,.own 2 L.length] 111,.row 2 1 1 (wab (vInt h)) false,.row 5 1 L.length (strG L) false] _;rw[nf_nuu1];have hh':∀i,i<1->wab (vInt h) i=h i:=λi hi=>(hh i hi).symm;generalize vInt h=g at *;have r0:=hr 0 (by omega);have z0:=wcv r0;have e:L++nuF g 1=L++numE (g 0):=by simp[nuF]
 rw[e] at hlen ⊢;simp only[wdf,wjp];have hlen2:L.length+((Go.Lib.itoa (g 0)).length+1)<=1099511627776:=by simpa only[lA7,wen] using hlen
 repeat' first
  |exact trivial
  |(intro _ _;first | rfl | trivial)
  |exact rfl
  |omega
  |(simp only[inR];omega)
  |(simp only[inR,lA7,List.length_cons,List.length_nil,wen];omega)
  |(refine⟨_,?_,trivial,rfl⟩;exact⟨rfl,⟨rfl,rfl,rfl,rfl,rfl,hh'⟩,rQ7,trivial⟩)
  |(refine And.intro ?_ ?_)
theorem nu2(hP:C.P=Tryz.prog)(hL:∀w,C.laid w->LaidW w)(L:List UInt8)(h:Nat->List AV)(hh:∀i,i<2->h i=wab (vInt h) i)(hr:∀i,i<2->inR .i64 (vInt h i))(hlen:(L++nuF (vInt h) 2).length<=1099511627776):
  wan C 84 [.ptr 0 0,.own 1 2] [.cells [.ptr 0 0,.own 2 L.length] 111,.row 2 1 2 h false,.row 5 1 L.length (strG L) false]
   λu O=>u= .tuple []/\O=[(0,.cells [.ptr 0 0,.own 3 (L++nuF (vInt h) 2).length] 111),(1,.row 2 1 2 h false),(3,.row 5 1 (L++nuF (vInt h) 2).length (strG (L++nuF (vInt h) 2)) false)]:=by
 refine wan.rowEq 1 (f':=wab (vInt h)) rfl (λi hi=>(hh i hi).symm) ?_;refine waf.wp0 (prg hP) [(134,.det wee),(132,.det S_ws)] 3 (.cons (wkf hP hL) (.cons (weu hP) .nil)) (hP ▸ Tryz.func84) rfl rfl rfl ?_;show wpFn _ _ _ _ _ [.ptr 0 0,.own 1 2] [.cells [.ptr 0 0,.own 2 L.length] 111,.row 2 1 2 (wab (vInt h)) false,.row 5 1 L.length (strG L) false] _;rw[nf_nuu2];have hh':∀i,i<2->wab (vInt h) i=h i:=λi hi=>(hh i hi).symm;generalize vInt h=g at *;have r0:=hr 0 (by omega);have z0:=wcv r0;have r1:=hr 1 (by omega);have z1:=wcv r1;have e:L++nuF g 2=L++numE (g 0)++numE (g 1):=by simp[nuF]
 rw[e] at hlen ⊢;simp only[wdf,wjp];have hlen2:L.length+((Go.Lib.itoa (g 0)).length+1)+((Go.Lib.itoa (g 1)).length+1)<=1099511627776:=by simpa only[lA7,wen] using hlen
 repeat' first
  |exact trivial
  |(intro _ _;first | rfl | trivial)
  |exact rfl
  |omega
  |(simp only[inR];omega)
  |(simp only[inR,lA7,List.length_cons,List.length_nil,wen];omega)
  |(refine⟨_,?_,trivial,rfl⟩;exact⟨rfl,⟨rfl,rfl,rfl,rfl,rfl,hh'⟩,rQ7,trivial⟩)
  |(refine And.intro ?_ ?_)
theorem nu3(hP:C.P=Tryz.prog)(hL:∀w,C.laid w->LaidW w)(L:List UInt8)(h:Nat->List AV)(hh:∀i,i<3->h i=wab (vInt h) i)(hr:∀i,i<3->inR .i64 (vInt h i))(hlen:(L++nuF (vInt h) 3).length<=1099511627776):
  wan C 84 [.ptr 0 0,.own 1 3] [.cells [.ptr 0 0,.own 2 L.length] 111,.row 2 1 3 h false,.row 5 1 L.length (strG L) false]
   λu O=>u= .tuple []/\O=[(0,.cells [.ptr 0 0,.own 3 (L++nuF (vInt h) 3).length] 111),(1,.row 2 1 3 h false),(3,.row 5 1 (L++nuF (vInt h) 3).length (strG (L++nuF (vInt h) 3)) false)]:=by
 refine wan.rowEq 1 (f':=wab (vInt h)) rfl (λi hi=>(hh i hi).symm) ?_;refine waf.wp0 (prg hP) [(134,.det wee),(132,.det S_ws)] 4 (.cons (wkf hP hL) (.cons (weu hP) .nil)) (hP ▸ Tryz.func84) rfl rfl rfl ?_;show wpFn _ _ _ _ _ [.ptr 0 0,.own 1 3] [.cells [.ptr 0 0,.own 2 L.length] 111,.row 2 1 3 (wab (vInt h)) false,.row 5 1 L.length (strG L) false] _;rw[nf_nuu3];have hh':∀i,i<3->wab (vInt h) i=h i:=λi hi=>(hh i hi).symm;generalize vInt h=g at *;have r0:=hr 0 (by omega);have z0:=wcv r0;have r1:=hr 1 (by omega);have z1:=wcv r1;have r2:=hr 2 (by omega);have z2:=wcv r2;have e:L++nuF g 3=L++numE (g 0)++numE (g 1)++numE (g 2):=by simp[nuF]
 rw[e] at hlen ⊢;simp only[wdf,wjp];have hlen2:L.length+((Go.Lib.itoa (g 0)).length+1)+((Go.Lib.itoa (g 1)).length+1)+((Go.Lib.itoa (g 2)).length+1)<=1099511627776:=by simpa only[lA7,wen] using hlen
 repeat' first
  |exact trivial
  |(intro _ _;first | rfl | trivial)
  |exact rfl
  |omega
  |(simp only[inR];omega)
  |(simp only[inR,lA7,List.length_cons,List.length_nil,wen];omega)
  |(refine⟨_,?_,trivial,rfl⟩;exact⟨rfl,⟨rfl,rfl,rfl,rfl,rfl,hh'⟩,rQ7,trivial⟩)
  |(refine And.intro ?_ ?_)
theorem nu4(hP:C.P=Tryz.prog)(hL:∀w,C.laid w->LaidW w)(L:List UInt8)(h:Nat->List AV)(hh:∀i,i<4->h i=wab (vInt h) i)(hr:∀i,i<4->inR .i64 (vInt h i))(hlen:(L++nuF (vInt h) 4).length<=1099511627776):
  wan C 84 [.ptr 0 0,.own 1 4] [.cells [.ptr 0 0,.own 2 L.length] 111,.row 2 1 4 h false,.row 5 1 L.length (strG L) false]
   λu O=>u= .tuple []/\O=[(0,.cells [.ptr 0 0,.own 3 (L++nuF (vInt h) 4).length] 111),(1,.row 2 1 4 h false),(3,.row 5 1 (L++nuF (vInt h) 4).length (strG (L++nuF (vInt h) 4)) false)]:=by
 refine wan.rowEq 1 (f':=wab (vInt h)) rfl (λi hi=>(hh i hi).symm) ?_;refine waf.wp0 (prg hP) [(134,.det wee),(132,.det S_ws)] 5 (.cons (wkf hP hL) (.cons (weu hP) .nil)) (hP ▸ Tryz.func84) rfl rfl rfl ?_;show wpFn _ _ _ _ _ [.ptr 0 0,.own 1 4] [.cells [.ptr 0 0,.own 2 L.length] 111,.row 2 1 4 (wab (vInt h)) false,.row 5 1 L.length (strG L) false] _;rw[nf_nuu4];have hh':∀i,i<4->wab (vInt h) i=h i:=λi hi=>(hh i hi).symm;generalize vInt h=g at *;have r0:=hr 0 (by omega);have z0:=wcv r0;have r1:=hr 1 (by omega);have z1:=wcv r1;have r2:=hr 2 (by omega);have z2:=wcv r2;have r3:=hr 3 (by omega);have z3:=wcv r3;have e:L++nuF g 4=L++numE (g 0)++numE (g 1)++numE (g 2)++numE (g 3):=by simp[nuF]
 rw[e] at hlen ⊢;simp only[wdf,wjp];have hlen2:L.length+((Go.Lib.itoa (g 0)).length+1)+((Go.Lib.itoa (g 1)).length+1)+((Go.Lib.itoa (g 2)).length+1)+((Go.Lib.itoa (g 3)).length+1)<=1099511627776:=by simpa only[lA7,wen] using hlen
 repeat' first
  |exact trivial
  |(intro _ _;first | rfl | trivial)
  |exact rfl
  |omega
  |(simp only[inR];omega)
  |(simp only[inR,lA7,List.length_cons,List.length_nil,wen];omega)
  |(refine⟨_,?_,trivial,rfl⟩;exact⟨rfl,⟨rfl,rfl,rfl,rfl,rfl,hh'⟩,rQ7,trivial⟩)
  |(refine And.intro ?_ ?_)
theorem wr8(hP:C.P=Tryz.prog)(hL:∀w,C.laid w->LaidW w):waf C 83 S_text:=by
 rintro args objs U Os vc h hvc;unfold S_text at h;split at h<;>simp only[sI7,pI7,reduceCtorEq] at h
 ·rename_i n t ts n' h';obtain⟨rfl,rfl,rfl⟩:=h;obtain⟨rfl,rfl,rfl,rfl,hh,hlen⟩:=hvc;have hh0:∀i,i<1->h' i=wax (stOf h') i:=λi hi=>by
   match i,hi with
   |0,_=>exact hh
  refine wan.rowEq 1 (f':=wax (stOf h')) rfl (λi hi=>(hh0 i hi).symm) ?_;refine waf.wp0 (prg hP) [(133,.det wcm),(132,.det S_ws)] 2 (.cons (wj7 hP hL) (.cons (weu hP) .nil)) (hP ▸ Tryz.func83) rfl rfl rfl ?_;show wpFn _ _ _ _ _ [.ptr 0 0,.own 1 1] [.cells [.nilptr,.nil] 111,.row 9 1 1 (wax (stOf h')) false] _;rw[nf_tx1];have hh':∀i,i<1->wax (stOf h') i=h' i:=λi hi=>(hh0 i hi).symm;generalize stOf h'=g at *;have e:txF g 1=txtE (g 0):=by simp[txF]
  rw[e] at hlen ⊢;simp only[wi7];have hlen2:=hlen;rw[wbs] at hlen2
  repeat' first
   |exact trivial
   |(intro _ _;first | rfl | trivial)
   |exact rfl
   |omega
   |(simp only[inR];omega)
   |(simp only[inR,lA7,List.length_cons,List.length_nil,wbs];omega)
   |(refine⟨_,?_,trivial,rfl⟩;exact⟨rfl,⟨rfl,rfl,rfl,rfl,rfl,hh'⟩,rQ7,trivial⟩)
   |(refine And.intro ?_ ?_)
 ·rename_i n c t ts n' h' t8 m f;obtain⟨rfl,rfl,rfl⟩:=h;obtain⟨rfl,rfl,rfl,rfl,rfl,hn,hf,hh,hlen⟩:=hvc;have hl:=wk2 c f;generalize wao c f=L at *;subst hf;subst hl;have h3:n=1∨n=2∨n=3:=by omega
  rcases h3 with rfl | rfl | rfl
  ·exact tu1 hP hL L h' hh hlen
  ·exact tu2 hP hL L h' hh hlen
  ·exact tu3 hP hL L h' hh hlen
theorem wx7(hP:C.P=Tryz.prog)(hL:∀w,C.laid w->LaidW w):waf C 84 wwi:=by
 rintro args objs U Os vc h hvc;unfold wwi at h;split at h<;>simp only[sI7,pI7,reduceCtorEq] at h;rename_i n c t ts n' h' t8 m f;obtain⟨rfl,rfl,rfl⟩:=h;obtain⟨rfl,rfl,rfl,rfl,rfl,hn,hf,hh,hr,hlen⟩:=hvc;have hl:=wk2 c f;generalize wao c f=L at *;subst hf;subst hl;have h3:n=1∨n=2∨n=3∨n=4:=by omega
 rcases h3 with rfl | rfl | rfl | rfl
 ·exact nu1 hP hL L h' hh hr hlen
 ·exact nu2 hP hL L h' hh hr hlen
 ·exact nu3 hP hL L h' hh hr hlen
 ·exact nu4 hP hL L h' hh hr hlen
theorem bstr_ok(hP:C.P=Tryz.prog):waf C 85 wnd:=by
 have _:C.Loose:=inferInstance;rintro args objs U Os vc h hvc;unfold wnd at h;split at h<;>cases h;rename_i n t t8 m f;obtain⟨rfl,rfl,rfl,hf,h0,hlen⟩:=hvc;have hl:=wk2 n f;generalize hL:wao n f=L at *;subst hf;subst hl;refine waf.wp0 (prg hP) [] 0 .nil (hP ▸ Tryz.func85) rfl rfl rfl ?_;rw[nf_bstr,tN7,wdf];refine⟨h0,⟨by omega,Int.le_refl _,λi _=>rfl,λi hi q hq=>?_⟩,rfl,rfl⟩;have hq:[AV.int .u8 ((L.getD i 0).toNat:Int)]=[.int .u8 q]:=hq;injection hq with hq;injection hq with _ hq;have:=(L.getD i 0).toNat_lt;omega
theorem dc_loop(hP:C.P=Tryz.prog)(n:Int):waj C 0 31 (wam Tryz.f135 5) (L_dc n):=by
 have _:C.Loose:=inferInstance;rintro st Q ⟨h0,hr,hQ⟩;refine waj.mk (prg hP) [] 0 .nil [0,3,4] [0,3] [] (S_dc n) (λi=>inR .i64 i.m/\digT n.natAbs=digT i.m.natAbs++i.out/\i.out.length<=100) (λi=>i.m.natAbs) ⟨[],n⟩ ⟨hr,by simp,zL7 _⟩ h0 (λi hi=>?_);obtain⟨hm,hd,hl⟩:=hi;rw[w0d];have hdl:(digT n.natAbs).length<=20:=by
  by_cases z:n=0
  ·subst z;decide
  ·have:=wcv hr;rw[wuh z] at this
   cases q:decide (n<0) with
   |true=>rw[q] at this;simp only[cond_true,List.length_cons] at this;omega
   |false=>rw[q] at this;exact this
 refine wb7 (λh1=>?_) (λh1=>?_)
 ·have dn:=w2x h1;have a1:(Int.tdiv i.m 10).natAbs=i.m.natAbs / 10:=by rw[Int.natAbs_tdiv];rfl
  have a2:(Int.tmod i.m 10).natAbs=i.m.natAbs % 10:=by rw[Int.natAbs_tmod];rfl
  have hm':=hm;simp only[inR] at hm'
  have next:∀b:List UInt8,b=[UInt8.ofNat (48+(Int.tmod i.m 10).natAbs)]->b.length+i.out.length<=9223372036854775807/\((10:Int)≠0/\inR .i64 (Int.tdiv i.m 10))/\∃i':DcS,some (St.mk [(0,.q n),(3,.str (b++i.out)),(4,.q (Int.tdiv i.m 10))] [] 0 [])=
    some (St.mk [(0,.q n),(3,.str i'.out),(4,.q i'.m)] [] 0 [])/\(inR .i64 i'.m/\digT n.natAbs=digT i'.m.natAbs++i'.out/\i'.out.length<=100)/\i'.m.natAbs<i.m.natAbs:=λb hb=>by
   subst hb;have e:digT n.natAbs=digT (Int.tdiv i.m 10).natAbs++([UInt8.ofNat (48+(Int.tmod i.m 10).natAbs)]++i.out):=by rw[hd,dn,List.append_assoc]
   have hl2:=congrArg List.length e;rw[lA7] at hl2;refine⟨by simp;omega,⟨by decide,by simp only[inR];omega⟩,⟨[UInt8.ofNat (48+(Int.tmod i.m 10).natAbs)]++i.out,Int.tdiv i.m 10⟩,rfl,⟨by simp only[inR];omega,e,?_⟩,?_⟩
   ·show ([UInt8.ofNat (48+(Int.tmod i.m 10).natAbs)]++i.out).length<=100;omega
   ·show (Int.tdiv i.m 10).natAbs<i.m.natAbs;omega
  have one:∀ {p:Nat->Prop},p 0->∀i,i<1->p i:=λh0 i hi=>by
   match i,hi with
   |0,_=>exact h0
  refine⟨by decide,wak (λh2=>⟨by simp only[inR];omega,by simp only[inR];omega,by simp only[inR];omega,⟨by omega,rfl,by omega⟩,⟨⟨lR7 _,rfl⟩,one rfl⟩,next _ ?_⟩) (λh2=>⟨by simp only[inR];omega,by simp only[inR];omega,⟨by omega,rfl,by omega⟩,⟨⟨lR7 _,rfl⟩,one rfl⟩,next _ ?_⟩)⟩
  ·show [UInt8.ofNat ((48:Int)+(0 - Int.tmod i.m 10)).toNat]=_;rw[show ((48:Int)+(0 - Int.tmod i.m 10)).toNat=48+(Int.tmod i.m 10).natAbs by omega]
  ·show [UInt8.ofNat ((48:Int)+Int.tmod i.m 10).toNat]=_;rw[show ((48:Int)+Int.tmod i.m 10).toNat=48+(Int.tmod i.m 10).natAbs by omega]
 ·have e:digT n.natAbs=i.out:=by rw[hd,h1];rfl
  rw[e] at hQ;exact hQ
theorem wvt(hP:C.P=Tryz.prog):waf C 135 wcm:=by
 rintro args objs U Os vc h hvc;unfold wcm at h;split at h<;>cases h;rename_i n;have hr:inR .i64 n:=hvc;refine waf.wpL (prg hP) [] [(5,L_dc n)] 0 .nil (hP ▸ Tryz.func135) rfl rfl rfl [(wam Tryz.f135 5,L_dc n)] (by kernel_rfl) ⟨dc_loop hP n,trivial⟩ ?_;rw[nf_dec];refine wak (λz=>?_) (λz=>⟨rfl,hr,?_⟩)
 ·subst z;rw[w1s];exact⟨rfl,rfl⟩
 ·have hl:=wcv hr;rw[wuh z] at hl ⊢;refine wak (λq=>?_) (λq=>?_)
  ·rw[decide_eq_true q] at hl ⊢;simp only[cond_true,List.length_cons] at hl;exact⟨by simp;omega,rfl,rfl⟩
  ·rw[decide_eq_false q];exact⟨rfl,rfl⟩
theorem ww6(hP:C.P=Tryz.prog)(g:Nat->List UInt8)(n:Nat):waj C 1 23 (wam Tryz.f86 3) (wnz g n):=by
 rintro st Q ⟨h0,hn,hr,hQ⟩;refine waj.mk (prg hP) [(135,.det wcm)] 0 (.cons (wvt hP) .nil) [3,6,7,8] [3] [] (wlm g n) (λk=>k<=n/\(txF g k).length<=k * 2199023255552) (λk=>n - k) 0 ⟨zL7 _,zL7 _⟩ h0 (λk hk=>?_) (λi=>⟨λ_ _=>rfl,trivial⟩);obtain⟨hkn,hl⟩:=hk;rw[wyr,tN7];refine wak (λh1=>?_) (λh1=>?_)
 ·have hlt:k<n:=by omega
  have hg:=hr k hlt;have hi:=wcv (lenR hg);have e:txF g (k+1)=txF g k++txtE (g k):=rfl;have e2:=congrArg List.length e;rw[lA7,wbs] at e2;have hk100:k * 2199023255552<=100 * 2199023255552:=Nat.mul_le_mul_right _ (by omega);refine⟨⟨by omega,by omega⟩,⟨hlt,rfl⟩,lenR hg,by (try simp only[lA7,List.length_cons,List.length_nil]);omega,by (try simp only[lA7,List.length_cons,List.length_nil]);omega,by (try simp only[lA7,List.length_cons,List.length_nil]);omega,by (try simp only[lA7,List.length_cons,List.length_nil]);omega,by simp only[inR];omega,k+1,⟨?_,wal _⟩,⟨hlt,?_⟩,by omega⟩
  ·rw[e];have:txF g k++Go.Lib.itoa ((g k).length:Int)++[58]++g k++[44]=txF g k++txtE (g k):=by simp[txtE]
   rw[this];rfl
  ·rw[e2,Nat.add_mul];omega
 ·have:k=n:=by omega
  subst this;exact⟨λ_ _=>rfl,_,wal _,hQ⟩
theorem wyb(hP:C.P=Tryz.prog)(g:Nat->Int)(n:Nat):waj C 1 19 (wam Tryz.f87 3) (wn3 g n):=by
 rintro st Q ⟨h0,hn,hr,hQ⟩;refine waj.mk (prg hP) [(135,.det wcm)] 0 (.cons (wvt hP) .nil) [3,6,7,8] [3] [] (wl4 g n) (λk=>k<=n/\(nuF g k).length<=k * 2199023255552) (λk=>n - k) 0 ⟨zL7 _,zL7 _⟩ h0 (λk hk=>?_) (λi=>⟨λ_ _=>rfl,trivial⟩);obtain⟨hkn,hl⟩:=hk;rw[wzg,tN7];refine wak (λh1=>?_) (λh1=>?_)
 ·have hlt:k<n:=by omega
  have hg:=hr k hlt;have hi:=wcv hg;have e:nuF g (k+1)=nuF g k++numE (g k):=rfl;have e2:=congrArg List.length e;rw[lA7,wen] at e2;have hk100:k * 2199023255552<=100 * 2199023255552:=Nat.mul_le_mul_right _ (by omega);refine⟨⟨by omega,by omega⟩,⟨hlt,rfl⟩,hg,by (try simp only[lA7,List.length_cons,List.length_nil]);omega,by (try simp only[lA7,List.length_cons,List.length_nil]);omega,by simp only[inR];omega,k+1,⟨?_,wal _⟩,⟨hlt,?_⟩,by omega⟩
  ·rw[e];have:nuF g k++Go.Lib.itoa (g k)++[44]=nuF g k++numE (g k):=by simp[numE]
   rw[this];rfl
  ·rw[e2,Nat.add_mul];omega
 ·have:k=n:=by omega
  subst this;exact⟨λ_ _=>rfl,_,wal _,hQ⟩
theorem whu(hP:C.P=Tryz.prog):waf C 86 wdi:=by
 rintro args objs U Os vc h hvc;unfold wdi at h;split at h<;>simp only[sI7,pI7,reduceCtorEq] at h;rename_i n ts n' h';obtain⟨rfl,rfl,rfl⟩:=h;obtain⟨rfl,rfl,hn,hh,hr⟩:=hvc;refine wan.rowEq 0 (f':=wax (stOf h')) rfl (λi hi=>(hh i hi).symm) ?_;show wan C _ [.own 0 n] [.row 9 1 n (wax (stOf h')) false] _;refine wa4.wpL (prg hP) [] [(3,wnz (stOf h') n)] 0 .nil (hP ▸ Tryz.func86) rfl rfl rfl [(wam Tryz.f86 3,wnz (stOf h') n)] (by kernel_rfl) ⟨ww6 hP _ n,trivial⟩ ?_;show wpFn _ _ _ _ _ [.own 0 n] [.row 9 1 n (wax (stOf h')) false] _;rw[nf_tr15];exact⟨⟨rfl,wal _⟩,hn,hr,λ_ _=>rfl,[(0,.row 9 1 n h' false)],⟨⟨rfl,rfl,rfl,rfl,rfl,λi hi=>(hh i hi).symm⟩,trivial⟩,rfl,rfl⟩
theorem wh5(hP:C.P=Tryz.prog):waf C 87 wdj:=by
 rintro args objs U Os vc h hvc;unfold wdj at h;split at h<;>simp only[sI7,pI7,reduceCtorEq] at h;rename_i n ts n' h';obtain⟨rfl,rfl,rfl⟩:=h;obtain⟨rfl,rfl,hn,hh,hr⟩:=hvc;refine wan.rowEq 0 (f':=wab (vInt h')) rfl (λi hi=>(hh i hi).symm) ?_;show wan C _ [.own 0 n] [.row 2 1 n (wab (vInt h')) false] _;refine wa4.wpL (prg hP) [] [(3,wn3 (vInt h') n)] 0 .nil (hP ▸ Tryz.func87) rfl rfl rfl [(wam Tryz.f87 3,wn3 (vInt h') n)] (by kernel_rfl) ⟨wyb hP _ n,trivial⟩ ?_;show wpFn _ _ _ _ _ [.own 0 n] [.row 2 1 n (wab (vInt h')) false] _;rw[nf_nr15];exact⟨⟨rfl,wal _⟩,hn,hr,λ_ _=>rfl,[(0,.row 2 1 n h' false)],⟨⟨rfl,rfl,rfl,rfl,rfl,λi hi=>(hh i hi).symm⟩,trivial⟩,rfl,rfl⟩
theorem wc0(hP:C.P=Tryz.prog)(hL:∀w,C.laid w->LaidW w):wa4 C 83 wbh:=by
 rintro args objs R h;unfold wbh at h;split at h
 ·rename_i n t ts n' h';obtain⟨⟨rfl,rfl,rfl,rfl⟩,hh,hlen,hR⟩:=h;refine wan.mono (wr8 hP hL _ _ _ _ _ rfl ⟨rfl,rfl,rfl,rfl,hh,hlen⟩) ?_;rintro u O ⟨rfl,rfl⟩;exact hR _ rfl
 ·rename_i n c t ts n' h' t8 m f;obtain⟨⟨rfl,rfl,rfl,rfl,rfl,hn⟩,L,⟨hm,hf⟩,hh,hlen,hR⟩:=h;subst hm;subst hf;have e:=wdf L;refine wan.mono (wr8 hP hL _ _ _ _ _ rfl ⟨rfl,rfl,rfl,rfl,rfl,hn,by rw[e],hh,by rw[e];exact hlen⟩) ?_;rintro u O ⟨rfl,rfl⟩;rw[e];exact hR _ rfl
 ·exact h.elim
theorem wc1(hP:C.P=Tryz.prog)(hL:∀w,C.laid w->LaidW w):wa4 C 84 wbi:=by
 rintro args objs R h;unfold wbi at h;split at h
 ·rename_i n c t ts n' h' t8 m f;obtain⟨⟨rfl,rfl,rfl,rfl,rfl,hn⟩,L,⟨hm,hf⟩,hh,hr,hlen,hR⟩:=h;subst hm;subst hf;have e:=wdf L;refine wan.mono (wx7 hP hL _ _ _ _ _ rfl ⟨rfl,rfl,rfl,rfl,rfl,hn,by rw[e],hh,hr,by rw[e];exact hlen⟩) ?_;rintro u O ⟨rfl,rfl⟩;rw[e];exact hR _ rfl
 ·exact h.elim
end Go.Eng
