/- What all rows share: the context of the engine at this program. -/
import Derived.Shelf.Strings.Builder1
import Derived.Shelf.Small.Utf8
import Derived.Shelf.Small.Bits
import Derived.Shelf.Small.Strs
import Derived.Shelf.Strconv.Atoi
import Derived.Shelf.Strconv.Itoa0
import Derived.Shelf.Strconv.Itoa1
import Derived.Shelf.LaysM
import Derived.Shelf.Strconv.Itoa2
import Derived.Shelf.Strconv.Itoa3
import Derived.Shelf.Strconv.Itoa4
import Derived.Shelf.Strconv.AtoiErrFast
import Derived.Shelf.Strconv.ParseIntEmpty
import Derived.Shelf.Strconv.AtoiFail
import Derived.Shelf.Strconv.Clone
import Derived.Shelf.Strconv.SyntaxError
import Derived.Shelf.LaysC
import Derived.Shelf.Strconv.ToError
import Derived.Shelf.Strconv.Lower
import Derived.Shelf.Strconv.ParseUint10
import Derived.Shelf.Strconv.ParseUint10Empty
import Derived.Shelf.Strconv.ParseUint10Any
import Derived.Shelf.Strconv.ParseInt10
import Derived.Shelf.Strconv.AtoiLong
import Derived.Shelf.Strconv.AtoiInnerAll
import Derived.Shelf.Strconv.RangeError
import Derived.Shelf.Strconv.ToErrorRange
import Derived.Shelf.Strconv.AtoiAll
import Derived.Shelf.Strings.Search1
import Derived.Shelf.Strings.Search2
import Derived.Shelf.Strings.Search3
import Derived.Shelf.Strings.Count
import Derived.Shelf.Strings.Shaped
import Derived.Shelf.Strings.Split
import Derived.Shelf.Strings.Runes
import Derived.Shelf.Strings.AsciiSet
import Derived.Shelf.Unicode.DecodeSlow
import Derived.Ground.SlsfProg
import Derived.Shelf.SlSortCmp.Insertion
import Derived.Shelf.SlSortCmp.SiftDown1
import Derived.Shelf.SlSortCmp.HeapSort1
import Derived.Shelf.SlSortCmp.Insertion1
import Derived.Shelf.SlSortCmp.Median1
import Derived.Shelf.SlSortCmp.Pivot1
import Derived.Shelf.SlSortCmp.ReverseRange1
import Derived.Shelf.SlSortCmp.PartialInsertion1
import Derived.Shelf.SlSortCmp.PartitionEqual1
import Derived.Shelf.SlSortCmp.Partition1
import Derived.Shelf.SlSortCmp.Pdq1
import Derived.Shelf.SlSortCmp.Whole1
import Derived.Shelf.SlSortCmp.NoneTotal
import Derived.Test.YtgcboligphndhaaGreatDoorProg
import Derived.Test.YtgcboligphndhaaGreatDoorBl
import Derived.Lib.IndexLaws
import Derived.Test.YtgcboligphndhaaGreatDoorRows
import Derived.Shelf.Vars
import Derived.FnData
import Derived.LaidLaws
import Derived.Deep.DeepLaidRun
import Derived.WalkKit
import Derived.OpenShut
import Derived.ShutString
import Derived.ChangeOld
namespace Go.Proofs
open Go.Shelf
def Tryz.lays119_ren:Go.Shelf.Ren:=⟨fun | 119=>267 | n=>n,fun | 21=>21 | 4=>4 | n=>n,fun | n=>n⟩
theorem Tryz.lays119:Go.Proofs.Lays.n119 Tryz.prog Tryz.lays119_ren:={
 mixed:=by kernel_rfl
 f119:=Tryz.func267.trans (congrArg some (by kernel_rfl))
 t4:=Tryz.underlying4
 a4:=Tryz.isAgg4
 z4:=Tryz.sizeOf4
 v4:=Tryz.zeroValue4
 t21:=Tryz.underlying21
 a21:=Tryz.isAgg21
 z21:=Tryz.sizeOf21
 v21:=Tryz.zeroValue21 }
theorem Tryz.utf8_ValidRune (r:Int) (w:World):
  Calls Tryz.prog 267 #[.int .i32 r] w fun e w'=>e= .returned (.bool (Lib.validRune r))∧w'=w:=Any.utf8_ValidRune Tryz.lays119 r w
def Tryz.lays106_ren:Go.Shelf.Ren:=⟨fun | 106=>94 | 213=>138 | 265=>177 | n=>n,fun | 9=>9 | 3=>3 | n=>n,fun | n=>n⟩
theorem Tryz.lays106:Go.Proofs.Lays.n106 Tryz.prog Tryz.lays106_ren:={
 mixed:=by kernel_rfl
 f106:=Tryz.func94.trans (congrArg some (by kernel_rfl))
 f213:=Tryz.func138.trans (congrArg some (by kernel_rfl))
 f265:=Tryz.func177.trans (congrArg some (by kernel_rfl))
 t3:=Tryz.underlying3
 a3:=Tryz.isAgg3
 z3:=Tryz.sizeOf3
 v3:=Tryz.zeroValue3
 t9:=Tryz.underlying9
 a9:=Tryz.isAgg9
 z9:=Tryz.sizeOf9
 v9:=Tryz.zeroValue9 }
open Go.RowKit in
theorem Tryz.strings_Compare (a b:ByteArray) (w:World):
  Calls Tryz.prog 94 #[.string a,.string b] w fun e w'=>e= .returned (.int .i64 (Lib.compareBytes a.data.toList b.data.toList))∧w'=w:=Any.strings_Compare Tryz.lays106 a b w
def Tryz.lays137_ren:Go.Shelf.Ren:=⟨fun | 137=>266 | 217=>280 | 266=>287 | n=>n,fun | 9=>9 | 5=>5 | 3=>3 | n=>n,fun | n=>n⟩
theorem Tryz.lays137:Go.Proofs.Lays.n137 Tryz.prog Tryz.lays137_ren:={
 mixed:=by kernel_rfl
 f137:=Tryz.func266.trans (congrArg some (by kernel_rfl))
 f217:=Tryz.func280.trans (congrArg some (by kernel_rfl))
 f266:=Tryz.func287.trans (congrArg some (by kernel_rfl))
 t3:=Tryz.underlying3
 a3:=Tryz.isAgg3
 z3:=Tryz.sizeOf3
 v3:=Tryz.zeroValue3
 t5:=Tryz.underlying5
 a5:=Tryz.isAgg5
 z5:=Tryz.sizeOf5
 v5:=Tryz.zeroValue5
 t9:=Tryz.underlying9
 a9:=Tryz.isAgg9
 z9:=Tryz.sizeOf9
 v9:=Tryz.zeroValue9 }
open Go.RowKit in
theorem Tryz.strings_IndexByte (s:ByteArray) (c:Int) (w:World):
  Calls Tryz.prog 266 #[.string s,.int .u8 c] w fun e w'=>e= .returned (.int .i64 (Lib.indexByte s.data.toList c.toNat.toUInt8))∧w'=w:=Any.strings_IndexByte Tryz.lays137 s c w
def Tryz.laysM171_ren:Go.Shelf.Ren:=⟨fun | 171=>133 | 243=>165 | 246=>166 | 283=>204 | 284=>205 | 285=>206 | 286=>207 | 129=>176 | 317=>232 | 318=>233 | 319=>234 | 320=>235 | 337=>254 | 338=>255 | n=>n,fun | 3=>3 | 9=>9 | 2=>2 | 4=>4 | 171=>222 | 0=>0 | 53=>118 | 37=>107 | 5=>5 | 173=>224 | 212=>248 | 51=>201 | 20=>20 | 213=>249 | 46=>168 | 232=>278 | 233=>279 | n=>n,fun | 17=>1 | 18=>2 | 19=>3 | n=>n⟩
theorem Tryz.laysM171:Go.Proofs.LaysM.n171 Tryz.prog Tryz.laysM171_ren:={
 mixed:=by kernel_rfl
 f129:=Tryz.func176.trans (congrArg some (by kernel_rfl))
 f171:=Tryz.func133.trans (congrArg some (by kernel_rfl))
 f243:=Tryz.func165.trans (congrArg some (by kernel_rfl))
 f246:=Tryz.func166.trans (congrArg some (by kernel_rfl))
 f283:=Tryz.func204.trans (congrArg some (by kernel_rfl))
 f284:=Tryz.func205.trans (congrArg some (by kernel_rfl))
 f285:=Tryz.func206.trans (congrArg some (by kernel_rfl))
 f286:=Tryz.func207.trans (congrArg some (by kernel_rfl))
 f317:=Tryz.func232.trans (congrArg some (by kernel_rfl))
 f318:=Tryz.func233.trans (congrArg some (by kernel_rfl))
 f319:=Tryz.func234.trans (congrArg some (by kernel_rfl))
 f320:=Tryz.func235.trans (congrArg some (by kernel_rfl))
 f337:=Tryz.func254.trans (congrArg some (by kernel_rfl))
 f338:=Tryz.func255.trans (congrArg some (by kernel_rfl))
 t0:=Tryz.underlying0
 a0:=Tryz.isAgg0
 z0:=Tryz.sizeOf0
 v0:=Tryz.zeroValue0
 t2:=Tryz.underlying2
 a2:=Tryz.isAgg2
 z2:=Tryz.sizeOf2
 v2:=Tryz.zeroValue2
 t3:=Tryz.underlying3
 a3:=Tryz.isAgg3
 z3:=Tryz.sizeOf3
 v3:=Tryz.zeroValue3
 t4:=Tryz.underlying4
 a4:=Tryz.isAgg4
 z4:=Tryz.sizeOf4
 v4:=Tryz.zeroValue4
 t5:=Tryz.underlying5
 a5:=Tryz.isAgg5
 z5:=Tryz.sizeOf5
 v5:=Tryz.zeroValue5
 t9:=Tryz.underlying9
 a9:=Tryz.isAgg9
 z9:=Tryz.sizeOf9
 v9:=Tryz.zeroValue9
 t20:=Tryz.underlying20
 a20:=Tryz.isAgg20
 z20:=Tryz.sizeOf20
 v20:=Tryz.zeroValue20
 t37:=Tryz.underlying107
 a37:=Tryz.isAgg107
 z37:=Tryz.sizeOf107
 v37:=Tryz.zeroValue107
 t46:=Tryz.underlying168
 a46:=Tryz.isAgg168
 z46:=Tryz.sizeOf168
 v46:=Tryz.zeroValue168
 t51:=Tryz.underlying201
 a51:=Tryz.isAgg201
 z51:=Tryz.sizeOf201
 v51:=Tryz.zeroValue201
 t53:=Tryz.underlying118
 a53:=Tryz.isAgg118
 z53:=Tryz.sizeOf118
 v53:=Tryz.zeroValue118
 t171:=Tryz.underlying222
 a171:=Tryz.isAgg222
 z171:=Tryz.sizeOf222
 v171:=Tryz.zeroValue222
 t173:=Tryz.underlying224
 a173:=Tryz.isAgg224
 z173:=Tryz.sizeOf224
 v173:=Tryz.zeroValue224
 t212:=Tryz.underlying248
 a212:=Tryz.isAgg248
 z212:=Tryz.sizeOf248
 v212:=Tryz.zeroValue248
 t213:=Tryz.underlying249
 a213:=Tryz.isAgg249
 z213:=Tryz.sizeOf249
 t232:=Tryz.underlying278
 a232:=Tryz.isAgg278
 z232:=Tryz.sizeOf278
 v232:=Tryz.zeroValue278
 t233:=Tryz.underlying279
 a233:=Tryz.isAgg279
 z233:=Tryz.sizeOf279
 v233:=Tryz.zeroValue279
 g17:=by kernel_rfl
 g18:=by kernel_rfl
 g19:=by kernel_rfl
 i0:=by kernel_rfl
 i2:=by kernel_rfl
 i3:=by kernel_rfl
 i4:=by kernel_rfl
 i5:=by kernel_rfl
 i9:=by kernel_rfl
 i20:=by kernel_rfl
 i37:=by kernel_rfl
 i46:=by kernel_rfl
 i51:=by kernel_rfl
 i53:=by kernel_rfl
 i171:=by kernel_rfl
 i173:=by kernel_rfl
 i212:=by kernel_rfl
 i232:=by kernel_rfl
 i233:=by kernel_rfl
 m17:=by kernel_rfl
 m18:=by kernel_rfl
 m19:=by kernel_rfl }
open Go.RowKit Go.Sort Go.Lib in
theorem Tryz.strconv_Itoa (n : Int) (h0 : -9223372036854775808 ≤ n) (h1 : n ≤ 9223372036854775807) (w : World) (htab : Lib.TabIs Tryz.prog w "internal/strconv.uint64pow10" .u64 Lib.pow10Tab) :
  Calls Tryz.prog 133 #[.int .i64 n] w fun e w'=>e= .returned (.string ⟨(Lib.itoa n).toArray⟩)∧∃ k os,w'=grow (w.drewN k) os:=Any.strconv_Itoa Tryz.laysM171 n h0 h1 w htab
def Tryz.lays171_ren:Go.Shelf.Ren:=⟨fun | 171=>133 | 243=>165 | 246=>166 | 283=>204 | 284=>205 | 285=>206 | 286=>207 | 129=>176 | 317=>232 | 318=>233 | 319=>234 | 320=>235 | 337=>254 | 338=>255 | n=>n,fun | 3=>3 | 9=>9 | 2=>2 | 4=>4 | 171=>222 | 0=>0 | 53=>118 | 37=>107 | 5=>5 | 173=>224 | 212=>248 | 51=>201 | 20=>20 | 213=>249 | 46=>168 | 232=>278 | 233=>279 | n=>n,fun | 17=>1 | 18=>2 | 19=>3 | n=>n⟩
theorem Tryz.lays171:Go.Proofs.Lays.n171 Tryz.prog Tryz.lays171_ren:={
 mixed:=by kernel_rfl
 f129:=Tryz.func176.trans (congrArg some (by kernel_rfl))
 f171:=Tryz.func133.trans (congrArg some (by kernel_rfl))
 f243:=Tryz.func165.trans (congrArg some (by kernel_rfl))
 f246:=Tryz.func166.trans (congrArg some (by kernel_rfl))
 f283:=Tryz.func204.trans (congrArg some (by kernel_rfl))
 f284:=Tryz.func205.trans (congrArg some (by kernel_rfl))
 f285:=Tryz.func206.trans (congrArg some (by kernel_rfl))
 f286:=Tryz.func207.trans (congrArg some (by kernel_rfl))
 f317:=Tryz.func232.trans (congrArg some (by kernel_rfl))
 f318:=Tryz.func233.trans (congrArg some (by kernel_rfl))
 f319:=Tryz.func234.trans (congrArg some (by kernel_rfl))
 f320:=Tryz.func235.trans (congrArg some (by kernel_rfl))
 f337:=Tryz.func254.trans (congrArg some (by kernel_rfl))
 f338:=Tryz.func255.trans (congrArg some (by kernel_rfl))
 t0:=Tryz.underlying0
 a0:=Tryz.isAgg0
 z0:=Tryz.sizeOf0
 v0:=Tryz.zeroValue0
 t2:=Tryz.underlying2
 a2:=Tryz.isAgg2
 z2:=Tryz.sizeOf2
 v2:=Tryz.zeroValue2
 t3:=Tryz.underlying3
 a3:=Tryz.isAgg3
 z3:=Tryz.sizeOf3
 v3:=Tryz.zeroValue3
 t4:=Tryz.underlying4
 a4:=Tryz.isAgg4
 z4:=Tryz.sizeOf4
 v4:=Tryz.zeroValue4
 t5:=Tryz.underlying5
 a5:=Tryz.isAgg5
 z5:=Tryz.sizeOf5
 v5:=Tryz.zeroValue5
 t9:=Tryz.underlying9
 a9:=Tryz.isAgg9
 z9:=Tryz.sizeOf9
 v9:=Tryz.zeroValue9
 t20:=Tryz.underlying20
 a20:=Tryz.isAgg20
 z20:=Tryz.sizeOf20
 v20:=Tryz.zeroValue20
 t37:=Tryz.underlying107
 a37:=Tryz.isAgg107
 z37:=Tryz.sizeOf107
 v37:=Tryz.zeroValue107
 t46:=Tryz.underlying168
 a46:=Tryz.isAgg168
 z46:=Tryz.sizeOf168
 v46:=Tryz.zeroValue168
 t51:=Tryz.underlying201
 a51:=Tryz.isAgg201
 z51:=Tryz.sizeOf201
 v51:=Tryz.zeroValue201
 t53:=Tryz.underlying118
 a53:=Tryz.isAgg118
 z53:=Tryz.sizeOf118
 v53:=Tryz.zeroValue118
 t171:=Tryz.underlying222
 a171:=Tryz.isAgg222
 z171:=Tryz.sizeOf222
 v171:=Tryz.zeroValue222
 t173:=Tryz.underlying224
 a173:=Tryz.isAgg224
 z173:=Tryz.sizeOf224
 v173:=Tryz.zeroValue224
 t212:=Tryz.underlying248
 a212:=Tryz.isAgg248
 z212:=Tryz.sizeOf248
 v212:=Tryz.zeroValue248
 t213:=Tryz.underlying249
 a213:=Tryz.isAgg249
 z213:=Tryz.sizeOf249
 t232:=Tryz.underlying278
 a232:=Tryz.isAgg278
 z232:=Tryz.sizeOf278
 v232:=Tryz.zeroValue278
 t233:=Tryz.underlying279
 a233:=Tryz.isAgg279
 z233:=Tryz.sizeOf279
 v233:=Tryz.zeroValue279
 g17:=by kernel_rfl
 g18:=by kernel_rfl
 g19:=by kernel_rfl }
open Go.RowKit Go.Sort Go.Lib in
theorem Tryz.strconv_Itoa_small (i:Nat) (hi:i<100) (w:World):
  Calls Tryz.prog 133 #[.int .i64 i] w fun e w'=>e= .returned (.string ⟨(Lib.decDigits i).toArray⟩)∧w'=w:=Any.strconv_Itoa_small Tryz.lays171 i hi w
def Tryz.laysM173_ren:Go.Shelf.Ren:=⟨fun | 173=>134 | 246=>166 | 283=>204 | 284=>205 | 285=>206 | 286=>207 | 129=>176 | 317=>232 | 318=>233 | 319=>234 | 320=>235 | 337=>254 | 338=>255 | n=>n,fun | 2=>2 | 3=>3 | 9=>9 | 4=>4 | 171=>222 | 0=>0 | 53=>118 | 37=>107 | 5=>5 | 173=>224 | 212=>248 | 51=>201 | 20=>20 | 213=>249 | 46=>168 | 232=>278 | 233=>279 | n=>n,fun | 17=>1 | 18=>2 | 19=>3 | n=>n⟩
theorem Tryz.laysM173:Go.Proofs.LaysM.n173 Tryz.prog Tryz.laysM173_ren:={
 mixed:=by kernel_rfl
 f129:=Tryz.func176.trans (congrArg some (by kernel_rfl))
 f173:=Tryz.func134.trans (congrArg some (by kernel_rfl))
 f246:=Tryz.func166.trans (congrArg some (by kernel_rfl))
 f283:=Tryz.func204.trans (congrArg some (by kernel_rfl))
 f284:=Tryz.func205.trans (congrArg some (by kernel_rfl))
 f285:=Tryz.func206.trans (congrArg some (by kernel_rfl))
 f286:=Tryz.func207.trans (congrArg some (by kernel_rfl))
 f317:=Tryz.func232.trans (congrArg some (by kernel_rfl))
 f318:=Tryz.func233.trans (congrArg some (by kernel_rfl))
 f319:=Tryz.func234.trans (congrArg some (by kernel_rfl))
 f320:=Tryz.func235.trans (congrArg some (by kernel_rfl))
 f337:=Tryz.func254.trans (congrArg some (by kernel_rfl))
 f338:=Tryz.func255.trans (congrArg some (by kernel_rfl))
 t0:=Tryz.underlying0
 a0:=Tryz.isAgg0
 z0:=Tryz.sizeOf0
 v0:=Tryz.zeroValue0
 t2:=Tryz.underlying2
 a2:=Tryz.isAgg2
 z2:=Tryz.sizeOf2
 v2:=Tryz.zeroValue2
 t3:=Tryz.underlying3
 a3:=Tryz.isAgg3
 z3:=Tryz.sizeOf3
 v3:=Tryz.zeroValue3
 t4:=Tryz.underlying4
 a4:=Tryz.isAgg4
 z4:=Tryz.sizeOf4
 v4:=Tryz.zeroValue4
 t5:=Tryz.underlying5
 a5:=Tryz.isAgg5
 z5:=Tryz.sizeOf5
 v5:=Tryz.zeroValue5
 t9:=Tryz.underlying9
 a9:=Tryz.isAgg9
 z9:=Tryz.sizeOf9
 v9:=Tryz.zeroValue9
 t20:=Tryz.underlying20
 a20:=Tryz.isAgg20
 z20:=Tryz.sizeOf20
 v20:=Tryz.zeroValue20
 t37:=Tryz.underlying107
 a37:=Tryz.isAgg107
 z37:=Tryz.sizeOf107
 v37:=Tryz.zeroValue107
 t46:=Tryz.underlying168
 a46:=Tryz.isAgg168
 z46:=Tryz.sizeOf168
 v46:=Tryz.zeroValue168
 t51:=Tryz.underlying201
 a51:=Tryz.isAgg201
 z51:=Tryz.sizeOf201
 v51:=Tryz.zeroValue201
 t53:=Tryz.underlying118
 a53:=Tryz.isAgg118
 z53:=Tryz.sizeOf118
 v53:=Tryz.zeroValue118
 t171:=Tryz.underlying222
 a171:=Tryz.isAgg222
 z171:=Tryz.sizeOf222
 v171:=Tryz.zeroValue222
 t173:=Tryz.underlying224
 a173:=Tryz.isAgg224
 z173:=Tryz.sizeOf224
 v173:=Tryz.zeroValue224
 t212:=Tryz.underlying248
 a212:=Tryz.isAgg248
 z212:=Tryz.sizeOf248
 v212:=Tryz.zeroValue248
 t213:=Tryz.underlying249
 a213:=Tryz.isAgg249
 z213:=Tryz.sizeOf249
 t232:=Tryz.underlying278
 a232:=Tryz.isAgg278
 z232:=Tryz.sizeOf278
 v232:=Tryz.zeroValue278
 t233:=Tryz.underlying279
 a233:=Tryz.isAgg279
 z233:=Tryz.sizeOf279
 v233:=Tryz.zeroValue279
 g17:=by kernel_rfl
 g18:=by kernel_rfl
 g19:=by kernel_rfl
 i0:=by kernel_rfl
 i2:=by kernel_rfl
 i3:=by kernel_rfl
 i4:=by kernel_rfl
 i5:=by kernel_rfl
 i9:=by kernel_rfl
 i20:=by kernel_rfl
 i37:=by kernel_rfl
 i46:=by kernel_rfl
 i51:=by kernel_rfl
 i53:=by kernel_rfl
 i171:=by kernel_rfl
 i173:=by kernel_rfl
 i212:=by kernel_rfl
 i232:=by kernel_rfl
 i233:=by kernel_rfl
 m17:=by kernel_rfl
 m18:=by kernel_rfl
 m19:=by kernel_rfl }
open Go.RowKit Go.Sort Go.Lib in
theorem Tryz.strconv_FormatInt_10 (n : Int) (h0 : -9223372036854775808 ≤ n) (h1 : n ≤ 9223372036854775807) (w : World) (htab : Lib.TabIs Tryz.prog w "internal/strconv.uint64pow10" .u64 Lib.pow10Tab) :
  Calls Tryz.prog 134 #[.int .i64 n,.int .i64 10] w fun e w'=>e= .returned (.string ⟨(Lib.itoa n).toArray⟩)∧∃ k os,w'=grow (w.drewN k) os:=Any.strconv_FormatInt_10 Tryz.laysM173 n h0 h1 w htab
def Tryz.laysC172_ren:Go.Shelf.Ren:=⟨fun | 172=>243 | 244=>258 | 245=>259 | 247=>273 | 279=>274 | 280=>275 | 281=>276 | 282=>277 | 287=>284 | 316=>285 | 171=>133 | 205=>286 | 321=>289 | 322=>290 | 243=>165 | 246=>166 | 283=>204 | 284=>205 | 285=>206 | 286=>207 | 129=>176 | 317=>232 | 318=>233 | 319=>234 | 320=>235 | 337=>254 | 338=>255 | n=>n,fun | 9=>9 | 3=>3 | 75=>160 | 76=>161 | 4=>4 | 5=>5 | 167=>281 | 37=>107 | 0=>0 | 85=>282 | 2=>2 | 168=>284 | 53=>118 | 175=>287 | 46=>168 | 210=>291 | 127=>164 | 145=>300 | 143=>298 | 21=>21 | 171=>222 | 173=>224 | 212=>248 | 51=>201 | 20=>20 | 213=>249 | 232=>278 | 233=>279 | 80=>104 | n=>n,fun | 15=>4 | 16=>5 | 17=>1 | 18=>2 | 19=>3 | n=>n⟩
theorem Tryz.laysC172:Go.Proofs.LaysC.n172 Tryz.prog Tryz.laysC172_ren:={
 mixed:=by kernel_rfl
 f129:=Tryz.func176.trans (congrArg some (by kernel_rfl))
 f171:=Tryz.func133.trans (congrArg some (by kernel_rfl))
 f172:=Tryz.func243.trans (congrArg some (by kernel_rfl))
 f205:=Tryz.func286.trans (congrArg some (by kernel_rfl))
 f243:=Tryz.func165.trans (congrArg some (by kernel_rfl))
 f244:=Tryz.func258.trans (congrArg some (by kernel_rfl))
 f245:=Tryz.func259.trans (congrArg some (by kernel_rfl))
 f246:=Tryz.func166.trans (congrArg some (by kernel_rfl))
 f247:=Tryz.func273.trans (congrArg some (by kernel_rfl))
 f279:=Tryz.func274.trans (congrArg some (by kernel_rfl))
 f280:=Tryz.func275.trans (congrArg some (by kernel_rfl))
 f281:=Tryz.func276.trans (congrArg some (by kernel_rfl))
 f282:=Tryz.func277.trans (congrArg some (by kernel_rfl))
 f283:=Tryz.func204.trans (congrArg some (by kernel_rfl))
 f284:=Tryz.func205.trans (congrArg some (by kernel_rfl))
 f285:=Tryz.func206.trans (congrArg some (by kernel_rfl))
 f286:=Tryz.func207.trans (congrArg some (by kernel_rfl))
 f287:=Tryz.func284.trans (congrArg some (by kernel_rfl))
 f316:=Tryz.func285.trans (congrArg some (by kernel_rfl))
 f317:=Tryz.func232.trans (congrArg some (by kernel_rfl))
 f318:=Tryz.func233.trans (congrArg some (by kernel_rfl))
 f319:=Tryz.func234.trans (congrArg some (by kernel_rfl))
 f320:=Tryz.func235.trans (congrArg some (by kernel_rfl))
 f321:=Tryz.func289.trans (congrArg some (by kernel_rfl))
 f322:=Tryz.func290.trans (congrArg some (by kernel_rfl))
 f337:=Tryz.func254.trans (congrArg some (by kernel_rfl))
 f338:=Tryz.func255.trans (congrArg some (by kernel_rfl))
 t0:=Tryz.underlying0
 a0:=Tryz.isAgg0
 z0:=Tryz.sizeOf0
 v0:=Tryz.zeroValue0
 t2:=Tryz.underlying2
 a2:=Tryz.isAgg2
 z2:=Tryz.sizeOf2
 v2:=Tryz.zeroValue2
 t3:=Tryz.underlying3
 a3:=Tryz.isAgg3
 z3:=Tryz.sizeOf3
 v3:=Tryz.zeroValue3
 t4:=Tryz.underlying4
 a4:=Tryz.isAgg4
 z4:=Tryz.sizeOf4
 v4:=Tryz.zeroValue4
 t5:=Tryz.underlying5
 a5:=Tryz.isAgg5
 z5:=Tryz.sizeOf5
 v5:=Tryz.zeroValue5
 t9:=Tryz.underlying9
 a9:=Tryz.isAgg9
 z9:=Tryz.sizeOf9
 v9:=Tryz.zeroValue9
 t20:=Tryz.underlying20
 a20:=Tryz.isAgg20
 z20:=Tryz.sizeOf20
 v20:=Tryz.zeroValue20
 t21:=Tryz.underlying21
 a21:=Tryz.isAgg21
 z21:=Tryz.sizeOf21
 v21:=Tryz.zeroValue21
 t37:=Tryz.underlying107
 a37:=Tryz.isAgg107
 z37:=Tryz.sizeOf107
 v37:=Tryz.zeroValue107
 t46:=Tryz.underlying168
 a46:=Tryz.isAgg168
 z46:=Tryz.sizeOf168
 v46:=Tryz.zeroValue168
 t51:=Tryz.underlying201
 a51:=Tryz.isAgg201
 z51:=Tryz.sizeOf201
 v51:=Tryz.zeroValue201
 t53:=Tryz.underlying118
 a53:=Tryz.isAgg118
 z53:=Tryz.sizeOf118
 v53:=Tryz.zeroValue118
 t75:=Tryz.underlying160
 a75:=Tryz.isAgg160
 z75:=Tryz.sizeOf160
 v75:=Tryz.zeroValue160
 t76:=Tryz.underlying161
 a76:=Tryz.isAgg161
 z76:=Tryz.sizeOf161
 v76:=Tryz.zeroValue161
 t85:=Tryz.underlying282
 a85:=Tryz.isAgg282
 z85:=Tryz.sizeOf282
 v85:=Tryz.zeroValue282
 t127:=Tryz.underlying164
 a127:=Tryz.isAgg164
 z127:=Tryz.sizeOf164
 v127:=Tryz.zeroValue164
 t143:=Tryz.underlying298
 a143:=Tryz.isAgg298
 z143:=Tryz.sizeOf298
 v143:=Tryz.zeroValue298
 t145:=Tryz.underlying300
 a145:=Tryz.isAgg300
 z145:=Tryz.sizeOf300
 v145:=Tryz.zeroValue300
 t167:=Tryz.underlying281
 a167:=Tryz.isAgg281
 z167:=Tryz.sizeOf281
 v167:=Tryz.zeroValue281
 t168:=Tryz.underlying284
 a168:=Tryz.isAgg284
 z168:=Tryz.sizeOf284
 v168:=Tryz.zeroValue284
 t171:=Tryz.underlying222
 a171:=Tryz.isAgg222
 z171:=Tryz.sizeOf222
 v171:=Tryz.zeroValue222
 t173:=Tryz.underlying224
 a173:=Tryz.isAgg224
 z173:=Tryz.sizeOf224
 v173:=Tryz.zeroValue224
 t175:=Tryz.underlying287
 a175:=Tryz.isAgg287
 z175:=Tryz.sizeOf287
 v175:=Tryz.zeroValue287
 t210:=Tryz.underlying291
 a210:=Tryz.isAgg291
 z210:=Tryz.sizeOf291
 v210:=Tryz.zeroValue291
 t212:=Tryz.underlying248
 a212:=Tryz.isAgg248
 z212:=Tryz.sizeOf248
 v212:=Tryz.zeroValue248
 t213:=Tryz.underlying249
 a213:=Tryz.isAgg249
 z213:=Tryz.sizeOf249
 t232:=Tryz.underlying278
 a232:=Tryz.isAgg278
 z232:=Tryz.sizeOf278
 v232:=Tryz.zeroValue278
 t233:=Tryz.underlying279
 a233:=Tryz.isAgg279
 z233:=Tryz.sizeOf279
 v233:=Tryz.zeroValue279
 g15:=by kernel_rfl
 g16:=by kernel_rfl
 g17:=by kernel_rfl
 g18:=by kernel_rfl
 g19:=by kernel_rfl
 t80:=Tryz.underlying104
 a80:=Tryz.isAgg104
 z80:=Tryz.sizeOf104
 v80:=Tryz.zeroValue104
 i0:=by kernel_rfl
 i2:=by kernel_rfl
 i3:=by kernel_rfl
 i4:=by kernel_rfl
 i5:=by kernel_rfl
 i9:=by kernel_rfl
 i20:=by kernel_rfl
 i21:=by kernel_rfl
 i37:=by kernel_rfl
 i46:=by kernel_rfl
 i51:=by kernel_rfl
 i53:=by kernel_rfl
 i75:=by kernel_rfl
 i76:=by kernel_rfl
 i80:=by kernel_rfl
 i85:=by kernel_rfl
 i127:=by kernel_rfl
 i143:=by kernel_rfl
 i145:=by kernel_rfl
 i167:=by kernel_rfl
 i168:=by kernel_rfl
 i171:=by kernel_rfl
 i173:=by kernel_rfl
 i175:=by kernel_rfl
 i210:=by kernel_rfl
 i212:=by kernel_rfl
 i232:=by kernel_rfl
 i233:=by kernel_rfl
 m15:=by kernel_rfl
 m16:=by kernel_rfl
 m17:=by kernel_rfl
 m18:=by kernel_rfl
 m19:=by kernel_rfl
 c0:=by kernel_rfl
 c2:=by kernel_rfl
 c3:=by kernel_rfl
 c4:=by kernel_rfl
 c5:=by kernel_rfl
 c9:=by kernel_rfl
 c20:=by kernel_rfl
 c21:=by kernel_rfl
 c37:=by kernel_rfl
 c46:=by kernel_rfl
 c51:=by kernel_rfl
 c53:=by kernel_rfl
 c75:=by kernel_rfl
 c76:=by kernel_rfl
 c80:=by kernel_rfl
 c85:=by kernel_rfl
 c127:=by kernel_rfl
 c143:=by kernel_rfl
 c145:=by kernel_rfl
 c167:=by kernel_rfl
 c168:=by kernel_rfl
 c171:=by kernel_rfl
 c173:=by kernel_rfl
 c175:=by kernel_rfl
 c210:=by kernel_rfl
 c212:=by kernel_rfl
 c213:=by kernel_rfl
 c232:=by kernel_rfl
 c233:=by kernel_rfl }
open Go.RowKit in
theorem Tryz.strconv_Atoi_ok (s:ByteArray) (hmax:s.size≤9223372036854775806) (v:Int) (h:Lib.atoiAll s.data.toList= .ok v) (w:World):
  Calls Tryz.prog 243 #[.string s] w fun e w'=>e= .returned (.tuple #[.int .i64 v,.nilIface])∧(w'=w∨∃ t,w'=Lib.bytesWorld w 5 t):=Any.strconv_Atoi_ok Tryz.laysC172 s hmax v h w
def Tryz.lays146_ren:Go.Shelf.Ren:=⟨fun | 146=>242 | 221=>257 | 268=>270 | 138=>271 | 143=>272 | 195=>281 | 197=>263 | 218=>282 | 219=>283 | 260=>278 | 217=>280 | 225=>269 | 224=>268 | 267=>288 | 266=>287 | 314=>291 | n=>n,fun | 9=>9 | 31=>92 | 3=>3 | 4=>4 | 0=>0 | 105=>274 | 21=>21 | 5=>5 | 46=>168 | 119=>293 | 139=>296 | 138=>295 | 146=>301 | 51=>201 | n=>n,fun | 1=>0 | 3=>6 | 4=>7 | n=>n⟩
theorem Tryz.lays146:Go.Proofs.Lays.n146 Tryz.prog Tryz.lays146_ren:={
 mixed:=by kernel_rfl
 f138:=Tryz.func271.trans (congrArg some (by kernel_rfl))
 f143:=Tryz.func272.trans (congrArg some (by kernel_rfl))
 f146:=Tryz.func242.trans (congrArg some (by kernel_rfl))
 f195:=Tryz.func281.trans (congrArg some (by kernel_rfl))
 f197:=Tryz.func263.trans (congrArg some (by kernel_rfl))
 f217:=Tryz.func280.trans (congrArg some (by kernel_rfl))
 f218:=Tryz.func282.trans (congrArg some (by kernel_rfl))
 f219:=Tryz.func283.trans (congrArg some (by kernel_rfl))
 f221:=Tryz.func257.trans (congrArg some (by kernel_rfl))
 f224:=Tryz.func268.trans (congrArg some (by kernel_rfl))
 f225:=Tryz.func269.trans (congrArg some (by kernel_rfl))
 f260:=Tryz.func278.trans (congrArg some (by kernel_rfl))
 f266:=Tryz.func287.trans (congrArg some (by kernel_rfl))
 f267:=Tryz.func288.trans (congrArg some (by kernel_rfl))
 f268:=Tryz.func270.trans (congrArg some (by kernel_rfl))
 f314:=Tryz.func291.trans (congrArg some (by kernel_rfl))
 t0:=Tryz.underlying0
 a0:=Tryz.isAgg0
 z0:=Tryz.sizeOf0
 v0:=Tryz.zeroValue0
 t3:=Tryz.underlying3
 a3:=Tryz.isAgg3
 z3:=Tryz.sizeOf3
 v3:=Tryz.zeroValue3
 t4:=Tryz.underlying4
 a4:=Tryz.isAgg4
 z4:=Tryz.sizeOf4
 v4:=Tryz.zeroValue4
 t5:=Tryz.underlying5
 a5:=Tryz.isAgg5
 z5:=Tryz.sizeOf5
 v5:=Tryz.zeroValue5
 t9:=Tryz.underlying9
 a9:=Tryz.isAgg9
 z9:=Tryz.sizeOf9
 v9:=Tryz.zeroValue9
 t21:=Tryz.underlying21
 a21:=Tryz.isAgg21
 z21:=Tryz.sizeOf21
 v21:=Tryz.zeroValue21
 t31:=Tryz.underlying92
 a31:=Tryz.isAgg92
 z31:=Tryz.sizeOf92
 v31:=Tryz.zeroValue92
 t46:=Tryz.underlying168
 a46:=Tryz.isAgg168
 z46:=Tryz.sizeOf168
 v46:=Tryz.zeroValue168
 t51:=Tryz.underlying201
 a51:=Tryz.isAgg201
 z51:=Tryz.sizeOf201
 v51:=Tryz.zeroValue201
 t105:=Tryz.underlying274
 a105:=Tryz.isAgg274
 z105:=Tryz.sizeOf274
 v105:=Tryz.zeroValue274
 t119:=Tryz.underlying293
 a119:=Tryz.isAgg293
 z119:=Tryz.sizeOf293
 t138:=Tryz.underlying295
 a138:=Tryz.isAgg295
 z138:=Tryz.sizeOf295
 v138:=Tryz.zeroValue295
 t139:=Tryz.underlying296
 a139:=Tryz.isAgg296
 z139:=Tryz.sizeOf296
 v139:=Tryz.zeroValue296
 t146:=Tryz.underlying301
 a146:=Tryz.isAgg301
 z146:=Tryz.sizeOf301
 v146:=Tryz.zeroValue301
 g1:=by kernel_rfl
 g3:=by kernel_rfl
 g4:=by kernel_rfl }
open Go.RowKit Go.Lib in
theorem Tryz.strings_Split (s sep:ByteArray) (m:Int) (w:World) (hs:s.size<4294967281) (hm:w.cell? ⟨0,0,none⟩=some (.int .i64 m)) (h1:1≤sep.size):
  Calls Tryz.prog 242 #[.string s,.string sep] w fun e w'=>
   e= .returned (.slice (some ⟨w.heap.size,0,none⟩) (Lib.countB s sep+1) (Lib.countB s sep+1))∧w'=w.alloc (.cells ((Lib.splitB sep 0 (Lib.countB s sep) s).map Value.string).toArray 9):=Any.strings_Split Tryz.lays146 (by kernel_rfl) s sep m w hs hm h1
open Go.RowKit Go.Lib in
def Tryz.lays227_ren:Go.Shelf.Ren:=⟨fun | 227=>247 | n=>n,fun | 9=>9 | 116=>262 | 4=>4 | 0=>0 | 3=>3 | 5=>5 | n=>n,fun | n=>n⟩
theorem Tryz.lays227:Go.Proofs.Lays.n227 Tryz.prog Tryz.lays227_ren:={
 mixed:=by kernel_rfl
 f227:=Tryz.func247.trans (congrArg some (by kernel_rfl))
 t0:=Tryz.underlying0
 a0:=Tryz.isAgg0
 z0:=Tryz.sizeOf0
 v0:=Tryz.zeroValue0
 t3:=Tryz.underlying3
 a3:=Tryz.isAgg3
 z3:=Tryz.sizeOf3
 v3:=Tryz.zeroValue3
 t4:=Tryz.underlying4
 a4:=Tryz.isAgg4
 z4:=Tryz.sizeOf4
 v4:=Tryz.zeroValue4
 t5:=Tryz.underlying5
 a5:=Tryz.isAgg5
 z5:=Tryz.sizeOf5
 v5:=Tryz.zeroValue5
 t9:=Tryz.underlying9
 a9:=Tryz.isAgg9
 z9:=Tryz.sizeOf9
 v9:=Tryz.zeroValue9
 t116:=Tryz.underlying262
 a116:=Tryz.isAgg262
 z116:=Tryz.sizeOf262 }
open Go.RowKit Go.Lib in
theorem Tryz.strings_makeASCIISet (hv116:∀ w,(zeroValue 262).run Tryz.prog w= .ok (.agg (Array.replicate 256 (.bool false))) w) (chars:ByteArray) (w:World) (hs:chars.size<4294967281) (hascii:∀ (j:Nat) b,chars.data.toList[j]?=some b→b.toNat<128):
  Calls Tryz.prog 247 #[.string chars] w fun e w'=>e= .returned (.tuple #[.agg (Lib.setCells chars.data.toList),.bool true])∧w'=w.alloc (.cells (Lib.setCells chars.data.toList) 262):=Any.strings_makeASCIISet Tryz.lays227 hv116 (by kernel_rfl) chars w hs hascii
def Tryz.lays228_ren:Go.Shelf.Ren:=⟨fun | 228=>262 | n=>n,fun | 124=>266 | 5=>5 | 4=>4 | 0=>0 | 116=>262 | n=>n,fun | n=>n⟩
theorem Tryz.lays228:Go.Proofs.Lays.n228 Tryz.prog Tryz.lays228_ren:={
 mixed:=by kernel_rfl
 f228:=Tryz.func262.trans (congrArg some (by kernel_rfl))
 t0:=Tryz.underlying0
 a0:=Tryz.isAgg0
 z0:=Tryz.sizeOf0
 v0:=Tryz.zeroValue0
 t4:=Tryz.underlying4
 a4:=Tryz.isAgg4
 z4:=Tryz.sizeOf4
 v4:=Tryz.zeroValue4
 t5:=Tryz.underlying5
 a5:=Tryz.isAgg5
 z5:=Tryz.sizeOf5
 v5:=Tryz.zeroValue5
 t116:=Tryz.underlying262
 a116:=Tryz.isAgg262
 z116:=Tryz.sizeOf262
 t124:=Tryz.underlying266
 a124:=Tryz.isAgg266
 z124:=Tryz.sizeOf266
 v124:=Tryz.zeroValue266 }
open Go.RowKit Go.Lib in
theorem Tryz.asciiSet_contains (b:Nat) (x:UInt8) (v:Bool) (w:World) (hc:w.cell? ⟨b,x.toNat,none⟩=some (.bool v)):
  Calls Tryz.prog 262 #[.pointer (some ⟨b,0,none⟩),.int .u8 x.toNat] w fun e w'=>e= .returned (.bool v)∧w'=w:=Any.asciiSet_contains Tryz.lays228 b x v w hc
end Go.Proofs
namespace Go.Eng
def ascii (s:List UInt8):Bool:=s.all fun b=>decide (b.toNat<128)
theorem wt9 {s:List UInt8} (h:ascii s=true) {k:Nat} (hk:k<s.length):(s.getD k 0).toNat<128:=by
 have:=List.all_eq_true.1 h (s.getD k 0) (by simp [List.getD,hk])
 exact of_decide_eq_true this
theorem w0p {s:List UInt8} (h:ascii s=true) (n:Nat):ascii (s.drop n)=true:=List.all_eq_true.2 fun b hb=>List.all_eq_true.1 h b (List.mem_of_mem_drop hb)
theorem wnn {s:List UInt8} {k:Nat} (hk:k<s.length) (h:(s.getD k 0).toNat<128):wbn s k=((s.getD k 0).toNat,1):=by
 have e:(ByteArray.get! ⟨s.toArray⟩ (k+0))=s.getD k 0:=by simp [ByteArray.get!,hk]
 unfold wbn Utf8.decode
 simp only [e,h,if_true]
theorem wqp {s:List UInt8} {k:Nat} (hk:k<s.length) (h:128≤(s.getD k 0).toNat):128≤(wbn s k).1∧(wbn s k).1≤1114111∧1≤(wbn s k).2:=by
 have e:(ByteArray.get! ⟨s.toArray⟩ (k+0))=s.getD k 0:=by simp [ByteArray.get!,hk]
 have hb:(s.getD k 0).toNat<256:=(s.getD k 0).toNat_lt
 unfold wbn Utf8.decode
 simp only [e,show ¬ (s.getD k 0).toNat<128 by omega,if_false,Utf8.runeError]
 repeat' split
 all_goals simp only [Utf8.valid,Bool.and_eq_true,decide_eq_true_eq,Bool.or_eq_true,beq_iff_eq] at *
 all_goals omega
theorem wvd {s:List UInt8} {k:Nat} (hk:k<s.length):(wbn s k).1≤1114111:=by
 by_cases h:(s.getD k 0).toNat<128
 ·rw [wnn hk h];show (s.getD k 0).toNat≤1114111;omega
 ·exact (wqp hk (by omega)).2.1
theorem wzk {r:Int} (h:128≤r) (hv:Lib.validRune r=true):2≤(Utf8.encode r).data.toList.length∧(Utf8.encode r).data.toList.length≤4∧128≤((Utf8.encode r).data.toList.getD ((Utf8.encode r).data.toList.length - 1) 0).toNat:=by
 have hv':Utf8.valid r=true:=by
  simp only [Lib.validRune,decide_eq_true_eq] at hv
  simp [Utf8.valid]
  omega
 simp only [Lib.validRune,decide_eq_true_eq] at hv
 unfold Utf8.encode
 simp only [hv',if_true]
 generalize hc:r.toNat=c
 have h1:128≤c:=by omega
 have h2:c≤1114111:=by omega
 simp only [show ¬ c<128 by omega,if_false]
 repeat' split
 all_goals simp
 all_goals omega
theorem wpz (b:UInt8):(b.toNat:Int).toNat.toUInt8=b:=by simp
theorem wyz {s:List UInt8} (h:ascii s=true) {c:UInt8} (hc:128≤c.toNat):Lib.indexByte s c= -1:=by
 induction s with
 |nil=>rfl
 |cons b l ih=>
  simp only [ascii,List.all_cons,Bool.and_eq_true,decide_eq_true_eq] at h
  have hne:(b==c)=false:=by
   cases hb:b==c with
   |false=>rfl
   |true=>have:=eq_of_beq hb;subst this;omega
  simp only [Lib.indexByte,hne,ih h.2]
  rfl
def wcd (s:List UInt8) (r:Int):Int:=match decide (r<128) with
 |true=>Lib.indexByte s r.toNat.toUInt8
 |false=> -1
def wgp:Spec
 |[.str s,.int .u8 c],[]=>some (.int .i64 (Lib.indexByte s c.toNat.toUInt8),[],True)
 |_,_=>none
def wki:Spec
 |[.int .i32 r],[]=>some (.bool (Lib.validRune r),[],True)
 |_,_=>none
def wlg:Spec
 |[.str s,.int .i32 r],[]=>some (.int .i64 (wcd s r),[],ascii s=true∧s.length≤1000000∧0≤r∧r≤1114111)
 |_,_=>none
def wlw:Spec
 |[.str s,.int .i32 r],[]=>some (.bool (decide (0≤wcd s r)),[],ascii s=true∧s.length≤1000000∧0≤r∧r≤1114111)
 |_,_=>none
def wlf (s:List UInt8) (pos:Nat):St:=⟨[(0,.str s),(175,.ptr 0 0)],[(0,.siter s pos)],1,[]⟩
def wmu (s:List UInt8):wau:=fun st Q=>canonIs te 0 [0,175] st (wlf s 0)∧ascii s=true∧Q (.exit 9) ⟨[],[],0,[]⟩
def wle (s e:List UInt8):St:=⟨[(0,.str s),(7,.str e),(8,.int .i64 ((e.length:Int) - 1)),(9,.int .i64 ((e.length:Int) - 1))],[],0,[]⟩
def wmt (s e:List UInt8):wau:=fun st Q=>canonIs te 0 [0,7,8,9] st (wle s e)∧ascii s=true∧s.length≤1000000∧2≤e.length∧e.length≤4∧128≤(e.getD (e.length - 1) 0).toNat∧
 Q (.exit 1) ⟨[],[],0,[]⟩∧Q .ret ⟨[(4,.int .i64 (-1))],[],0,[]⟩
def wbv (c:UInt8):Bool:=decide (48≤c.toNat) && decide (c.toNat≤57)
def wby (s:List UInt8) (a b:Int):Bool:=(decide ((s.length:Int)=a) || decide ((s.length:Int)=b)) && s.all wbv
def wgr:Spec
 |[.str s,.int .i64 a,.int .i64 b],[]=>some (.bool (wby s a b),[],a≤100∧b≤100)
 |_,_=>none
def wa3 (s:List UInt8):Nat→Int
 |0=>0
 |i+1=>wa3 s i+(1+2 * (((s.length:Int) - i) % 2)) * ((s.getD i 0).toNat - 48)
def cdF (s:List UInt8):Int×Bool:=match wby s 7 12 with
 |true=>((10 - wa3 s s.length % 10) % 10,true)
 |false=>(0,false)
def we1:Spec
 |[.str s],[]=>some (.tuple [.int .i64 (cdF s).1,.bool (cdF s).2],[],True)
 |_,_=>none
def S_cd (s:List UInt8) (k:Nat):St:=⟨[(0,.str s),(4,.int .i64 (wa3 s k)),(11,.int .i64 s.length),(12,.int .i64 k)],[],0,[]⟩
def wm2 (s:List UInt8):wau:=fun st Q=>canonIs te 0 [0,4,11,12] st (S_cd s 0)∧s.length≤12∧s.all wbv=true∧
 Q (.exit 0) ⟨[(4,.int .i64 (wa3 s s.length))],[],0,[]⟩
def wbq (s:List UInt8):Bool:=match wby s 8 13 with
 |true=>decide ((cdF (s.take (s.length - 1))).1=((s.getD (s.length - 1) 0).toNat:Int) - 48)
 |false=>false
def wdo:Spec
 |[.str s],[]=>some (.bool (wbq s),[],True)
 |_,_=>none
theorem wjk {s:List UInt8} (h:s.all wbv=true) (k:Nat) (hk:k<s.length):48≤(s.getD k 0).toNat∧(s.getD k 0).toNat≤57:=by
 have:=List.all_eq_true.1 h (s.getD k 0) (by simp [List.getD,hk])
 simpa [wbv] using this
theorem wyq (b:UInt8):([48,49,50,51,52,53,54,55,56,57]:List UInt8).contains b=wbv b:=by
 have:∀ n,n<256→([48,49,50,51,52,53,54,55,56,57]:List UInt8).contains (UInt8.ofNat n)=wbv (UInt8.ofNat n):=by decide+kernel
 have h:=this b.toNat b.toNat_lt
 simpa using h
theorem wo2 {p:UInt8→Bool}:∀ {s:List UInt8},s.dropWhile p=[]↔s.all p=true
 |[]=>by simp
 |x::s=>by
  simp only [List.dropWhile_cons,List.all_cons]
  cases hx:p x<;>simp [wo2]
theorem wtj {p:UInt8→Bool}:∀ {r:List UInt8},(r.dropWhile p).all p=true→r.all p=true
 |[],h=>h
 |x::r,h=>by
  rw [List.dropWhile_cons] at h
  cases hx:p x with
  |true=>
   rw [hx,if_pos rfl] at h
   rw [List.all_cons,hx,wtj h];rfl
  |false=>rw [hx,if_neg (by simp),List.all_cons,hx] at h;cases h
theorem wph {p:UInt8→Bool} (s:List UInt8):s.reverse.all p=s.all p:=by simp
theorem wp4 (c s:List UInt8):wed c s=[]↔s.all (c.contains ·)=true:=by
 unfold wed wcy
 rw [wo2,wph]
 constructor
 ·intro h
  rw [← wph]
  exact wtj h
 ·intro h
  rw [← wph] at h
  rw [wo2.2 h];rfl
theorem wp5 (s:List UInt8):decide (wed [48,49,50,51,52,53,54,55,56,57] s=[])=s.all wbv:=by
 have h:=wp4 [48,49,50,51,52,53,54,55,56,57] s
 simp only [wyq] at h
 cases hb:s.all wbv with
 |true=>exact decide_eq_true (h.2 hb)
 |false=>exact decide_eq_false fun he=>by rw [h.1 he] at hb;cases hb
def wem:List UInt8:=[97,98,99,100,101,102,103,104,105,106,107,108,109,110,111,112,113,114,115,116,117,118,119,120,121,122,48,49,50,51,52,53,54,55,56,57,45,46]
def wi9:List UInt8:=[97,98,99,100,101,102,103,104,105,106,107,108,109,110,111,112,113,114,115,116,117,118,119,120,121,122,48,49,50,51,52,53,54,55,56,57]
def wfj (b:UInt8):Bool:=decide (97≤b.toNat) && decide (b.toNat≤122) || decide (48≤b.toNat) && decide (b.toNat≤57)
def isNB (b:UInt8):Bool:=wfj b || decide (b.toNat=45) || decide (b.toNat=46)
theorem wxz (b:UInt8):wem.contains b=isNB b:=by
 have:∀ n,n<256→wem.contains (UInt8.ofNat n)=isNB (UInt8.ofNat n):=by decide+kernel
 simpa using this b.toNat b.toNat_lt
theorem wxx (b:UInt8):wi9.contains b=wfj b:=by
 have:∀ n,n<256→wi9.contains (UInt8.ofNat n)=wfj (UInt8.ofNat n):=by decide+kernel
 simpa using this b.toNat b.toNat_lt
theorem wsg (l:List UInt8) (c:UInt8):0≤Lib.indexByte l c↔l.contains c=true:=by
 induction l with
 |nil=>simp [Lib.indexByte]
 |cons b l ih=>
  have hge:=Lib.indexByte_ge l c
  simp only [Lib.indexByte,List.contains_cons,Bool.or_eq_true,beq_iff_eq]
  by_cases h:b=c
  ·subst h;simp
  ·have h':¬ c=b:=fun e=>h e.symm
   simp only [h,if_false,h',false_or, ← ih]
   split<;>omega
theorem wxv (b:UInt8) (h:b.toNat<128):decide (0≤wcd wem (b.toNat:Int))=isNB b:=by
 have e:decide ((b.toNat:Int)<128)=true:=decide_eq_true (by omega)
 simp only [wcd,e,wpz]
 rw [← wxz]
 cases hc:wem.contains b with
 |true=>exact decide_eq_true ((wsg _ _).2 hc)
 |false=>exact decide_eq_false fun hh=>by rw [(wsg _ _).1 hh] at hc;cases hc
theorem wxw (r:Nat) (h:128≤r):decide (0≤wcd wem (r:Int))=false:=by
 have e:decide ((r:Int)<128)=false:=decide_eq_false (by omega)
 simp only [wcd,e]
 rfl
def wk4:Spec
 |[.int .i32 r],[]=>some (.bool (!decide (0≤wcd wem r)),[],0≤r∧r≤1114111)
 |_,_=>none
def wc2 (s:List UInt8):Nat:=s.findIdx fun b=> !isNB b
def wer (s:List UInt8):Int:=match s.all isNB with
 |true=> -1
 |false=>wc2 s
def wlm (s:List UInt8) (pos:Nat):St:=⟨[(1,.func 230 []),(2,.bool true),(10,.ptr 0 0)],[(0,.siter s pos)],1,[]⟩
def wmv (s:List UInt8):wau:=fun st Q=>canonIs te 0 [1,2,10] st (wlm s 0)∧waa (s.all isNB) (Q (.exit 0) ⟨[],[],0,[]⟩) (Q .ret ⟨[(6,.int .i64 (wc2 s))],[],0,[]⟩)
def wlh:Spec
 |[.str s,.func 230 [],.bool true],[]=>some (.int .i64 (wer s),[],True)
 |_,_=>none
def wl5:Spec
 |[.str s,.func 230 []],[]=>some (.int .i64 (wer s),[],True)
 |_,_=>none
def wl6:Spec
 |[.str s,.func 230 []],[]=>some (.bool (!s.all isNB),[],True)
 |_,_=>none
def wa7 (s:List UInt8):Bool:=decide (1≤s.length) && decide (s.length≤24) && wfj (s.getD 0 0) && s.all isNB
def wgn:Spec
 |[.str s],[]=>some (.bool (wa7 s),[],True)
 |_,_=>none
theorem w0m {s:List UInt8} (h:s.all isNB=false):wc2 s<s.length∧isNB (s.getD (wc2 s) 0)=false∧∀ k,k<wc2 s→isNB (s.getD k 0)=true:=by
 have hlt:wc2 s<s.length:=by
  unfold wc2
  rw [List.findIdx_lt_length]
  have:¬ ∀ x∈s,isNB x=true:=fun hh=>by rw [List.all_eq_true.2 hh] at h;cases h
  simp only [Classical.not_forall] at this
  obtain ⟨x,hx,hb⟩:=this
  exact ⟨x,hx,by simpa using hb⟩
 refine ⟨hlt,?_,fun k hk=>?_⟩
 ·have:=List.findIdx_getElem (p:=fun b=> !isNB b) (xs:=s) (w:=hlt)
  have e:s.getD (wc2 s) 0=s[wc2 s]:=by simp [List.getD,hlt]
  rw [e]
  show isNB s[List.findIdx (fun b=> !isNB b) s]=false
  simpa using this
 ·have hk':k<s.length:=Nat.lt_trans hk hlt
  have:=List.not_of_lt_findIdx (p:=fun b=> !isNB b) (xs:=s) hk
  have e:s.getD k 0=s[k]:=by simp [List.getD,hk']
  rw [e]
  simpa using this
theorem wuz (b:UInt8):decide (wed [97,98,99,100,101,102,103,104,105,106,107,108,109,110,111,112,113,114,115,116,117,118,119,120,121,122,48,49,50,51,52,53,54,55,56,57] [b]=[])=wfj b:=by
 have h:=wp4 wi9 [b]
 simp only [List.all_cons,List.all_nil,Bool.and_true,wxx] at h
 cases hb:wfj b with
 |true=>exact decide_eq_true (h.2 hb)
 |false=>exact decide_eq_false fun he=>by rw [h.1 he] at hb;cases hb
theorem wzc (s:List UInt8):decide (0≤wer s)= !s.all isNB:=by
 unfold wer
 cases s.all isNB with
 |true=>rfl
 |false=>exact decide_eq_true (Int.natCast_nonneg _)
def wl0 (s:List UInt8) (k:Nat):St:=⟨[(0,.str s),(4,.int .i64 (wa3 s k)),(16,.int .i64 s.length),(17,.int .i64 k)],[],0,[]⟩
def wm1 (s:List UInt8):wau:=fun st Q=>canonIs te 0 [0,4,16,17] st (wl0 s 0)∧s.length≤12∧waa (s.all wbv) (Q (.exit 0) ⟨[(4,.int .i64 (wa3 s s.length))],[],0,[]⟩) (Q .ret ⟨[(2,.int .i64 0),(3,.bool false)],[],0,[]⟩)
theorem wtv {s:List UInt8}:∀ k,k≤s.length→(∀ j,j<k→48≤(s.getD j 0).toNat∧(s.getD j 0).toNat≤57)→0≤wa3 s k∧wa3 s k≤27 * k
 |0,_,_=>by simp [wa3]
 |k+1,hk,h=>by
  have ih:=wtv k (by omega) fun j hj=>h j (by omega)
  have hd:=h k (by omega)
  simp only [wa3]
  rcases Int.emod_two_eq (↑s.length - ↑k) with e | e<;>rw [e]<;>omega
theorem w0u {s:List UInt8} (h:∀ j,j<s.length→48≤(s.getD j 0).toNat∧(s.getD j 0).toNat≤57):s.all wbv=true:=by
 refine List.all_eq_true.2 fun b hb=>?_
 obtain ⟨j,hj,rfl⟩:=List.getElem_of_mem hb
 have:=h j hj
 have e:s.getD j 0=s[j]:=by simp [List.getD,hj]
 rw [e] at this
 simp [wbv,this.1,this.2]
def qtyF (d c a:Int):Int:=bif decide (d<1) then 80 else bif decide (4<d) then 80 else bif decide (c<1) then 81 else bif decide (100<c) then 81 else bif decide (a<1) then 82 else bif decide (Int.tdiv 1099511627776 c<a) then 82 else 0
def wku:Spec
 |[.agg [.int .i64 d,.int .i64 c,.int .i64 a]],[]=>some (.int .i64 (qtyF d c a),[],True)
 |_,_=>none
theorem wvk {c:Int} (h1:¬ c<1) (h2:¬ 100<c):c≠0∧inR .i64 (Int.tdiv 1099511627776 c):=by
 refine ⟨by omega,?_⟩
 rw [Int.tdiv_eq_ediv_of_nonneg (by omega)]
 simp only [inR]
 have h3:0≤1099511627776 / c:=Int.ediv_nonneg (by omega) (by omega)
 have h4:1099511627776 / c≤1099511627776:=Int.ediv_le_self _ (by omega)
 omega
def wfe (s:List UInt8):Int:=match wdb s with
 |true=>(words s).length
 |false=>match decide (s=[]) with
  |true=>0
  |false=> -1
def wk9:Spec
 |[.str s],[]=>some (.int .i64 (wfe s),[],s.length<4294967281)
 |_,_=>none
theorem wyd (s:List UInt8):decide (wfe s<1)= !wdb s:=by
 unfold wfe
 cases h:wdb s with
 |true=>
  have hn:1≤(words s).length:=by rw [wgz];omega
  have hlt:¬ (((words s).length:Int)<1):=by omega
  exact decide_eq_false hlt
 |false=>cases decide (s=[])<;>rfl
def why (nm:Nat→List UInt8):Nat→Nat→Bool
 |0,_=>true
 |j+1,k=>why nm j k && !decide (nm k=nm j)
def atOK (nm vl:Nat→List UInt8) (k:Nat):Bool:=wa7 (nm k) && wa7 (vl k) && why nm k k
def wdn (nm vl:Nat→List UInt8):Nat→Bool
 |0=>true
 |k+1=>wdn nm vl k && atOK nm vl k
def valF (id code brand:List UInt8) (d c a:Int) (n:Nat) (nm vl:Nat→List UInt8):Int:=
 bif !wbq id then 90 else bif !wdb code then 91 else bif !wa7 brand then 92 else bif !decide (qtyF d c a=0) then 93 else bif decide (12<n) then 94 else bif wdn nm vl n then 0 else 94
def nmOf (f:Nat→List AV) (i:Nat):List UInt8:=wbt ((f i).getD 0 .any)
def vlOf (f:Nat→List AV) (i:Nat):List UInt8:=wbt ((f i).getD 1 .any)
def weu (nm vl:Nat→List UInt8):Nat→List AV:=fun i=>[.str (nm i),.str (vl i)]
end Go.Eng
namespace Go.Eng
open Go.Proofs Go.RowKit
variable {H:Type} {enc:TypeId×Value→H} {W:World}
noncomputable def fsOf (t:TypeId):Array Field:=match Tryz.prog.underlying t with
 |some (.struct fs)=>fs
 |_=>#[]
theorem undIs:Tryz.prog.underlying 23=some (.slice 3):=by kernel_rfl
theorem undI:Tryz.prog.underlying 3=some (.int .i64):=by kernel_rfl
theorem cI:Tryz.prog.cellsOf 3=1:=by kernel_rfl
theorem field {t:TypeId} {n:Nat} {cs:List Value} {xs:List (DataW H×List MemPlace)} {sp:Nat→Bool} {hd:Bool} (hl:xs.length=(fsOf t).size)
  (h:∀ (i:Nat) (f:Field),(fsOf t)[i]?=some f→DataW.trod enc Tryz.prog W 0 sp hd n f.type ((cs.drop f.offset).take (Tryz.prog.cellsOf f.type))=xs[i]?)
  (i:Nat) (ty:TypeId) (off:Nat) (hf:((fsOf t)[i]?).map (fun f=>(f.type,f.offset))=some (ty,off)):∃ y,DataW.trod enc Tryz.prog W 0 sp hd n ty ((cs.drop off).take (Tryz.prog.cellsOf ty))=some y:=by
 obtain ⟨f,hf1,hf2⟩:=Option.map_eq_some_iff.1 hf
 simp only [Prod.mk.injEq] at hf2
 obtain ⟨rfl,rfl⟩:=hf2
 have hi:i<xs.length:=by rw [hl];exact (Array.getElem?_eq_some_iff.1 hf1).1
 exact ⟨xs[i],by rw [h i f hf1];simp [hi]⟩
theorem w0w (a:Addr) (i j:Nat):(a.add i).add j=a.add (i+j):=by
 obtain ⟨b,o,e⟩:=a
 by_cases h1:i=0<;>by_cases h2:j=0<;>simp [Addr.add,h1,h2,Nat.add_assoc]
theorem w0x (a:Addr) (i:Nat):(a.add i).block=a.block:=by
 unfold Addr.add
 split<;>rfl
theorem wvi {fuel:Nat} {cs:List Value} {x:DataW H×List MemPlace} {sp:Nat→Bool} {hd:Bool} (h:DataW.trod enc Tryz.prog W 0 sp hd fuel 23 cs=some x):
  ∃ (A:Option Addr) (n c:Nat) (v:Nat→Int),cs=[.slice A n c]∧V W (fun _=>False) nob (.slice A n c) (.view 1 n (fun i=>[.int .i64 (v i)])):=by
 rcases DataW.trod_slice undIs h with ⟨rfl,_⟩ | ⟨a,len,cap,elems,rest,n,_,rfl,_,hb,hl,hm,hlen,hel,_⟩
 ·exact ⟨none,0,0,fun _=>0,rfl,V_view _ (Nat.le_refl _) (Nat.zero_le _) (fun i hi=>by omega) (.inl rfl)⟩
 ·have hat:∀ i,i<len→∃ z,W.cell? (a.add i)=some (.int .i64 z):=by
   intro i hi
   have h1:=hel i hi
   rw [cI,Nat.mul_one,List.getElem?_eq_getElem (by omega),Option.bind_eq_some_iff] at h1
   obtain ⟨cs',hcs,hy⟩:=h1
   obtain ⟨z,rfl,_⟩:=DataW.trod_int undI hy
   obtain ⟨_,_,h2⟩:=World.cells?_some hcs
   have q0:=h2 0 (by omega)
   rw [w0w,Nat.add_zero] at q0
   exact ⟨z,q0⟩
  refine ⟨some a,len,cap,fun i=>match W.cell? (a.add i) with | some (.int .i64 z)=>z | _=>0,rfl,V_view _ hl hm (fun _ _=>rfl) ?_⟩
  by_cases h0:len=0
  ·exact .inl h0
  ·refine .inr ⟨a,rfl,?_,fun i hi j hj=>?_⟩
   ·have h1:=hel 0 (by omega)
    rw [List.getElem?_eq_getElem (show 0<elems.length by omega),Option.bind_eq_some_iff] at h1
    obtain ⟨cs',hcs,_⟩:=h1
    rw [cI] at hcs
    have q:=World.cells?_block hcs (by omega)
    rw [w0x] at q
    exact q
   ·obtain rfl:j=0:=by omega
    obtain ⟨z,hz⟩:=hat i hi
    rw [Nat.mul_one,Nat.add_zero]
    refine ⟨_,hz,rfl,fun u hu=>?_⟩
    dsimp only at hu
    rw [hz] at hu
    obtain rfl:=Option.some.inj hu
    exact .int
theorem wut {P:Program} {w:World} {base fuel:Nat} {t:TypeId} {ms} {cs:List Value} {name:String} {d:DataW H} {p:List MemPlace} {sp:Nat→Bool} {hd:Bool} (ht:P.underlying t=some (.interface ms))
  (h:DataW.trod enc P w base sp hd fuel t cs=some (.iface name d,p)):∃ u v,cs=[.iface u v]:=by
 cases fuel with
 |zero=>simp [DataW.trod] at h
 |succ n=>
  unfold DataW.trod at h
  rw [ht] at h
  split at h<;>simp_all
theorem wr6 {n:String} {g:Nat} {t:TypeId} {ms} {w:World} {name:String} {d:DataW Unit} {r:List (String×DataW Unit)} {ps:List MemPlace} (hg:Tryz.prog.globalNamed n=some g) (ht:(Tryz.prog.globals[g]?).map (·.type)=some t) (hu:Tryz.prog.underlying t=some (.interface ms))
  (h:DataW.LaidVars Tryz.prog w ((n,.iface name d)::r) ps):∃ u v,w.cell? ⟨g,0,none⟩=some (.iface u v):=by
 obtain ⟨g',t',cs,fuel,p,q,hg',ht',hv,htr,_,_⟩:=h
 obtain rfl:=Option.some.inj (hg.symm.trans hg')
 obtain rfl:=Option.some.inj (ht.symm.trans ht')
 obtain ⟨u,v,hc⟩:=wut hu htr
 have:=World.var?_cell hg hv 0
 refine ⟨u,v,this.trans ?_⟩
 rw [← Array.getElem?_toList,hc];rfl
theorem whm {w:World} {x:String×DataW Unit} {r:List (String×DataW Unit)} {ps:List MemPlace} (h:DataW.LaidVars Tryz.prog w (x::r) ps):∃ q,DataW.LaidVars Tryz.prog w r q:=by
 obtain ⟨_,_,_,_,_,q,_,_,_,_,h,_⟩:=h
 exact ⟨q,h⟩
theorem wx6 {w:World} (h:w.ShapedOpen Tryz.prog):∃ m,w.cell? ⟨0,0,none⟩=some (.int .i64 m):=
 cell_of_shapedOpen_int (t:=3) (zero:=#[.int .i64 0]) h (of_decide_eq_true (by kernel_rfl)) (by kernel_rfl) rfl (by kernel_rfl) (by kernel_rfl) (by kernel_rfl)
noncomputable def msE:Array (String×TypeId):=match Tryz.prog.underlying 160 with
 |some (.interface ms)=>ms
 |_=>#[]
theorem gErrS : Tryz.prog.globalNamed "strconv.ErrSyntax" = some 4 := by kernel_rfl
theorem gErrR : Tryz.prog.globalNamed "strconv.ErrRange" = some 5 := by kernel_rfl
theorem wyf {w:World} {n:String} {k:IntKind} {zs:List Int} {r:List (String×DataW Unit)} {ps:List MemPlace} {g t e m:Nat} (hg:Tryz.prog.globalNamed n=some g) (hty:(Tryz.prog.globals[g]?).map (·.type)=some t) (ht:Tryz.prog.underlying t=some (.array m e))
  (he:Tryz.prog.underlying e=some (.int k)) (hce:Tryz.prog.cellsOf e=1) (hct:Tryz.prog.cellsOf t=m) (h:DataW.LaidVars Tryz.prog w ((n,Lib.tabData k zs)::r) ps):Lib.TabIs Tryz.prog w n k zs:=by
 obtain ⟨g',t',cs,fuel,p,q,hg',ht',hvar,hd,_,_⟩:=h
 obtain rfl:=Option.some.inj (hg.symm.trans hg')
 obtain rfl:=Option.some.inj (hty.symm.trans ht')
 unfold Lib.TabIs
 rw [hvar, ← Lib.cells_of_tab ht he hce hct hd]
theorem gPow : Tryz.prog.globalNamed "internal/strconv.uint64pow10" = some 1 := by kernel_rfl
noncomputable def tPow:TypeId:=((Tryz.prog.globals[1]?).map (·.type)).getD 0
noncomputable def ePow:TypeId:=match Tryz.prog.underlying tPow with
 |some (.array _ e)=>e
 |_=>0
theorem powTab:(Go.Proofs.YtgcboligphndhaaGreatDoor.Rows.laid_internal_strconv_uint64pow10:DataW Unit)=Lib.tabData .u64 Lib.pow10Tab:=by kernel_rfl
theorem wyh {w:World} (hL:laidMetH Tryz.prog Go.Proofs.YtgcboligphndhaaGreatDoor.Rows.collectionMarksRow.laid w) (hsh:w.ShapedOpen Tryz.prog):LaidW w:=by
 have h':laidMet Tryz.prog Go.Proofs.YtgcboligphndhaaGreatDoor.Rows.collectionMarksRow.laid w:=hL
 obtain ⟨ps,h0,_⟩:=h'
 obtain ⟨_,h1⟩:=whm h0
 obtain ⟨_,h2⟩:=whm h1
 obtain ⟨_,h3⟩:=whm h2
 obtain ⟨_,h4⟩:=whm h3
 obtain ⟨_,h5⟩:=whm h4
 exact ⟨wx6 hsh,wr6 gErrS (t:=160) (ms:=msE) (by kernel_rfl) (by kernel_rfl) h5,wr6 gErrR (t:=160) (ms:=msE) (by kernel_rfl) (by kernel_rfl) h4,
  wyf (r:=_) gPow (t:=tPow) (e:=ePow) (m:=20) (by kernel_rfl) (by kernel_rfl) (by kernel_rfl) (by kernel_rfl) (by kernel_rfl) (powTab ▸ h2)⟩
end Go.Eng
namespace Go.Eng
open Go.Proofs Go.RowKit
def litV:DataW Unit→Value
 |.lit (.int k n)=>.int k n
 |_=>default
def wf7:DataW Unit→List (DataW Unit)
 |.agg l=>l
 |x=>[x]
noncomputable def low:Nat:=(World.holding Tryz.prog default ⟨#[],#[],[]⟩).heap.size
noncomputable def wr7 (os:Os):World:=
 let w0:=World.holding Tryz.prog os ⟨#[.cells #[.string ⟨#[118,97,108,117,101,32,111,117,116,32,111,102,32,114,97,110,103,101]⟩] 300,.cells #[.string ⟨#[105,110,118,97,108,105,100,32,115,121,110,116,97,120]⟩] 300],#[],[]⟩
 let put (h:Array Obj) (g:Nat) (cs:Array Value):Array Obj:=h.modify g fun
  |.cells _ t frozen=>.cells cs t frozen
  |o=>o
 let h1:=put w0.heap 2 ((wf7 Go.Proofs.YtgcboligphndhaaGreatDoor.Rows.laid_math_bits_deBruijn32tab).map litV).toArray
 let h2:=put h1 3 ((wf7 Go.Proofs.YtgcboligphndhaaGreatDoor.Rows.laid_math_bits_deBruijn64tab).map litV).toArray
 let h3:=put h2 1 ((wf7 Go.Proofs.YtgcboligphndhaaGreatDoor.Rows.laid_internal_strconv_uint64pow10).map litV).toArray
 let h4:=put h3 7 (((wf7 Go.Proofs.YtgcboligphndhaaGreatDoor.Rows.laid_unicode_utf8_acceptRanges).flatMap wf7).map litV).toArray
 let h5:=put h4 6 ((wf7 Go.Proofs.YtgcboligphndhaaGreatDoor.Rows.laid_unicode_utf8_first).map litV).toArray
 let h6:=put h5 5 #[.iface 298 (.pointer (some ⟨low,0,none⟩))]
 let h7:=put h6 4 #[.iface 298 (.pointer (some ⟨low+1,0,none⟩))]
 { w0 with heap:=h7 }
theorem wyg (os:Os) (args:Array Value):laidMet Tryz.prog Go.Proofs.YtgcboligphndhaaGreatDoor.Rows.collectionMarksRow.laid ((wr7 os).forCall (fun _ _=>0) ⟨#[],args,[]⟩).memory:=
 laidMet_of_run3 8 (by kernel_rfl) (by kernel_rfl) (by kernel_rfl)
end Go.Eng
namespace Go.Eng
open Go.Proofs Go.RowKit Go.ChangeShapes Go.WideShapes Go.ChangeAt
theorem mixedOK:Tryz.prog.follows .mixedOrders=true:=by kernel_rfl
def gTop:Nat:=max (max (max 0 4) 5) 1+1
theorem keepOK (w w':World) (h:∀ b,b<gTop→w'.heap[b]?=w.heap[b]?) (hl:LaidW w):LaidW w':=by
 have k:∀ g:Nat,g<gTop→w'.cell? ⟨g,0,none⟩=w.cell? ⟨g,0,none⟩:=fun g hg=>World.cell?_of_block (w:=w) (h g hg)
 obtain ⟨h1,h2,h3,h4⟩:=hl
 refine ⟨by rw [k _ (by decide)];exact h1,by rw [k _ (by decide)];exact h2,by rw [k _ (by decide)];exact h3,?_⟩
 have e:=h 1 (by decide)
 unfold Lib.TabIs at h4 ⊢
 rw [← h4]
 simp only [World.var?,gPow,Option.bind_some,e]
noncomputable def cx:Ctx:=⟨Tryz.prog,gTop,LaidW,mixedOK,keepOK,false⟩
instance:Ctx.Loose cx:=⟨rfl⟩
theorem wj3 {w:World} {g:Nat} {v:Value} (h:w.cell? ⟨g,0,none⟩=some v):g<w.heap.size:=by
 have hc:w.cells? 0 ⟨g,0,none⟩ 1=some [v]:=Go.ChangeShapes.cells?_of (by omega) rfl (fun i hi=>by
  obtain rfl:i=0:=by omega
  exact h)
 exact World.cells?_block hc (by omega)
theorem gsz_le {w:World} (h:LaidW w):cx.gsz≤w.heap.size:=by
 obtain ⟨⟨_,h1⟩,⟨_,_,h2⟩,⟨_,_,h3⟩,h4⟩:=h
 have a:=wj3 h1
 have b:=wj3 h2
 have c:=wj3 h3
 have d:=wj3 (h4.cell gPow 0 (by decide))
 show max (max (max _ _) _) _+1≤_
 omega
theorem ownK:ownKnob Tryz.prog.godebug=none:=by kernel_rfl
theorem wr8:laidOutB Tryz.prog=true:=by kernel_rfl
end Go.Eng
