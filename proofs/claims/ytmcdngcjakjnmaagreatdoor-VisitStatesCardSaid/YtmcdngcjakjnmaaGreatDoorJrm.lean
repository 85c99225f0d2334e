/- What all rows share: the context of the engine at this program. -/
import Derived.Test.YtmcdngcjakjnmaaGreatDoorJrl
import Derived.Shelf.Small.Utf8
import Derived.Shelf.Small.Bits
import Derived.Shelf.Small.Strs
import Derived.Shelf.Strconv.Atoi
import Derived.Shelf.Strconv.Itoa0
import Derived.Shelf.Strconv.Itoa1
import Derived.Shelf.LaysM
import Derived.Shelf.Strconv.Itoa2
import Derived.Shelf.Strconv.Itoa3
import Derived.Shelf.Strconv.AtoiErrFast
import Derived.Shelf.Strconv.ParseIntEmpty
import Derived.Shelf.Strconv.AtoiFail
import Derived.Shelf.Strconv.Clone
import Derived.Shelf.Strconv.SyntaxError
import Derived.Shelf.LaysC
import Derived.Shelf.Strconv.ToError
import Derived.Shelf.Strconv.Lower
import Derived.Shelf.Strconv.ParseUint10
import Derived.Shelf.Strconv.ParseUint10Empty
import Derived.Shelf.Strconv.ParseUint10Any
import Derived.Shelf.Strconv.ParseInt10
import Derived.Shelf.Strconv.AtoiLong
import Derived.Shelf.Strconv.AtoiInnerAll
import Derived.Shelf.Strconv.RangeError
import Derived.Shelf.Strconv.ToErrorRange
import Derived.Shelf.Strconv.AtoiAll
import Derived.Shelf.Strings.Search1
import Derived.Shelf.Strings.Search2
import Derived.Shelf.Strings.Search3
import Derived.Shelf.Strings.Count
import Derived.Shelf.Strings.Shaped
import Derived.Shelf.Strings.Split
import Derived.Shelf.Strings.Runes
import Derived.Shelf.Strings.AsciiSet
import Derived.Shelf.Unicode.DecodeSlow
import Derived.Lib.IndexLaws
import Derived.Test.YtmcdngcjakjnmaaGreatDoorRows
import Derived.Shelf.Vars
import Derived.FnData
import Derived.LaidLaws
import Derived.Deep.DeepLaidRun
import Derived.WalkKit
import Derived.OpenShut
import Derived.ShutString
import Derived.ChangeOld
namespace Go.Proofs
open Go.Shelf
def Tryz.lays119_ren:Go.Shelf.Ren:=⟨λ | 119=>192 | n=>n,λ | 21=>21 | 4=>4 | n=>n,λ | n=>n⟩
theorem Tryz.lays119:Go.Proofs.Lays.n119 Tryz.prog Tryz.lays119_ren:={
 mixed:=by kernel_rfl
 f119:=Tryz.func192.trans (congrArg some (by kernel_rfl))
 t4:=Tryz.underlying4
 a4:=Tryz.isAgg4
 z4:=Tryz.sizeOf4
 v4:=Tryz.zeroValue4
 t21:=Tryz.underlying21
 a21:=Tryz.isAgg21
 z21:=Tryz.sizeOf21
 v21:=Tryz.zeroValue21 }
theorem Tryz.utf8_ValidRune(r:Int)(w:World):
  Calls Tryz.prog 192 #[.int .i32 r] w λe w'=>e= .returned (.bool (Lib.validRune r))/\w'=w:=Any.utf8_ValidRune Tryz.lays119 r w
def Tryz.lays106_ren:Go.Shelf.Ren:=⟨λ | 106=>80 | 213=>100 | 265=>124 | n=>n,λ | 9=>9 | 3=>3 | n=>n,λ | n=>n⟩
theorem Tryz.lays106:Go.Proofs.Lays.n106 Tryz.prog Tryz.lays106_ren:={
 mixed:=by kernel_rfl
 f106:=Tryz.func80.trans (congrArg some (by kernel_rfl))
 f213:=Tryz.func100.trans (congrArg some (by kernel_rfl))
 f265:=Tryz.func124.trans (congrArg some (by kernel_rfl))
 t3:=Tryz.underlying3
 a3:=Tryz.isAgg3
 z3:=Tryz.sizeOf3
 v3:=Tryz.zeroValue3
 t9:=Tryz.underlying9
 a9:=Tryz.isAgg9
 z9:=Tryz.sizeOf9
 v9:=Tryz.zeroValue9 }
open Go.RowKit in
theorem Tryz.strings_Compare(a b:ByteArray)(w:World):
  Calls Tryz.prog 80 #[.string a,.string b] w λe w'=>e= .returned (.int .i64 (Lib.compareBytes a.data.toList b.data.toList))/\w'=w:=Any.strings_Compare Tryz.lays106 a b w
def Tryz.lays137_ren:Go.Shelf.Ren:=⟨λ | 137=>191 | 217=>206 | 266=>214 | n=>n,λ | 9=>9 | 5=>5 | 3=>3 | n=>n,λ | n=>n⟩
theorem Tryz.lays137:Go.Proofs.Lays.n137 Tryz.prog Tryz.lays137_ren:={
 mixed:=by kernel_rfl
 f137:=Tryz.func191.trans (congrArg some (by kernel_rfl))
 f217:=Tryz.func206.trans (congrArg some (by kernel_rfl))
 f266:=Tryz.func214.trans (congrArg some (by kernel_rfl))
 t3:=Tryz.underlying3
 a3:=Tryz.isAgg3
 z3:=Tryz.sizeOf3
 v3:=Tryz.zeroValue3
 t5:=Tryz.underlying5
 a5:=Tryz.isAgg5
 z5:=Tryz.sizeOf5
 v5:=Tryz.zeroValue5
 t9:=Tryz.underlying9
 a9:=Tryz.isAgg9
 z9:=Tryz.sizeOf9
 v9:=Tryz.zeroValue9 }
open Go.RowKit in
theorem Tryz.strings_IndexByte(s:ByteArray)(c:Int)(w:World):
  Calls Tryz.prog 191 #[.string s,.int .u8 c] w λe w'=>e= .returned (.int .i64 (Lib.indexByte s.data.toList c.toNat.toUInt8))/\w'=w:=Any.strings_IndexByte Tryz.lays137 s c w
open Go.RowKit Go.Sort Go.Lib in
def Tryz.lays171_ren:Go.Shelf.Ren:=⟨λ | 171=>186 | 243=>203 | 246=>213 | 283=>218 | 284=>219 | 285=>220 | 286=>221 | 129=>111 | 317=>223 | 318=>224 | 319=>225 | 320=>226 | 337=>227 | 338=>228 | n=>n,λ | 3=>3 | 9=>9 | 2=>2 | 4=>4 | 171=>237 | 0=>0 | 53=>105 | 37=>97 | 5=>5 | 173=>239 | 212=>244 | 51=>124 | 20=>20 | 213=>245 | 46=>117 | 232=>246 | 233=>247 | n=>n,λ | 17=>5 | 18=>6 | 19=>7 | n=>n⟩
theorem Tryz.lays171:Go.Proofs.Lays.n171 Tryz.prog Tryz.lays171_ren:={
 mixed:=by kernel_rfl
 f129:=Tryz.func111.trans (congrArg some (by kernel_rfl))
 f171:=Tryz.func186.trans (congrArg some (by kernel_rfl))
 f243:=Tryz.func203.trans (congrArg some (by kernel_rfl))
 f246:=Tryz.func213.trans (congrArg some (by kernel_rfl))
 f283:=Tryz.func218.trans (congrArg some (by kernel_rfl))
 f284:=Tryz.func219.trans (congrArg some (by kernel_rfl))
 f285:=Tryz.func220.trans (congrArg some (by kernel_rfl))
 f286:=Tryz.func221.trans (congrArg some (by kernel_rfl))
 f317:=Tryz.func223.trans (congrArg some (by kernel_rfl))
 f318:=Tryz.func224.trans (congrArg some (by kernel_rfl))
 f319:=Tryz.func225.trans (congrArg some (by kernel_rfl))
 f320:=Tryz.func226.trans (congrArg some (by kernel_rfl))
 f337:=Tryz.func227.trans (congrArg some (by kernel_rfl))
 f338:=Tryz.func228.trans (congrArg some (by kernel_rfl))
 t0:=Tryz.underlying0
 a0:=Tryz.isAgg0
 z0:=Tryz.sizeOf0
 v0:=Tryz.zeroValue0
 t2:=Tryz.underlying2
 a2:=Tryz.isAgg2
 z2:=Tryz.sizeOf2
 v2:=Tryz.zeroValue2
 t3:=Tryz.underlying3
 a3:=Tryz.isAgg3
 z3:=Tryz.sizeOf3
 v3:=Tryz.zeroValue3
 t4:=Tryz.underlying4
 a4:=Tryz.isAgg4
 z4:=Tryz.sizeOf4
 v4:=Tryz.zeroValue4
 t5:=Tryz.underlying5
 a5:=Tryz.isAgg5
 z5:=Tryz.sizeOf5
 v5:=Tryz.zeroValue5
 t9:=Tryz.underlying9
 a9:=Tryz.isAgg9
 z9:=Tryz.sizeOf9
 v9:=Tryz.zeroValue9
 t20:=Tryz.underlying20
 a20:=Tryz.isAgg20
 z20:=Tryz.sizeOf20
 v20:=Tryz.zeroValue20
 t37:=Tryz.underlying97
 a37:=Tryz.isAgg97
 z37:=Tryz.sizeOf97
 v37:=Tryz.zeroValue97
 t46:=Tryz.underlying117
 a46:=Tryz.isAgg117
 z46:=Tryz.sizeOf117
 v46:=Tryz.zeroValue117
 t51:=Tryz.underlying124
 a51:=Tryz.isAgg124
 z51:=Tryz.sizeOf124
 v51:=Tryz.zeroValue124
 t53:=Tryz.underlying105
 a53:=Tryz.isAgg105
 z53:=Tryz.sizeOf105
 v53:=Tryz.zeroValue105
 t171:=Tryz.underlying237
 a171:=Tryz.isAgg237
 z171:=Tryz.sizeOf237
 v171:=Tryz.zeroValue237
 t173:=Tryz.underlying239
 a173:=Tryz.isAgg239
 z173:=Tryz.sizeOf239
 v173:=Tryz.zeroValue239
 t212:=Tryz.underlying244
 a212:=Tryz.isAgg244
 z212:=Tryz.sizeOf244
 v212:=Tryz.zeroValue244
 t213:=Tryz.underlying245
 a213:=Tryz.isAgg245
 z213:=Tryz.sizeOf245
 t232:=Tryz.underlying246
 a232:=Tryz.isAgg246
 z232:=Tryz.sizeOf246
 v232:=Tryz.zeroValue246
 t233:=Tryz.underlying247
 a233:=Tryz.isAgg247
 z233:=Tryz.sizeOf247
 v233:=Tryz.zeroValue247
 g17:=by kernel_rfl
 g18:=by kernel_rfl
 g19:=by kernel_rfl }
open Go.RowKit Go.Sort Go.Lib in
theorem Tryz.strconv_Itoa_small(i:Nat)(hi:i<100)(w:World):
  Calls Tryz.prog 186 #[.int .i64 i] w λe w'=>e= .returned (.string ⟨(Lib.decDigits i).toArray⟩)/\w'=w:=Any.strconv_Itoa_small Tryz.lays171 i hi w
def Tryz.laysC172_ren:Go.Shelf.Ren:=⟨λ | 172=>170 | 244=>182 | 245=>183 | 247=>198 | 279=>199 | 280=>200 | 281=>201 | 282=>202 | 287=>210 | 316=>211 | 171=>186 | 205=>212 | 321=>216 | 322=>217 | 243=>203 | 246=>213 | 283=>218 | 284=>219 | 285=>220 | 286=>221 | 129=>111 | 317=>223 | 318=>224 | 319=>225 | 320=>226 | 337=>227 | 338=>228 | n=>n,λ | 9=>9 | 3=>3 | 75=>192 | 76=>193 | 4=>4 | 5=>5 | 167=>215 | 37=>97 | 0=>0 | 85=>216 | 2=>2 | 168=>218 | 53=>105 | 175=>221 | 46=>117 | 210=>225 | 127=>233 | 145=>236 | 143=>234 | 21=>21 | 171=>237 | 173=>239 | 212=>244 | 51=>124 | 20=>20 | 213=>245 | 232=>246 | 233=>247 | 80=>108 | n=>n,λ | 15=>1 | 16=>2 | 17=>5 | 18=>6 | 19=>7 | n=>n⟩
theorem Tryz.laysC172:Go.Proofs.LaysC.n172 Tryz.prog Tryz.laysC172_ren:={
 mixed:=by kernel_rfl
 f129:=Tryz.func111.trans (congrArg some (by kernel_rfl))
 f171:=Tryz.func186.trans (congrArg some (by kernel_rfl))
 f172:=Tryz.func170.trans (congrArg some (by kernel_rfl))
 f205:=Tryz.func212.trans (congrArg some (by kernel_rfl))
 f243:=Tryz.func203.trans (congrArg some (by kernel_rfl))
 f244:=Tryz.func182.trans (congrArg some (by kernel_rfl))
 f245:=Tryz.func183.trans (congrArg some (by kernel_rfl))
 f246:=Tryz.func213.trans (congrArg some (by kernel_rfl))
 f247:=Tryz.func198.trans (congrArg some (by kernel_rfl))
 f279:=Tryz.func199.trans (congrArg some (by kernel_rfl))
 f280:=Tryz.func200.trans (congrArg some (by kernel_rfl))
 f281:=Tryz.func201.trans (congrArg some (by kernel_rfl))
 f282:=Tryz.func202.trans (congrArg some (by kernel_rfl))
 f283:=Tryz.func218.trans (congrArg some (by kernel_rfl))
 f284:=Tryz.func219.trans (congrArg some (by kernel_rfl))
 f285:=Tryz.func220.trans (congrArg some (by kernel_rfl))
 f286:=Tryz.func221.trans (congrArg some (by kernel_rfl))
 f287:=Tryz.func210.trans (congrArg some (by kernel_rfl))
 f316:=Tryz.func211.trans (congrArg some (by kernel_rfl))
 f317:=Tryz.func223.trans (congrArg some (by kernel_rfl))
 f318:=Tryz.func224.trans (congrArg some (by kernel_rfl))
 f319:=Tryz.func225.trans (congrArg some (by kernel_rfl))
 f320:=Tryz.func226.trans (congrArg some (by kernel_rfl))
 f321:=Tryz.func216.trans (congrArg some (by kernel_rfl))
 f322:=Tryz.func217.trans (congrArg some (by kernel_rfl))
 f337:=Tryz.func227.trans (congrArg some (by kernel_rfl))
 f338:=Tryz.func228.trans (congrArg some (by kernel_rfl))
 t0:=Tryz.underlying0
 a0:=Tryz.isAgg0
 z0:=Tryz.sizeOf0
 v0:=Tryz.zeroValue0
 t2:=Tryz.underlying2
 a2:=Tryz.isAgg2
 z2:=Tryz.sizeOf2
 v2:=Tryz.zeroValue2
 t3:=Tryz.underlying3
 a3:=Tryz.isAgg3
 z3:=Tryz.sizeOf3
 v3:=Tryz.zeroValue3
 t4:=Tryz.underlying4
 a4:=Tryz.isAgg4
 z4:=Tryz.sizeOf4
 v4:=Tryz.zeroValue4
 t5:=Tryz.underlying5
 a5:=Tryz.isAgg5
 z5:=Tryz.sizeOf5
 v5:=Tryz.zeroValue5
 t9:=Tryz.underlying9
 a9:=Tryz.isAgg9
 z9:=Tryz.sizeOf9
 v9:=Tryz.zeroValue9
 t20:=Tryz.underlying20
 a20:=Tryz.isAgg20
 z20:=Tryz.sizeOf20
 v20:=Tryz.zeroValue20
 t21:=Tryz.underlying21
 a21:=Tryz.isAgg21
 z21:=Tryz.sizeOf21
 v21:=Tryz.zeroValue21
 t37:=Tryz.underlying97
 a37:=Tryz.isAgg97
 z37:=Tryz.sizeOf97
 v37:=Tryz.zeroValue97
 t46:=Tryz.underlying117
 a46:=Tryz.isAgg117
 z46:=Tryz.sizeOf117
 v46:=Tryz.zeroValue117
 t51:=Tryz.underlying124
 a51:=Tryz.isAgg124
 z51:=Tryz.sizeOf124
 v51:=Tryz.zeroValue124
 t53:=Tryz.underlying105
 a53:=Tryz.isAgg105
 z53:=Tryz.sizeOf105
 v53:=Tryz.zeroValue105
 t75:=Tryz.underlying192
 a75:=Tryz.isAgg192
 z75:=Tryz.sizeOf192
 v75:=Tryz.zeroValue192
 t76:=Tryz.underlying193
 a76:=Tryz.isAgg193
 z76:=Tryz.sizeOf193
 v76:=Tryz.zeroValue193
 t85:=Tryz.underlying216
 a85:=Tryz.isAgg216
 z85:=Tryz.sizeOf216
 v85:=Tryz.zeroValue216
 t127:=Tryz.underlying233
 a127:=Tryz.isAgg233
 z127:=Tryz.sizeOf233
 v127:=Tryz.zeroValue233
 t143:=Tryz.underlying234
 a143:=Tryz.isAgg234
 z143:=Tryz.sizeOf234
 v143:=Tryz.zeroValue234
 t145:=Tryz.underlying236
 a145:=Tryz.isAgg236
 z145:=Tryz.sizeOf236
 v145:=Tryz.zeroValue236
 t167:=Tryz.underlying215
 a167:=Tryz.isAgg215
 z167:=Tryz.sizeOf215
 v167:=Tryz.zeroValue215
 t168:=Tryz.underlying218
 a168:=Tryz.isAgg218
 z168:=Tryz.sizeOf218
 v168:=Tryz.zeroValue218
 t171:=Tryz.underlying237
 a171:=Tryz.isAgg237
 z171:=Tryz.sizeOf237
 v171:=Tryz.zeroValue237
 t173:=Tryz.underlying239
 a173:=Tryz.isAgg239
 z173:=Tryz.sizeOf239
 v173:=Tryz.zeroValue239
 t175:=Tryz.underlying221
 a175:=Tryz.isAgg221
 z175:=Tryz.sizeOf221
 v175:=Tryz.zeroValue221
 t210:=Tryz.underlying225
 a210:=Tryz.isAgg225
 z210:=Tryz.sizeOf225
 v210:=Tryz.zeroValue225
 t212:=Tryz.underlying244
 a212:=Tryz.isAgg244
 z212:=Tryz.sizeOf244
 v212:=Tryz.zeroValue244
 t213:=Tryz.underlying245
 a213:=Tryz.isAgg245
 z213:=Tryz.sizeOf245
 t232:=Tryz.underlying246
 a232:=Tryz.isAgg246
 z232:=Tryz.sizeOf246
 v232:=Tryz.zeroValue246
 t233:=Tryz.underlying247
 a233:=Tryz.isAgg247
 z233:=Tryz.sizeOf247
 v233:=Tryz.zeroValue247
 g15:=by kernel_rfl
 g16:=by kernel_rfl
 g17:=by kernel_rfl
 g18:=by kernel_rfl
 g19:=by kernel_rfl
 t80:=Tryz.underlying108
 a80:=Tryz.isAgg108
 z80:=Tryz.sizeOf108
 v80:=Tryz.zeroValue108
 i0:=by kernel_rfl
 i2:=by kernel_rfl
 i3:=by kernel_rfl
 i4:=by kernel_rfl
 i5:=by kernel_rfl
 i9:=by kernel_rfl
 i20:=by kernel_rfl
 i21:=by kernel_rfl
 i37:=by kernel_rfl
 i46:=by kernel_rfl
 i51:=by kernel_rfl
 i53:=by kernel_rfl
 i75:=by kernel_rfl
 i76:=by kernel_rfl
 i80:=by kernel_rfl
 i85:=by kernel_rfl
 i127:=by kernel_rfl
 i143:=by kernel_rfl
 i145:=by kernel_rfl
 i167:=by kernel_rfl
 i168:=by kernel_rfl
 i171:=by kernel_rfl
 i173:=by kernel_rfl
 i175:=by kernel_rfl
 i210:=by kernel_rfl
 i212:=by kernel_rfl
 i232:=by kernel_rfl
 i233:=by kernel_rfl
 m15:=by kernel_rfl
 m16:=by kernel_rfl
 m17:=by kernel_rfl
 m18:=by kernel_rfl
 m19:=by kernel_rfl
 c0:=by kernel_rfl
 c2:=by kernel_rfl
 c3:=by kernel_rfl
 c4:=by kernel_rfl
 c5:=by kernel_rfl
 c9:=by kernel_rfl
 c20:=by kernel_rfl
 c21:=by kernel_rfl
 c37:=by kernel_rfl
 c46:=by kernel_rfl
 c51:=by kernel_rfl
 c53:=by kernel_rfl
 c75:=by kernel_rfl
 c76:=by kernel_rfl
 c80:=by kernel_rfl
 c85:=by kernel_rfl
 c127:=by kernel_rfl
 c143:=by kernel_rfl
 c145:=by kernel_rfl
 c167:=by kernel_rfl
 c168:=by kernel_rfl
 c171:=by kernel_rfl
 c173:=by kernel_rfl
 c175:=by kernel_rfl
 c210:=by kernel_rfl
 c212:=by kernel_rfl
 c213:=by kernel_rfl
 c232:=by kernel_rfl
 c233:=by kernel_rfl }
open Go.RowKit in
theorem Tryz.strconv_Atoi_ok(s:ByteArray)(hmax:s.size<=9223372036854775806)(v:Int)(h:Lib.atoiAll s.data.toList= .ok v)(w:World):
  Calls Tryz.prog 170 #[.string s] w λe w'=>e= .returned (.tuple #[.int .i64 v,.nilIface])/\(w'=w∨∃t,w'=Lib.bytesWorld w 5 t):=Any.strconv_Atoi_ok Tryz.laysC172 s hmax v h w
def Tryz.lays146_ren:Go.Shelf.Ren:=⟨λ | 146=>169 | 221=>181 | 268=>195 | 138=>196 | 143=>197 | 195=>207 | 197=>188 | 218=>208 | 219=>209 | 260=>204 | 217=>206 | 225=>194 | 224=>193 | 267=>215 | 266=>214 | 314=>222 | n=>n,λ | 9=>9 | 31=>60 | 3=>3 | 4=>4 | 0=>0 | 105=>210 | 21=>21 | 5=>5 | 46=>117 | 119=>228 | 139=>231 | 138=>230 | 146=>241 | 51=>124 | n=>n,λ | 1=>0 | 3=>3 | 4=>4 | n=>n⟩
theorem Tryz.lays146:Go.Proofs.Lays.n146 Tryz.prog Tryz.lays146_ren:={
 mixed:=by kernel_rfl
 f138:=Tryz.func196.trans (congrArg some (by kernel_rfl))
 f143:=Tryz.func197.trans (congrArg some (by kernel_rfl))
 f146:=Tryz.func169.trans (congrArg some (by kernel_rfl))
 f195:=Tryz.func207.trans (congrArg some (by kernel_rfl))
 f197:=Tryz.func188.trans (congrArg some (by kernel_rfl))
 f217:=Tryz.func206.trans (congrArg some (by kernel_rfl))
 f218:=Tryz.func208.trans (congrArg some (by kernel_rfl))
 f219:=Tryz.func209.trans (congrArg some (by kernel_rfl))
 f221:=Tryz.func181.trans (congrArg some (by kernel_rfl))
 f224:=Tryz.func193.trans (congrArg some (by kernel_rfl))
 f225:=Tryz.func194.trans (congrArg some (by kernel_rfl))
 f260:=Tryz.func204.trans (congrArg some (by kernel_rfl))
 f266:=Tryz.func214.trans (congrArg some (by kernel_rfl))
 f267:=Tryz.func215.trans (congrArg some (by kernel_rfl))
 f268:=Tryz.func195.trans (congrArg some (by kernel_rfl))
 f314:=Tryz.func222.trans (congrArg some (by kernel_rfl))
 t0:=Tryz.underlying0
 a0:=Tryz.isAgg0
 z0:=Tryz.sizeOf0
 v0:=Tryz.zeroValue0
 t3:=Tryz.underlying3
 a3:=Tryz.isAgg3
 z3:=Tryz.sizeOf3
 v3:=Tryz.zeroValue3
 t4:=Tryz.underlying4
 a4:=Tryz.isAgg4
 z4:=Tryz.sizeOf4
 v4:=Tryz.zeroValue4
 t5:=Tryz.underlying5
 a5:=Tryz.isAgg5
 z5:=Tryz.sizeOf5
 v5:=Tryz.zeroValue5
 t9:=Tryz.underlying9
 a9:=Tryz.isAgg9
 z9:=Tryz.sizeOf9
 v9:=Tryz.zeroValue9
 t21:=Tryz.underlying21
 a21:=Tryz.isAgg21
 z21:=Tryz.sizeOf21
 v21:=Tryz.zeroValue21
 t31:=Tryz.underlying60
 a31:=Tryz.isAgg60
 z31:=Tryz.sizeOf60
 v31:=Tryz.zeroValue60
 t46:=Tryz.underlying117
 a46:=Tryz.isAgg117
 z46:=Tryz.sizeOf117
 v46:=Tryz.zeroValue117
 t51:=Tryz.underlying124
 a51:=Tryz.isAgg124
 z51:=Tryz.sizeOf124
 v51:=Tryz.zeroValue124
 t105:=Tryz.underlying210
 a105:=Tryz.isAgg210
 z105:=Tryz.sizeOf210
 v105:=Tryz.zeroValue210
 t119:=Tryz.underlying228
 a119:=Tryz.isAgg228
 z119:=Tryz.sizeOf228
 t138:=Tryz.underlying230
 a138:=Tryz.isAgg230
 z138:=Tryz.sizeOf230
 v138:=Tryz.zeroValue230
 t139:=Tryz.underlying231
 a139:=Tryz.isAgg231
 z139:=Tryz.sizeOf231
 v139:=Tryz.zeroValue231
 t146:=Tryz.underlying241
 a146:=Tryz.isAgg241
 z146:=Tryz.sizeOf241
 v146:=Tryz.zeroValue241
 g1:=by kernel_rfl
 g3:=by kernel_rfl
 g4:=by kernel_rfl }
open Go.RowKit Go.Lib in
theorem Tryz.strings_Split(s sep:ByteArray)(m:Int)(w:World)(hs:s.size<4294967281)(hm:w.cell? ⟨0,0,none⟩=some (.int .i64 m))(h1:1<=sep.size):
  Calls Tryz.prog 169 #[.string s,.string sep] w λe w'=>
   e= .returned (.slice (some ⟨w.heap.size,0,none⟩) (Lib.countB s sep+1) (Lib.countB s sep+1))/\w'=w.alloc (.cells ((Lib.splitB sep 0 (Lib.countB s sep) s).map Value.string).toArray 9):=Any.strings_Split Tryz.lays146 (by kernel_rfl) s sep m w hs hm h1
open Go.RowKit Go.Lib in
def Tryz.lays227_ren:Go.Shelf.Ren:=⟨λ | 227=>174 | n=>n,λ | 9=>9 | 116=>199 | 4=>4 | 0=>0 | 3=>3 | 5=>5 | n=>n,λ | n=>n⟩
theorem Tryz.lays227:Go.Proofs.Lays.n227 Tryz.prog Tryz.lays227_ren:={
 mixed:=by kernel_rfl
 f227:=Tryz.func174.trans (congrArg some (by kernel_rfl))
 t0:=Tryz.underlying0
 a0:=Tryz.isAgg0
 z0:=Tryz.sizeOf0
 v0:=Tryz.zeroValue0
 t3:=Tryz.underlying3
 a3:=Tryz.isAgg3
 z3:=Tryz.sizeOf3
 v3:=Tryz.zeroValue3
 t4:=Tryz.underlying4
 a4:=Tryz.isAgg4
 z4:=Tryz.sizeOf4
 v4:=Tryz.zeroValue4
 t5:=Tryz.underlying5
 a5:=Tryz.isAgg5
 z5:=Tryz.sizeOf5
 v5:=Tryz.zeroValue5
 t9:=Tryz.underlying9
 a9:=Tryz.isAgg9
 z9:=Tryz.sizeOf9
 v9:=Tryz.zeroValue9
 t116:=Tryz.underlying199
 a116:=Tryz.isAgg199
 z116:=Tryz.sizeOf199 }
open Go.RowKit Go.Lib in
theorem Tryz.strings_makeASCIISet(hv116:∀w,(zeroValue 199).run Tryz.prog w= .ok (.agg (Array.replicate 256 (.bool false))) w)(chars:ByteArray)(w:World)(hs:chars.size<4294967281)(hascii:∀(j:Nat) b,chars.data.toList[j]?=some b->b.toNat<128):
  Calls Tryz.prog 174 #[.string chars] w λe w'=>e= .returned (.tuple #[.agg (Lib.setCells chars.data.toList),.bool true])/\w'=w.alloc (.cells (Lib.setCells chars.data.toList) 199):=Any.strings_makeASCIISet Tryz.lays227 hv116 (by kernel_rfl) chars w hs hascii
def Tryz.lays228_ren:Go.Shelf.Ren:=⟨λ | 228=>187 | n=>n,λ | 124=>203 | 5=>5 | 4=>4 | 0=>0 | 116=>199 | n=>n,λ | n=>n⟩
theorem Tryz.lays228:Go.Proofs.Lays.n228 Tryz.prog Tryz.lays228_ren:={
 mixed:=by kernel_rfl
 f228:=Tryz.func187.trans (congrArg some (by kernel_rfl))
 t0:=Tryz.underlying0
 a0:=Tryz.isAgg0
 z0:=Tryz.sizeOf0
 v0:=Tryz.zeroValue0
 t4:=Tryz.underlying4
 a4:=Tryz.isAgg4
 z4:=Tryz.sizeOf4
 v4:=Tryz.zeroValue4
 t5:=Tryz.underlying5
 a5:=Tryz.isAgg5
 z5:=Tryz.sizeOf5
 v5:=Tryz.zeroValue5
 t116:=Tryz.underlying199
 a116:=Tryz.isAgg199
 z116:=Tryz.sizeOf199
 t124:=Tryz.underlying203
 a124:=Tryz.isAgg203
 z124:=Tryz.sizeOf203
 v124:=Tryz.zeroValue203 }
open Go.RowKit Go.Lib in
theorem Tryz.asciiSet_contains(b:Nat)(x:UInt8)(v:Bool)(w:World)(hc:w.cell? ⟨b,x.toNat,none⟩=some (.bool v)):
  Calls Tryz.prog 187 #[.pointer (some ⟨b,0,none⟩),.int .u8 x.toNat] w λe w'=>e= .returned (.bool v)/\w'=w:=Any.asciiSet_contains Tryz.lays228 b x v w hc
end Go.Proofs
namespace Go.Eng
def ascii(s:List UInt8):Bool:=s.all λb=>decide (b.toNat<128)
theorem wu4{s:List UInt8}(h:ascii s=true){k:Nat}(hk:k<s.length):(s.getD k 0).toNat<128:=by
 have:=List.all_eq_true.1 h (s.getD k 0) (by simp[List.getD,hk]);exact of_decide_eq_true this
theorem w3p{s:List UInt8}(h:ascii s=true)(n:Nat):ascii (s.drop n)=true:=List.all_eq_true.2 λb hb=>List.all_eq_true.1 h b (List.mem_of_mem_drop hb)
theorem wn8{s:List UInt8}{k:Nat}(hk:k<s.length)(h:(s.getD k 0).toNat<128):wbh s k=((s.getD k 0).toNat,1):=by
 have e:(ByteArray.get! ⟨s.toArray⟩ (k+0))=s.getD k 0:=by simp[ByteArray.get!,hk]
 unfold wbh Utf8.decode;simp only[e,h,if_true]
theorem wre{s:List UInt8}{k:Nat}(hk:k<s.length)(h:128<=(s.getD k 0).toNat):128<=(wbh s k).1/\(wbh s k).1<=1114111/\1<=(wbh s k).2:=by
 have e:(ByteArray.get! ⟨s.toArray⟩ (k+0))=s.getD k 0:=by simp[ByteArray.get!,hk]
 have hb:(s.getD k 0).toNat<256:=(s.getD k 0).toNat_lt;unfold wbh Utf8.decode;simp only[e,show ¬ (s.getD k 0).toNat<128 by omega,if_false,Utf8.runeError]
 repeat' split
 all_goals simp only[Utf8.valid,bA7,decide_eq_true_eq,Bool.or_eq_true,beq_iff_eq] at *
 all_goals omega
theorem wws{s:List UInt8}{k:Nat}(hk:k<s.length):(wbh s k).1<=1114111:=by
 by_cases h:(s.getD k 0).toNat<128
 ·rw[wn8 hk h];show (s.getD k 0).toNat<=1114111;omega
 ·exact(wre hk (by omega)).2.1
theorem w2i{r:Int}(h:128<=r)(hv:Lib.validRune r=true):2<=(Utf8.encode r).data.toList.length/\(Utf8.encode r).data.toList.length<=4/\128<=((Utf8.encode r).data.toList.getD ((Utf8.encode r).data.toList.length - 1) 0).toNat:=by
 have hv':Utf8.valid r=true:=by
  simp only[Lib.validRune,decide_eq_true_eq] at hv;simp[Utf8.valid];omega
 simp only[Lib.validRune,decide_eq_true_eq] at hv;unfold Utf8.encode;simp only[hv',if_true];generalize hc:r.toNat=c;have h1:128<=c:=by omega
 have h2:c<=1114111:=by omega
 simp only[show ¬ c<128 by omega,if_false]
 repeat' split
 all_goals simp
 all_goals omega
theorem wqr(b:UInt8):(b.toNat:Int).toNat.toUInt8=b:=by simp
theorem w1o{s:List UInt8}(h:ascii s=true){c:UInt8}(hc:128<=c.toNat):Lib.indexByte s c= -1:=by
 induction s with
 |nil=>rfl
 |cons b l ih=>
  simp only[ascii,List.all_cons,bA7,decide_eq_true_eq] at h;have hne:(b==c)=false:=by
   cases hb:b==c with
   |false=>rfl
   |true=>have:=eq_of_beq hb;subst this;omega
  simp only[Lib.indexByte,hne,ih h.2];rfl
def wb4(s:List UInt8)(r:Int):Int:=match decide (r<128) with
 |true=>Lib.indexByte s r.toNat.toUInt8
 |false=> -1
def wgq:Spec
 |[.str s,.int .u8 c],[]=>some (.q (Lib.indexByte s c.toNat.toUInt8),[],True)
 |_,_=>none
def wkv:Spec
 |[.int .i32 r],[]=>some (.bool (Lib.validRune r),[],True)
 |_,_=>none
def wl5:Spec
 |[.str s,.int .i32 r],[]=>some (.q (wb4 s r),[],ascii s=true/\s.length<=1000000/\0<=r/\r<=1114111)
 |_,_=>none
def wmg:Spec
 |[.str s,.int .i32 r],[]=>some (.bool (decide (0<=wb4 s r)),[],ascii s=true/\s.length<=1000000/\0<=r/\r<=1114111)
 |_,_=>none
def wl4(s:List UInt8)(pos:Nat):St:=⟨[(0,.str s),(175,.ptr 0 0)],[(0,.siter s pos)],1,[]⟩
def wnj(s:List UInt8):waq:=λst Q=>canonIs te 0 [0,175] st (wl4 s 0)/\ascii s=true/\Q (.exit 9) ⟨[],[],0,[]⟩
def wl3(s e:List UInt8):St:=⟨[(0,.str s),(7,.str e),(8,.q ((e.length:Int) - 1)),(9,.q ((e.length:Int) - 1))],[],0,[]⟩
def wni(s e:List UInt8):waq:=λst Q=>canonIs te 0 [0,7,8,9] st (wl3 s e)/\ascii s=true/\s.length<=1000000/\2<=e.length/\e.length<=4/\128<=(e.getD (e.length - 1) 0).toNat/\
 Q (.exit 1) ⟨[],[],0,[]⟩/\Q .ret ⟨[(4,.q (-1))],[],0,[]⟩
def wbo(c:UInt8):Bool:=decide (48<=c.toNat) && decide (c.toNat<=57)
def wbs(s:List UInt8)(a b:Int):Bool:=(decide ((s.length:Int)=a) || decide ((s.length:Int)=b)) && s.all wbo
def wgr:Spec
 |[.str s,.int .i64 a,.int .i64 b],[]=>some (.bool (wbs s a b),[],a<=100/\b<=100)
 |_,_=>none
def wa3(s:List UInt8):Nat->Int
 |0=>0
 |i+1=>wa3 s i+(1+2 * (((s.length:Int) - i) % 2)) * ((s.getD i 0).toNat - 48)
def cdF(s:List UInt8):Int×Bool:=match wbs s 7 12 with
 |true=>((10 - wa3 s s.length % 10) % 10,true)
 |false=>(0,false)
def wew:Spec
 |[.str s],[]=>some (.tuple [.q (cdF s).1,.bool (cdF s).2],[],True)
 |_,_=>none
def S_cd(s:List UInt8)(k:Nat):St:=⟨[(0,.str s),(4,.q (wa3 s k)),(11,.q s.length),(12,.q k)],[],0,[]⟩
def wnp(s:List UInt8):waq:=λst Q=>canonIs te 0 [0,4,11,12] st (S_cd s 0)/\s.length<=12/\s.all wbo=true/\
 Q (.exit 0) ⟨[(4,.q (wa3 s s.length))],[],0,[]⟩
def wbm(s:List UInt8):Bool:=match wbs s 8 13 with
 |true=>decide ((cdF (s.take (s.length - 1))).1=((s.getD (s.length - 1) 0).toNat:Int) - 48)
 |false=>false
def wen:Spec
 |[.str s],[]=>some (.bool (wbm s),[],True)
 |_,_=>none
theorem wjn{s:List UInt8}(h:s.all wbo=true)(k:Nat)(hk:k<s.length):48<=(s.getD k 0).toNat/\(s.getD k 0).toNat<=57:=by
 have:=List.all_eq_true.1 h (s.getD k 0) (by simp[List.getD,hk]);simpa[wbo] using this
theorem w1g(b:UInt8):([48,49,50,51,52,53,54,55,56,57]:List UInt8).contains b=wbo b:=by
 have:∀n,n<256->([48,49,50,51,52,53,54,55,56,57]:List UInt8).contains (UInt8.ofNat n)=wbo (UInt8.ofNat n):=by decide+kernel
 have h:=this b.toNat b.toNat_lt;simpa using h
theorem wpy{p:UInt8->Bool}:∀ {s:List UInt8},s.dropWhile p=[]↔s.all p=true
 |[]=>by simp
 |x::s=>by
  simp only[List.dropWhile_cons,List.all_cons]
  cases hx:p x<;>simp[wpy]
theorem wuk{p:UInt8->Bool}:∀ {r:List UInt8},(r.dropWhile p).all p=true->r.all p=true
 |[],h=>h
 |x::r,h=>by
  rw[List.dropWhile_cons] at h
  cases hx:p x with
  |true=>
   rw[hx,if_pos rfl] at h;rw[List.all_cons,hx,wuk h];rfl
  |false=>rw[hx,if_neg (by simp),List.all_cons,hx] at h;cases h
theorem wqf{p:UInt8->Bool}(s:List UInt8):s.reverse.all p=s.all p:=by simp
theorem wqu(c s:List UInt8):wd2 c s=[]↔s.all (c.contains ·)=true:=by
 unfold wd2 wcr;rw[wpy,wqf]
 constructor
 ·intro h;rw[← wqf];exact wuk h
 ·intro h;rw[← wqf] at h;rw[wpy.2 h];rfl
theorem wqv(s:List UInt8):decide (wd2 [48,49,50,51,52,53,54,55,56,57] s=[])=s.all wbo:=by
 have h:=wqu [48,49,50,51,52,53,54,55,56,57] s;simp only[w1g] at h
 cases hb:s.all wbo with
 |true=>exact decide_eq_true (h.2 hb)
 |false=>exact decide_eq_false λhe=>by rw[h.1 he] at hb;cases hb
def wee:List UInt8:=[97,98,99,100,101,102,103,104,105,106,107,108,109,110,111,112,113,114,115,116,117,118,119,120,121,122,48,49,50,51,52,53,54,55,56,57,45,46]
def wi3:List UInt8:=[97,98,99,100,101,102,103,104,105,106,107,108,109,110,111,112,113,114,115,116,117,118,119,120,121,122,48,49,50,51,52,53,54,55,56,57]
def wfa(b:UInt8):Bool:=decide (97<=b.toNat) && decide (b.toNat<=122) || decide (48<=b.toNat) && decide (b.toNat<=57)
def isNB(b:UInt8):Bool:=wfa b || decide (b.toNat=45) || decide (b.toNat=46)
theorem w0f(b:UInt8):wee.contains b=isNB b:=by
 have:∀n,n<256->wee.contains (UInt8.ofNat n)=isNB (UInt8.ofNat n):=by decide+kernel
 simpa using this b.toNat b.toNat_lt
theorem w0e(b:UInt8):wi3.contains b=wfa b:=by
 have:∀n,n<256->wi3.contains (UInt8.ofNat n)=wfa (UInt8.ofNat n):=by decide+kernel
 simpa using this b.toNat b.toNat_lt
theorem wtd(l:List UInt8)(c:UInt8):0<=Lib.indexByte l c↔l.contains c=true:=by
 induction l with
 |nil=>simp[Lib.indexByte]
 |cons b l ih=>
  have hge:=Lib.indexByte_ge l c;simp only[Lib.indexByte,List.contains_cons,Bool.or_eq_true,beq_iff_eq]
  by_cases h:b=c
  ·subst h;simp
  ·have h':¬ c=b:=λe=>h e.symm;simp only[h,if_false,h',false_or, ← ih];split<;>omega
theorem w0c(b:UInt8)(h:b.toNat<128):decide (0<=wb4 wee (b.toNat:Int))=isNB b:=by
 have e:decide ((b.toNat:Int)<128)=true:=decide_eq_true (by omega);simp only[wb4,e,wqr];rw[← w0f]
 cases hc:wee.contains b with
 |true=>exact decide_eq_true ((wtd _ _).2 hc)
 |false=>exact decide_eq_false λhh=>by rw[(wtd _ _).1 hh] at hc;cases hc
theorem w0d(r:Nat)(h:128<=r):decide (0<=wb4 wee (r:Int))=false:=by
 have e:decide ((r:Int)<128)=false:=decide_eq_false (by omega);simp only[wb4,e];rfl
def wll:Spec
 |[.int .i32 r],[]=>some (.bool (!decide (0<=wb4 wee r)),[],0<=r/\r<=1114111)
 |_,_=>none
def wcu(s:List UInt8):Nat:=s.findIdx λb=> !isNB b
def wej(s:List UInt8):Int:=match s.all isNB with
 |true=> -1
 |false=>wcu s
def wl7(s:List UInt8)(pos:Nat):St:=⟨[(1,.func 166 []),(2,.bool true),(10,.ptr 0 0)],[(0,.siter s pos)],1,[]⟩
def wnk(s:List UInt8):waq:=λst Q=>canonIs te 0 [1,2,10] st (wl7 s 0)/\wab (s.all isNB) (Q (.exit 0) ⟨[],[],0,[]⟩) (Q .ret ⟨[(6,.q (wcu s))],[],0,[]⟩)
def wl6:Spec
 |[.str s,.func 166 [],.bool true],[]=>some (.q (wej s),[],True)
 |_,_=>none
def wmr:Spec
 |[.str s,.func 166 []],[]=>some (.q (wej s),[],True)
 |_,_=>none
def wms:Spec
 |[.str s,.func 166 []],[]=>some (.bool (!s.all isNB),[],True)
 |_,_=>none
def wbe(s:List UInt8):Bool:=decide (1<=s.length) && decide (s.length<=24) && wfa (s.getD 0 0) && s.all isNB
def wgm:Spec
 |[.str s],[]=>some (.bool (wbe s),[],True)
 |_,_=>none
theorem w3k{s:List UInt8}(h:s.all isNB=false):wcu s<s.length/\isNB (s.getD (wcu s) 0)=false/\∀k,k<wcu s->isNB (s.getD k 0)=true:=by
 have hlt:wcu s<s.length:=by
  unfold wcu;rw[List.findIdx_lt_length];have:¬ ∀x∈s,isNB x=true:=λhh=>by rw[List.all_eq_true.2 hh] at h;cases h
  simp only[Classical.not_forall] at this;obtain⟨x,hx,hb⟩:=this;exact⟨x,hx,by simpa using hb⟩
 refine⟨hlt,?_,λk hk=>?_⟩
 ·have:=List.findIdx_getElem (p:=λb=> !isNB b) (xs:=s) (w:=hlt);have e:s.getD (wcu s) 0=s[wcu s]:=by simp[List.getD,hlt]
  rw[e];show isNB s[List.findIdx (λb=> !isNB b) s]=false;simpa using this
 ·have hk':k<s.length:=Nat.lt_trans hk hlt;have:=List.not_of_lt_findIdx (p:=λb=> !isNB b) (xs:=s) hk;have e:s.getD k 0=s[k]:=by simp[List.getD,hk']
  rw[e];simpa using this
theorem wv4(b:UInt8):decide (wd2 [97,98,99,100,101,102,103,104,105,106,107,108,109,110,111,112,113,114,115,116,117,118,119,120,121,122,48,49,50,51,52,53,54,55,56,57] [b]=[])=wfa b:=by
 have h:=wqu wi3 [b];simp only[List.all_cons,List.all_nil,Bool.and_true,w0e] at h
 cases hb:wfa b with
 |true=>exact decide_eq_true (h.2 hb)
 |false=>exact decide_eq_false λhe=>by rw[h.1 he] at hb;cases hb
theorem w2b(s:List UInt8):decide (0<=wej s)= !s.all isNB:=by
 unfold wej
 cases s.all isNB with
 |true=>rfl
 |false=>exact decide_eq_true (Int.natCast_nonneg _)
def wml(s:List UInt8)(k:Nat):St:=⟨[(0,.str s),(4,.q (wa3 s k)),(16,.q s.length),(17,.q k)],[],0,[]⟩
def wno(s:List UInt8):waq:=λst Q=>canonIs te 0 [0,4,16,17] st (wml s 0)/\s.length<=12/\wab (s.all wbo) (Q (.exit 0) ⟨[(4,.q (wa3 s s.length))],[],0,[]⟩) (Q .ret ⟨[(2,.q 0),(3,.bool false)],[],0,[]⟩)
theorem wuv{s:List UInt8}:∀k,k<=s.length->(∀j,j<k->48<=(s.getD j 0).toNat/\(s.getD j 0).toNat<=57)->0<=wa3 s k/\wa3 s k<=27 * k
 |0,_,_=>by simp[wa3]
 |k+1,hk,h=>by
  have ih:=wuv k (by omega) λj hj=>h j (by omega);have hd:=h k (by omega);simp only[wa3]
  rcases Int.emod_two_eq (↑s.length - ↑k) with e | e<;>rw[e]<;>omega
theorem w3u{s:List UInt8}(h:∀j,j<s.length->48<=(s.getD j 0).toNat/\(s.getD j 0).toNat<=57):s.all wbo=true:=by
 refine List.all_eq_true.2 λb hb=>?_;obtain⟨j,hj,rfl⟩:=List.getElem_of_mem hb;have:=h j hj;have e:s.getD j 0=s[j]:=by simp[List.getD,hj]
 rw[e] at this;simp[wbo,this.1,this.2]
def qtyF(d c a:Int):Int:=bif decide (d<1) then 80 else bif decide (4<d) then 80 else bif decide (c<1) then 81 else bif decide (100<c) then 81 else bif decide (a<1) then 82 else bif decide (Int.tdiv 1099511627776 c<a) then 82 else 0
def wld:Spec
 |[.agg [.int .i64 d,.int .i64 c,.int .i64 a]],[]=>some (.q (qtyF d c a),[],True)
 |_,_=>none
theorem wxg{c:Int}(h1:¬ c<1)(h2:¬ 100<c):c≠0/\inR .i64 (Int.tdiv 1099511627776 c):=by
 refine⟨by omega,?_⟩;rw[Int.tdiv_eq_ediv_of_nonneg (by omega)];simp only[inR];have h3:0<=1099511627776 / c:=Int.ediv_nonneg (by omega) (by omega);have h4:1099511627776 / c<=1099511627776:=Int.ediv_le_self _ (by omega);omega
def we6(s:List UInt8):Int:=match wc1 s with
 |true=>(words s).length
 |false=>match decide (s=[]) with
  |true=>0
  |false=> -1
def wls:Spec
 |[.str s],[]=>some (.q (we6 s),[],s.length<4294967281)
 |_,_=>none
theorem w01(s:List UInt8):decide (we6 s<1)= !wc1 s:=by
 unfold we6
 cases h:wc1 s with
 |true=>
  have hn:1<=(words s).length:=by rw[wgz];omega
  have hlt:¬ (((words s).length:Int)<1):=by omega
  exact decide_eq_false hlt
 |false=>cases decide (s=[])<;>rfl
def who(nm:Nat->List UInt8):Nat->Nat->Bool
 |0,_=>true
 |j+1,k=>who nm j k && !decide (nm k=nm j)
def atOK(nm vl:Nat->List UInt8)(k:Nat):Bool:=wbe (nm k) && wbe (vl k) && who nm k k
def wdh(nm vl:Nat->List UInt8):Nat->Bool
 |0=>true
 |k+1=>wdh nm vl k && atOK nm vl k
def valF(id code brand:List UInt8)(d c a:Int)(n:Nat)(nm vl:Nat->List UInt8):Int:=
 bif !wbm id then 90 else bif !wc1 code then 91 else bif !wbe brand then 92 else bif !decide (qtyF d c a=0) then 93 else bif decide (12<n) then 94 else bif wdh nm vl n then 0 else 94
def nmOf(f:Nat->List AV)(i:Nat):List UInt8:=wcf ((f i).getD 0 .any)
def vlOf(f:Nat->List AV)(i:Nat):List UInt8:=wcf ((f i).getD 1 .any)
def wem(nm vl:Nat->List UInt8):Nat->List AV:=λi=>[.str (nm i),.str (vl i)]
end Go.Eng
namespace Go.Eng
open Go.Proofs Go.RowKit
variable {H:Type} {enc:TypeId×Value->H} {W:World}
noncomputable def fsOf (t:TypeId):Array Field:=match Tryz.prog.underlying t with
 |some (.struct fs)=>fs
 |_=>#[]
theorem undIs:Tryz.prog.underlying 23=some (.slice 3):=by kernel_rfl
theorem undI:Tryz.prog.underlying 3=some (.int .i64):=by kernel_rfl
theorem undI2:Tryz.prog.underlying 2=some (.int .i64):=by kernel_rfl
theorem undS:Tryz.prog.underlying 9=some .string:=by kernel_rfl
theorem cI:Tryz.prog.cellsOf 3=1:=by kernel_rfl
theorem cI2:Tryz.prog.cellsOf 2=1:=by kernel_rfl
theorem cS:Tryz.prog.cellsOf 9=1:=by kernel_rfl
theorem field{t:TypeId}{n:Nat}{cs:List Value}{xs:List (DataW H×List MemPlace)}{sp:Nat->Bool}{hd:Bool}(hl:xs.length=(fsOf t).size)
  (h:∀(i:Nat) (f:Field),(fsOf t)[i]?=some f->DataW.trod enc Tryz.prog W 0 sp hd n f.type ((cs.drop f.offset).take (Tryz.prog.cellsOf f.type))=xs[i]?)
  (i:Nat) (ty:TypeId) (off:Nat) (hf:((fsOf t)[i]?).map (λf=>(f.type,f.offset))=some (ty,off)):∃y,DataW.trod enc Tryz.prog W 0 sp hd n ty ((cs.drop off).take (Tryz.prog.cellsOf ty))=some y:=by
 obtain⟨f,hf1,hf2⟩:=Option.map_eq_some_iff.1 hf;simp only[pI7] at hf2;obtain⟨rfl,rfl⟩:=hf2;have hi:i<xs.length:=by rw[hl];exact(Array.getElem?_eq_some_iff.1 hf1).1
 exact⟨xs[i],by rw[h i f hf1];simp[hi]⟩
theorem wu9(a:Addr)(i j:Nat):(a.add i).add j=a.add (i+j):=by
 obtain⟨b,o,e⟩:=a
 by_cases h1:i=0<;>by_cases h2:j=0<;>simp[Addr.add,h1,h2,Nat.add_assoc]
theorem wva(a:Addr)(i:Nat):(a.add i).block=a.block:=by
 unfold Addr.add;split<;>rfl
theorem list7{l:List Value}(h:l.length=7):∃a b c d e f g,l=[a,b,c,d,e,f,g]:=by
 match l,h with
 |[a,b,c,d,e,f,g],_=>exact⟨a,b,c,d,e,f,g,rfl⟩
theorem wxf{fuel:Nat}{cs:List Value}{x:DataW H×List MemPlace}{sp:Nat->Bool}{hd:Bool}(h:DataW.trod enc Tryz.prog W 0 sp hd fuel 23 cs=some x):
  ∃(A:Option Addr) (n c:Nat) (v:Nat->Int),cs=[.slice A n c]/\V W (λ_=>False) nob (.slice A n c) (.view 1 n (λi=>[.int .i64 (v i)])):=by
 rcases DataW.trod_slice undIs h with⟨rfl,_⟩ | ⟨a,len,cap,elems,rest,n,_,rfl,_,hb,hl,hm,hlen,hel,_⟩
 ·exact⟨none,0,0,λ_=>0,rfl,wkr _ (lR7 _) (zL7 _) (λi hi=>by omega) (.inl rfl)⟩
 ·have hat:∀i,i<len->∃z,W.cell? (a.add i)=some (.int .i64 z):=by
   intro i hi;have h1:=hel i hi;rw[cI,Nat.mul_one,List.getElem?_eq_getElem (by omega),Option.bind_eq_some_iff] at h1;obtain⟨cs',hcs,hy⟩:=h1;obtain⟨z,rfl,_⟩:=DataW.trod_int undI hy;obtain⟨_,_,h2⟩:=World.cells?_some hcs;have q0:=h2 0 (by omega);rw[wu9,Nat.add_zero] at q0;exact⟨z,q0⟩
  refine⟨some a,len,cap,λi=>match W.cell? (a.add i) with | some (.int .i64 z)=>z | _=>0,rfl,wkr _ hl hm (λ_ _=>rfl) ?_⟩
  by_cases h0:len=0
  ·exact .inl h0
  ·refine .inr ⟨a,rfl,?_,λi hi j hj=>?_⟩
   ·have h1:=hel 0 (by omega);rw[List.getElem?_eq_getElem (show 0<elems.length by omega),Option.bind_eq_some_iff] at h1;obtain⟨cs',hcs,_⟩:=h1;rw[cI] at hcs;have q:=World.cells?_block hcs (by omega);rw[wva] at q;exact q
   ·obtain rfl:j=0:=by omega
    obtain⟨z,hz⟩:=hat i hi;rw[Nat.mul_one,Nat.add_zero];refine⟨_,hz,rfl,λu hu=>?_⟩;dsimp only at hu;rw[hz] at hu;obtain rfl:=oJ7 hu;exact .int
theorem wvy{P:Program}{w:World}{base fuel:Nat}{t:TypeId}{ms}{cs:List Value}{name:String}{d:DataW H}{p:List MemPlace}{sp:Nat->Bool}{hd:Bool}(ht:P.underlying t=some (.interface ms))
  (h:DataW.trod enc P w base sp hd fuel t cs=some (.iface name d,p)):∃u v,cs=[.iface u v]:=by
 cases fuel with
 |zero=>simp[DataW.trod] at h
 |succ n=>
  unfold DataW.trod at h;rw[ht] at h;split at h<;>simp_all
theorem wsy{n:String}{g:Nat}{t:TypeId}{ms}{w:World}{name:String}{d:DataW Unit}{r:List (String×DataW Unit)}{ps:List MemPlace}(hg:Tryz.prog.globalNamed n=some g)(ht:(Tryz.prog.globals[g]?).map (·.type)=some t)(hu:Tryz.prog.underlying t=some (.interface ms))
  (h:DataW.LaidVars Tryz.prog w ((n,.iface name d)::r) ps):∃u v,w.cell? ⟨g,0,none⟩=some (.iface u v):=by
 obtain⟨g',t',cs,fuel,p,q,hg',ht',hv,htr,_,_⟩:=h;obtain rfl:=oJ7 (hg.symm.trans hg');obtain rfl:=oJ7 (ht.symm.trans ht');obtain⟨u,v,hc⟩:=wvy hu htr;have:=World.var?_cell hg hv 0;refine⟨u,v,this.trans ?_⟩;rw[← Array.getElem?_toList,hc];rfl
theorem whh{w:World}{x:String×DataW Unit}{r:List (String×DataW Unit)}{ps:List MemPlace}(h:DataW.LaidVars Tryz.prog w (x::r) ps):∃q,DataW.LaidVars Tryz.prog w r q:=by
 obtain⟨_,_,_,_,_,q,_,_,_,_,h,_⟩:=h;exact⟨q,h⟩
theorem w0r{w:World}(h:w.ShapedOpen Tryz.prog):∃m,w.cell? ⟨0,0,none⟩=some (.int .i64 m):=
 cell_of_shapedOpen_int (t:=3) (zero:=#[.int .i64 0]) h (of_decide_eq_true (by kernel_rfl)) (by kernel_rfl) rfl (by kernel_rfl) (by kernel_rfl) (by kernel_rfl)
noncomputable def msE:Array (String×TypeId):=match Tryz.prog.underlying 192 with
 |some (.interface ms)=>ms
 |_=>#[]
theorem gErrS : Tryz.prog.globalNamed "strconv.ErrSyntax" = some 1 := by kernel_rfl
theorem gErrR : Tryz.prog.globalNamed "strconv.ErrRange" = some 2 := by kernel_rfl
theorem w04{w:World}{n:String}{k:IntKind}{zs:List Int}{r:List (String×DataW Unit)}{ps:List MemPlace}{g t e m:Nat}(hg:Tryz.prog.globalNamed n=some g)(hty:(Tryz.prog.globals[g]?).map (·.type)=some t)(ht:Tryz.prog.underlying t=some (.array m e))
  (he:Tryz.prog.underlying e=some (.int k)) (hce:Tryz.prog.cellsOf e=1) (hct:Tryz.prog.cellsOf t=m) (h:DataW.LaidVars Tryz.prog w ((n,Lib.tabData k zs)::r) ps):Lib.TabIs Tryz.prog w n k zs:=by
 obtain⟨g',t',cs,fuel,p,q,hg',ht',hvar,hd,_,_⟩:=h;obtain rfl:=oJ7 (hg.symm.trans hg');obtain rfl:=oJ7 (hty.symm.trans ht');unfold Lib.TabIs;rw[hvar, ← Lib.cells_of_tab ht he hce hct hd]
theorem gPow : Tryz.prog.globalNamed "internal/strconv.uint64pow10" = some 5 := by kernel_rfl
noncomputable def tPow:TypeId:=((Tryz.prog.globals[5]?).map (·.type)).getD 0
noncomputable def ePow:TypeId:=match Tryz.prog.underlying tPow with
 |some (.array _ e)=>e
 |_=>0
theorem powTab:(Go.Proofs.YtmcdngcjakjnmaaGreatDoor.Rows.laid_internal_strconv_uint64pow10:DataW Unit)=Lib.tabData .u64 Lib.pow10Tab:=by kernel_rfl
theorem w06{w:World}(hL:laidMetH Tryz.prog Go.Proofs.YtmcdngcjakjnmaaGreatDoor.Rows.visitObservesRow.laid w)(hsh:w.ShapedOpen Tryz.prog):LaidW w:=by
 have h':laidMet Tryz.prog Go.Proofs.YtmcdngcjakjnmaaGreatDoor.Rows.visitObservesRow.laid w:=hL;obtain⟨ps,h0,_⟩:=h';obtain⟨_,h1⟩:=whh h0;obtain⟨_,h2⟩:=whh h1;obtain⟨_,h3⟩:=whh h2;obtain⟨_,h4⟩:=whh h3;obtain⟨_,h5⟩:=whh h4;exact⟨w0r hsh,wsy gErrS (t:=192) (ms:=msE) (by kernel_rfl) (by kernel_rfl) h5,wsy gErrR (t:=192) (ms:=msE) (by kernel_rfl) (by kernel_rfl) h4,
  w04 (r:=_) gPow (t:=tPow) (e:=ePow) (m:=20) (by kernel_rfl) (by kernel_rfl) (by kernel_rfl) (by kernel_rfl) (by kernel_rfl) (powTab ▸ h2)⟩
end Go.Eng
namespace Go.Eng
open Go.Proofs Go.RowKit
def litV:DataW Unit->Value
 |.lit (.int k n)=>.int k n
 |_=>default
def wf7:DataW Unit->List (DataW Unit)
 |.agg l=>l
 |x=>[x]
noncomputable def low:Nat:=(World.holding Tryz.prog default ⟨#[],#[],[]⟩).heap.size
noncomputable def wsz (os:Os):World:=
 let w0:=World.holding Tryz.prog os ⟨#[.cells #[.string ⟨#[118,97,108,117,101,32,111,117,116,32,111,102,32,114,97,110,103,101]⟩] 236,.cells #[.string ⟨#[105,110,118,97,108,105,100,32,115,121,110,116,97,120]⟩] 236],#[],[]⟩
 let put (h:Array Obj) (g:Nat) (cs:Array Value):Array Obj:=h.modify g fun
  |.cells _ t frozen=>.cells cs t frozen
  |o=>o
 let h1:=put w0.heap 6 ((wf7 Go.Proofs.YtmcdngcjakjnmaaGreatDoor.Rows.laid_math_bits_deBruijn32tab).map litV).toArray
 let h2:=put h1 7 ((wf7 Go.Proofs.YtmcdngcjakjnmaaGreatDoor.Rows.laid_math_bits_deBruijn64tab).map litV).toArray
 let h3:=put h2 5 ((wf7 Go.Proofs.YtmcdngcjakjnmaaGreatDoor.Rows.laid_internal_strconv_uint64pow10).map litV).toArray
 let h4:=put h3 4 (((wf7 Go.Proofs.YtmcdngcjakjnmaaGreatDoor.Rows.laid_unicode_utf8_acceptRanges).flatMap wf7).map litV).toArray
 let h5:=put h4 3 ((wf7 Go.Proofs.YtmcdngcjakjnmaaGreatDoor.Rows.laid_unicode_utf8_first).map litV).toArray
 let h6:=put h5 2 #[.iface 234 (.pointer (some ⟨low,0,none⟩))]
 let h7:=put h6 1 #[.iface 234 (.pointer (some ⟨low+1,0,none⟩))]
 { w0 with heap:=h7 }
theorem w05(os:Os)(args:Array Value):laidMet Tryz.prog Go.Proofs.YtmcdngcjakjnmaaGreatDoor.Rows.visitObservesRow.laid ((wsz os).forCall (λ_ _=>0) ⟨#[],args,[]⟩).memory:=
 laidMet_of_run3 8 (by kernel_rfl) (by kernel_rfl) (by kernel_rfl)
end Go.Eng
namespace Go.Eng
open Go.Proofs Go.RowKit Go.ChangeShapes Go.WideShapes Go.ChangeAt
theorem mixedOK:Tryz.prog.follows .mixedOrders=true:=by kernel_rfl
def gTop:Nat:=max (max (max 0 1) 2) 5+1
theorem keepOK(w w':World)(h:∀b,b<gTop->w'.heap[b]?=w.heap[b]?)(hl:LaidW w):LaidW w':=by
 have k:∀g:Nat,g<gTop->w'.cell? ⟨g,0,none⟩=w.cell? ⟨g,0,none⟩:=λg hg=>World.cell?_of_block (w:=w) (h g hg);obtain⟨h1,h2,h3,h4⟩:=hl;refine⟨by rw[k _ (by decide)];exact h1,by rw[k _ (by decide)];exact h2,by rw[k _ (by decide)];exact h3,?_⟩;have e:=h 5 (by decide);unfold Lib.TabIs at h4 ⊢;rw[← h4];simp only[World.var?,gPow,Option.bind_some,e]
noncomputable def cx:Ctx:=⟨Tryz.prog,gTop,LaidW,mixedOK,keepOK,false⟩
instance:Ctx.Loose cx:=⟨rfl⟩
theorem wkh{w:World}{g:Nat}{v:Value}(h:w.cell? ⟨g,0,none⟩=some v):g<w.heap.size:=by
 have hc:w.cells? 0 ⟨g,0,none⟩ 1=some [v]:=Go.ChangeShapes.cells?_of (by omega) rfl (λi hi=>by
  obtain rfl:i=0:=by omega
  exact h)
 exact World.cells?_block hc (by omega)
theorem gsz_le{w:World}(h:LaidW w):cx.gsz<=w.heap.size:=by
 obtain⟨⟨_,h1⟩,⟨_,_,h2⟩,⟨_,_,h3⟩,h4⟩:=h;have a:=wkh h1;have b:=wkh h2;have c:=wkh h3;have d:=wkh (h4.cell gPow 0 (by decide));show max (max (max _ _) _) _+1<=_;omega
theorem ownK:ownKnob Tryz.prog.godebug=none:=by kernel_rfl
theorem wjg:laidOutB Tryz.prog=true:=by kernel_rfl
end Go.Eng
